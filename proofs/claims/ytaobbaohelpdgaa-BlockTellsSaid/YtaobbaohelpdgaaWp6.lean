import Derived.Test.YtaobbaohelpdgaaWp3
import Derived.Test.YtaobbaohelpdgaaWp4
import Derived.Test.YtaobbaohelpdgaaWp5
import Derived.Test.YtaobbaohelpdgaaSp6
namespace Go.Proofs.Ytaobbaohelpdgaa
open Go.RowKit
set_option linter.unusedVariables false
set_option maxRecDepth 10000
theorem ref01_May_w (w : World) (p1 : Int × Int) (r : Bool) (hs : ref01_May p1 = some r) :
    Calls Try.prog 54 #[.agg #[.int .i64 p1.1, .int .i64 p1.2]] w fun e w' => ∃ own' : Own, e = .returned (.bool r) ∧ Evo [] (fun _ => 0) own' w w' := by
  refine fl_enter (n := 21) rfl rfl rfl (Nat.le_of_ble_eq_true rfl) ?_
  intro a0 Q hd0 hz0 harg hret
  have ha0 := harg 0 _ rfl
  clear harg
  have hE0 : Evo [] (fun _ => 0) (fun _ => 0) w w := Evo.refl _ _ _
  refine rg0_seq 21 (fun _ => 0) [0, 0] [⟨[], [0], [], Fct.blk 18 1 (fun g => .pointer (some ⟨g, 0, none⟩)) 73 #[.int .i64 p1.1, .int .i64 p1.2]⟩, ⟨[], [], [], Fct.val 2 (.bool false)⟩] hz0 hd0 (by kernel_rfl) ?_ ?_
  · refine sc (fun _ _ _ _ s _ => px (or_new [(0, .agg #[.int .i64 p1.1, .int .i64 p1.2])] rfl rfl ⟨(s.1.trans ha0), trivial⟩ (by kernel_rfl))) ?_
    refine sc (fun _ _ _ _ _ _ => px (or_assign rfl)) ?_
    exact steps_nil
  intro own19 a19 w19 hd19 hz19 hk19 hf19 hE19
  obtain ⟨⟨g17, (e19_1 : a19.eval (.tmp 1) = .pointer (some ⟨g17, 0, none⟩)), (b19_g17 : BlkO own19 18 w19 g17 73 #[.int .i64 p1.1, .int .i64 p1.2])⟩, -⟩ := hf19 [0] rfl
  have hX19 := es_ hE0 hE19
  obtain ⟨x20, hx20, hs⟩ := obind hs
  obtain ⟨x21, hx21, hs⟩ := obind hs
  refine rg0_seq 21 own19 (bz 19) [⟨[], [1], [], Fct.val 3 (.pointer (some ⟨g17, 0, none⟩))⟩, ⟨[0], [], [], Fct.val 4 (.int .i64 p1.1)⟩, ⟨[1], [], [], Fct.val 5 (.bool (decide ((-16777216) ≤ p1.1)))⟩, ⟨[2], [], [], Fct.val 6 (.bool (decide ((-16777216) ≤ p1.1)))⟩, ⟨[3], [1], [], Fct.cond (decide ((-16777216) ≤ p1.1)) (some 7) (Fct.val 7 (.pointer (some ⟨g17, 0, none⟩)))⟩, ⟨[3, 4], [], [], Fct.cond (decide ((-16777216) ≤ p1.1)) (some 8) (Fct.val 8 (.int .i64 p1.1))⟩, ⟨[3, 5], [], [], Fct.cond (decide ((-16777216) ≤ p1.1)) (some 9) (Fct.val 9 (.bool (decide (p1.1 ≤ 16777216))))⟩, ⟨[3, 6], [], [], Fct.val 10 (.bool x20)⟩, ⟨[7], [], [], Fct.val 11 (.bool x20)⟩, ⟨[8], [1], [], Fct.cond x20 (some 12) (Fct.val 12 (.pointer (some ⟨g17, 1, none⟩)))⟩, ⟨[8, 9], [], [], Fct.cond x20 (some 13) (Fct.val 13 (.int .i64 p1.2))⟩, ⟨[8, 10], [], [], Fct.cond x20 (some 14) (Fct.val 14 (.bool (decide ((-16777216) ≤ p1.2))))⟩, ⟨[8, 11], [], [], Fct.val 15 (.bool x21)⟩, ⟨[12], [], [], Fct.val 16 (.bool x21)⟩, ⟨[13], [1], [], Fct.cond x21 (some 17) (Fct.val 17 (.pointer (some ⟨g17, 1, none⟩)))⟩, ⟨[13, 14], [], [], Fct.cond x21 (some 18) (Fct.val 18 (.int .i64 p1.2))⟩, ⟨[13, 15], [], [], Fct.cond x21 (some 19) (Fct.val 19 (.bool (decide (p1.2 ≤ 16777216))))⟩, ⟨[13, 16], [], [], Fct.val 20 (.bool (x21 && (decide (p1.2 ≤ 16777216))))⟩, ⟨[17], [], [], Fct.val 2 (.bool (x21 && (decide (p1.2 ≤ 16777216))))⟩] hz19 hd19 (by kernel_rfl) ?_ ?_
  · refine sc (fun _ _ _ _ s _ => px (or_field fo73_0 (s.1.trans e19_1) (by rfl))) ?_
    refine sc (fun _ _ _ f _ hE => px (or_load1 to3 f.1 (Blk.at_ (be_ hE b19_g17).2 0 rfl))) ?_
    refine sc (fun _ _ _ f _ _ => px (or_geq f.1 rfl rfl)) ?_
    refine sc (fun _ _ _ f _ _ => px (or_move f.1)) ?_
    refine sc (fun _ _ _ f s _ => sg_t rfl rfl rfl f.1 (fun hg => or_field fo73_0 (s.1.trans e19_1) (by rfl))) ?_
    refine sc (fun _ _ _ f _ hE => sg_t rfl rfl rfl f.1 (fun hg => or_load1 to3 (f.2.1.1 hg) (Blk.at_ (be_ hE b19_g17).2 0 rfl))) ?_
    refine sc (fun _ _ _ f _ _ => sg_t rfl rfl rfl f.1 (fun hg => or_leq (f.2.1.1 hg) rfl rfl)) ?_
    refine sc (fun _ _ _ f _ _ => px (or_and f.1 (fun hx => f.2.1.1 hx) rfl (osome hx20).symm)) ?_
    refine sc (fun _ _ _ f _ _ => px (or_move f.1)) ?_
    refine sc (fun _ _ _ f s _ => sg_t rfl rfl rfl f.1 (fun hg => or_field fo73_1 (s.1.trans e19_1) (by rfl))) ?_
    refine sc (fun _ _ _ f _ hE => sg_t rfl rfl rfl f.1 (fun hg => or_load1 to3 (f.2.1.1 hg) (Blk.at_ (be_ hE b19_g17).2 1 rfl))) ?_
    refine sc (fun _ _ _ f _ _ => sg_t rfl rfl rfl f.1 (fun hg => or_geq (f.2.1.1 hg) rfl rfl)) ?_
    refine sc (fun _ _ _ f _ _ => px (or_and f.1 (fun hx => f.2.1.1 hx) rfl (osome hx21).symm)) ?_
    refine sc (fun _ _ _ f _ _ => px (or_move f.1)) ?_
    refine sc (fun _ _ _ f s _ => sg_t rfl rfl rfl f.1 (fun hg => or_field fo73_1 (s.1.trans e19_1) (by rfl))) ?_
    refine sc (fun _ _ _ f _ hE => sg_t rfl rfl rfl f.1 (fun hg => or_load1 to3 (f.2.1.1 hg) (Blk.at_ (be_ hE b19_g17).2 1 rfl))) ?_
    refine sc (fun _ _ _ f _ _ => sg_t rfl rfl rfl f.1 (fun hg => or_leq (f.2.1.1 hg) rfl rfl)) ?_
    refine sc (fun _ _ _ f _ _ => px (or_and f.1 (fun hx => f.2.1.1 hx) rfl rfl)) ?_
    refine sc (fun _ _ _ f _ _ => px (or_assign f.1)) ?_
    exact steps_nil
  intro own22 a22 w22 hd22 hz22 hk22 hf22 hE22
  obtain ⟨(e22_2 : a22.eval (.tmp 2) = .bool (x21 && (decide (p1.2 ≤ 16777216)))), -⟩ := hf22 [18] rfl
  have hX22 := es_ hX19 hE22
  refine fl_ret ?_
  obtain rfl := osome hs
  exact hret _ _ _ _ (.inl rfl) hd22 (results1_ rfl (RVal.tmp_ e22_2)) ⟨own22, rfl, hX22⟩
theorem ref01_All_w (w : World) (l1 : List (Int × Int)) (Al1 : Option Addr) (cl1 : Nat) (hl1 : RdO (fun _ => 0) [0] w R73 Al1 cl1 l1) (r : Bool) (hs : ref01_All l1 = some r) :
    Calls Try.prog 34 #[.slice Al1 l1.length cl1] w fun e w' => ∃ own' : Own, e = .returned (.bool r) ∧ Evo [] (fun _ => 0) own' w w' := by
  refine fl_enter (n := 16) rfl rfl rfl (Nat.le_of_ble_eq_true rfl) ?_
  intro a0 Q hd0 hz0 harg hret
  have ha0 := harg 0 _ rfl
  clear harg
  have hE0 : Evo [] (fun _ => 0) (fun _ => 0) w w := Evo.refl _ _ _
  refine rg0_seq 16 (fun _ => 0) (bz 1) [⟨[], [], [], Fct.val 2 (.bool false)⟩] hz0 hd0 (by kernel_rfl) ?_ ?_
  · refine sc (fun _ _ _ _ _ _ => px (or_assign rfl)) ?_
    exact steps_nil
  intro own54 a54 w54 hd54 hz54 hk54 hf54 hE54
  have e54_0 := (hk54 0 rfl).trans ha0
  have hX54 := es_ hE0 hE54
  have b54_Al1 := RdO.evo rfl hE54 hl1
  refine fl_seq (fun Q55 hn55 hp55 => ?_)
  refine rg0_seq 16 own54 (bz 1) [⟨[], [], [], Fct.val 3 (.int .i64 0)⟩] hz54 hd54 (by kernel_rfl) ?_ ?_
  · refine sc (fun _ _ _ _ _ _ => px (or_assign rfl)) ?_
    exact steps_nil
  intro own56 a56 w56 hd56 hz56 hk56 hf56 hE56
  have e56_0 := (hk56 0 rfl).trans e54_0
  obtain ⟨(e56_3 : a56.eval (.tmp 3) = .int .i64 0), -⟩ := hf56 [0] rfl
  have hX56 := es_ hX54 hE56
  have b56_Al1 := RdO.evo rfl hE56 b54_Al1
  refine fl_block (fun Q57 hn57 hx57 hp57 => ?_)
  refine fl_loop (body := (fun s => ref01_All_b1 l1 s)) (z := r) (show loopO _ _ = _ from hs) (fun (i70 : Int) a wx => ∃ (ox : Own), a.defers = [] ∧ a.tmps.size = 16 ∧ a.eval (.tmp 0) = .slice Al1 l1.length cl1 ∧ a.eval (.tmp 3) = .int .i64 i70 ∧ Evo [] (fun _ => 0) ox w wx ∧ RdO ox [0] wx R73 Al1 cl1 l1) ?_ ?_
  · exact ⟨own56, hd56, hz56, e56_0, e56_3, hX56, b56_Al1⟩
  · rintro i70 zz83 a83 w83 ⟨own83, hd84, hz84, e84_0, e84_3, hE84, b84_Al1⟩ hs Q83 hn83 hp83 hz83
    have hs : ref01_All_b1 l1 i70 = some zz83 := hs
    refine fl_seq (fun Q85 hn85 hp85 => ?_)
    refine rg0_seq 16 own83 [0, 0, 2, 7] [⟨[], [3], [], Fct.val 4 (.int .i64 i70)⟩, ⟨[], [0], [], Fct.val 5 (.slice Al1 l1.length cl1)⟩, ⟨[1], [], [], Fct.val 6 (.int .i64 (l1.length : Int))⟩, ⟨[0, 2], [], [], Fct.val 7 (.bool (decide (i70 < (l1.length : Int))))⟩] hz84 hd84 (by kernel_rfl) ?_ ?_
    · refine sc (fun _ _ _ _ s _ => px (or_move (s.1.trans e84_3))) ?_
      refine sc (fun _ _ _ _ s _ => px (or_move (s.1.trans e84_0))) ?_
      refine sc (fun _ _ _ f _ _ => px (or_len tu76 f.1 rfl)) ?_
      refine sc (fun _ _ _ f _ _ => px (or_lss f.1 f.2.1 rfl)) ?_
      exact steps_nil
    intro own86 a86 w86 hd86 hz86 hk86 hf86 hE86
    have e86_0 := (hk86 0 rfl).trans e84_0
    have e86_3 := (hk86 3 rfl).trans e84_3
    obtain ⟨(e86_7 : a86.eval (.tmp 7) = .bool (decide (i70 < (l1.length : Int)))), -⟩ := hf86 [3] rfl
    have hX86 := es_ hE84 hE86
    have b86_Al1 := RdO.evo rfl hE86 b84_Al1
    refine fl_cond e86_7 hs (fun c87 hs => ?_) (fun c87 hs => ?_)
    · refine fl_skip ?_
      refine hn85 _ _ ?_
      refine fl_seq (fun Q88 hn88 hp88 => ?_)
      refine fl_block (fun Q89 hn89 hx89 hp89 => ?_)
      obtain ⟨x90, hx90, hs⟩ := obind hs
      obtain ⟨r91, hr91, hs⟩ := obind hs
      refine rg0_seq 16 own86 [0, 0, 3, 7, 15, 31] [⟨[], [0], [], Fct.val 10 (.slice Al1 l1.length cl1)⟩, ⟨[], [3], [], Fct.val 11 (.int .i64 i70)⟩, ⟨[0, 1], [], [], Fct.val 12 (.pointer (some ((adr Al1).add ((i70 : Int).toNat * R73.s))))⟩, ⟨[2], [], [], Fct.val 13 (.agg #[.int .i64 x90.1, .int .i64 x90.2])⟩, ⟨[3], [], [], Fct.val 14 (.bool r91)⟩, ⟨[4], [], [], Fct.val 15 (.bool (!r91))⟩] hz86 hd86 (by kernel_rfl) ?_ ?_
      · refine sc (fun _ _ _ _ s _ => px (or_move (s.1.trans e86_0))) ?_
        refine sc (fun _ _ _ _ s _ => px (or_move (s.1.trans e86_3))) ?_
        refine sc (fun _ _ _ f _ _ => px (or_index (R := R73) (l := l1) tl76 f.1 f.2.1 (RdO.some_ b86_Al1 hx90) hx90)) ?_
        refine sc (fun _ _ _ f _ hE => px (or_load (l := E73.f x90) ta73 f.1 (RdO.cells (F := E73) (RdO.evo rfl hE b86_Al1) hx90) rfl)) ?_
        refine sc (fun _ _ _ f _ _ => px (or_call cf54 (args1 f.1) (ref01_May_w _ x90  r91 hr91) post_val)) ?_
        refine sc (fun _ _ _ f _ _ => px (or_not f.1 rfl)) ?_
        exact steps_nil
      intro own92 a92 w92 hd92 hz92 hk92 hf92 hE92
      have e92_0 := (hk92 0 rfl).trans e86_0
      have e92_3 := (hk92 3 rfl).trans e86_3
      obtain ⟨(e92_15 : a92.eval (.tmp 15) = .bool (!r91)), -⟩ := hf92 [5] rfl
      have hX92 := es_ hX86 hE92
      have b92_Al1 := RdO.evo rfl hE92 b86_Al1
      refine fl_cond e92_15 hs (fun c93 hs => ?_) (fun c93 hs => ?_)
      · refine rg0_seq 16 own92 (bz 1) [⟨[], [], [], Fct.val 2 (.bool false)⟩] hz92 hd92 (by kernel_rfl) ?_ ?_
        · refine sc (fun _ _ _ _ _ _ => px (or_assign rfl)) ?_
          exact steps_nil
        intro own94 a94 w94 hd94 hz94 hk94 hf94 hE94
        obtain ⟨(e94_2 : a94.eval (.tmp 2) = .bool false), -⟩ := hf94 [0] rfl
        have hX94 := es_ hX92 hE94
        refine fl_ret ?_
        refine hp89 _ _ _ rfl ?_
        refine hp88 _ _ _ rfl ?_
        replace hs := hz83 _ hs
        refine hp83 _ _ _ rfl ?_
        refine hp57 _ _ _ rfl ?_
        refine hp55 _ _ _ rfl ?_
        obtain rfl := osome hs
        exact hret _ _ _ _ (.inl rfl) hd94 (results1_ rfl (RVal.tmp_ e94_2)) ⟨own94, rfl, hX94⟩
      refine fl_skip ?_
      refine hn89 _ _ ?_
      refine hn88 _ _ ?_
      refine rg0 16 own92 (bz 3) [⟨[], [3], [], Fct.val 8 (.int .i64 i70)⟩, ⟨[0], [], [], Fct.val 9 (.int .i64 (ad i70 1))⟩, ⟨[1], [], [], Fct.val 3 (.int .i64 (ad i70 1))⟩] hz92 hd92 (by kernel_rfl) ?_ ?_
      · refine sc (fun _ _ _ _ s _ => px (or_move (s.1.trans e92_3))) ?_
        refine sc (fun _ _ _ f _ _ => px (or_add f.1 rfl rfl)) ?_
        refine sc (fun _ _ _ f _ _ => px (or_assign f.1)) ?_
        exact steps_nil
      intro own95 a95 w95 hd95 hz95 hk95 hf95 hE95
      have e95_0 := (hk95 0 rfl).trans e92_0
      obtain ⟨(e95_3 : a95.eval (.tmp 3) = .int .i64 (ad i70 1)), -⟩ := hf95 [2] rfl
      have hX95 := es_ hX92 hE95
      have b95_Al1 := RdO.evo rfl hE95 b92_Al1
      exact hn83 _ _ _ hs ⟨own95, hd95, hz95, e95_0, e95_3, hX95, b95_Al1⟩
    refine fl_exit ?_
    refine hp85 _ _ _ rfl ?_
    replace hs := hz83 _ hs
    refine hp83 _ _ _ rfl ?_
    refine hx57 _ _ ?_
    refine hn55 _ _ ?_
    refine rg0_seq 16 own86 (bz 1) [⟨[], [], [], Fct.val 2 (.bool true)⟩] hz86 hd86 (by kernel_rfl) ?_ ?_
    · refine sc (fun _ _ _ _ _ _ => px (or_assign rfl)) ?_
      exact steps_nil
    intro own96 a96 w96 hd96 hz96 hk96 hf96 hE96
    obtain ⟨(e96_2 : a96.eval (.tmp 2) = .bool true), -⟩ := hf96 [0] rfl
    have hX96 := es_ hX86 hE96
    refine fl_ret ?_
    obtain rfl := osome hs
    exact hret _ _ _ _ (.inl rfl) hd96 (results1_ rfl (RVal.tmp_ e96_2)) ⟨own96, rfl, hX96⟩
set_option maxHeartbeats 2000000 in
theorem ref26_Check_w (w : World) (n1 : (List ((List (Int × Int)) × Int × Int)) × (List (List (List Int)))) (An1_0 : Option Addr) (cn1_0 : Nat) (An1_1 : Option Addr) (cn1_1 : Nat) (hAn1_0 : RdO (fun _ => 0) [0] w R78 An1_0 cn1_0 n1.1) (hAn1_1 : RdO (fun _ => 0) [0] w R27 An1_1 cn1_1 n1.2) (r : Int) (hs : ref26_Check n1 = some r) :
    Calls Try.prog 16 #[.agg #[.slice An1_0 n1.1.length cn1_0, .slice An1_1 n1.2.length cn1_1]] w fun e w' => ∃ own' : Own, e = .returned (.int .i64 r) ∧ Evo [] (fun _ => 0) own' w w' := by
  refine fl_enter (n := 174) rfl rfl rfl (Nat.le_of_ble_eq_true rfl) ?_
  intro a0 Q hd0 hz0 harg hret
  have ha0 := harg 0 _ rfl
  clear harg
  have hE0 : Evo [] (fun _ => 0) (fun _ => 0) w w := Evo.refl _ _ _
  refine rg0_seq 174 (fun _ => 0) [0, 0] [⟨[], [0], [], Fct.blk 1133 1 (fun g => .pointer (some ⟨g, 0, none⟩)) 38 #[.slice An1_0 n1.1.length cn1_0, .slice An1_1 n1.2.length cn1_1]⟩, ⟨[], [], [], Fct.val 2 (.int .i64 0)⟩] hz0 hd0 (by kernel_rfl) ?_ ?_
  · refine sc (fun _ _ _ _ s _ => px (or_new [(0, .agg #[.slice An1_0 n1.1.length cn1_0, .slice An1_1 n1.2.length cn1_1])] rfl rfl ⟨(s.1.trans ha0), trivial⟩ (by kernel_rfl))) ?_
    refine sc (fun _ _ _ _ _ _ => px (or_assign rfl)) ?_
    exact steps_nil
  intro own1134 a1134 w1134 hd1134 hz1134 hk1134 hf1134 hE1134
  obtain ⟨⟨g1132, (e1134_1 : a1134.eval (.tmp 1) = .pointer (some ⟨g1132, 0, none⟩)), (b1134_g1132 : BlkO own1134 1133 w1134 g1132 38 #[.slice An1_0 n1.1.length cn1_0, .slice An1_1 n1.2.length cn1_1])⟩, -⟩ := hf1134 [0] rfl
  have hX1134 := es_ hE0 hE1134
  have b1134_An1_0 := RdO.evo rfl hE1134 hAn1_0
  have b1134_An1_1 := RdO.evo rfl hE1134 hAn1_1
  refine rg0_seq 174 own1134 (bz 3) [⟨[], [], [], Fct.val 3 (.int .i64 0)⟩, ⟨[], [], [], Fct.val 4 (.int .i64 0)⟩, ⟨[], [], [], Fct.val 5 (.int .i64 0)⟩] hz1134 hd1134 (by kernel_rfl) ?_ ?_
  · refine sc (fun _ _ _ _ _ _ => px (or_assign rfl)) ?_
    refine sc (fun _ _ _ _ _ _ => px (or_assign rfl)) ?_
    refine sc (fun _ _ _ _ _ _ => px (or_assign rfl)) ?_
    exact steps_nil
  intro own1135 a1135 w1135 hd1135 hz1135 hk1135 hf1135 hE1135
  have e1135_1 := (hk1135 1 rfl).trans e1134_1
  obtain ⟨(e1135_3 : a1135.eval (.tmp 3) = .int .i64 0), (e1135_4 : a1135.eval (.tmp 4) = .int .i64 0), (e1135_5 : a1135.eval (.tmp 5) = .int .i64 0), -⟩ := hf1135 [0, 1, 2] rfl
  have hX1135 := es_ hX1134 hE1135
  have b1135_An1_0 := RdO.evo rfl hE1135 b1134_An1_0
  have b1135_An1_1 := RdO.evo rfl hE1135 b1134_An1_1
  have b1135_g1132 := be_ hE1135 b1134_g1132
  refine fl_seq (fun Q1136 hn1136 hp1136 => ?_)
  refine rg0_seq 174 own1135 (bz 1) [⟨[], [], [], Fct.val 6 (.int .i64 0)⟩] hz1135 hd1135 (by kernel_rfl) ?_ ?_
  · refine sc (fun _ _ _ _ _ _ => px (or_assign rfl)) ?_
    exact steps_nil
  intro own1137 a1137 w1137 hd1137 hz1137 hk1137 hf1137 hE1137
  have e1137_1 := (hk1137 1 rfl).trans e1135_1
  have e1137_3 := (hk1137 3 rfl).trans e1135_3
  have e1137_4 := (hk1137 4 rfl).trans e1135_4
  have e1137_5 := (hk1137 5 rfl).trans e1135_5
  obtain ⟨(e1137_6 : a1137.eval (.tmp 6) = .int .i64 0), -⟩ := hf1137 [0] rfl
  have hX1137 := es_ hX1135 hE1137
  have b1137_An1_0 := RdO.evo rfl hE1137 b1135_An1_0
  have b1137_An1_1 := RdO.evo rfl hE1137 b1135_An1_1
  have b1137_g1132 := be_ hE1137 b1135_g1132
  refine fl_block (fun Q1138 hn1138 hx1138 hp1138 => ?_)
  refine fl_loop (body := (fun s => ref26_Check_b1 n1 s.1 s.2)) (z := r) (show loopO _ _ = _ from hs) (fun (s : Int × Int) a wx => match s with | (points1149, i1150) => ∃ (ox : Own), a.defers = [] ∧ a.tmps.size = 174 ∧ a.eval (.tmp 1) = .pointer (some ⟨g1132, 0, none⟩) ∧ a.eval (.tmp 3) = .int .i64 points1149 ∧ a.eval (.tmp 4) = .int .i64 0 ∧ a.eval (.tmp 5) = .int .i64 0 ∧ a.eval (.tmp 6) = .int .i64 i1150 ∧ Evo [] (fun _ => 0) ox w wx ∧ BlkO ox 1133 wx g1132 38 #[.slice An1_0 n1.1.length cn1_0, .slice An1_1 n1.2.length cn1_1] ∧ RdO ox [0] wx R78 An1_0 cn1_0 n1.1 ∧ RdO ox [0] wx R27 An1_1 cn1_1 n1.2) ?_ ?_
  · exact ⟨own1137, hd1137, hz1137, e1137_1, e1137_3, e1137_4, e1137_5, e1137_6, hX1137, b1137_g1132, b1137_An1_0, b1137_An1_1⟩
  · rintro ⟨points1149, i1150⟩ zz1161 a1161 w1161 ⟨own1161, hd1162, hz1162, e1162_1, e1162_3, e1162_4, e1162_5, e1162_6, hE1162, b1162_g1132, b1162_An1_0, b1162_An1_1⟩ hs Q1161 hn1161 hp1161 hz1161
    have hs : ref26_Check_b1 n1 points1149 i1150 = some zz1161 := hs
    refine fl_seq (fun Q1163 hn1163 hp1163 => ?_)
    refine rg0_seq 174 own1161 [0, 0, 2, 6, 15] [⟨[], [6], [], Fct.val 14 (.int .i64 i1150)⟩, ⟨[], [1], [], Fct.val 15 (.pointer (some ⟨g1132, 0, none⟩))⟩, ⟨[1], [], [], Fct.val 16 (.slice An1_0 n1.1.length cn1_0)⟩, ⟨[2], [], [], Fct.val 17 (.int .i64 (n1.1.length : Int))⟩, ⟨[0, 3], [], [], Fct.val 18 (.bool (decide (i1150 < (n1.1.length : Int))))⟩] hz1162 hd1162 (by kernel_rfl) ?_ ?_
    · refine sc (fun _ _ _ _ s _ => px (or_move (s.1.trans e1162_6))) ?_
      refine sc (fun _ _ _ _ s _ => px (or_field fo38_0 (s.1.trans e1162_1) (by rfl))) ?_
      refine sc (fun _ _ _ f _ hE => px (or_load1 to36 f.1 (Blk.at_ (be_ hE b1162_g1132).2 0 rfl))) ?_
      refine sc (fun _ _ _ f _ _ => px (or_len tu36 f.1 rfl)) ?_
      refine sc (fun _ _ _ f _ _ => px (or_lss f.1 f.2.1 rfl)) ?_
      exact steps_nil
    intro own1164 a1164 w1164 hd1164 hz1164 hk1164 hf1164 hE1164
    have e1164_1 := (hk1164 1 rfl).trans e1162_1
    have e1164_3 := (hk1164 3 rfl).trans e1162_3
    have e1164_4 := (hk1164 4 rfl).trans e1162_4
    have e1164_5 := (hk1164 5 rfl).trans e1162_5
    have e1164_6 := (hk1164 6 rfl).trans e1162_6
    obtain ⟨(e1164_18 : a1164.eval (.tmp 18) = .bool (decide (i1150 < (n1.1.length : Int)))), -⟩ := hf1164 [4] rfl
    have hX1164 := es_ hE1162 hE1164
    have b1164_g1132 := be_ hE1164 b1162_g1132
    have b1164_An1_0 := RdO.evo rfl hE1164 b1162_An1_0
    have b1164_An1_1 := RdO.evo rfl hE1164 b1162_An1_1
    refine fl_cond e1164_18 hs (fun c1165 hs => ?_) (fun c1165 hs => ?_)
    · refine fl_skip ?_
      refine hn1163 _ _ ?_
      refine fl_seq (fun Q1166 hn1166 hp1166 => ?_)
      refine fl_block (fun Q1167 hn1167 hx1167 hp1167 => ?_)
      obtain ⟨x1168, hx1168, hs⟩ := obind hs
      refine rg0 174 own1164 [0, 0, 2, 0, 14, 30, 62, 126, 255, 511] [⟨[], [3], [], Fct.val 21 (.int .i64 points1149)⟩, ⟨[], [1], [], Fct.val 22 (.pointer (some ⟨g1132, 0, none⟩))⟩, ⟨[1], [], [], Fct.val 23 (.slice An1_0 n1.1.length cn1_0)⟩, ⟨[], [6], [], Fct.val 24 (.int .i64 i1150)⟩, ⟨[2, 3], [], [], Fct.val 25 (.pointer (some ((adr An1_0).add ((i1150 : Int).toNat * R78.s))))⟩, ⟨[4], [], [], Fct.val 26 (.pointer (some ((adr An1_0).add ((i1150 : Int).toNat * R78.s))))⟩, ⟨[5], [], [], Fct.nest X78 [0] 27 (fun (y : ((Option Addr × Nat) × Unit × Unit)) => .slice y.1.1 x1168.1.length y.1.2) x1168⟩, ⟨[6], [], [], Fct.val 28 (.int .i64 (x1168.1.length : Int))⟩, ⟨[0, 7], [], [], Fct.val 29 (.int .i64 (ad points1149 (x1168.1.length : Int)))⟩, ⟨[8], [], [], Fct.val 3 (.int .i64 (ad points1149 (x1168.1.length : Int)))⟩] hz1164 hd1164 (by kernel_rfl) ?_ ?_
      · refine sc (fun _ _ _ _ s _ => px (or_move (s.1.trans e1164_3))) ?_
        refine sc (fun _ _ _ _ s _ => px (or_field fo38_0 (s.1.trans e1164_1) (by rfl))) ?_
        refine sc (fun _ _ _ f _ hE => px (or_load1 to36 f.1 (Blk.at_ (be_ hE b1164_g1132).2 0 rfl))) ?_
        refine sc (fun _ _ _ _ s _ => px (or_move (s.1.trans e1164_6))) ?_
        refine sc (fun _ _ _ f _ _ => px (or_index (R := R78) (l := n1.1) tl36 f.1 f.2.1 (RdO.some_ b1164_An1_0 hx1168) hx1168)) ?_
        refine sc (fun _ _ _ f _ _ => px (or_field fo78_0 f.1 (Addr.add_zero' _))) ?_
        refine sc (fun _ _ _ f _ hE => px (or_loadN1 X78 0 to76 f.1 (Addr.add_zero' _).symm (RdO.evo rfl hE b1164_An1_0) hx1168 (fun _ => rfl))) ?_
        refine sc (fun own a wx hf hsl hE => ?_) ?_
        · obtain ⟨⟨⟨⟨A1169, cA1169⟩, _, _⟩, f_27, ⟨b_A1169, -, -⟩⟩, -⟩ := hf
          exact px (or_len tu76 f_27 rfl)
        refine sc (fun _ _ _ f _ _ => px (or_add f.1 f.2.1 rfl)) ?_
        refine sc (fun _ _ _ f _ _ => px (or_assign f.1)) ?_
        exact steps_nil
      intro own1170 a1170 w1170 hd1170 hz1170 hk1170 hf1170 hE1170
      have e1170_1 := (hk1170 1 rfl).trans e1164_1
      have e1170_4 := (hk1170 4 rfl).trans e1164_4
      have e1170_5 := (hk1170 5 rfl).trans e1164_5
      have e1170_6 := (hk1170 6 rfl).trans e1164_6
      obtain ⟨(e1170_3 : a1170.eval (.tmp 3) = .int .i64 (ad points1149 (x1168.1.length : Int))), -⟩ := hf1170 [9] rfl
      have hX1170 := es_ hX1164 hE1170
      have b1170_g1132 := be_ hE1170 b1164_g1132
      have b1170_An1_0 := RdO.evo rfl hE1170 b1164_An1_0
      have b1170_An1_1 := RdO.evo rfl hE1170 b1164_An1_1
      refine hn1167 _ _ ?_
      refine hn1166 _ _ ?_
      refine rg0 174 own1170 (bz 3) [⟨[], [6], [], Fct.val 19 (.int .i64 i1150)⟩, ⟨[0], [], [], Fct.val 20 (.int .i64 (ad i1150 1))⟩, ⟨[1], [], [], Fct.val 6 (.int .i64 (ad i1150 1))⟩] hz1170 hd1170 (by kernel_rfl) ?_ ?_
      · refine sc (fun _ _ _ _ s _ => px (or_move (s.1.trans e1170_6))) ?_
        refine sc (fun _ _ _ f _ _ => px (or_add f.1 rfl rfl)) ?_
        refine sc (fun _ _ _ f _ _ => px (or_assign f.1)) ?_
        exact steps_nil
      intro own1171 a1171 w1171 hd1171 hz1171 hk1171 hf1171 hE1171
      have e1171_1 := (hk1171 1 rfl).trans e1170_1
      have e1171_3 := (hk1171 3 rfl).trans e1170_3
      have e1171_4 := (hk1171 4 rfl).trans e1170_4
      have e1171_5 := (hk1171 5 rfl).trans e1170_5
      obtain ⟨(e1171_6 : a1171.eval (.tmp 6) = .int .i64 (ad i1150 1)), -⟩ := hf1171 [2] rfl
      have hX1171 := es_ hX1170 hE1171
      have b1171_g1132 := be_ hE1171 b1170_g1132
      have b1171_An1_0 := RdO.evo rfl hE1171 b1170_An1_0
      have b1171_An1_1 := RdO.evo rfl hE1171 b1170_An1_1
      exact hn1161 _ _ _ hs ⟨own1171, hd1171, hz1171, e1171_1, e1171_3, e1171_4, e1171_5, e1171_6, hX1171, b1171_g1132, b1171_An1_0, b1171_An1_1⟩
    refine fl_exit ?_
    refine hp1163 _ _ _ rfl ?_
    replace hs := hz1161 _ hs
    refine hp1161 _ _ _ rfl ?_
    refine hx1138 _ _ ?_
    refine hn1136 _ _ ?_
    refine fl_seq (fun Q1172 hn1172 hp1172 => ?_)
    refine rg0_seq 174 own1164 (bz 1) [⟨[], [], [], Fct.val 7 (.int .i64 0)⟩] hz1164 hd1164 (by kernel_rfl) ?_ ?_
    · refine sc (fun _ _ _ _ _ _ => px (or_assign rfl)) ?_
      exact steps_nil
    intro own1173 a1173 w1173 hd1173 hz1173 hk1173 hf1173 hE1173
    have e1173_1 := (hk1173 1 rfl).trans e1164_1
    have e1173_3 := (hk1173 3 rfl).trans e1164_3
    have e1173_4 := (hk1173 4 rfl).trans e1164_4
    have e1173_5 := (hk1173 5 rfl).trans e1164_5
    obtain ⟨(e1173_7 : a1173.eval (.tmp 7) = .int .i64 0), -⟩ := hf1173 [0] rfl
    have hX1173 := es_ hX1164 hE1173
    have b1173_g1132 := be_ hE1173 b1164_g1132
    have b1173_An1_0 := RdO.evo rfl hE1173 b1164_An1_0
    have b1173_An1_1 := RdO.evo rfl hE1173 b1164_An1_1
    refine fl_block (fun Q1174 hn1174 hx1174 hp1174 => ?_)
    refine fl_loop (body := (fun s => ref26_Check_b2 n1 points1149 s.1 s.2.1 s.2.2)) (z := r) (show loopO _ _ = _ from hs) (fun (s : Int × Int × Int) a wx => match s with | (rings1233, refs1234, i1235) => ∃ (ox : Own), a.defers = [] ∧ a.tmps.size = 174 ∧ a.eval (.tmp 1) = .pointer (some ⟨g1132, 0, none⟩) ∧ a.eval (.tmp 3) = .int .i64 points1149 ∧ a.eval (.tmp 4) = .int .i64 rings1233 ∧ a.eval (.tmp 5) = .int .i64 refs1234 ∧ a.eval (.tmp 7) = .int .i64 i1235 ∧ Evo [] (fun _ => 0) ox w wx ∧ BlkO ox 1133 wx g1132 38 #[.slice An1_0 n1.1.length cn1_0, .slice An1_1 n1.2.length cn1_1] ∧ RdO ox [0] wx R78 An1_0 cn1_0 n1.1 ∧ RdO ox [0] wx R27 An1_1 cn1_1 n1.2) ?_ ?_
    · exact ⟨own1173, hd1173, hz1173, e1173_1, e1173_3, e1173_4, e1173_5, e1173_7, hX1173, b1173_g1132, b1173_An1_0, b1173_An1_1⟩
    · rintro ⟨rings1233, refs1234, i1235⟩ zz1294 a1294 w1294 ⟨own1294, hd1295, hz1295, e1295_1, e1295_3, e1295_4, e1295_5, e1295_7, hE1295, b1295_g1132, b1295_An1_0, b1295_An1_1⟩ hs Q1294 hn1294 hp1294 hz1294
      have hs : ref26_Check_b2 n1 points1149 rings1233 refs1234 i1235 = some zz1294 := hs
      refine fl_seq (fun Q1296 hn1296 hp1296 => ?_)
      refine rg0_seq 174 own1294 [0, 0, 2, 6, 15] [⟨[], [7], [], Fct.val 30 (.int .i64 i1235)⟩, ⟨[], [1], [], Fct.val 31 (.pointer (some ⟨g1132, 1, none⟩))⟩, ⟨[1], [], [], Fct.val 32 (.slice An1_1 n1.2.length cn1_1)⟩, ⟨[2], [], [], Fct.val 33 (.int .i64 (n1.2.length : Int))⟩, ⟨[0, 3], [], [], Fct.val 34 (.bool (decide (i1235 < (n1.2.length : Int))))⟩] hz1295 hd1295 (by kernel_rfl) ?_ ?_
      · refine sc (fun _ _ _ _ s _ => px (or_move (s.1.trans e1295_7))) ?_
        refine sc (fun _ _ _ _ s _ => px (or_field fo38_1 (s.1.trans e1295_1) (by rfl))) ?_
        refine sc (fun _ _ _ f _ hE => px (or_load1 to23 f.1 (Blk.at_ (be_ hE b1295_g1132).2 1 rfl))) ?_
        refine sc (fun _ _ _ f _ _ => px (or_len tu23 f.1 rfl)) ?_
        refine sc (fun _ _ _ f _ _ => px (or_lss f.1 f.2.1 rfl)) ?_
        exact steps_nil
      intro own1297 a1297 w1297 hd1297 hz1297 hk1297 hf1297 hE1297
      have e1297_1 := (hk1297 1 rfl).trans e1295_1
      have e1297_3 := (hk1297 3 rfl).trans e1295_3
      have e1297_4 := (hk1297 4 rfl).trans e1295_4
      have e1297_5 := (hk1297 5 rfl).trans e1295_5
      have e1297_7 := (hk1297 7 rfl).trans e1295_7
      obtain ⟨(e1297_34 : a1297.eval (.tmp 34) = .bool (decide (i1235 < (n1.2.length : Int)))), -⟩ := hf1297 [4] rfl
      have hX1297 := es_ hE1295 hE1297
      have b1297_g1132 := be_ hE1297 b1295_g1132
      have b1297_An1_0 := RdO.evo rfl hE1297 b1295_An1_0
      have b1297_An1_1 := RdO.evo rfl hE1297 b1295_An1_1
      refine fl_cond e1297_34 hs (fun c1298 hs => ?_) (fun c1298 hs => ?_)
      · refine fl_skip ?_
        refine hn1296 _ _ ?_
        refine fl_seq (fun Q1299 hn1299 hp1299 => ?_)
        refine fl_block (fun Q1300 hn1300 hx1300 hp1300 => ?_)
        refine rg0_seq 174 own1297 (bz 1) [⟨[], [], [], Fct.val 8 (.int .i64 0)⟩] hz1297 hd1297 (by kernel_rfl) ?_ ?_
        · refine sc (fun _ _ _ _ _ _ => px (or_assign rfl)) ?_
          exact steps_nil
        intro own1301 a1301 w1301 hd1301 hz1301 hk1301 hf1301 hE1301
        have e1301_1 := (hk1301 1 rfl).trans e1297_1
        have e1301_3 := (hk1301 3 rfl).trans e1297_3
        have e1301_4 := (hk1301 4 rfl).trans e1297_4
        have e1301_5 := (hk1301 5 rfl).trans e1297_5
        have e1301_7 := (hk1301 7 rfl).trans e1297_7
        obtain ⟨(e1301_8 : a1301.eval (.tmp 8) = .int .i64 0), -⟩ := hf1301 [0] rfl
        have hX1301 := es_ hX1297 hE1301
        have b1301_g1132 := be_ hE1301 b1297_g1132
        have b1301_An1_0 := RdO.evo rfl hE1301 b1297_An1_0
        have b1301_An1_1 := RdO.evo rfl hE1301 b1297_An1_1
        refine fl_block (fun Q1302 hn1302 hx1302 hp1302 => ?_)
        refine fl_loop (body := (fun s => ref26_Check_b3 n1 i1235 s.1 s.2.1 s.2.2)) (z := zz1294) (show loopO _ _ = _ from hs) (fun (s : Int × Int × Int) a wx => match s with | (rings1318, refs1319, k1320) => ∃ (ox : Own), a.defers = [] ∧ a.tmps.size = 174 ∧ a.eval (.tmp 1) = .pointer (some ⟨g1132, 0, none⟩) ∧ a.eval (.tmp 3) = .int .i64 points1149 ∧ a.eval (.tmp 4) = .int .i64 rings1318 ∧ a.eval (.tmp 5) = .int .i64 refs1319 ∧ a.eval (.tmp 7) = .int .i64 i1235 ∧ a.eval (.tmp 8) = .int .i64 k1320 ∧ Evo [] (fun _ => 0) ox w wx ∧ BlkO ox 1133 wx g1132 38 #[.slice An1_0 n1.1.length cn1_0, .slice An1_1 n1.2.length cn1_1] ∧ RdO ox [0] wx R78 An1_0 cn1_0 n1.1 ∧ RdO ox [0] wx R27 An1_1 cn1_1 n1.2) ?_ ?_
        · exact ⟨own1301, hd1301, hz1301, e1301_1, e1301_3, e1301_4, e1301_5, e1301_7, e1301_8, hX1301, b1301_g1132, b1301_An1_0, b1301_An1_1⟩
        · rintro ⟨rings1318, refs1319, k1320⟩ zz1336 a1336 w1336 ⟨own1336, hd1337, hz1337, e1337_1, e1337_3, e1337_4, e1337_5, e1337_7, e1337_8, hE1337, b1337_g1132, b1337_An1_0, b1337_An1_1⟩ hs Q1336 hn1336 hp1336 hz1336
          have hs : ref26_Check_b3 n1 i1235 rings1318 refs1319 k1320 = some zz1336 := hs
          refine fl_seq (fun Q1338 hn1338 hp1338 => ?_)
          obtain ⟨x1339, hx1339, hs⟩ := obind hs
          refine rg0_seq 174 own1336 [0, 0, 2, 0, 14, 30, 62, 127] [⟨[], [8], [], Fct.val 37 (.int .i64 k1320)⟩, ⟨[], [1], [], Fct.val 38 (.pointer (some ⟨g1132, 1, none⟩))⟩, ⟨[1], [], [], Fct.val 39 (.slice An1_1 n1.2.length cn1_1)⟩, ⟨[], [7], [], Fct.val 40 (.int .i64 i1235)⟩, ⟨[2, 3], [], [], Fct.val 41 (.pointer (some ((adr An1_1).add ((i1235 : Int).toNat * R27.s))))⟩, ⟨[4], [], [], Fct.nest X27 [0] 42 (fun (y : (Option Addr × Nat)) => .slice y.1 x1339.length y.2) x1339⟩, ⟨[5], [], [], Fct.val 43 (.int .i64 (x1339.length : Int))⟩, ⟨[0, 6], [], [], Fct.val 44 (.bool (decide (k1320 < (x1339.length : Int))))⟩] hz1337 hd1337 (by kernel_rfl) ?_ ?_
          · refine sc (fun _ _ _ _ s _ => px (or_move (s.1.trans e1337_8))) ?_
            refine sc (fun _ _ _ _ s _ => px (or_field fo38_1 (s.1.trans e1337_1) (by rfl))) ?_
            refine sc (fun _ _ _ f _ hE => px (or_load1 to23 f.1 (Blk.at_ (be_ hE b1337_g1132).2 1 rfl))) ?_
            refine sc (fun _ _ _ _ s _ => px (or_move (s.1.trans e1337_7))) ?_
            refine sc (fun _ _ _ f _ _ => px (or_index (R := R27) (l := n1.2) tl23 f.1 f.2.1 (RdO.some_ b1337_An1_1 hx1339) hx1339)) ?_
            refine sc (fun _ _ _ f _ hE => px (or_loadN1 X27 0 to27 f.1 (Addr.add_zero' _).symm (RdO.evo rfl hE b1337_An1_1) hx1339 (fun _ => rfl))) ?_
            refine sc (fun own a wx hf hsl hE => ?_) ?_
            · obtain ⟨⟨⟨A1340, cA1340⟩, f_42, b_A1340⟩, -⟩ := hf
              exact px (or_len tu27 f_42 rfl)
            refine sc (fun _ _ _ f _ _ => px (or_lss f.1 f.2.1 rfl)) ?_
            exact steps_nil
          intro own1341 a1341 w1341 hd1341 hz1341 hk1341 hf1341 hE1341
          have e1341_1 := (hk1341 1 rfl).trans e1337_1
          have e1341_3 := (hk1341 3 rfl).trans e1337_3
          have e1341_4 := (hk1341 4 rfl).trans e1337_4
          have e1341_5 := (hk1341 5 rfl).trans e1337_5
          have e1341_7 := (hk1341 7 rfl).trans e1337_7
          have e1341_8 := (hk1341 8 rfl).trans e1337_8
          obtain ⟨(e1341_44 : a1341.eval (.tmp 44) = .bool (decide (k1320 < (x1339.length : Int)))), -⟩ := hf1341 [7] rfl
          have hX1341 := es_ hE1337 hE1341
          have b1341_g1132 := be_ hE1341 b1337_g1132
          have b1341_An1_0 := RdO.evo rfl hE1341 b1337_An1_0
          have b1341_An1_1 := RdO.evo rfl hE1341 b1337_An1_1
          refine fl_cond e1341_44 hs (fun c1342 hs => ?_) (fun c1342 hs => ?_)
          · refine fl_skip ?_
            refine hn1338 _ _ ?_
            refine fl_seq (fun Q1343 hn1343 hp1343 => ?_)
            refine fl_block (fun Q1344 hn1344 hx1344 hp1344 => ?_)
            refine rg0_seq 174 own1341 (bz 3) [⟨[], [4], [], Fct.val 47 (.int .i64 rings1318)⟩, ⟨[0], [], [], Fct.val 48 (.int .i64 (ad rings1318 1))⟩, ⟨[1], [], [], Fct.val 4 (.int .i64 (ad rings1318 1))⟩] hz1341 hd1341 (by kernel_rfl) ?_ ?_
            · refine sc (fun _ _ _ _ s _ => px (or_move (s.1.trans e1341_4))) ?_
              refine sc (fun _ _ _ f _ _ => px (or_add f.1 rfl rfl)) ?_
              refine sc (fun _ _ _ f _ _ => px (or_assign f.1)) ?_
              exact steps_nil
            intro own1345 a1345 w1345 hd1345 hz1345 hk1345 hf1345 hE1345
            have e1345_1 := (hk1345 1 rfl).trans e1341_1
            have e1345_3 := (hk1345 3 rfl).trans e1341_3
            have e1345_5 := (hk1345 5 rfl).trans e1341_5
            have e1345_7 := (hk1345 7 rfl).trans e1341_7
            have e1345_8 := (hk1345 8 rfl).trans e1341_8
            obtain ⟨(e1345_4 : a1345.eval (.tmp 4) = .int .i64 (ad rings1318 1)), -⟩ := hf1345 [2] rfl
            have hX1345 := es_ hX1341 hE1345
            have b1345_g1132 := be_ hE1345 b1341_g1132
            have b1345_An1_0 := RdO.evo rfl hE1345 b1341_An1_0
            have b1345_An1_1 := RdO.evo rfl hE1345 b1341_An1_1
            obtain ⟨x1346, hx1346, hs⟩ := obind hs
            obtain ⟨x1348, hx1348, hs⟩ := obind hs
            refine rg0 174 own1345 [0, 0, 2, 0, 14, 30, 0, 126, 254, 510, 1023, 2047] [⟨[], [5], [], Fct.val 49 (.int .i64 refs1319)⟩, ⟨[], [1], [], Fct.val 50 (.pointer (some ⟨g1132, 1, none⟩))⟩, ⟨[1], [], [], Fct.val 51 (.slice An1_1 n1.2.length cn1_1)⟩, ⟨[], [7], [], Fct.val 52 (.int .i64 i1235)⟩, ⟨[2, 3], [], [], Fct.val 53 (.pointer (some ((adr An1_1).add ((i1235 : Int).toNat * R27.s))))⟩, ⟨[4], [], [], Fct.nest X27 [0] 54 (fun (y : (Option Addr × Nat)) => .slice y.1 x1346.length y.2) x1346⟩, ⟨[], [8], [], Fct.val 55 (.int .i64 k1320)⟩, ⟨[5, 6], [], [], Fct.rel [56, 54] (fun l => ∀ (A1347 : Option Addr) (cA1347 : Nat), l.getD 1 undef = .slice A1347 x1346.length cA1347 → l.getD 0 undef = .pointer (some ((adr A1347).add ((k1320 : Int).toNat * R28.s))))⟩, ⟨[7, 5], [], [], Fct.nest X28 [0] 57 (fun (y : (Option Addr × Nat)) => .slice y.1 x1348.length y.2) x1348⟩, ⟨[8], [], [], Fct.val 58 (.int .i64 (x1348.length : Int))⟩, ⟨[0, 9], [], [], Fct.val 59 (.int .i64 (ad refs1319 (x1348.length : Int)))⟩, ⟨[10], [], [], Fct.val 5 (.int .i64 (ad refs1319 (x1348.length : Int)))⟩] hz1345 hd1345 (by kernel_rfl) ?_ ?_
            · refine sc (fun _ _ _ _ s _ => px (or_move (s.1.trans e1345_5))) ?_
              refine sc (fun _ _ _ _ s _ => px (or_field fo38_1 (s.1.trans e1345_1) (by rfl))) ?_
              refine sc (fun _ _ _ f _ hE => px (or_load1 to23 f.1 (Blk.at_ (be_ hE b1345_g1132).2 1 rfl))) ?_
              refine sc (fun _ _ _ _ s _ => px (or_move (s.1.trans e1345_7))) ?_
              refine sc (fun _ _ _ f _ _ => px (or_index (R := R27) (l := n1.2) tl23 f.1 f.2.1 (RdO.some_ b1345_An1_1 hx1346) hx1346)) ?_
              refine sc (fun _ _ _ f _ hE => px (or_loadN1 X27 0 to27 f.1 (Addr.add_zero' _).symm (RdO.evo rfl hE b1345_An1_1) hx1346 (fun _ => rfl))) ?_
              refine sc (fun _ _ _ _ s _ => px (or_move (s.1.trans e1345_8))) ?_
              refine sc (fun own a wx hf hsl hE => ?_) ?_
              · obtain ⟨⟨⟨A1347, cA1347⟩, (f_54 : a.eval (.tmp 54) = .slice A1347 x1346.length cA1347), b_A1347⟩, f_55, -⟩ := hf
                exact px (or_mono (f := Fct.val 56 (.pointer (some ((adr A1347).add ((k1320 : Int).toNat * R28.s))))) (or_index (R := R28) (l := x1346) tl27 f_54 f_55 (RdO.some_ b_A1347 hx1348) hx1348) (fun own' a' w' v' hp h => fun _ _ h0' => by cases (f_54.symm.trans ((hp.2 54 (by decide)).symm.trans h0')); exact h))
              refine sc (fun own a wx hf hsl hE => ?_) ?_
              · obtain ⟨(q_56 : ∀ (A1347 : Option Addr) (cA1347 : Nat), a.eval (.tmp 54) = .slice A1347 x1346.length cA1347 → a.eval (.tmp 56) = .pointer (some ((adr A1347).add ((k1320 : Int).toNat * R28.s)))), ⟨⟨A1347, cA1347⟩, f_54, b_A1347⟩, -⟩ := hf
                have f_56 := q_56 _ _ f_54
                exact px (or_loadN1 X28 0 to28 f_56 (Addr.add_zero' _).symm b_A1347 hx1348 (fun _ => rfl))
              refine sc (fun own a wx hf hsl hE => ?_) ?_
              · obtain ⟨⟨⟨A1349, cA1349⟩, f_57, b_A1349⟩, -⟩ := hf
                exact px (or_len tu28 f_57 rfl)
              refine sc (fun _ _ _ f _ _ => px (or_add f.1 f.2.1 rfl)) ?_
              refine sc (fun _ _ _ f _ _ => px (or_assign f.1)) ?_
              exact steps_nil
            intro own1350 a1350 w1350 hd1350 hz1350 hk1350 hf1350 hE1350
            have e1350_1 := (hk1350 1 rfl).trans e1345_1
            have e1350_3 := (hk1350 3 rfl).trans e1345_3
            have e1350_4 := (hk1350 4 rfl).trans e1345_4
            have e1350_7 := (hk1350 7 rfl).trans e1345_7
            have e1350_8 := (hk1350 8 rfl).trans e1345_8
            obtain ⟨(e1350_5 : a1350.eval (.tmp 5) = .int .i64 (ad refs1319 (x1348.length : Int))), -⟩ := hf1350 [11] rfl
            have hX1350 := es_ hX1345 hE1350
            have b1350_g1132 := be_ hE1350 b1345_g1132
            have b1350_An1_0 := RdO.evo rfl hE1350 b1345_An1_0
            have b1350_An1_1 := RdO.evo rfl hE1350 b1345_An1_1
            refine hn1344 _ _ ?_
            refine hn1343 _ _ ?_
            refine rg0 174 own1350 (bz 3) [⟨[], [8], [], Fct.val 45 (.int .i64 k1320)⟩, ⟨[0], [], [], Fct.val 46 (.int .i64 (ad k1320 1))⟩, ⟨[1], [], [], Fct.val 8 (.int .i64 (ad k1320 1))⟩] hz1350 hd1350 (by kernel_rfl) ?_ ?_
            · refine sc (fun _ _ _ _ s _ => px (or_move (s.1.trans e1350_8))) ?_
              refine sc (fun _ _ _ f _ _ => px (or_add f.1 rfl rfl)) ?_
              refine sc (fun _ _ _ f _ _ => px (or_assign f.1)) ?_
              exact steps_nil
            intro own1351 a1351 w1351 hd1351 hz1351 hk1351 hf1351 hE1351
            have e1351_1 := (hk1351 1 rfl).trans e1350_1
            have e1351_3 := (hk1351 3 rfl).trans e1350_3
            have e1351_4 := (hk1351 4 rfl).trans e1350_4
            have e1351_5 := (hk1351 5 rfl).trans e1350_5
            have e1351_7 := (hk1351 7 rfl).trans e1350_7
            obtain ⟨(e1351_8 : a1351.eval (.tmp 8) = .int .i64 (ad k1320 1)), -⟩ := hf1351 [2] rfl
            have hX1351 := es_ hX1350 hE1351
            have b1351_g1132 := be_ hE1351 b1350_g1132
            have b1351_An1_0 := RdO.evo rfl hE1351 b1350_An1_0
            have b1351_An1_1 := RdO.evo rfl hE1351 b1350_An1_1
            exact hn1336 _ _ _ hs ⟨own1351, hd1351, hz1351, e1351_1, e1351_3, e1351_4, e1351_5, e1351_7, e1351_8, hX1351, b1351_g1132, b1351_An1_0, b1351_An1_1⟩
          refine fl_exit ?_
          refine hp1338 _ _ _ rfl ?_
          replace hs := hz1336 _ hs
          refine hp1336 _ _ _ rfl ?_
          refine hx1302 _ _ ?_
          refine hn1300 _ _ ?_
          refine hn1299 _ _ ?_
          refine rg0 174 own1341 (bz 3) [⟨[], [7], [], Fct.val 35 (.int .i64 i1235)⟩, ⟨[0], [], [], Fct.val 36 (.int .i64 (ad i1235 1))⟩, ⟨[1], [], [], Fct.val 7 (.int .i64 (ad i1235 1))⟩] hz1341 hd1341 (by kernel_rfl) ?_ ?_
          · refine sc (fun _ _ _ _ s _ => px (or_move (s.1.trans e1341_7))) ?_
            refine sc (fun _ _ _ f _ _ => px (or_add f.1 rfl rfl)) ?_
            refine sc (fun _ _ _ f _ _ => px (or_assign f.1)) ?_
            exact steps_nil
          intro own1352 a1352 w1352 hd1352 hz1352 hk1352 hf1352 hE1352
          have e1352_1 := (hk1352 1 rfl).trans e1341_1
          have e1352_3 := (hk1352 3 rfl).trans e1341_3
          have e1352_4 := (hk1352 4 rfl).trans e1341_4
          have e1352_5 := (hk1352 5 rfl).trans e1341_5
          obtain ⟨(e1352_7 : a1352.eval (.tmp 7) = .int .i64 (ad i1235 1)), -⟩ := hf1352 [2] rfl
          have hX1352 := es_ hX1341 hE1352
          have b1352_g1132 := be_ hE1352 b1341_g1132
          have b1352_An1_0 := RdO.evo rfl hE1352 b1341_An1_0
          have b1352_An1_1 := RdO.evo rfl hE1352 b1341_An1_1
          exact hn1294 _ _ _ hs ⟨own1352, hd1352, hz1352, e1352_1, e1352_3, e1352_4, e1352_5, e1352_7, hX1352, b1352_g1132, b1352_An1_0, b1352_An1_1⟩
      refine fl_exit ?_
      refine hp1296 _ _ _ rfl ?_
      replace hs := hz1294 _ hs
      refine hp1294 _ _ _ rfl ?_
      refine hx1174 _ _ ?_
      refine hn1172 _ _ ?_
      refine fl_seq (fun Q1353 hn1353 hp1353 => ?_)
      obtain ⟨x1354, hx1354, hs⟩ := obind hs
      obtain ⟨x1355, hx1355, hs⟩ := obind hs
      obtain ⟨x1356, hx1356, hs⟩ := obind hs
      refine rg0_seq 174 own1297 (bz 22) [⟨[], [1], [], Fct.val 60 (.pointer (some ⟨g1132, 0, none⟩))⟩, ⟨[0], [], [], Fct.val 61 (.slice An1_0 n1.1.length cn1_0)⟩, ⟨[1], [], [], Fct.val 62 (.int .i64 (n1.1.length : Int))⟩, ⟨[2], [], [], Fct.val 63 (.bool (decide (65536 < (n1.1.length : Int))))⟩, ⟨[3], [], [], Fct.val 64 (.bool (decide (65536 < (n1.1.length : Int))))⟩, ⟨[4], [3], [], Fct.cond (!(decide (65536 < (n1.1.length : Int)))) (some 65) (Fct.val 65 (.int .i64 points1149))⟩, ⟨[4, 5], [], [], Fct.cond (!(decide (65536 < (n1.1.length : Int)))) (some 66) (Fct.val 66 (.bool (decide (65536 < points1149))))⟩, ⟨[4, 6], [], [], Fct.val 67 (.bool x1354)⟩, ⟨[7], [], [], Fct.val 68 (.bool x1354)⟩, ⟨[8], [1], [], Fct.cond (!x1354) (some 69) (Fct.val 69 (.pointer (some ⟨g1132, 1, none⟩)))⟩, ⟨[8, 9], [], [], Fct.cond (!x1354) (some 70) (Fct.val 70 (.slice An1_1 n1.2.length cn1_1))⟩, ⟨[8, 10], [], [], Fct.cond (!x1354) (some 71) (Fct.val 71 (.int .i64 (n1.2.length : Int)))⟩, ⟨[8, 11], [], [], Fct.cond (!x1354) (some 72) (Fct.val 72 (.bool (decide (32 < (n1.2.length : Int)))))⟩, ⟨[8, 12], [], [], Fct.val 73 (.bool x1355)⟩, ⟨[13], [], [], Fct.val 74 (.bool x1355)⟩, ⟨[14], [4], [], Fct.cond (!x1355) (some 75) (Fct.val 75 (.int .i64 rings1233))⟩, ⟨[14, 15], [], [], Fct.cond (!x1355) (some 76) (Fct.val 76 (.bool (decide (64 < rings1233))))⟩, ⟨[14, 16], [], [], Fct.val 77 (.bool (x1355 || (decide (64 < rings1233))))⟩, ⟨[17], [], [], Fct.val 78 (.bool (x1355 || (decide (64 < rings1233))))⟩, ⟨[18], [5], [], Fct.cond (!(x1355 || (decide (64 < rings1233)))) (some 79) (Fct.val 79 (.int .i64 refs1234))⟩, ⟨[18, 19], [], [], Fct.cond (!(x1355 || (decide (64 < rings1233)))) (some 80) (Fct.val 80 (.bool (decide (65536 < refs1234))))⟩, ⟨[18, 20], [], [], Fct.val 81 (.bool x1356)⟩] hz1297 hd1297 (by kernel_rfl) ?_ ?_
      · refine sc (fun _ _ _ _ s _ => px (or_field fo38_0 (s.1.trans e1297_1) (by rfl))) ?_
        refine sc (fun _ _ _ f _ hE => px (or_load1 to36 f.1 (Blk.at_ (be_ hE b1297_g1132).2 0 rfl))) ?_
        refine sc (fun _ _ _ f _ _ => px (or_len tu36 f.1 rfl)) ?_
        refine sc (fun _ _ _ f _ _ => px (or_gtr f.1 rfl rfl)) ?_
        refine sc (fun _ _ _ f _ _ => px (or_move f.1)) ?_
        refine sc (fun _ _ _ f s _ => sg_f rfl rfl rfl f.1 (fun hg => or_move (s.1.trans e1297_3))) ?_
        refine sc (fun _ _ _ f _ _ => sg_f rfl rfl rfl f.1 (fun hg => or_gtr (f.2.1.1 hg) rfl rfl)) ?_
        refine sc (fun _ _ _ f _ _ => px (or_or f.1 rfl (fun hx => f.2.1.1 hx) (osome hx1354).symm)) ?_
        refine sc (fun _ _ _ f _ _ => px (or_move f.1)) ?_
        refine sc (fun _ _ _ f s _ => sg_f rfl rfl rfl f.1 (fun hg => or_field fo38_1 (s.1.trans e1297_1) (by rfl))) ?_
        refine sc (fun _ _ _ f _ hE => sg_f rfl rfl rfl f.1 (fun hg => or_load1 to23 (f.2.1.1 hg) (Blk.at_ (be_ hE b1297_g1132).2 1 rfl))) ?_
        refine sc (fun _ _ _ f _ _ => sg_f rfl rfl rfl f.1 (fun hg => or_len tu23 (f.2.1.1 hg) rfl)) ?_
        refine sc (fun _ _ _ f _ _ => sg_f rfl rfl rfl f.1 (fun hg => or_gtr (f.2.1.1 hg) rfl rfl)) ?_
        refine sc (fun _ _ _ f _ _ => px (or_or f.1 rfl (fun hx => f.2.1.1 hx) (osome hx1355).symm)) ?_
        refine sc (fun _ _ _ f _ _ => px (or_move f.1)) ?_
        refine sc (fun _ _ _ f s _ => sg_f rfl rfl rfl f.1 (fun hg => or_move (s.1.trans e1297_4))) ?_
        refine sc (fun _ _ _ f _ _ => sg_f rfl rfl rfl f.1 (fun hg => or_gtr (f.2.1.1 hg) rfl rfl)) ?_
        refine sc (fun _ _ _ f _ _ => px (or_or f.1 rfl (fun hx => f.2.1.1 hx) rfl)) ?_
        refine sc (fun _ _ _ f _ _ => px (or_move f.1)) ?_
        refine sc (fun _ _ _ f s _ => sg_f rfl rfl rfl f.1 (fun hg => or_move (s.1.trans e1297_5))) ?_
        refine sc (fun _ _ _ f _ _ => sg_f rfl rfl rfl f.1 (fun hg => or_gtr (f.2.1.1 hg) rfl rfl)) ?_
        refine sc (fun _ _ _ f _ _ => px (or_or f.1 rfl (fun hx => f.2.1.1 hx) (osome hx1356).symm)) ?_
        exact steps_nil
      intro own1357 a1357 w1357 hd1357 hz1357 hk1357 hf1357 hE1357
      have e1357_1 := (hk1357 1 rfl).trans e1297_1
      obtain ⟨(e1357_81 : a1357.eval (.tmp 81) = .bool x1356), -⟩ := hf1357 [21] rfl
      have hX1357 := es_ hX1297 hE1357
      have b1357_g1132 := be_ hE1357 b1297_g1132
      have b1357_An1_0 := RdO.evo rfl hE1357 b1297_An1_0
      have b1357_An1_1 := RdO.evo rfl hE1357 b1297_An1_1
      refine fl_cond e1357_81 hs (fun c1358 hs => ?_) (fun c1358 hs => ?_)
      · refine rg0_seq 174 own1357 (bz 1) [⟨[], [], [], Fct.val 2 (.int .i64 6)⟩] hz1357 hd1357 (by kernel_rfl) ?_ ?_
        · refine sc (fun _ _ _ _ _ _ => px (or_assign rfl)) ?_
          exact steps_nil
        intro own1359 a1359 w1359 hd1359 hz1359 hk1359 hf1359 hE1359
        obtain ⟨(e1359_2 : a1359.eval (.tmp 2) = .int .i64 6), -⟩ := hf1359 [0] rfl
        have hX1359 := es_ hX1357 hE1359
        refine fl_ret ?_
        refine hp1353 _ _ _ rfl ?_
        obtain rfl := osome hs
        exact hret _ _ _ _ (.inl rfl) hd1359 (results1_ rfl (RVal.tmp_ e1359_2)) ⟨own1359, rfl, hX1359⟩
      refine fl_skip ?_
      refine hn1353 _ _ ?_
      refine fl_seq (fun Q1360 hn1360 hp1360 => ?_)
      refine rg0_seq 174 own1357 (bz 1) [⟨[], [], [], Fct.val 9 (.int .i64 0)⟩] hz1357 hd1357 (by kernel_rfl) ?_ ?_
      · refine sc (fun _ _ _ _ _ _ => px (or_assign rfl)) ?_
        exact steps_nil
      intro own1361 a1361 w1361 hd1361 hz1361 hk1361 hf1361 hE1361
      have e1361_1 := (hk1361 1 rfl).trans e1357_1
      obtain ⟨(e1361_9 : a1361.eval (.tmp 9) = .int .i64 0), -⟩ := hf1361 [0] rfl
      have hX1361 := es_ hX1357 hE1361
      have b1361_g1132 := be_ hE1361 b1357_g1132
      have b1361_An1_0 := RdO.evo rfl hE1361 b1357_An1_0
      have b1361_An1_1 := RdO.evo rfl hE1361 b1357_An1_1
      refine fl_block (fun Q1362 hn1362 hx1362 hp1362 => ?_)
      refine fl_loop (body := (fun s => ref26_Check_b4 n1 s)) (z := r) (show loopO _ _ = _ from hs) (fun (i1382 : Int) a wx => ∃ (ox : Own), a.defers = [] ∧ a.tmps.size = 174 ∧ a.eval (.tmp 1) = .pointer (some ⟨g1132, 0, none⟩) ∧ a.eval (.tmp 9) = .int .i64 i1382 ∧ Evo [] (fun _ => 0) ox w wx ∧ BlkO ox 1133 wx g1132 38 #[.slice An1_0 n1.1.length cn1_0, .slice An1_1 n1.2.length cn1_1] ∧ RdO ox [0] wx R78 An1_0 cn1_0 n1.1 ∧ RdO ox [0] wx R27 An1_1 cn1_1 n1.2) ?_ ?_
      · exact ⟨own1361, hd1361, hz1361, e1361_1, e1361_9, hX1361, b1361_g1132, b1361_An1_0, b1361_An1_1⟩
      · rintro i1382 zz1402 a1402 w1402 ⟨own1402, hd1403, hz1403, e1403_1, e1403_9, hE1403, b1403_g1132, b1403_An1_0, b1403_An1_1⟩ hs Q1402 hn1402 hp1402 hz1402
        have hs : ref26_Check_b4 n1 i1382 = some zz1402 := hs
        refine fl_seq (fun Q1404 hn1404 hp1404 => ?_)
        refine rg0_seq 174 own1402 [0, 0, 2, 6, 15] [⟨[], [9], [], Fct.val 82 (.int .i64 i1382)⟩, ⟨[], [1], [], Fct.val 83 (.pointer (some ⟨g1132, 0, none⟩))⟩, ⟨[1], [], [], Fct.val 84 (.slice An1_0 n1.1.length cn1_0)⟩, ⟨[2], [], [], Fct.val 85 (.int .i64 (n1.1.length : Int))⟩, ⟨[0, 3], [], [], Fct.val 86 (.bool (decide (i1382 < (n1.1.length : Int))))⟩] hz1403 hd1403 (by kernel_rfl) ?_ ?_
        · refine sc (fun _ _ _ _ s _ => px (or_move (s.1.trans e1403_9))) ?_
          refine sc (fun _ _ _ _ s _ => px (or_field fo38_0 (s.1.trans e1403_1) (by rfl))) ?_
          refine sc (fun _ _ _ f _ hE => px (or_load1 to36 f.1 (Blk.at_ (be_ hE b1403_g1132).2 0 rfl))) ?_
          refine sc (fun _ _ _ f _ _ => px (or_len tu36 f.1 rfl)) ?_
          refine sc (fun _ _ _ f _ _ => px (or_lss f.1 f.2.1 rfl)) ?_
          exact steps_nil
        intro own1405 a1405 w1405 hd1405 hz1405 hk1405 hf1405 hE1405
        have e1405_1 := (hk1405 1 rfl).trans e1403_1
        have e1405_9 := (hk1405 9 rfl).trans e1403_9
        obtain ⟨(e1405_86 : a1405.eval (.tmp 86) = .bool (decide (i1382 < (n1.1.length : Int)))), -⟩ := hf1405 [4] rfl
        have hX1405 := es_ hE1403 hE1405
        have b1405_g1132 := be_ hE1405 b1403_g1132
        have b1405_An1_0 := RdO.evo rfl hE1405 b1403_An1_0
        have b1405_An1_1 := RdO.evo rfl hE1405 b1403_An1_1
        refine fl_cond e1405_86 hs (fun c1406 hs => ?_) (fun c1406 hs => ?_)
        · refine fl_skip ?_
          refine hn1404 _ _ ?_
          refine fl_seq (fun Q1407 hn1407 hp1407 => ?_)
          refine fl_block (fun Q1408 hn1408 hx1408 hp1408 => ?_)
          obtain ⟨x1409, hx1409, hs⟩ := obind hs
          refine rg_plain_seq (n := 174) (rs := []) (own0 := own1405) (K := [1412]) (bs := [0, 1, 0, 7, 15, 0, 63]) (ds := [⟨[], [1], [], Fct.val 89 (.pointer (some ⟨g1132, 0, none⟩))⟩, ⟨[0], [], [], Fct.val 90 (.slice An1_0 n1.1.length cn1_0)⟩, ⟨[], [9], [], Fct.val 91 (.int .i64 i1382)⟩, ⟨[1, 2], [], [], Fct.val 92 (.pointer (some ((adr An1_0).add ((i1382 : Int).toNat * R78.s))))⟩, ⟨[3], [], [], Fct.nest X78 [0] 93 (fun (y : ((Option Addr × Nat) × Unit × Unit)) => .agg #[.slice y.1.1 x1409.1.length y.1.2, .int .i64 x1409.2.1, .int .i64 x1409.2.2]) x1409⟩, ⟨[], [], [], Fct.blk 1412 10 (fun g => .pointer (some ⟨g, 0, none⟩)) 78 #[.slice none 0 0, .int .i64 0, .int .i64 0]⟩, ⟨[5, 4], [], [1412], Fct.by_ [1413] [10, 93] (fun l own w => ∃ g1411 : Nat, l.getD 0 undef = .pointer (some ⟨g1411, 0, none⟩) ∧ (∀ (A1410 : Option Addr) (cA1410 : Nat), l.getD 1 undef = .agg #[.slice A1410 x1409.1.length cA1410, .int .i64 x1409.2.1, .int .i64 x1409.2.2] → BlkO own 1413 w g1411 78 #[.slice A1410 x1409.1.length cA1410, .int .i64 x1409.2.1, .int .i64 x1409.2.2])) (fun hk he h => by obtain ⟨g, e, h⟩ := h; exact ⟨g, e, fun _ _ h0' => BlkO.evo (not_hit hk (by decide)) he (h _ _ h0')⟩)⟩]) (by kernel_rfl) hz1405 hd1405 nm_ ?_ ?_
          · refine sc (fun _ _ _ _ s _ => px (or_field fo38_0 (s.1.trans e1405_1) (by rfl))) ?_
            refine sc (fun _ _ _ f _ hE => px (or_load1 to36 f.1 (Blk.at_ (be_ hE b1405_g1132).2 0 rfl))) ?_
            refine sc (fun _ _ _ _ s _ => px (or_move (s.1.trans e1405_9))) ?_
            refine sc (fun _ _ _ f _ _ => px (or_index (R := R78) (l := n1.1) tl36 f.1 f.2.1 (RdO.some_ b1405_An1_0 hx1409) hx1409)) ?_
            refine sc (fun _ _ _ f _ hE => px (or_loadN X78 0 3 ta78 f.1 (Addr.add_zero' _).symm (RdO.evo rfl hE b1405_An1_0) hx1409 (fun _ => rfl) (fun _ => rfl))) ?_
            refine sc (fun _ _ _ _ _ _ => px (or_new [] rfl rfl trivial (by kernel_rfl))) ?_
            refine sc (fun own a wx hf hsl hE => ?_) ?_
            · obtain ⟨⟨g1411, f_10, b_g1411⟩, ⟨⟨⟨A1410, cA1410⟩, _, _⟩, (f_93 : a.eval (.tmp 93) = .agg #[.slice A1410 x1409.1.length cA1410, .int .i64 x1409.2.1, .int .i64 x1409.2.2]), ⟨b_A1410, -, -⟩⟩, -⟩ := hf
              exact px (or_store (l := #[.slice A1410 x1409.1.length cA1410, .int .i64 x1409.2.1, .int .i64 x1409.2.2]) (lab := 1412) (lab2 := 1413) ts78 f_10 f_93 b_g1411 (by simp) (by kernel_rfl) (mem_of rfl) (by decide) (by kernel_rfl) (fun own' a' w' ha hb => ⟨_, (ha 10).trans f_10, fun _ _ h0' => by cases (f_93.symm.trans ((ha 93).symm.trans h0')); exact hb⟩))
            exact steps_nil
          intro own1414 a1414 w1414 hd1414 hz1414 hk1414 hf1414 hE1414
          have e1414_1 := (hk1414 1 rfl).trans e1405_1
          have e1414_9 := (hk1414 9 rfl).trans e1405_9
          obtain ⟨⟨⟨⟨A1410, cA1410⟩, _, _⟩, (f_93 : a1414.eval (.tmp 93) = .agg #[.slice A1410 x1409.1.length cA1410, .int .i64 x1409.2.1, .int .i64 x1409.2.2]), ⟨(b1414_A1410 : RdO own1414 [0] w1414 R73 A1410 cA1410 x1409.1), -, -⟩⟩, ⟨g1411, (e1414_10 : a1414.eval (.tmp 10) = .pointer (some ⟨g1411, 0, none⟩)), (bq_g1411 : ∀ (A1410 : Option Addr) (cA1410 : Nat), a1414.eval (.tmp 93) = .agg #[.slice A1410 x1409.1.length cA1410, .int .i64 x1409.2.1, .int .i64 x1409.2.2] → BlkO own1414 1413 w1414 g1411 78 #[.slice A1410 x1409.1.length cA1410, .int .i64 x1409.2.1, .int .i64 x1409.2.2])⟩, -⟩ := hf1414 [4, 6] rfl
          have b1414_g1411 := bq_g1411 _ _ f_93
          have hX1414 := es_ hX1405 hE1414
          have b1414_g1132 := be_ hE1414 b1405_g1132
          have b1414_An1_0 := RdO.evo rfl hE1414 b1405_An1_0
          have b1414_An1_1 := RdO.evo rfl hE1414 b1405_An1_1
          obtain ⟨x1415, hx1415, hs⟩ := obind hs
          obtain ⟨x1416, hx1416, hs⟩ := obind hs
          obtain ⟨r1417, hr1417, hs⟩ := obind hs
          refine rg0_seq 174 own1414 (bz 24) [⟨[], [10], [], Fct.val 94 (.pointer (some ⟨g1411, 1, none⟩))⟩, ⟨[0], [], [], Fct.val 95 (.int .i64 x1409.2.1)⟩, ⟨[1], [], [], Fct.val 96 (.bool (decide (x1409.2.1 < 0)))⟩, ⟨[2], [], [], Fct.val 97 (.bool (decide (x1409.2.1 < 0)))⟩, ⟨[3], [10], [], Fct.cond (!(decide (x1409.2.1 < 0))) (some 98) (Fct.val 98 (.pointer (some ⟨g1411, 1, none⟩)))⟩, ⟨[3, 4], [], [], Fct.cond (!(decide (x1409.2.1 < 0))) (some 99) (Fct.val 99 (.int .i64 x1409.2.1))⟩, ⟨[3, 5], [], [], Fct.cond (!(decide (x1409.2.1 < 0))) (some 100) (Fct.val 100 (.bool (decide (32 < x1409.2.1))))⟩, ⟨[3, 6], [], [], Fct.val 101 (.bool x1415)⟩, ⟨[7], [], [], Fct.val 102 (.bool x1415)⟩, ⟨[8], [10], [], Fct.cond (!x1415) (some 103) (Fct.val 103 (.pointer (some ⟨g1411, 2, none⟩)))⟩, ⟨[8, 9], [], [], Fct.cond (!x1415) (some 104) (Fct.val 104 (.int .i64 x1409.2.2))⟩, ⟨[8, 10], [], [], Fct.cond (!x1415) (some 105) (Fct.val 105 (.bool (decide (x1409.2.2 < 0))))⟩, ⟨[8, 11], [], [], Fct.val 106 (.bool (x1415 || (decide (x1409.2.2 < 0))))⟩, ⟨[12], [], [], Fct.val 107 (.bool (x1415 || (decide (x1409.2.2 < 0))))⟩, ⟨[13], [10], [], Fct.cond (!(x1415 || (decide (x1409.2.2 < 0)))) (some 108) (Fct.val 108 (.pointer (some ⟨g1411, 2, none⟩)))⟩, ⟨[13, 14], [], [], Fct.cond (!(x1415 || (decide (x1409.2.2 < 0)))) (some 109) (Fct.val 109 (.int .i64 x1409.2.2))⟩, ⟨[13, 15], [], [], Fct.cond (!(x1415 || (decide (x1409.2.2 < 0)))) (some 110) (Fct.val 110 (.bool (decide (32 < x1409.2.2))))⟩, ⟨[13, 16], [], [], Fct.val 111 (.bool x1416)⟩, ⟨[17], [], [], Fct.val 112 (.bool x1416)⟩, ⟨[18], [10], [], Fct.cond (!x1416) (some 113) (Fct.val 113 (.pointer (some ⟨g1411, 0, none⟩)))⟩, ⟨[18, 19], [], [], Fct.cond (!x1416) (some 114) (Fct.val 114 (.slice A1410 x1409.1.length cA1410))⟩, ⟨[18, 20], [], [], Fct.cond (!x1416) (some 115) (Fct.val 115 (.bool r1417))⟩, ⟨[18, 21], [], [], Fct.cond (!x1416) (some 116) (Fct.val 116 (.bool (!r1417)))⟩, ⟨[18, 22], [], [], Fct.val 117 (.bool (x1416 || (!r1417)))⟩] hz1414 hd1414 (by kernel_rfl) ?_ ?_
          · refine sc (fun _ _ _ _ s _ => px (or_field fo78_1 (s.1.trans e1414_10) (by rfl))) ?_
            refine sc (fun _ _ _ f _ hE => px (or_load1 to3 f.1 (Blk.at_ (be_ hE b1414_g1411).2 1 rfl))) ?_
            refine sc (fun _ _ _ f _ _ => px (or_lss f.1 rfl rfl)) ?_
            refine sc (fun _ _ _ f _ _ => px (or_move f.1)) ?_
            refine sc (fun _ _ _ f s _ => sg_f rfl rfl rfl f.1 (fun hg => or_field fo78_1 (s.1.trans e1414_10) (by rfl))) ?_
            refine sc (fun _ _ _ f _ hE => sg_f rfl rfl rfl f.1 (fun hg => or_load1 to3 (f.2.1.1 hg) (Blk.at_ (be_ hE b1414_g1411).2 1 rfl))) ?_
            refine sc (fun _ _ _ f _ _ => sg_f rfl rfl rfl f.1 (fun hg => or_gtr (f.2.1.1 hg) rfl rfl)) ?_
            refine sc (fun _ _ _ f _ _ => px (or_or f.1 rfl (fun hx => f.2.1.1 hx) (osome hx1415).symm)) ?_
            refine sc (fun _ _ _ f _ _ => px (or_move f.1)) ?_
            refine sc (fun _ _ _ f s _ => sg_f rfl rfl rfl f.1 (fun hg => or_field fo78_2 (s.1.trans e1414_10) (by rfl))) ?_
            refine sc (fun _ _ _ f _ hE => sg_f rfl rfl rfl f.1 (fun hg => or_load1 to3 (f.2.1.1 hg) (Blk.at_ (be_ hE b1414_g1411).2 2 rfl))) ?_
            refine sc (fun _ _ _ f _ _ => sg_f rfl rfl rfl f.1 (fun hg => or_lss (f.2.1.1 hg) rfl rfl)) ?_
            refine sc (fun _ _ _ f _ _ => px (or_or f.1 rfl (fun hx => f.2.1.1 hx) rfl)) ?_
            refine sc (fun _ _ _ f _ _ => px (or_move f.1)) ?_
            refine sc (fun _ _ _ f s _ => sg_f rfl rfl rfl f.1 (fun hg => or_field fo78_2 (s.1.trans e1414_10) (by rfl))) ?_
            refine sc (fun _ _ _ f _ hE => sg_f rfl rfl rfl f.1 (fun hg => or_load1 to3 (f.2.1.1 hg) (Blk.at_ (be_ hE b1414_g1411).2 2 rfl))) ?_
            refine sc (fun _ _ _ f _ _ => sg_f rfl rfl rfl f.1 (fun hg => or_gtr (f.2.1.1 hg) rfl rfl)) ?_
            refine sc (fun _ _ _ f _ _ => px (or_or f.1 rfl (fun hx => f.2.1.1 hx) (osome hx1416).symm)) ?_
            refine sc (fun _ _ _ f _ _ => px (or_move f.1)) ?_
            refine sc (fun _ _ _ f s _ => sg_f rfl rfl rfl f.1 (fun hg => or_field fo78_0 (s.1.trans e1414_10) (by rfl))) ?_
            refine sc (fun _ _ _ f _ hE => sg_f rfl rfl rfl f.1 (fun hg => or_load1 to76 (f.2.1.1 hg) (Blk.at_ (be_ hE b1414_g1411).2 0 rfl))) ?_
            refine sc (fun _ _ _ f _ hE => sg_f rfl rfl rfl f.1 (fun hg => or_call cf34 (args1 (f.2.1.1 hg)) (ref01_All_w _ x1409.1 A1410 cA1410 (RdO.zero (RdO.evo rfl hE b1414_A1410)) r1417 (gd_t hr1417 hg)) post_val)) ?_
            refine sc (fun _ _ _ f _ _ => sg_f rfl rfl rfl f.1 (fun hg => or_not (f.2.1.1 hg) rfl)) ?_
            refine sc (fun _ _ _ f _ _ => px (or_or f.1 rfl (fun hx => f.2.1.1 hx) rfl)) ?_
            exact steps_nil
          intro own1418 a1418 w1418 hd1418 hz1418 hk1418 hf1418 hE1418
          have e1418_1 := (hk1418 1 rfl).trans e1414_1
          have e1418_9 := (hk1418 9 rfl).trans e1414_9
          obtain ⟨(e1418_117 : a1418.eval (.tmp 117) = .bool (x1416 || (!r1417))), -⟩ := hf1418 [23] rfl
          have hX1418 := es_ hX1414 hE1418
          have b1418_g1132 := be_ hE1418 b1414_g1132
          have b1418_An1_0 := RdO.evo rfl hE1418 b1414_An1_0
          have b1418_An1_1 := RdO.evo rfl hE1418 b1414_An1_1
          refine fl_cond e1418_117 hs (fun c1419 hs => ?_) (fun c1419 hs => ?_)
          · refine rg0_seq 174 own1418 (bz 1) [⟨[], [], [], Fct.val 2 (.int .i64 5)⟩] hz1418 hd1418 (by kernel_rfl) ?_ ?_
            · refine sc (fun _ _ _ _ _ _ => px (or_assign rfl)) ?_
              exact steps_nil
            intro own1420 a1420 w1420 hd1420 hz1420 hk1420 hf1420 hE1420
            obtain ⟨(e1420_2 : a1420.eval (.tmp 2) = .int .i64 5), -⟩ := hf1420 [0] rfl
            have hX1420 := es_ hX1418 hE1420
            refine fl_ret ?_
            refine hp1408 _ _ _ rfl ?_
            refine hp1407 _ _ _ rfl ?_
            replace hs := hz1402 _ hs
            refine hp1402 _ _ _ rfl ?_
            refine hp1362 _ _ _ rfl ?_
            refine hp1360 _ _ _ rfl ?_
            obtain rfl := osome hs
            exact hret _ _ _ _ (.inl rfl) hd1420 (results1_ rfl (RVal.tmp_ e1420_2)) ⟨own1420, rfl, hX1420⟩
          refine fl_skip ?_
          refine hn1408 _ _ ?_
          refine hn1407 _ _ ?_
          refine rg0 174 own1418 (bz 3) [⟨[], [9], [], Fct.val 87 (.int .i64 i1382)⟩, ⟨[0], [], [], Fct.val 88 (.int .i64 (ad i1382 1))⟩, ⟨[1], [], [], Fct.val 9 (.int .i64 (ad i1382 1))⟩] hz1418 hd1418 (by kernel_rfl) ?_ ?_
          · refine sc (fun _ _ _ _ s _ => px (or_move (s.1.trans e1418_9))) ?_
            refine sc (fun _ _ _ f _ _ => px (or_add f.1 rfl rfl)) ?_
            refine sc (fun _ _ _ f _ _ => px (or_assign f.1)) ?_
            exact steps_nil
          intro own1421 a1421 w1421 hd1421 hz1421 hk1421 hf1421 hE1421
          have e1421_1 := (hk1421 1 rfl).trans e1418_1
          obtain ⟨(e1421_9 : a1421.eval (.tmp 9) = .int .i64 (ad i1382 1)), -⟩ := hf1421 [2] rfl
          have hX1421 := es_ hX1418 hE1421
          have b1421_g1132 := be_ hE1421 b1418_g1132
          have b1421_An1_0 := RdO.evo rfl hE1421 b1418_An1_0
          have b1421_An1_1 := RdO.evo rfl hE1421 b1418_An1_1
          exact hn1402 _ _ _ hs ⟨own1421, hd1421, hz1421, e1421_1, e1421_9, hX1421, b1421_g1132, b1421_An1_0, b1421_An1_1⟩
        refine fl_exit ?_
        refine hp1404 _ _ _ rfl ?_
        replace hs := hz1402 _ hs
        refine hp1402 _ _ _ rfl ?_
        refine hx1362 _ _ ?_
        refine hn1360 _ _ ?_
        refine fl_seq (fun Q1422 hn1422 hp1422 => ?_)
        refine rg0_seq 174 own1405 (bz 1) [⟨[], [], [], Fct.val 11 (.int .i64 0)⟩] hz1405 hd1405 (by kernel_rfl) ?_ ?_
        · refine sc (fun _ _ _ _ _ _ => px (or_assign rfl)) ?_
          exact steps_nil
        intro own1423 a1423 w1423 hd1423 hz1423 hk1423 hf1423 hE1423
        have e1423_1 := (hk1423 1 rfl).trans e1405_1
        obtain ⟨(e1423_11 : a1423.eval (.tmp 11) = .int .i64 0), -⟩ := hf1423 [0] rfl
        have hX1423 := es_ hX1405 hE1423
        have b1423_g1132 := be_ hE1423 b1405_g1132
        have b1423_An1_0 := RdO.evo rfl hE1423 b1405_An1_0
        have b1423_An1_1 := RdO.evo rfl hE1423 b1405_An1_1
        refine fl_block (fun Q1424 hn1424 hx1424 hp1424 => ?_)
        refine fl_loop (body := (fun s => ref26_Check_b5 n1 s)) (z := r) (show loopO _ _ = _ from hs) (fun (i1700 : Int) a wx => ∃ (ox : Own), a.defers = [] ∧ a.tmps.size = 174 ∧ a.eval (.tmp 1) = .pointer (some ⟨g1132, 0, none⟩) ∧ a.eval (.tmp 11) = .int .i64 i1700 ∧ Evo [] (fun _ => 0) ox w wx ∧ BlkO ox 1133 wx g1132 38 #[.slice An1_0 n1.1.length cn1_0, .slice An1_1 n1.2.length cn1_1] ∧ RdO ox [0] wx R78 An1_0 cn1_0 n1.1 ∧ RdO ox [0] wx R27 An1_1 cn1_1 n1.2) ?_ ?_
        · exact ⟨own1423, hd1423, hz1423, e1423_1, e1423_11, hX1423, b1423_g1132, b1423_An1_0, b1423_An1_1⟩
        · rintro i1700 zz1976 a1976 w1976 ⟨own1976, hd1977, hz1977, e1977_1, e1977_11, hE1977, b1977_g1132, b1977_An1_0, b1977_An1_1⟩ hs Q1976 hn1976 hp1976 hz1976
          have hs : ref26_Check_b5 n1 i1700 = some zz1976 := hs
          refine fl_seq (fun Q1978 hn1978 hp1978 => ?_)
          refine rg0_seq 174 own1976 [0, 0, 2, 6, 15] [⟨[], [11], [], Fct.val 118 (.int .i64 i1700)⟩, ⟨[], [1], [], Fct.val 119 (.pointer (some ⟨g1132, 1, none⟩))⟩, ⟨[1], [], [], Fct.val 120 (.slice An1_1 n1.2.length cn1_1)⟩, ⟨[2], [], [], Fct.val 121 (.int .i64 (n1.2.length : Int))⟩, ⟨[0, 3], [], [], Fct.val 122 (.bool (decide (i1700 < (n1.2.length : Int))))⟩] hz1977 hd1977 (by kernel_rfl) ?_ ?_
          · refine sc (fun _ _ _ _ s _ => px (or_move (s.1.trans e1977_11))) ?_
            refine sc (fun _ _ _ _ s _ => px (or_field fo38_1 (s.1.trans e1977_1) (by rfl))) ?_
            refine sc (fun _ _ _ f _ hE => px (or_load1 to23 f.1 (Blk.at_ (be_ hE b1977_g1132).2 1 rfl))) ?_
            refine sc (fun _ _ _ f _ _ => px (or_len tu23 f.1 rfl)) ?_
            refine sc (fun _ _ _ f _ _ => px (or_lss f.1 f.2.1 rfl)) ?_
            exact steps_nil
          intro own1979 a1979 w1979 hd1979 hz1979 hk1979 hf1979 hE1979
          have e1979_1 := (hk1979 1 rfl).trans e1977_1
          have e1979_11 := (hk1979 11 rfl).trans e1977_11
          obtain ⟨(e1979_122 : a1979.eval (.tmp 122) = .bool (decide (i1700 < (n1.2.length : Int)))), -⟩ := hf1979 [4] rfl
          have hX1979 := es_ hE1977 hE1979
          have b1979_g1132 := be_ hE1979 b1977_g1132
          have b1979_An1_0 := RdO.evo rfl hE1979 b1977_An1_0
          have b1979_An1_1 := RdO.evo rfl hE1979 b1977_An1_1
          refine fl_cond e1979_122 hs (fun c1980 hs => ?_) (fun c1980 hs => ?_)
          · refine fl_skip ?_
            refine hn1978 _ _ ?_
            refine fl_seq (fun Q1981 hn1981 hp1981 => ?_)
            refine fl_block (fun Q1982 hn1982 hx1982 hp1982 => ?_)
            refine rg0_seq 174 own1979 (bz 1) [⟨[], [], [], Fct.val 12 (.int .i64 0)⟩] hz1979 hd1979 (by kernel_rfl) ?_ ?_
            · refine sc (fun _ _ _ _ _ _ => px (or_assign rfl)) ?_
              exact steps_nil
            intro own1983 a1983 w1983 hd1983 hz1983 hk1983 hf1983 hE1983
            have e1983_1 := (hk1983 1 rfl).trans e1979_1
            have e1983_11 := (hk1983 11 rfl).trans e1979_11
            obtain ⟨(e1983_12 : a1983.eval (.tmp 12) = .int .i64 0), -⟩ := hf1983 [0] rfl
            have hX1983 := es_ hX1979 hE1983
            have b1983_g1132 := be_ hE1983 b1979_g1132
            have b1983_An1_0 := RdO.evo rfl hE1983 b1979_An1_0
            have b1983_An1_1 := RdO.evo rfl hE1983 b1979_An1_1
            refine fl_block (fun Q1984 hn1984 hx1984 hp1984 => ?_)
            refine fl_loop (body := (fun s => ref26_Check_b6 n1 i1700 s)) (z := zz1976) (show loopO _ _ = _ from hs) (fun (k2073 : Int) a wx => ∃ (ox : Own), a.defers = [] ∧ a.tmps.size = 174 ∧ a.eval (.tmp 1) = .pointer (some ⟨g1132, 0, none⟩) ∧ a.eval (.tmp 11) = .int .i64 i1700 ∧ a.eval (.tmp 12) = .int .i64 k2073 ∧ Evo [] (fun _ => 0) ox w wx ∧ BlkO ox 1133 wx g1132 38 #[.slice An1_0 n1.1.length cn1_0, .slice An1_1 n1.2.length cn1_1] ∧ RdO ox [0] wx R78 An1_0 cn1_0 n1.1 ∧ RdO ox [0] wx R27 An1_1 cn1_1 n1.2) ?_ ?_
            · exact ⟨own1983, hd1983, hz1983, e1983_1, e1983_11, e1983_12, hX1983, b1983_g1132, b1983_An1_0, b1983_An1_1⟩
            · rintro k2073 zz2162 a2162 w2162 ⟨own2162, hd2163, hz2163, e2163_1, e2163_11, e2163_12, hE2163, b2163_g1132, b2163_An1_0, b2163_An1_1⟩ hs Q2162 hn2162 hp2162 hz2162
              have hs : ref26_Check_b6 n1 i1700 k2073 = some zz2162 := hs
              refine fl_seq (fun Q2164 hn2164 hp2164 => ?_)
              obtain ⟨x2165, hx2165, hs⟩ := obind hs
              refine rg0_seq 174 own2162 [0, 0, 2, 0, 14, 30, 62, 127] [⟨[], [12], [], Fct.val 125 (.int .i64 k2073)⟩, ⟨[], [1], [], Fct.val 126 (.pointer (some ⟨g1132, 1, none⟩))⟩, ⟨[1], [], [], Fct.val 127 (.slice An1_1 n1.2.length cn1_1)⟩, ⟨[], [11], [], Fct.val 128 (.int .i64 i1700)⟩, ⟨[2, 3], [], [], Fct.val 129 (.pointer (some ((adr An1_1).add ((i1700 : Int).toNat * R27.s))))⟩, ⟨[4], [], [], Fct.nest X27 [0] 130 (fun (y : (Option Addr × Nat)) => .slice y.1 x2165.length y.2) x2165⟩, ⟨[5], [], [], Fct.val 131 (.int .i64 (x2165.length : Int))⟩, ⟨[0, 6], [], [], Fct.val 132 (.bool (decide (k2073 < (x2165.length : Int))))⟩] hz2163 hd2163 (by kernel_rfl) ?_ ?_
              · refine sc (fun _ _ _ _ s _ => px (or_move (s.1.trans e2163_12))) ?_
                refine sc (fun _ _ _ _ s _ => px (or_field fo38_1 (s.1.trans e2163_1) (by rfl))) ?_
                refine sc (fun _ _ _ f _ hE => px (or_load1 to23 f.1 (Blk.at_ (be_ hE b2163_g1132).2 1 rfl))) ?_
                refine sc (fun _ _ _ _ s _ => px (or_move (s.1.trans e2163_11))) ?_
                refine sc (fun _ _ _ f _ _ => px (or_index (R := R27) (l := n1.2) tl23 f.1 f.2.1 (RdO.some_ b2163_An1_1 hx2165) hx2165)) ?_
                refine sc (fun _ _ _ f _ hE => px (or_loadN1 X27 0 to27 f.1 (Addr.add_zero' _).symm (RdO.evo rfl hE b2163_An1_1) hx2165 (fun _ => rfl))) ?_
                refine sc (fun own a wx hf hsl hE => ?_) ?_
                · obtain ⟨⟨⟨A2166, cA2166⟩, f_130, b_A2166⟩, -⟩ := hf
                  exact px (or_len tu27 f_130 rfl)
                refine sc (fun _ _ _ f _ _ => px (or_lss f.1 f.2.1 rfl)) ?_
                exact steps_nil
              intro own2167 a2167 w2167 hd2167 hz2167 hk2167 hf2167 hE2167
              have e2167_1 := (hk2167 1 rfl).trans e2163_1
              have e2167_11 := (hk2167 11 rfl).trans e2163_11
              have e2167_12 := (hk2167 12 rfl).trans e2163_12
              obtain ⟨(e2167_132 : a2167.eval (.tmp 132) = .bool (decide (k2073 < (x2165.length : Int)))), -⟩ := hf2167 [7] rfl
              have hX2167 := es_ hE2163 hE2167
              have b2167_g1132 := be_ hE2167 b2163_g1132
              have b2167_An1_0 := RdO.evo rfl hE2167 b2163_An1_0
              have b2167_An1_1 := RdO.evo rfl hE2167 b2163_An1_1
              refine fl_cond e2167_132 hs (fun c2168 hs => ?_) (fun c2168 hs => ?_)
              · refine fl_skip ?_
                refine hn2164 _ _ ?_
                refine fl_seq (fun Q2169 hn2169 hp2169 => ?_)
                refine fl_block (fun Q2170 hn2170 hx2170 hp2170 => ?_)
                refine rg0_seq 174 own2167 (bz 1) [⟨[], [], [], Fct.val 13 (.int .i64 0)⟩] hz2167 hd2167 (by kernel_rfl) ?_ ?_
                · refine sc (fun _ _ _ _ _ _ => px (or_assign rfl)) ?_
                  exact steps_nil
                intro own2171 a2171 w2171 hd2171 hz2171 hk2171 hf2171 hE2171
                have e2171_1 := (hk2171 1 rfl).trans e2167_1
                have e2171_11 := (hk2171 11 rfl).trans e2167_11
                have e2171_12 := (hk2171 12 rfl).trans e2167_12
                obtain ⟨(e2171_13 : a2171.eval (.tmp 13) = .int .i64 0), -⟩ := hf2171 [0] rfl
                have hX2171 := es_ hX2167 hE2171
                have b2171_g1132 := be_ hE2171 b2167_g1132
                have b2171_An1_0 := RdO.evo rfl hE2171 b2167_An1_0
                have b2171_An1_1 := RdO.evo rfl hE2171 b2167_An1_1
                refine fl_block (fun Q2172 hn2172 hx2172 hp2172 => ?_)
                refine fl_loop (body := (fun s => ref26_Check_b7 n1 i1700 k2073 s)) (z := zz2162) (show loopO _ _ = _ from hs) (fun (j2198 : Int) a wx => ∃ (ox : Own), a.defers = [] ∧ a.tmps.size = 174 ∧ a.eval (.tmp 1) = .pointer (some ⟨g1132, 0, none⟩) ∧ a.eval (.tmp 11) = .int .i64 i1700 ∧ a.eval (.tmp 12) = .int .i64 k2073 ∧ a.eval (.tmp 13) = .int .i64 j2198 ∧ Evo [] (fun _ => 0) ox w wx ∧ BlkO ox 1133 wx g1132 38 #[.slice An1_0 n1.1.length cn1_0, .slice An1_1 n1.2.length cn1_1] ∧ RdO ox [0] wx R78 An1_0 cn1_0 n1.1 ∧ RdO ox [0] wx R27 An1_1 cn1_1 n1.2) ?_ ?_
                · exact ⟨own2171, hd2171, hz2171, e2171_1, e2171_11, e2171_12, e2171_13, hX2171, b2171_g1132, b2171_An1_0, b2171_An1_1⟩
                · rintro j2198 zz2224 a2224 w2224 ⟨own2224, hd2225, hz2225, e2225_1, e2225_11, e2225_12, e2225_13, hE2225, b2225_g1132, b2225_An1_0, b2225_An1_1⟩ hs Q2224 hn2224 hp2224 hz2224
                  have hs : ref26_Check_b7 n1 i1700 k2073 j2198 = some zz2224 := hs
                  refine fl_seq (fun Q2226 hn2226 hp2226 => ?_)
                  obtain ⟨x2227, hx2227, hs⟩ := obind hs
                  obtain ⟨x2229, hx2229, hs⟩ := obind hs
                  refine rg0_seq 174 own2224 [0, 0, 2, 0, 14, 30, 0, 126, 254, 510, 1023] [⟨[], [13], [], Fct.val 135 (.int .i64 j2198)⟩, ⟨[], [1], [], Fct.val 136 (.pointer (some ⟨g1132, 1, none⟩))⟩, ⟨[1], [], [], Fct.val 137 (.slice An1_1 n1.2.length cn1_1)⟩, ⟨[], [11], [], Fct.val 138 (.int .i64 i1700)⟩, ⟨[2, 3], [], [], Fct.val 139 (.pointer (some ((adr An1_1).add ((i1700 : Int).toNat * R27.s))))⟩, ⟨[4], [], [], Fct.nest X27 [0] 140 (fun (y : (Option Addr × Nat)) => .slice y.1 x2227.length y.2) x2227⟩, ⟨[], [12], [], Fct.val 141 (.int .i64 k2073)⟩, ⟨[5, 6], [], [], Fct.rel [142, 140] (fun l => ∀ (A2228 : Option Addr) (cA2228 : Nat), l.getD 1 undef = .slice A2228 x2227.length cA2228 → l.getD 0 undef = .pointer (some ((adr A2228).add ((k2073 : Int).toNat * R28.s))))⟩, ⟨[7, 5], [], [], Fct.nest X28 [0] 143 (fun (y : (Option Addr × Nat)) => .slice y.1 x2229.length y.2) x2229⟩, ⟨[8], [], [], Fct.val 144 (.int .i64 (x2229.length : Int))⟩, ⟨[0, 9], [], [], Fct.val 145 (.bool (decide (j2198 < (x2229.length : Int))))⟩] hz2225 hd2225 (by kernel_rfl) ?_ ?_
                  · refine sc (fun _ _ _ _ s _ => px (or_move (s.1.trans e2225_13))) ?_
                    refine sc (fun _ _ _ _ s _ => px (or_field fo38_1 (s.1.trans e2225_1) (by rfl))) ?_
                    refine sc (fun _ _ _ f _ hE => px (or_load1 to23 f.1 (Blk.at_ (be_ hE b2225_g1132).2 1 rfl))) ?_
                    refine sc (fun _ _ _ _ s _ => px (or_move (s.1.trans e2225_11))) ?_
                    refine sc (fun _ _ _ f _ _ => px (or_index (R := R27) (l := n1.2) tl23 f.1 f.2.1 (RdO.some_ b2225_An1_1 hx2227) hx2227)) ?_
                    refine sc (fun _ _ _ f _ hE => px (or_loadN1 X27 0 to27 f.1 (Addr.add_zero' _).symm (RdO.evo rfl hE b2225_An1_1) hx2227 (fun _ => rfl))) ?_
                    refine sc (fun _ _ _ _ s _ => px (or_move (s.1.trans e2225_12))) ?_
                    refine sc (fun own a wx hf hsl hE => ?_) ?_
                    · obtain ⟨⟨⟨A2228, cA2228⟩, (f_140 : a.eval (.tmp 140) = .slice A2228 x2227.length cA2228), b_A2228⟩, f_141, -⟩ := hf
                      exact px (or_mono (f := Fct.val 142 (.pointer (some ((adr A2228).add ((k2073 : Int).toNat * R28.s))))) (or_index (R := R28) (l := x2227) tl27 f_140 f_141 (RdO.some_ b_A2228 hx2229) hx2229) (fun own' a' w' v' hp h => fun _ _ h0' => by cases (f_140.symm.trans ((hp.2 140 (by decide)).symm.trans h0')); exact h))
                    refine sc (fun own a wx hf hsl hE => ?_) ?_
                    · obtain ⟨(q_142 : ∀ (A2228 : Option Addr) (cA2228 : Nat), a.eval (.tmp 140) = .slice A2228 x2227.length cA2228 → a.eval (.tmp 142) = .pointer (some ((adr A2228).add ((k2073 : Int).toNat * R28.s)))), ⟨⟨A2228, cA2228⟩, f_140, b_A2228⟩, -⟩ := hf
                      have f_142 := q_142 _ _ f_140
                      exact px (or_loadN1 X28 0 to28 f_142 (Addr.add_zero' _).symm b_A2228 hx2229 (fun _ => rfl))
                    refine sc (fun own a wx hf hsl hE => ?_) ?_
                    · obtain ⟨⟨⟨A2230, cA2230⟩, f_143, b_A2230⟩, -⟩ := hf
                      exact px (or_len tu28 f_143 rfl)
                    refine sc (fun _ _ _ f _ _ => px (or_lss f.1 f.2.1 rfl)) ?_
                    exact steps_nil
                  intro own2231 a2231 w2231 hd2231 hz2231 hk2231 hf2231 hE2231
                  have e2231_1 := (hk2231 1 rfl).trans e2225_1
                  have e2231_11 := (hk2231 11 rfl).trans e2225_11
                  have e2231_12 := (hk2231 12 rfl).trans e2225_12
                  have e2231_13 := (hk2231 13 rfl).trans e2225_13
                  obtain ⟨(e2231_145 : a2231.eval (.tmp 145) = .bool (decide (j2198 < (x2229.length : Int)))), -⟩ := hf2231 [10] rfl
                  have hX2231 := es_ hE2225 hE2231
                  have b2231_g1132 := be_ hE2231 b2225_g1132
                  have b2231_An1_0 := RdO.evo rfl hE2231 b2225_An1_0
                  have b2231_An1_1 := RdO.evo rfl hE2231 b2225_An1_1
                  refine fl_cond e2231_145 hs (fun c2232 hs => ?_) (fun c2232 hs => ?_)
                  · refine fl_skip ?_
                    refine hn2226 _ _ ?_
                    refine fl_seq (fun Q2233 hn2233 hp2233 => ?_)
                    refine fl_block (fun Q2234 hn2234 hx2234 hp2234 => ?_)
                    obtain ⟨x2235, hx2235, hs⟩ := obind hs
                    obtain ⟨x2237, hx2237, hs⟩ := obind hs
                    obtain ⟨x2239, hx2239, hs⟩ := obind hs
                    obtain ⟨x2240, hx2240, hs⟩ := obind hs
                    obtain ⟨x2242, hx2242, hs⟩ := obind hs
                    obtain ⟨x2244, hx2244, hs⟩ := obind hs
                    obtain ⟨x2245, hx2245, hs⟩ := obind hs
                    refine rg0_seq 174 own2231 [0, 1, 0, 7, 15, 0, 63, 127, 0, 511, 1023, 2047, 4095, 8191, 16383, 8191, 65535, 131071, 8191, 524287, 1048575, 8191, 4194303, 8388607, 16777215, 33554431] [⟨[], [1], [], Fct.val 148 (.pointer (some ⟨g1132, 1, none⟩))⟩, ⟨[0], [], [], Fct.val 149 (.slice An1_1 n1.2.length cn1_1)⟩, ⟨[], [11], [], Fct.val 150 (.int .i64 i1700)⟩, ⟨[1, 2], [], [], Fct.val 151 (.pointer (some ((adr An1_1).add ((i1700 : Int).toNat * R27.s))))⟩, ⟨[3], [], [], Fct.nest X27 [0] 152 (fun (y : (Option Addr × Nat)) => .slice y.1 x2235.length y.2) x2235⟩, ⟨[], [12], [], Fct.val 153 (.int .i64 k2073)⟩, ⟨[4, 5], [], [], Fct.rel [154, 152] (fun l => ∀ (A2236 : Option Addr) (cA2236 : Nat), l.getD 1 undef = .slice A2236 x2235.length cA2236 → l.getD 0 undef = .pointer (some ((adr A2236).add ((k2073 : Int).toNat * R28.s))))⟩, ⟨[6, 4], [], [], Fct.nest X28 [0] 155 (fun (y : (Option Addr × Nat)) => .slice y.1 x2237.length y.2) x2237⟩, ⟨[], [13], [], Fct.val 156 (.int .i64 j2198)⟩, ⟨[7, 8], [], [], Fct.rel [157, 155] (fun l => ∀ (A2238 : Option Addr) (cA2238 : Nat), l.getD 1 undef = .slice A2238 x2237.length cA2238 → l.getD 0 undef = .pointer (some ((adr A2238).add ((j2198 : Int).toNat * R3.s))))⟩, ⟨[9, 7], [], [], Fct.val 158 (.int .i64 x2239)⟩, ⟨[10], [], [], Fct.val 159 (.bool (decide (x2239 < (-65536))))⟩, ⟨[11], [], [], Fct.val 160 (.bool (decide (x2239 < (-65536))))⟩, ⟨[12], [1], [], Fct.cond (!(decide (x2239 < (-65536)))) (some 161) (Fct.val 161 (.pointer (some ⟨g1132, 1, none⟩)))⟩, ⟨[12, 13], [], [], Fct.cond (!(decide (x2239 < (-65536)))) (some 162) (Fct.val 162 (.slice An1_1 n1.2.length cn1_1))⟩, ⟨[12], [11], [], Fct.cond (!(decide (x2239 < (-65536)))) (some 163) (Fct.val 163 (.int .i64 i1700))⟩, ⟨[12, 14, 15], [], [], Fct.cond (!(decide (x2239 < (-65536)))) (some 164) (Fct.val 164 (.pointer (some ((adr An1_1).add ((i1700 : Int).toNat * R27.s)))))⟩, ⟨[12, 16], [], [], Fct.cond (!(decide (x2239 < (-65536)))) (some 165) (Fct.nest X27 [0] 165 (fun (y : (Option Addr × Nat)) => .slice y.1 x2240.length y.2) x2240)⟩, ⟨[12], [12], [], Fct.cond (!(decide (x2239 < (-65536)))) (some 166) (Fct.val 166 (.int .i64 k2073))⟩, ⟨[12, 17, 18], [], [], Fct.cond (!(decide (x2239 < (-65536)))) (some 167) (Fct.rel [167, 165] (fun l => ∀ (A2241 : Option Addr) (cA2241 : Nat), l.getD 1 undef = .slice A2241 x2240.length cA2241 → l.getD 0 undef = .pointer (some ((adr A2241).add ((k2073 : Int).toNat * R28.s)))))⟩, ⟨[12, 19, 17], [], [], Fct.cond (!(decide (x2239 < (-65536)))) (some 168) (Fct.nest X28 [0] 168 (fun (y : (Option Addr × Nat)) => .slice y.1 x2242.length y.2) x2242)⟩, ⟨[12], [13], [], Fct.cond (!(decide (x2239 < (-65536)))) (some 169) (Fct.val 169 (.int .i64 j2198))⟩, ⟨[12, 20, 21], [], [], Fct.cond (!(decide (x2239 < (-65536)))) (some 170) (Fct.rel [170, 168] (fun l => ∀ (A2243 : Option Addr) (cA2243 : Nat), l.getD 1 undef = .slice A2243 x2242.length cA2243 → l.getD 0 undef = .pointer (some ((adr A2243).add ((j2198 : Int).toNat * R3.s)))))⟩, ⟨[12, 22, 20], [], [], Fct.cond (!(decide (x2239 < (-65536)))) (some 171) (Fct.val 171 (.int .i64 x2244))⟩, ⟨[12, 23], [], [], Fct.cond (!(decide (x2239 < (-65536)))) (some 172) (Fct.val 172 (.bool (decide (65536 < x2244))))⟩, ⟨[12, 24], [], [], Fct.val 173 (.bool x2245)⟩] hz2231 hd2231 (by kernel_rfl) ?_ ?_
                    · refine sc (fun _ _ _ _ s _ => px (or_field fo38_1 (s.1.trans e2231_1) (by rfl))) ?_
                      refine sc (fun _ _ _ f _ hE => px (or_load1 to23 f.1 (Blk.at_ (be_ hE b2231_g1132).2 1 rfl))) ?_
                      refine sc (fun _ _ _ _ s _ => px (or_move (s.1.trans e2231_11))) ?_
                      refine sc (fun _ _ _ f _ _ => px (or_index (R := R27) (l := n1.2) tl23 f.1 f.2.1 (RdO.some_ b2231_An1_1 hx2235) hx2235)) ?_
                      refine sc (fun _ _ _ f _ hE => px (or_loadN1 X27 0 to27 f.1 (Addr.add_zero' _).symm (RdO.evo rfl hE b2231_An1_1) hx2235 (fun _ => rfl))) ?_
                      refine sc (fun _ _ _ _ s _ => px (or_move (s.1.trans e2231_12))) ?_
                      refine sc (fun own a wx hf hsl hE => ?_) ?_
                      · obtain ⟨⟨⟨A2236, cA2236⟩, (f_152 : a.eval (.tmp 152) = .slice A2236 x2235.length cA2236), b_A2236⟩, f_153, -⟩ := hf
                        exact px (or_mono (f := Fct.val 154 (.pointer (some ((adr A2236).add ((k2073 : Int).toNat * R28.s))))) (or_index (R := R28) (l := x2235) tl27 f_152 f_153 (RdO.some_ b_A2236 hx2237) hx2237) (fun own' a' w' v' hp h => fun _ _ h0' => by cases (f_152.symm.trans ((hp.2 152 (by decide)).symm.trans h0')); exact h))
                      refine sc (fun own a wx hf hsl hE => ?_) ?_
                      · obtain ⟨(q_154 : ∀ (A2236 : Option Addr) (cA2236 : Nat), a.eval (.tmp 152) = .slice A2236 x2235.length cA2236 → a.eval (.tmp 154) = .pointer (some ((adr A2236).add ((k2073 : Int).toNat * R28.s)))), ⟨⟨A2236, cA2236⟩, f_152, b_A2236⟩, -⟩ := hf
                        have f_154 := q_154 _ _ f_152
                        exact px (or_loadN1 X28 0 to28 f_154 (Addr.add_zero' _).symm b_A2236 hx2237 (fun _ => rfl))
                      refine sc (fun _ _ _ _ s _ => px (or_move (s.1.trans e2231_13))) ?_
                      refine sc (fun own a wx hf hsl hE => ?_) ?_
                      · obtain ⟨⟨⟨A2238, cA2238⟩, (f_155 : a.eval (.tmp 155) = .slice A2238 x2237.length cA2238), b_A2238⟩, f_156, -⟩ := hf
                        exact px (or_mono (f := Fct.val 157 (.pointer (some ((adr A2238).add ((j2198 : Int).toNat * R3.s))))) (or_index (R := R3) (l := x2237) tl28 f_155 f_156 (RdO.some_ b_A2238 hx2239) hx2239) (fun own' a' w' v' hp h => fun _ _ h0' => by cases (f_155.symm.trans ((hp.2 155 (by decide)).symm.trans h0')); exact h))
                      refine sc (fun own a wx hf hsl hE => ?_) ?_
                      · obtain ⟨(q_157 : ∀ (A2238 : Option Addr) (cA2238 : Nat), a.eval (.tmp 155) = .slice A2238 x2237.length cA2238 → a.eval (.tmp 157) = .pointer (some ((adr A2238).add ((j2198 : Int).toNat * R3.s)))), ⟨⟨A2238, cA2238⟩, f_155, b_A2238⟩, -⟩ := hf
                        have f_157 := q_157 _ _ f_155
                        exact px (or_load1 to3 f_157 (CellsAt.zero (RdO.cells (F := E3) b_A2238 hx2239) rfl))
                      refine sc (fun _ _ _ f _ _ => px (or_lss f.1 rfl rfl)) ?_
                      refine sc (fun _ _ _ f _ _ => px (or_move f.1)) ?_
                      refine sc (fun _ _ _ f s _ => sg_f rfl rfl rfl f.1 (fun hg => or_field fo38_1 (s.1.trans e2231_1) (by rfl))) ?_
                      refine sc (fun _ _ _ f _ hE => sg_f rfl rfl rfl f.1 (fun hg => or_load1 to23 (f.2.1.1 hg) (Blk.at_ (be_ hE b2231_g1132).2 1 rfl))) ?_
                      refine sc (fun _ _ _ f s _ => sg_f rfl rfl rfl f.1 (fun hg => or_move (s.1.trans e2231_11))) ?_
                      refine sc (fun _ _ _ f _ _ => sg_f rfl rfl rfl f.1 (fun hg => or_index (R := R27) (l := n1.2) tl23 (f.2.1.1 hg) (f.2.2.1.1 hg) (RdO.some_ b2231_An1_1 (gd_t hx2240 hg)) (gd_t hx2240 hg))) ?_
                      refine sc (fun _ _ _ f _ hE => sg_f rfl rfl rfl f.1 (fun hg => or_loadN1 X27 0 to27 (f.2.1.1 hg) (Addr.add_zero' _).symm (RdO.evo rfl hE b2231_An1_1) (gd_t hx2240 hg) (fun _ => rfl))) ?_
                      refine sc (fun _ _ _ f s _ => sg_f rfl rfl rfl f.1 (fun hg => or_move (s.1.trans e2231_12))) ?_
                      refine sc (fun own a wx hf hsl hE => ?_) ?_
                      · obtain ⟨f_160, c_165, c_166, -⟩ := hf
                        refine sg_f rfl rfl rfl f_160 (fun hg => ?_)
                        obtain ⟨⟨A2241, cA2241⟩, (f_165 : a.eval (.tmp 165) = .slice A2241 x2240.length cA2241), b_A2241⟩ := c_165.1 hg
                        have f_166 := c_166.1 hg
                        exact or_mono (f := Fct.val 167 (.pointer (some ((adr A2241).add ((k2073 : Int).toNat * R28.s))))) (or_index (R := R28) (l := x2240) tl27 f_165 f_166 (RdO.some_ b_A2241 (gd_t hx2242 hg)) (gd_t hx2242 hg)) (fun own' a' w' v' hp h => fun _ _ h0' => by cases (f_165.symm.trans ((hp.2 165 (by decide)).symm.trans h0')); exact h)
                      refine sc (fun own a wx hf hsl hE => ?_) ?_
                      · obtain ⟨f_160, c_167, c_165, -⟩ := hf
                        refine sg_f rfl rfl rfl f_160 (fun hg => ?_)
                        have q_167 : ∀ (A2241 : Option Addr) (cA2241 : Nat), a.eval (.tmp 165) = .slice A2241 x2240.length cA2241 → a.eval (.tmp 167) = .pointer (some ((adr A2241).add ((k2073 : Int).toNat * R28.s))) := c_167.1 hg
                        obtain ⟨⟨A2241, cA2241⟩, f_165, b_A2241⟩ := c_165.1 hg
                        have f_167 := q_167 _ _ f_165
                        exact or_loadN1 X28 0 to28 f_167 (Addr.add_zero' _).symm b_A2241 (gd_t hx2242 hg) (fun _ => rfl)
                      refine sc (fun _ _ _ f s _ => sg_f rfl rfl rfl f.1 (fun hg => or_move (s.1.trans e2231_13))) ?_
                      refine sc (fun own a wx hf hsl hE => ?_) ?_
                      · obtain ⟨f_160, c_168, c_169, -⟩ := hf
                        refine sg_f rfl rfl rfl f_160 (fun hg => ?_)
                        obtain ⟨⟨A2243, cA2243⟩, (f_168 : a.eval (.tmp 168) = .slice A2243 x2242.length cA2243), b_A2243⟩ := c_168.1 hg
                        have f_169 := c_169.1 hg
                        exact or_mono (f := Fct.val 170 (.pointer (some ((adr A2243).add ((j2198 : Int).toNat * R3.s))))) (or_index (R := R3) (l := x2242) tl28 f_168 f_169 (RdO.some_ b_A2243 (gd_t hx2244 hg)) (gd_t hx2244 hg)) (fun own' a' w' v' hp h => fun _ _ h0' => by cases (f_168.symm.trans ((hp.2 168 (by decide)).symm.trans h0')); exact h)
                      refine sc (fun own a wx hf hsl hE => ?_) ?_
                      · obtain ⟨f_160, c_170, c_168, -⟩ := hf
                        refine sg_f rfl rfl rfl f_160 (fun hg => ?_)
                        have q_170 : ∀ (A2243 : Option Addr) (cA2243 : Nat), a.eval (.tmp 168) = .slice A2243 x2242.length cA2243 → a.eval (.tmp 170) = .pointer (some ((adr A2243).add ((j2198 : Int).toNat * R3.s))) := c_170.1 hg
                        obtain ⟨⟨A2243, cA2243⟩, f_168, b_A2243⟩ := c_168.1 hg
                        have f_170 := q_170 _ _ f_168
                        exact or_load1 to3 f_170 (CellsAt.zero (RdO.cells (F := E3) b_A2243 (gd_t hx2244 hg)) rfl)
                      refine sc (fun _ _ _ f _ _ => sg_f rfl rfl rfl f.1 (fun hg => or_gtr (f.2.1.1 hg) rfl rfl)) ?_
                      refine sc (fun _ _ _ f _ _ => px (or_or f.1 rfl (fun hx => f.2.1.1 hx) (osome hx2245).symm)) ?_
                      exact steps_nil
                    intro own2246 a2246 w2246 hd2246 hz2246 hk2246 hf2246 hE2246
                    have e2246_1 := (hk2246 1 rfl).trans e2231_1
                    have e2246_11 := (hk2246 11 rfl).trans e2231_11
                    have e2246_12 := (hk2246 12 rfl).trans e2231_12
                    have e2246_13 := (hk2246 13 rfl).trans e2231_13
                    obtain ⟨(e2246_173 : a2246.eval (.tmp 173) = .bool x2245), -⟩ := hf2246 [25] rfl
                    have hX2246 := es_ hX2231 hE2246
                    have b2246_g1132 := be_ hE2246 b2231_g1132
                    have b2246_An1_0 := RdO.evo rfl hE2246 b2231_An1_0
                    have b2246_An1_1 := RdO.evo rfl hE2246 b2231_An1_1
                    refine fl_cond e2246_173 hs (fun c2247 hs => ?_) (fun c2247 hs => ?_)
                    · refine rg0_seq 174 own2246 (bz 1) [⟨[], [], [], Fct.val 2 (.int .i64 5)⟩] hz2246 hd2246 (by kernel_rfl) ?_ ?_
                      · refine sc (fun _ _ _ _ _ _ => px (or_assign rfl)) ?_
                        exact steps_nil
                      intro own2248 a2248 w2248 hd2248 hz2248 hk2248 hf2248 hE2248
                      obtain ⟨(e2248_2 : a2248.eval (.tmp 2) = .int .i64 5), -⟩ := hf2248 [0] rfl
                      have hX2248 := es_ hX2246 hE2248
                      refine fl_ret ?_
                      refine hp2234 _ _ _ rfl ?_
                      refine hp2233 _ _ _ rfl ?_
                      replace hs := hz2224 _ hs
                      refine hp2224 _ _ _ rfl ?_
                      refine hp2172 _ _ _ rfl ?_
                      refine hp2170 _ _ _ rfl ?_
                      refine hp2169 _ _ _ rfl ?_
                      replace hs := hz2162 _ hs
                      refine hp2162 _ _ _ rfl ?_
                      refine hp1984 _ _ _ rfl ?_
                      refine hp1982 _ _ _ rfl ?_
                      refine hp1981 _ _ _ rfl ?_
                      replace hs := hz1976 _ hs
                      refine hp1976 _ _ _ rfl ?_
                      refine hp1424 _ _ _ rfl ?_
                      refine hp1422 _ _ _ rfl ?_
                      obtain rfl := osome hs
                      exact hret _ _ _ _ (.inl rfl) hd2248 (results1_ rfl (RVal.tmp_ e2248_2)) ⟨own2248, rfl, hX2248⟩
                    refine fl_skip ?_
                    refine hn2234 _ _ ?_
                    refine hn2233 _ _ ?_
                    refine rg0 174 own2246 (bz 3) [⟨[], [13], [], Fct.val 146 (.int .i64 j2198)⟩, ⟨[0], [], [], Fct.val 147 (.int .i64 (ad j2198 1))⟩, ⟨[1], [], [], Fct.val 13 (.int .i64 (ad j2198 1))⟩] hz2246 hd2246 (by kernel_rfl) ?_ ?_
                    · refine sc (fun _ _ _ _ s _ => px (or_move (s.1.trans e2246_13))) ?_
                      refine sc (fun _ _ _ f _ _ => px (or_add f.1 rfl rfl)) ?_
                      refine sc (fun _ _ _ f _ _ => px (or_assign f.1)) ?_
                      exact steps_nil
                    intro own2249 a2249 w2249 hd2249 hz2249 hk2249 hf2249 hE2249
                    have e2249_1 := (hk2249 1 rfl).trans e2246_1
                    have e2249_11 := (hk2249 11 rfl).trans e2246_11
                    have e2249_12 := (hk2249 12 rfl).trans e2246_12
                    obtain ⟨(e2249_13 : a2249.eval (.tmp 13) = .int .i64 (ad j2198 1)), -⟩ := hf2249 [2] rfl
                    have hX2249 := es_ hX2246 hE2249
                    have b2249_g1132 := be_ hE2249 b2246_g1132
                    have b2249_An1_0 := RdO.evo rfl hE2249 b2246_An1_0
                    have b2249_An1_1 := RdO.evo rfl hE2249 b2246_An1_1
                    exact hn2224 _ _ _ hs ⟨own2249, hd2249, hz2249, e2249_1, e2249_11, e2249_12, e2249_13, hX2249, b2249_g1132, b2249_An1_0, b2249_An1_1⟩
                  refine fl_exit ?_
                  refine hp2226 _ _ _ rfl ?_
                  replace hs := hz2224 _ hs
                  refine hp2224 _ _ _ rfl ?_
                  refine hx2172 _ _ ?_
                  refine hn2170 _ _ ?_
                  refine hn2169 _ _ ?_
                  refine rg0 174 own2231 (bz 3) [⟨[], [12], [], Fct.val 133 (.int .i64 k2073)⟩, ⟨[0], [], [], Fct.val 134 (.int .i64 (ad k2073 1))⟩, ⟨[1], [], [], Fct.val 12 (.int .i64 (ad k2073 1))⟩] hz2231 hd2231 (by kernel_rfl) ?_ ?_
                  · refine sc (fun _ _ _ _ s _ => px (or_move (s.1.trans e2231_12))) ?_
                    refine sc (fun _ _ _ f _ _ => px (or_add f.1 rfl rfl)) ?_
                    refine sc (fun _ _ _ f _ _ => px (or_assign f.1)) ?_
                    exact steps_nil
                  intro own2250 a2250 w2250 hd2250 hz2250 hk2250 hf2250 hE2250
                  have e2250_1 := (hk2250 1 rfl).trans e2231_1
                  have e2250_11 := (hk2250 11 rfl).trans e2231_11
                  obtain ⟨(e2250_12 : a2250.eval (.tmp 12) = .int .i64 (ad k2073 1)), -⟩ := hf2250 [2] rfl
                  have hX2250 := es_ hX2231 hE2250
                  have b2250_g1132 := be_ hE2250 b2231_g1132
                  have b2250_An1_0 := RdO.evo rfl hE2250 b2231_An1_0
                  have b2250_An1_1 := RdO.evo rfl hE2250 b2231_An1_1
                  exact hn2162 _ _ _ hs ⟨own2250, hd2250, hz2250, e2250_1, e2250_11, e2250_12, hX2250, b2250_g1132, b2250_An1_0, b2250_An1_1⟩
              refine fl_exit ?_
              refine hp2164 _ _ _ rfl ?_
              replace hs := hz2162 _ hs
              refine hp2162 _ _ _ rfl ?_
              refine hx1984 _ _ ?_
              refine hn1982 _ _ ?_
              refine hn1981 _ _ ?_
              refine rg0 174 own2167 (bz 3) [⟨[], [11], [], Fct.val 123 (.int .i64 i1700)⟩, ⟨[0], [], [], Fct.val 124 (.int .i64 (ad i1700 1))⟩, ⟨[1], [], [], Fct.val 11 (.int .i64 (ad i1700 1))⟩] hz2167 hd2167 (by kernel_rfl) ?_ ?_
              · refine sc (fun _ _ _ _ s _ => px (or_move (s.1.trans e2167_11))) ?_
                refine sc (fun _ _ _ f _ _ => px (or_add f.1 rfl rfl)) ?_
                refine sc (fun _ _ _ f _ _ => px (or_assign f.1)) ?_
                exact steps_nil
              intro own2251 a2251 w2251 hd2251 hz2251 hk2251 hf2251 hE2251
              have e2251_1 := (hk2251 1 rfl).trans e2167_1
              obtain ⟨(e2251_11 : a2251.eval (.tmp 11) = .int .i64 (ad i1700 1)), -⟩ := hf2251 [2] rfl
              have hX2251 := es_ hX2167 hE2251
              have b2251_g1132 := be_ hE2251 b2167_g1132
              have b2251_An1_0 := RdO.evo rfl hE2251 b2167_An1_0
              have b2251_An1_1 := RdO.evo rfl hE2251 b2167_An1_1
              exact hn1976 _ _ _ hs ⟨own2251, hd2251, hz2251, e2251_1, e2251_11, hX2251, b2251_g1132, b2251_An1_0, b2251_An1_1⟩
          refine fl_exit ?_
          refine hp1978 _ _ _ rfl ?_
          replace hs := hz1976 _ hs
          refine hp1976 _ _ _ rfl ?_
          refine hx1424 _ _ ?_
          refine hn1422 _ _ ?_
          refine rg0_seq 174 own1979 (bz 1) [⟨[], [], [], Fct.val 2 (.int .i64 0)⟩] hz1979 hd1979 (by kernel_rfl) ?_ ?_
          · refine sc (fun _ _ _ _ _ _ => px (or_assign rfl)) ?_
            exact steps_nil
          intro own2252 a2252 w2252 hd2252 hz2252 hk2252 hf2252 hE2252
          obtain ⟨(e2252_2 : a2252.eval (.tmp 2) = .int .i64 0), -⟩ := hf2252 [0] rfl
          have hX2252 := es_ hX1979 hE2252
          refine fl_ret ?_
          obtain rfl := osome hs
          exact hret _ _ _ _ (.inl rfl) hd2252 (results1_ rfl (RVal.tmp_ e2252_2)) ⟨own2252, rfl, hX2252⟩
theorem ref07_Zig_w (w : World) (n1 : Int) (r : Int) (hs : ref07_Zig n1 = some r) :
    Calls Try.prog 56 #[.int .i64 n1] w fun e w' => ∃ own' : Own, e = .returned (.int .u64 r) ∧ Evo [] (fun _ => 0) own' w w' := by
  refine fl_enter (n := 14) rfl rfl rfl (Nat.le_of_ble_eq_true rfl) ?_
  intro a0 Q hd0 hz0 harg hret
  have ha0 := harg 0 _ rfl
  clear harg
  have hE0 : Evo [] (fun _ => 0) (fun _ => 0) w w := Evo.refl _ _ _
  refine rg0_seq 14 (fun _ => 0) (bz 1) [⟨[], [], [], Fct.val 2 (.int .u64 0)⟩] hz0 hd0 (by kernel_rfl) ?_ ?_
  · refine sc (fun _ _ _ _ _ _ => px (or_assign rfl)) ?_
    exact steps_nil
  intro own18 a18 w18 hd18 hz18 hk18 hf18 hE18
  have e18_0 := (hk18 0 rfl).trans ha0
  have hX18 := es_ hE0 hE18
  refine fl_seq (fun Q19 hn19 hp19 => ?_)
  refine rg0_seq 14 own18 (bz 2) [⟨[], [0], [], Fct.val 3 (.int .i64 n1)⟩, ⟨[0], [], [], Fct.val 4 (.bool (decide (n1 < 0)))⟩] hz18 hd18 (by kernel_rfl) ?_ ?_
  · refine sc (fun _ _ _ _ s _ => px (or_move (s.1.trans e18_0))) ?_
    refine sc (fun _ _ _ f _ _ => px (or_lss f.1 rfl rfl)) ?_
    exact steps_nil
  intro own20 a20 w20 hd20 hz20 hk20 hf20 hE20
  have e20_0 := (hk20 0 rfl).trans e18_0
  obtain ⟨(e20_4 : a20.eval (.tmp 4) = .bool (decide (n1 < 0))), -⟩ := hf20 [1] rfl
  have hX20 := es_ hX18 hE20
  refine fl_cond e20_4 hs (fun c21 hs => ?_) (fun c21 hs => ?_)
  · obtain ⟨x22, hx22, hs⟩ := obind hs
    refine rg0_seq 14 own20 (bz 7) [⟨[], [0], [], Fct.val 5 (.int .i64 n1)⟩, ⟨[0], [], [], Fct.val 6 (.int .i64 (ad n1 1))⟩, ⟨[1], [], [], Fct.val 7 (.int .i64 (ng (ad n1 1)))⟩, ⟨[2], [], [], Fct.val 8 (.int .u64 (IntKind.u64.wrap (ng (ad n1 1))))⟩, ⟨[3], [], [], Fct.val 9 (.int .u64 x22)⟩, ⟨[4], [], [], Fct.val 10 (.int .u64 (adK .u64 x22 1))⟩, ⟨[5], [], [], Fct.val 2 (.int .u64 (adK .u64 x22 1))⟩] hz20 hd20 (by kernel_rfl) ?_ ?_
    · refine sc (fun _ _ _ _ s _ => px (or_move (s.1.trans e20_0))) ?_
      refine sc (fun _ _ _ f _ _ => px (or_add f.1 rfl rfl)) ?_
      refine sc (fun _ _ _ f _ _ => px (or_neg f.1 rfl)) ?_
      refine sc (fun _ _ _ f _ _ => px (or_conv f.1 tn3 tn26 rfl)) ?_
      refine sc (fun _ _ _ f _ _ => px (or_mul rfl f.1 (osome hx22).symm)) ?_
      refine sc (fun _ _ _ f _ _ => px (or_add f.1 rfl rfl)) ?_
      refine sc (fun _ _ _ f _ _ => px (or_assign f.1)) ?_
      exact steps_nil
    intro own23 a23 w23 hd23 hz23 hk23 hf23 hE23
    obtain ⟨(e23_2 : a23.eval (.tmp 2) = .int .u64 (adK .u64 x22 1)), -⟩ := hf23 [6] rfl
    have hX23 := es_ hX20 hE23
    refine fl_ret ?_
    refine hp19 _ _ _ rfl ?_
    obtain rfl := osome hs
    exact hret _ _ _ _ (.inl rfl) hd23 (results1_ rfl (RVal.tmp_ e23_2)) ⟨own23, rfl, hX23⟩
  refine fl_skip ?_
  refine hn19 _ _ ?_
  refine rg0_seq 14 own20 (bz 4) [⟨[], [0], [], Fct.val 11 (.int .i64 n1)⟩, ⟨[0], [], [], Fct.val 12 (.int .u64 (IntKind.u64.wrap n1))⟩, ⟨[1], [], [], Fct.val 13 (.int .u64 (mlK .u64 2 (IntKind.u64.wrap n1)))⟩, ⟨[2], [], [], Fct.val 2 (.int .u64 (mlK .u64 2 (IntKind.u64.wrap n1)))⟩] hz20 hd20 (by kernel_rfl) ?_ ?_
  · refine sc (fun _ _ _ _ s _ => px (or_move (s.1.trans e20_0))) ?_
    refine sc (fun _ _ _ f _ _ => px (or_conv f.1 tn3 tn26 rfl)) ?_
    refine sc (fun _ _ _ f _ _ => px (or_mul rfl f.1 rfl)) ?_
    refine sc (fun _ _ _ f _ _ => px (or_assign f.1)) ?_
    exact steps_nil
  intro own24 a24 w24 hd24 hz24 hk24 hf24 hE24
  obtain ⟨(e24_2 : a24.eval (.tmp 2) = .int .u64 (mlK .u64 2 (IntKind.u64.wrap n1))), -⟩ := hf24 [3] rfl
  have hX24 := es_ hX20 hE24
  refine fl_ret ?_
  obtain rfl := osome hs
  exact hret _ _ _ _ (.inl rfl) hd24 (results1_ rfl (RVal.tmp_ e24_2)) ⟨own24, rfl, hX24⟩
set_option maxHeartbeats 2000000 in
theorem ref26_Numbers_w (w : World) (n1 : (List ((List (Int × Int)) × Int × Int)) × (List (List (List Int)))) (An1_0 : Option Addr) (cn1_0 : Nat) (An1_1 : Option Addr) (cn1_1 : Nat) (hAn1_0 : RdO (fun _ => 0) [0] w R78 An1_0 cn1_0 n1.1) (hAn1_1 : RdO (fun _ => 0) [0] w R27 An1_1 cn1_1 n1.2) (r : List Int) (hs : ref26_Numbers n1 = some r) :
    Calls Try.prog 36 #[.agg #[.slice An1_0 n1.1.length cn1_0, .slice An1_1 n1.2.length cn1_1]] w fun e w' => ∃ (own' : Own) (x : Option Addr × Nat), e = .returned (.slice x.1 r.length x.2) ∧ Evo [] (fun _ => 0) own' w w' ∧ RwO own' 1 [] w' 26 R26 x.1 x.2 r := by
  refine fl_enter (n := 153) rfl rfl rfl (Nat.le_of_ble_eq_true rfl) ?_
  intro a0 Q hd0 hz0 harg hret
  have ha0 := harg 0 _ rfl
  clear harg
  have hE0 : Evo [] (fun _ => 0) (fun _ => 0) w w := Evo.refl _ _ _
  refine rg0_seq 153 (fun _ => 0) [0, 0] [⟨[], [0], [], Fct.blk 1618 1 (fun g => .pointer (some ⟨g, 0, none⟩)) 38 #[.slice An1_0 n1.1.length cn1_0, .slice An1_1 n1.2.length cn1_1]⟩, ⟨[], [], [], Fct.val 2 (.slice none 0 0)⟩] hz0 hd0 (by kernel_rfl) ?_ ?_
  · refine sc (fun _ _ _ _ s _ => px (or_new [(0, .agg #[.slice An1_0 n1.1.length cn1_0, .slice An1_1 n1.2.length cn1_1])] rfl rfl ⟨(s.1.trans ha0), trivial⟩ (by kernel_rfl))) ?_
    refine sc (fun _ _ _ _ _ _ => px (or_assign rfl)) ?_
    exact steps_nil
  intro own1619 a1619 w1619 hd1619 hz1619 hk1619 hf1619 hE1619
  obtain ⟨⟨g1617, (e1619_1 : a1619.eval (.tmp 1) = .pointer (some ⟨g1617, 0, none⟩)), (b1619_g1617 : BlkO own1619 1618 w1619 g1617 38 #[.slice An1_0 n1.1.length cn1_0, .slice An1_1 n1.2.length cn1_1])⟩, -⟩ := hf1619 [0] rfl
  have hX1619 := es_ hE0 hE1619
  have b1619_An1_0 := RdO.evo rfl hE1619 hAn1_0
  have b1619_An1_1 := RdO.evo rfl hE1619 hAn1_1
  refine rg0_seq 153 own1619 (bz 6) [⟨[], [1], [], Fct.val 11 (.pointer (some ⟨g1617, 0, none⟩))⟩, ⟨[0], [], [], Fct.val 12 (.slice An1_0 n1.1.length cn1_0)⟩, ⟨[1], [], [], Fct.val 13 (.int .i64 (n1.1.length : Int))⟩, ⟨[2], [], [], Fct.val 14 (.int .u64 (IntKind.u64.wrap (n1.1.length : Int)))⟩, ⟨[3], [], [], Fct.row 1621 [] 15 26 R26 [IntKind.u64.wrap (n1.1.length : Int)]⟩, ⟨[4], [], [], Fct.rel [3, 15] (fun l => ∀ (A1620 : Option Addr) (cA1620 : Nat), l.getD 1 undef = .slice A1620 [IntKind.u64.wrap (n1.1.length : Int)].length cA1620 → l.getD 0 undef = .slice A1620 [IntKind.u64.wrap (n1.1.length : Int)].length cA1620)⟩] hz1619 hd1619 (by kernel_rfl) ?_ ?_
  · refine sc (fun _ _ _ _ s _ => px (or_field fo38_0 (s.1.trans e1619_1) (by rfl))) ?_
    refine sc (fun _ _ _ f _ hE => px (or_load1 to36 f.1 (Blk.at_ (be_ hE b1619_g1617).2 0 rfl))) ?_
    refine sc (fun _ _ _ f _ _ => px (or_len tu36 f.1 rfl)) ?_
    refine sc (fun _ _ _ f _ _ => px (or_conv f.1 tn3 tn26 rfl)) ?_
    refine sc (fun _ _ _ f _ _ => px (or_lit (lab := 1621) (e := 26) (cs := #[.int .u64 (IntKind.u64.wrap (n1.1.length : Int))]) (F := E26) (or_new [(14, .int .u64 (IntKind.u64.wrap (n1.1.length : Int)))] rfl rfl ⟨f.1, trivial⟩ (by kernel_rfl)) rfl rfl (show 1 ≤ maxLen by decide))) ?_
    refine sc (fun own a wx hf hsl hE => ?_) ?_
    · obtain ⟨⟨⟨A1620, cA1620⟩, (f_15 : a.eval (.tmp 15) = .slice A1620 [IntKind.u64.wrap (n1.1.length : Int)].length cA1620), b_A1620⟩, -⟩ := hf
      exact px (or_mono (f := Fct.val 3 (.slice A1620 [IntKind.u64.wrap (n1.1.length : Int)].length cA1620)) (or_assign f_15) (fun own' a' w' v' hp h => fun _ _ h0' => by cases (f_15.symm.trans ((hp.2 15 (by decide)).symm.trans h0')); exact h))
    exact steps_nil
  intro own1622 a1622 w1622 hd1622 hz1622 hk1622 hf1622 hE1622
  have e1622_1 := (hk1622 1 rfl).trans e1619_1
  obtain ⟨⟨⟨A1620, cA1620⟩, (f_15 : a1622.eval (.tmp 15) = .slice A1620 [IntKind.u64.wrap (n1.1.length : Int)].length cA1620), (b1622_A1620 : RwO own1622 1621 [] w1622 26 R26 A1620 cA1620 [IntKind.u64.wrap (n1.1.length : Int)])⟩, (q_3 : ∀ (A1620 : Option Addr) (cA1620 : Nat), a1622.eval (.tmp 15) = .slice A1620 [IntKind.u64.wrap (n1.1.length : Int)].length cA1620 → a1622.eval (.tmp 3) = .slice A1620 [IntKind.u64.wrap (n1.1.length : Int)].length cA1620), -⟩ := hf1622 [4, 5] rfl
  have e1622_3 := q_3 _ _ f_15
  have hX1622 := es_ hX1619 hE1622
  have b1622_An1_0 := RdO.evo rfl hE1622 b1619_An1_0
  have b1622_An1_1 := RdO.evo rfl hE1622 b1619_An1_1
  have b1622_g1617 := be_ hE1622 b1619_g1617
  refine rg_plain_seq (n := 153) (rs := []) (own0 := own1622) (K := [1624]) (bs := [0, 0, 3]) (ds := [⟨[], [], [], Fct.val 16 (.agg #[.int .i64 0, .int .i64 0])⟩, ⟨[], [], [], Fct.blk 1624 4 (fun g => .pointer (some ⟨g, 0, none⟩)) 73 #[.int .i64 0, .int .i64 0]⟩, ⟨[1, 0], [], [1624], Fct.blk 1625 4 (fun g => .pointer (some ⟨g, 0, none⟩)) 73 #[.int .i64 0, .int .i64 0]⟩]) (by kernel_rfl) hz1622 hd1622 nm_ ?_ ?_
  · refine sc (fun _ _ _ _ _ _ => px (or_k [] rfl rfl trivial (by kernel_rfl))) ?_
    refine sc (fun _ _ _ _ _ _ => px (or_new [] rfl rfl trivial (by kernel_rfl))) ?_
    refine sc (fun own a wx hf hsl hE => ?_) ?_
    · obtain ⟨⟨g1623, f_4, b_g1623⟩, f_16, -⟩ := hf
      exact px (or_store (l := #[.int .i64 0, .int .i64 0]) (lab := 1624) (lab2 := 1625) ts73 f_4 f_16 b_g1623 (by simp) (by kernel_rfl) (mem_of rfl) (by decide) (by kernel_rfl) (fun own' a' w' ha hb => ⟨_, (ha 4).trans f_4, hb⟩))
    exact steps_nil
  intro own1626 a1626 w1626 hd1626 hz1626 hk1626 hf1626 hE1626
  have e1626_1 := (hk1626 1 rfl).trans e1622_1
  have e1626_3 := (hk1626 3 rfl).trans e1622_3
  obtain ⟨⟨g1623, (e1626_4 : a1626.eval (.tmp 4) = .pointer (some ⟨g1623, 0, none⟩)), (b1626_g1623 : BlkO own1626 1625 w1626 g1623 73 #[.int .i64 0, .int .i64 0])⟩, -⟩ := hf1626 [2] rfl
  have hX1626 := es_ hX1622 hE1626
  have b1626_An1_0 := RdO.evo rfl hE1626 b1622_An1_0
  have b1626_An1_1 := RdO.evo rfl hE1626 b1622_An1_1
  have b1626_g1617 := be_ hE1626 b1622_g1617
  have b1626_A1620 := re_ hE1626 b1622_A1620
  refine fl_seq (fun Q1627 hn1627 hp1627 => ?_)
  refine rg0_seq 153 own1626 (bz 1) [⟨[], [], [], Fct.val 5 (.int .i64 0)⟩] hz1626 hd1626 (by kernel_rfl) ?_ ?_
  · refine sc (fun _ _ _ _ _ _ => px (or_assign rfl)) ?_
    exact steps_nil
  intro own1628 a1628 w1628 hd1628 hz1628 hk1628 hf1628 hE1628
  have e1628_1 := (hk1628 1 rfl).trans e1626_1
  have e1628_3 := (hk1628 3 rfl).trans e1626_3
  have e1628_4 := (hk1628 4 rfl).trans e1626_4
  obtain ⟨(e1628_5 : a1628.eval (.tmp 5) = .int .i64 0), -⟩ := hf1628 [0] rfl
  have hX1628 := es_ hX1626 hE1628
  have b1628_An1_0 := RdO.evo rfl hE1628 b1626_An1_0
  have b1628_An1_1 := RdO.evo rfl hE1628 b1626_An1_1
  have b1628_g1617 := be_ hE1628 b1626_g1617
  have b1628_A1620 := re_ hE1628 b1626_A1620
  have b1628_g1623 := be_ hE1628 b1626_g1623
  refine fl_block (fun Q1629 hn1629 hx1629 hp1629 => ?_)
  refine fl_loop (body := (fun s => ref26_Numbers_b1 n1 s.1 s.2.1 s.2.2)) (z := r) (show loopO _ _ = _ from hs) (fun (s : (List Int) × (Int × Int) × Int) a wx => match s with | (out1746, x1749, i1750) => ∃ (ox : Own) (A1744 : Option Addr) (c1745 : Nat), a.defers = [] ∧ a.tmps.size = 153 ∧ a.eval (.tmp 1) = .pointer (some ⟨g1617, 0, none⟩) ∧ a.eval (.tmp 3) = .slice A1744 out1746.length c1745 ∧ a.eval (.tmp 4) = .pointer (some ⟨g1623, 0, none⟩) ∧ a.eval (.tmp 5) = .int .i64 i1750 ∧ Evo [] (fun _ => 0) ox w wx ∧ BlkO ox 1618 wx g1617 38 #[.slice An1_0 n1.1.length cn1_0, .slice An1_1 n1.2.length cn1_1] ∧ RdO ox [0] wx R78 An1_0 cn1_0 n1.1 ∧ RdO ox [0] wx R27 An1_1 cn1_1 n1.2 ∧ RwO ox 1747 [] wx 26 R26 A1744 c1745 out1746 ∧ BlkO ox 1748 wx g1623 73 #[.int .i64 x1749.1, .int .i64 x1749.2]) ?_ ?_
  · exact ⟨(rl [(1621, 1747), (1625, 1748)] own1628), A1620, cA1620, hd1628, hz1628, e1628_1, e1628_3, e1628_4, e1628_5, (Evo.rl_ hX1628 (fun _ => Nat.le_refl 0) rfl), (BlkO.rl_ (mm := [(1621, 1747), (1625, 1748)]) b1628_g1617), (RdO.rl_ (mm := [(1621, 1747), (1625, 1748)]) b1628_An1_0), (RdO.rl_ (mm := [(1621, 1747), (1625, 1748)]) b1628_An1_1), (RwO.rl_ (mm := [(1621, 1747), (1625, 1748)]) b1628_A1620), (BlkO.rl_ (mm := [(1621, 1747), (1625, 1748)]) b1628_g1623)⟩
  · rintro ⟨out1746, x1749, i1750⟩ zz1865 a1865 w1865 ⟨own1865, A1744, c1745, hd1866, hz1866, e1866_1, e1866_3, e1866_4, e1866_5, hE1866, b1866_g1617, b1866_An1_0, b1866_An1_1, b1866_A1744, b1866_g1623⟩ hs Q1865 hn1865 hp1865 hz1865
    have hs : ref26_Numbers_b1 n1 out1746 x1749 i1750 = some zz1865 := hs
    refine fl_seq (fun Q1867 hn1867 hp1867 => ?_)
    refine rg0_seq 153 own1865 [0, 0, 2, 6, 15] [⟨[], [5], [], Fct.val 17 (.int .i64 i1750)⟩, ⟨[], [1], [], Fct.val 18 (.pointer (some ⟨g1617, 0, none⟩))⟩, ⟨[1], [], [], Fct.val 19 (.slice An1_0 n1.1.length cn1_0)⟩, ⟨[2], [], [], Fct.val 20 (.int .i64 (n1.1.length : Int))⟩, ⟨[0, 3], [], [], Fct.val 21 (.bool (decide (i1750 < (n1.1.length : Int))))⟩] hz1866 hd1866 (by kernel_rfl) ?_ ?_
    · refine sc (fun _ _ _ _ s _ => px (or_move (s.1.trans e1866_5))) ?_
      refine sc (fun _ _ _ _ s _ => px (or_field fo38_0 (s.1.trans e1866_1) (by rfl))) ?_
      refine sc (fun _ _ _ f _ hE => px (or_load1 to36 f.1 (Blk.at_ (be_ hE b1866_g1617).2 0 rfl))) ?_
      refine sc (fun _ _ _ f _ _ => px (or_len tu36 f.1 rfl)) ?_
      refine sc (fun _ _ _ f _ _ => px (or_lss f.1 f.2.1 rfl)) ?_
      exact steps_nil
    intro own1868 a1868 w1868 hd1868 hz1868 hk1868 hf1868 hE1868
    have e1868_1 := (hk1868 1 rfl).trans e1866_1
    have e1868_3 := (hk1868 3 rfl).trans e1866_3
    have e1868_4 := (hk1868 4 rfl).trans e1866_4
    have e1868_5 := (hk1868 5 rfl).trans e1866_5
    obtain ⟨(e1868_21 : a1868.eval (.tmp 21) = .bool (decide (i1750 < (n1.1.length : Int)))), -⟩ := hf1868 [4] rfl
    have hX1868 := es_ hE1866 hE1868
    have b1868_g1617 := be_ hE1868 b1866_g1617
    have b1868_An1_0 := RdO.evo rfl hE1868 b1866_An1_0
    have b1868_An1_1 := RdO.evo rfl hE1868 b1866_An1_1
    have b1868_A1744 := re_ hE1868 b1866_A1744
    have b1868_g1623 := be_ hE1868 b1866_g1623
    refine fl_cond e1868_21 hs (fun c1869 hs => ?_) (fun c1869 hs => ?_)
    · refine fl_skip ?_
      refine hn1867 _ _ ?_
      refine fl_seq (fun Q1870 hn1870 hp1870 => ?_)
      refine fl_block (fun Q1871 hn1871 hx1871 hp1871 => ?_)
      obtain ⟨x1872, hx1872, hs⟩ := obind hs
      refine rg_plain_seq (n := 153) (rs := []) (own0 := own1868) (K := [1875]) (bs := [0, 1, 0, 7, 15, 0, 63]) (ds := [⟨[], [1], [], Fct.val 24 (.pointer (some ⟨g1617, 0, none⟩))⟩, ⟨[0], [], [], Fct.val 25 (.slice An1_0 n1.1.length cn1_0)⟩, ⟨[], [5], [], Fct.val 26 (.int .i64 i1750)⟩, ⟨[1, 2], [], [], Fct.val 27 (.pointer (some ((adr An1_0).add ((i1750 : Int).toNat * R78.s))))⟩, ⟨[3], [], [], Fct.nest X78 [0] 28 (fun (y : ((Option Addr × Nat) × Unit × Unit)) => .agg #[.slice y.1.1 x1872.1.length y.1.2, .int .i64 x1872.2.1, .int .i64 x1872.2.2]) x1872⟩, ⟨[], [], [], Fct.blk 1875 6 (fun g => .pointer (some ⟨g, 0, none⟩)) 78 #[.slice none 0 0, .int .i64 0, .int .i64 0]⟩, ⟨[5, 4], [], [1875], Fct.by_ [1876] [6, 28] (fun l own w => ∃ g1874 : Nat, l.getD 0 undef = .pointer (some ⟨g1874, 0, none⟩) ∧ (∀ (A1873 : Option Addr) (cA1873 : Nat), l.getD 1 undef = .agg #[.slice A1873 x1872.1.length cA1873, .int .i64 x1872.2.1, .int .i64 x1872.2.2] → BlkO own 1876 w g1874 78 #[.slice A1873 x1872.1.length cA1873, .int .i64 x1872.2.1, .int .i64 x1872.2.2])) (fun hk he h => by obtain ⟨g, e, h⟩ := h; exact ⟨g, e, fun _ _ h0' => BlkO.evo (not_hit hk (by decide)) he (h _ _ h0')⟩)⟩]) (by kernel_rfl) hz1868 hd1868 nm_ ?_ ?_
      · refine sc (fun _ _ _ _ s _ => px (or_field fo38_0 (s.1.trans e1868_1) (by rfl))) ?_
        refine sc (fun _ _ _ f _ hE => px (or_load1 to36 f.1 (Blk.at_ (be_ hE b1868_g1617).2 0 rfl))) ?_
        refine sc (fun _ _ _ _ s _ => px (or_move (s.1.trans e1868_5))) ?_
        refine sc (fun _ _ _ f _ _ => px (or_index (R := R78) (l := n1.1) tl36 f.1 f.2.1 (RdO.some_ b1868_An1_0 hx1872) hx1872)) ?_
        refine sc (fun _ _ _ f _ hE => px (or_loadN X78 0 3 ta78 f.1 (Addr.add_zero' _).symm (RdO.evo rfl hE b1868_An1_0) hx1872 (fun _ => rfl) (fun _ => rfl))) ?_
        refine sc (fun _ _ _ _ _ _ => px (or_new [] rfl rfl trivial (by kernel_rfl))) ?_
        refine sc (fun own a wx hf hsl hE => ?_) ?_
        · obtain ⟨⟨g1874, f_6, b_g1874⟩, ⟨⟨⟨A1873, cA1873⟩, _, _⟩, (f_28 : a.eval (.tmp 28) = .agg #[.slice A1873 x1872.1.length cA1873, .int .i64 x1872.2.1, .int .i64 x1872.2.2]), ⟨b_A1873, -, -⟩⟩, -⟩ := hf
          exact px (or_store (l := #[.slice A1873 x1872.1.length cA1873, .int .i64 x1872.2.1, .int .i64 x1872.2.2]) (lab := 1875) (lab2 := 1876) ts78 f_6 f_28 b_g1874 (by simp) (by kernel_rfl) (mem_of rfl) (by decide) (by kernel_rfl) (fun own' a' w' ha hb => ⟨_, (ha 6).trans f_6, fun _ _ h0' => by cases (f_28.symm.trans ((ha 28).symm.trans h0')); exact hb⟩))
        exact steps_nil
      intro own1877 a1877 w1877 hd1877 hz1877 hk1877 hf1877 hE1877
      have e1877_1 := (hk1877 1 rfl).trans e1868_1
      have e1877_3 := (hk1877 3 rfl).trans e1868_3
      have e1877_4 := (hk1877 4 rfl).trans e1868_4
      have e1877_5 := (hk1877 5 rfl).trans e1868_5
      obtain ⟨⟨⟨⟨A1873, cA1873⟩, _, _⟩, (f_28 : a1877.eval (.tmp 28) = .agg #[.slice A1873 x1872.1.length cA1873, .int .i64 x1872.2.1, .int .i64 x1872.2.2]), ⟨(b1877_A1873 : RdO own1877 [0] w1877 R73 A1873 cA1873 x1872.1), -, -⟩⟩, ⟨g1874, (e1877_6 : a1877.eval (.tmp 6) = .pointer (some ⟨g1874, 0, none⟩)), (bq_g1874 : ∀ (A1873 : Option Addr) (cA1873 : Nat), a1877.eval (.tmp 28) = .agg #[.slice A1873 x1872.1.length cA1873, .int .i64 x1872.2.1, .int .i64 x1872.2.2] → BlkO own1877 1876 w1877 g1874 78 #[.slice A1873 x1872.1.length cA1873, .int .i64 x1872.2.1, .int .i64 x1872.2.2])⟩, -⟩ := hf1877 [4, 6] rfl
      have b1877_g1874 := bq_g1874 _ _ f_28
      have hX1877 := es_ hX1868 hE1877
      have b1877_g1617 := be_ hE1877 b1868_g1617
      have b1877_An1_0 := RdO.evo rfl hE1877 b1868_An1_0
      have b1877_An1_1 := RdO.evo rfl hE1877 b1868_An1_1
      have b1877_A1744 := re_ hE1877 b1868_A1744
      have b1877_g1623 := be_ hE1877 b1868_g1623
      obtain ⟨x1881, hx1881, hs⟩ := obind hs
      obtain ⟨x1884, hx1884, hs⟩ := obind hs
      refine rg_plain_seq (n := 153) (rs := [Fct.rowAt 1747 [] 26 R26 A1744 c1745 out1746]) (own0 := own1877) (K := [1747]) (bs := [0, 0, 2, 6, 0, 16, 48, 0, 128, 384, 896, 2046, 4095, 8191]) (ds := [⟨[], [3], [], Fct.val 29 (.slice A1744 out1746.length c1745)⟩, ⟨[], [6], [], Fct.val 30 (.pointer (some ⟨g1874, 1, none⟩))⟩, ⟨[1], [], [], Fct.val 31 (.int .i64 x1872.2.1)⟩, ⟨[2], [], [], Fct.val 32 (.int .u64 (IntKind.u64.wrap x1872.2.1))⟩, ⟨[], [6], [], Fct.val 33 (.pointer (some ⟨g1874, 2, none⟩))⟩, ⟨[4], [], [], Fct.val 34 (.int .i64 x1872.2.2)⟩, ⟨[5], [], [], Fct.val 35 (.int .u64 (IntKind.u64.wrap x1872.2.2))⟩, ⟨[], [6], [], Fct.val 36 (.pointer (some ⟨g1874, 0, none⟩))⟩, ⟨[7], [], [], Fct.val 37 (.slice A1873 x1872.1.length cA1873)⟩, ⟨[8], [], [], Fct.val 38 (.int .i64 (x1872.1.length : Int))⟩, ⟨[9], [], [], Fct.val 39 (.int .u64 x1881)⟩, ⟨[3, 6, 10], [], [], Fct.row 1883 [] 40 26 R26 [IntKind.u64.wrap x1872.2.1, IntKind.u64.wrap x1872.2.2, x1881]⟩, ⟨[0, 11, 14], [], [1747], Fct.row 1885 [] 41 26 R26 x1884⟩, ⟨[12], [], [], Fct.rel [3, 41] (fun l => ∀ (A1886 : Option Addr) (cA1886 : Nat), l.getD 1 undef = .slice A1886 x1884.length cA1886 → l.getD 0 undef = .slice A1886 x1884.length cA1886)⟩]) (by kernel_rfl) hz1877 hd1877 (by simp only [List.forall_mem_cons]; exact ⟨b1877_A1744, fun _ h => nomatch h⟩) ?_ ?_
      · refine sc (fun _ _ _ _ s _ => px (or_move (s.1.trans e1877_3))) ?_
        refine sc (fun _ _ _ _ s _ => px (or_field fo78_1 (s.1.trans e1877_6) (by rfl))) ?_
        refine sc (fun _ _ _ f _ hE => px (or_load1 to3 f.1 (Blk.at_ (be_ hE b1877_g1874).2 1 rfl))) ?_
        refine sc (fun _ _ _ f _ _ => px (or_conv f.1 tn3 tn26 rfl)) ?_
        refine sc (fun _ _ _ _ s _ => px (or_field fo78_2 (s.1.trans e1877_6) (by rfl))) ?_
        refine sc (fun _ _ _ f _ hE => px (or_load1 to3 f.1 (Blk.at_ (be_ hE b1877_g1874).2 2 rfl))) ?_
        refine sc (fun _ _ _ f _ _ => px (or_conv f.1 tn3 tn26 rfl)) ?_
        refine sc (fun _ _ _ _ s _ => px (or_field fo78_0 (s.1.trans e1877_6) (by rfl))) ?_
        refine sc (fun _ _ _ f _ hE => px (or_load1 to76 f.1 (Blk.at_ (be_ hE b1877_g1874).2 0 rfl))) ?_
        refine sc (fun _ _ _ f _ _ => px (or_len tu76 f.1 rfl)) ?_
        refine sc (fun _ _ _ f _ _ => px (or_conv f.1 tn3 tn26 (osome hx1881).symm)) ?_
        refine sc (fun _ _ _ f _ _ => px (or_lit (lab := 1883) (e := 26) (cs := #[.int .u64 (IntKind.u64.wrap x1872.2.1), .int .u64 (IntKind.u64.wrap x1872.2.2), .int .u64 x1881]) (F := E26) (or_new [(32, .int .u64 (IntKind.u64.wrap x1872.2.1)), (35, .int .u64 (IntKind.u64.wrap x1872.2.2)), (39, .int .u64 x1881)] rfl rfl ⟨f.1, f.2.1, f.2.2.1, trivial⟩ (by kernel_rfl)) rfl rfl (show 3 ≤ maxLen by decide))) ?_
        refine sc (fun own a wx hf hsl hE => ?_) ?_
        · obtain ⟨f_29, ⟨⟨A1882, cA1882⟩, f_40, b_A1882⟩, b_A1744, -⟩ := hf
          exact px (or_append (R := R26) (lab := 1747) (lab2 := 1885) (L := []) (L3 := []) tp87 f_29 b_A1744 (by decide) f_40 (RwO.rd b_A1882) hx1884 (by decide) (by decide) (mem_of rfl) (.inl (Rep.fl_flat _)))
        refine sc (fun own a wx hf hsl hE => ?_) ?_
        · obtain ⟨⟨⟨A1886, cA1886⟩, (f_41 : a.eval (.tmp 41) = .slice A1886 x1884.length cA1886), b_A1886⟩, -⟩ := hf
          exact px (or_mono (f := Fct.val 3 (.slice A1886 x1884.length cA1886)) (or_assign f_41) (fun own' a' w' v' hp h => fun _ _ h0' => by cases (f_41.symm.trans ((hp.2 41 (by decide)).symm.trans h0')); exact h))
        exact steps_nil
      intro own1887 a1887 w1887 hd1887 hz1887 hk1887 hf1887 hE1887
      have e1887_1 := (hk1887 1 rfl).trans e1877_1
      have e1887_4 := (hk1887 4 rfl).trans e1877_4
      have e1887_5 := (hk1887 5 rfl).trans e1877_5
      have e1887_6 := (hk1887 6 rfl).trans e1877_6
      obtain ⟨⟨⟨A1886, cA1886⟩, (f_41 : a1887.eval (.tmp 41) = .slice A1886 x1884.length cA1886), (b1887_A1886 : RwO own1887 1885 [] w1887 26 R26 A1886 cA1886 x1884)⟩, (q_3 : ∀ (A1886 : Option Addr) (cA1886 : Nat), a1887.eval (.tmp 41) = .slice A1886 x1884.length cA1886 → a1887.eval (.tmp 3) = .slice A1886 x1884.length cA1886), -⟩ := hf1887 [12, 13] rfl
      have e1887_3 := q_3 _ _ f_41
      have hX1887 := es_ hX1877 hE1887
      have b1887_g1617 := be_ hE1887 b1877_g1617
      have b1887_An1_0 := RdO.evo rfl hE1887 b1877_An1_0
      have b1887_An1_1 := RdO.evo rfl hE1887 b1877_An1_1
      have b1887_g1623 := be_ hE1887 b1877_g1623
      have b1887_A1873 := RdO.evo rfl hE1887 b1877_A1873
      have b1887_g1874 := be_ hE1887 b1877_g1874
      refine rg0_seq 153 own1887 (bz 1) [⟨[], [], [], Fct.val 7 (.int .i64 0)⟩] hz1887 hd1887 (by kernel_rfl) ?_ ?_
      · refine sc (fun _ _ _ _ _ _ => px (or_assign rfl)) ?_
        exact steps_nil
      intro own1888 a1888 w1888 hd1888 hz1888 hk1888 hf1888 hE1888
      have e1888_1 := (hk1888 1 rfl).trans e1887_1
      have e1888_3 := (hk1888 3 rfl).trans e1887_3
      have e1888_4 := (hk1888 4 rfl).trans e1887_4
      have e1888_5 := (hk1888 5 rfl).trans e1887_5
      have e1888_6 := (hk1888 6 rfl).trans e1887_6
      obtain ⟨(e1888_7 : a1888.eval (.tmp 7) = .int .i64 0), -⟩ := hf1888 [0] rfl
      have hX1888 := es_ hX1887 hE1888
      have b1888_g1617 := be_ hE1888 b1887_g1617
      have b1888_An1_0 := RdO.evo rfl hE1888 b1887_An1_0
      have b1888_An1_1 := RdO.evo rfl hE1888 b1887_An1_1
      have b1888_g1623 := be_ hE1888 b1887_g1623
      have b1888_A1873 := RdO.evo rfl hE1888 b1887_A1873
      have b1888_g1874 := be_ hE1888 b1887_g1874
      have b1888_A1886 := re_ hE1888 b1887_A1886
      refine fl_block (fun Q1889 hn1889 hx1889 hp1889 => ?_)
      refine fl_loop (body := (fun s => ref26_Numbers_b2 i1750 x1872 s.1 s.2.1 s.2.2)) (z := zz1865) (show loopO _ _ = _ from hs) (fun (s : (List Int) × (Int × Int) × Int) a wx => match s with | (out1919, x1922, k1923) => ∃ (ox : Own) (A1917 : Option Addr) (c1918 : Nat), a.defers = [] ∧ a.tmps.size = 153 ∧ a.eval (.tmp 1) = .pointer (some ⟨g1617, 0, none⟩) ∧ a.eval (.tmp 3) = .slice A1917 out1919.length c1918 ∧ a.eval (.tmp 4) = .pointer (some ⟨g1623, 0, none⟩) ∧ a.eval (.tmp 5) = .int .i64 i1750 ∧ a.eval (.tmp 6) = .pointer (some ⟨g1874, 0, none⟩) ∧ a.eval (.tmp 7) = .int .i64 k1923 ∧ Evo [] (fun _ => 0) ox w wx ∧ BlkO ox 1618 wx g1617 38 #[.slice An1_0 n1.1.length cn1_0, .slice An1_1 n1.2.length cn1_1] ∧ RdO ox [0] wx R78 An1_0 cn1_0 n1.1 ∧ RdO ox [0] wx R27 An1_1 cn1_1 n1.2 ∧ RwO ox 1920 [] wx 26 R26 A1917 c1918 out1919 ∧ BlkO ox 1921 wx g1623 73 #[.int .i64 x1922.1, .int .i64 x1922.2] ∧ BlkO ox 1876 wx g1874 78 #[.slice A1873 x1872.1.length cA1873, .int .i64 x1872.2.1, .int .i64 x1872.2.2] ∧ RdO ox [0] wx R73 A1873 cA1873 x1872.1) ?_ ?_
      · exact ⟨(rl [(1748, 1921), (1885, 1920)] own1888), A1886, cA1886, hd1888, hz1888, e1888_1, e1888_3, e1888_4, e1888_5, e1888_6, e1888_7, (Evo.rl_ hX1888 (fun _ => Nat.le_refl 0) rfl), (BlkO.rl_ (mm := [(1748, 1921), (1885, 1920)]) b1888_g1617), (RdO.rl_ (mm := [(1748, 1921), (1885, 1920)]) b1888_An1_0), (RdO.rl_ (mm := [(1748, 1921), (1885, 1920)]) b1888_An1_1), (RwO.rl_ (mm := [(1748, 1921), (1885, 1920)]) b1888_A1886), (BlkO.rl_ (mm := [(1748, 1921), (1885, 1920)]) b1888_g1623), (BlkO.rl_ (mm := [(1748, 1921), (1885, 1920)]) b1888_g1874), (RdO.rl_ (mm := [(1748, 1921), (1885, 1920)]) b1888_A1873)⟩
      · rintro ⟨out1919, x1922, k1923⟩ zz1951 a1951 w1951 ⟨own1951, A1917, c1918, hd1952, hz1952, e1952_1, e1952_3, e1952_4, e1952_5, e1952_6, e1952_7, hE1952, b1952_g1617, b1952_An1_0, b1952_An1_1, b1952_A1917, b1952_g1623, b1952_g1874, b1952_A1873⟩ hs Q1951 hn1951 hp1951 hz1951
        have hs : ref26_Numbers_b2 i1750 x1872 out1919 x1922 k1923 = some zz1951 := hs
        refine fl_seq (fun Q1953 hn1953 hp1953 => ?_)
        refine rg0_seq 153 own1951 [0, 0, 2, 6, 15] [⟨[], [7], [], Fct.val 42 (.int .i64 k1923)⟩, ⟨[], [6], [], Fct.val 43 (.pointer (some ⟨g1874, 0, none⟩))⟩, ⟨[1], [], [], Fct.val 44 (.slice A1873 x1872.1.length cA1873)⟩, ⟨[2], [], [], Fct.val 45 (.int .i64 (x1872.1.length : Int))⟩, ⟨[0, 3], [], [], Fct.val 46 (.bool (decide (k1923 < (x1872.1.length : Int))))⟩] hz1952 hd1952 (by kernel_rfl) ?_ ?_
        · refine sc (fun _ _ _ _ s _ => px (or_move (s.1.trans e1952_7))) ?_
          refine sc (fun _ _ _ _ s _ => px (or_field fo78_0 (s.1.trans e1952_6) (by rfl))) ?_
          refine sc (fun _ _ _ f _ hE => px (or_load1 to76 f.1 (Blk.at_ (be_ hE b1952_g1874).2 0 rfl))) ?_
          refine sc (fun _ _ _ f _ _ => px (or_len tu76 f.1 rfl)) ?_
          refine sc (fun _ _ _ f _ _ => px (or_lss f.1 f.2.1 rfl)) ?_
          exact steps_nil
        intro own1954 a1954 w1954 hd1954 hz1954 hk1954 hf1954 hE1954
        have e1954_1 := (hk1954 1 rfl).trans e1952_1
        have e1954_3 := (hk1954 3 rfl).trans e1952_3
        have e1954_4 := (hk1954 4 rfl).trans e1952_4
        have e1954_5 := (hk1954 5 rfl).trans e1952_5
        have e1954_6 := (hk1954 6 rfl).trans e1952_6
        have e1954_7 := (hk1954 7 rfl).trans e1952_7
        obtain ⟨(e1954_46 : a1954.eval (.tmp 46) = .bool (decide (k1923 < (x1872.1.length : Int)))), -⟩ := hf1954 [4] rfl
        have hX1954 := es_ hE1952 hE1954
        have b1954_g1617 := be_ hE1954 b1952_g1617
        have b1954_An1_0 := RdO.evo rfl hE1954 b1952_An1_0
        have b1954_An1_1 := RdO.evo rfl hE1954 b1952_An1_1
        have b1954_A1917 := re_ hE1954 b1952_A1917
        have b1954_g1623 := be_ hE1954 b1952_g1623
        have b1954_g1874 := be_ hE1954 b1952_g1874
        have b1954_A1873 := RdO.evo rfl hE1954 b1952_A1873
        refine fl_cond e1954_46 hs (fun c1955 hs => ?_) (fun c1955 hs => ?_)
        · refine fl_skip ?_
          refine hn1953 _ _ ?_
          refine fl_seq (fun Q1956 hn1956 hp1956 => ?_)
          refine fl_block (fun Q1957 hn1957 hx1957 hp1957 => ?_)
          obtain ⟨x1964, hx1964, hs⟩ := obind hs
          obtain ⟨r1965, hr1965, hs⟩ := obind hs
          obtain ⟨x1966, hx1966, hs⟩ := obind hs
          obtain ⟨r1967, hr1967, hs⟩ := obind hs
          obtain ⟨x1970, hx1970, hs⟩ := obind hs
          refine rg_draw_seq g_mixed (n := 153) (rs := [Fct.rowAt 1920 [] 26 R26 A1917 c1918 out1919]) (own0 := own1954) (K := [1920]) (bs := [0, 0, 2, 0, 14, 30, 62, 0, 128, 510, 1022, 0, 2048, 0, 14336, 30720, 63488, 0, 131072, 522240, 1048574, 2097150, 4194303, 8388607]) (ds := [⟨[], [3], [], Fct.val 49 (.slice A1917 out1919.length c1918)⟩, ⟨[], [6], [], Fct.val 50 (.pointer (some ⟨g1874, 0, none⟩))⟩, ⟨[1], [], [], Fct.val 51 (.slice A1873 x1872.1.length cA1873)⟩, ⟨[], [7], [], Fct.val 52 (.int .i64 k1923)⟩, ⟨[2, 3], [], [], Fct.val 53 (.pointer (some ((adr A1873).add ((k1923 : Int).toNat * R73.s))))⟩, ⟨[4], [], [], Fct.val 54 (.pointer (some ((adr A1873).add ((k1923 : Int).toNat * R73.s))))⟩, ⟨[5], [], [], Fct.val 55 (.int .i64 x1964.1)⟩, ⟨[], [4], [], Fct.val 56 (.pointer (some ⟨g1623, 0, none⟩))⟩, ⟨[7], [], [], Fct.val 57 (.int .i64 x1922.1)⟩, ⟨[6, 8], [], [], Fct.val 58 (.int .i64 (sb x1964.1 x1922.1))⟩, ⟨[9], [], [], Fct.val 59 (.int .u64 r1965)⟩, ⟨[], [6], [], Fct.val 60 (.pointer (some ⟨g1874, 0, none⟩))⟩, ⟨[11], [], [], Fct.val 61 (.slice A1873 x1872.1.length cA1873)⟩, ⟨[], [7], [], Fct.val 62 (.int .i64 k1923)⟩, ⟨[12, 13], [], [], Fct.val 63 (.pointer (some ((adr A1873).add ((k1923 : Int).toNat * R73.s))))⟩, ⟨[14], [], [], Fct.val 64 (.pointer (some (((adr A1873).add ((k1923 : Int).toNat * R73.s)).add 1)))⟩, ⟨[15], [], [], Fct.val 65 (.int .i64 x1966.2)⟩, ⟨[], [4], [], Fct.val 66 (.pointer (some ⟨g1623, 1, none⟩))⟩, ⟨[17], [], [], Fct.val 67 (.int .i64 x1922.2)⟩, ⟨[16, 18], [], [], Fct.val 68 (.int .i64 (sb x1966.2 x1922.2))⟩, ⟨[19], [], [], Fct.val 69 (.int .u64 r1967)⟩, ⟨[10, 20], [], [], Fct.row 1969 [] 70 26 R26 [r1965, r1967]⟩, ⟨[0, 21, 24], [], [1920], Fct.row 1971 [] 71 26 R26 x1970⟩, ⟨[22], [], [], Fct.rel [3, 71] (fun l => ∀ (A1972 : Option Addr) (cA1972 : Nat), l.getD 1 undef = .slice A1972 x1970.length cA1972 → l.getD 0 undef = .slice A1972 x1970.length cA1972)⟩]) (by kernel_rfl) hz1954 hd1954 (by simp only [List.forall_mem_cons]; exact ⟨b1954_A1917, fun _ h => nomatch h⟩) ?_ ?_
          · refine sc (fun _ _ _ _ s _ => px (or_move (s.1.trans e1954_3))) ?_
            refine sc (fun _ _ _ _ s _ => px (or_field fo78_0 (s.1.trans e1954_6) (by rfl))) ?_
            refine sc (fun _ _ _ f _ hE => px (or_load1 to76 f.1 (Blk.at_ (be_ hE b1954_g1874).2 0 rfl))) ?_
            refine sc (fun _ _ _ _ s _ => px (or_move (s.1.trans e1954_7))) ?_
            refine sc (fun _ _ _ f _ _ => px (or_index (R := R73) (l := x1872.1) tl76 f.1 f.2.1 (RdO.some_ b1954_A1873 hx1964) hx1964)) ?_
            refine sc (fun _ _ _ f _ _ => px (or_field fo73_0 f.1 (Addr.add_zero' _))) ?_
            refine sc (fun _ _ _ f _ hE => px (or_load1 to3 f.1 (CellsAt.zero (RdO.cells (F := E73) (RdO.evo rfl hE b1954_A1873) hx1964) rfl))) ?_
            refine sc (fun _ _ _ _ s _ => px (or_field fo73_0 (s.1.trans e1954_4) (by rfl))) ?_
            refine sc (fun _ _ _ f _ hE => px (or_load1 to3 f.1 (Blk.at_ (be_ hE b1954_g1623).2 0 rfl))) ?_
            refine sc (fun _ _ _ f _ _ => px (or_sub f.1 f.2.1 rfl)) ?_
            refine sc (fun _ _ _ f _ _ => px (or_call cf56 (args1 f.1) (ref07_Zig_w _ (sb x1964.1 x1922.1)  r1965 hr1965) post_val)) ?_
            refine sc (fun _ _ _ _ s _ => px (or_field fo78_0 (s.1.trans e1954_6) (by rfl))) ?_
            refine sc (fun _ _ _ f _ hE => px (or_load1 to76 f.1 (Blk.at_ (be_ hE b1954_g1874).2 0 rfl))) ?_
            refine sc (fun _ _ _ _ s _ => px (or_move (s.1.trans e1954_7))) ?_
            refine sc (fun _ _ _ f _ _ => px (or_index (R := R73) (l := x1872.1) tl76 f.1 f.2.1 (RdO.some_ b1954_A1873 hx1966) hx1966)) ?_
            refine sc (fun _ _ _ f _ _ => px (or_field fo73_1 f.1 rfl)) ?_
            refine sc (fun _ _ _ f _ hE => px (or_load1 to3 f.1 (CellsAt.one (RdO.cells (F := E73) (RdO.evo rfl hE b1954_A1873) hx1966) rfl))) ?_
            refine sc (fun _ _ _ _ s _ => px (or_field fo73_1 (s.1.trans e1954_4) (by rfl))) ?_
            refine sc (fun _ _ _ f _ hE => px (or_load1 to3 f.1 (Blk.at_ (be_ hE b1954_g1623).2 1 rfl))) ?_
            refine sc (fun _ _ _ f _ _ => px (or_sub f.1 f.2.1 rfl)) ?_
            refine sc (fun _ _ _ f _ _ => px (or_call cf56 (args1 f.1) (ref07_Zig_w _ (sb x1966.2 x1922.2)  r1967 hr1967) post_val)) ?_
            refine sc (fun _ _ _ f _ _ => px (or_lit (lab := 1969) (e := 26) (cs := #[.int .u64 r1965, .int .u64 r1967]) (F := E26) (or_new [(59, .int .u64 r1965), (69, .int .u64 r1967)] rfl rfl ⟨f.1, f.2.1, trivial⟩ (by kernel_rfl)) rfl rfl (show 2 ≤ maxLen by decide))) ?_
            refine sc (fun own a wx hf hsl hE => ?_) ?_
            · obtain ⟨f_49, ⟨⟨A1968, cA1968⟩, f_70, b_A1968⟩, b_A1917, -⟩ := hf
              exact px (or_append (R := R26) (lab := 1920) (lab2 := 1971) (L := []) (L3 := []) tp87 f_49 b_A1917 (by decide) f_70 (RwO.rd b_A1968) hx1970 (by decide) (by decide) (mem_of rfl) (.inl (Rep.fl_flat _)))
            refine sc (fun own a wx hf hsl hE => ?_) ?_
            · obtain ⟨⟨⟨A1972, cA1972⟩, (f_71 : a.eval (.tmp 71) = .slice A1972 x1970.length cA1972), b_A1972⟩, -⟩ := hf
              exact px (or_mono (f := Fct.val 3 (.slice A1972 x1970.length cA1972)) (or_assign f_71) (fun own' a' w' v' hp h => fun _ _ h0' => by cases (f_71.symm.trans ((hp.2 71 (by decide)).symm.trans h0')); exact h))
            exact steps_nil
          intro own1973 a1973 w1973 hd1973 hz1973 hk1973 hf1973 hE1973
          have e1973_1 := (hk1973 1 rfl).trans e1954_1
          have e1973_4 := (hk1973 4 rfl).trans e1954_4
          have e1973_5 := (hk1973 5 rfl).trans e1954_5
          have e1973_6 := (hk1973 6 rfl).trans e1954_6
          have e1973_7 := (hk1973 7 rfl).trans e1954_7
          obtain ⟨⟨⟨A1972, cA1972⟩, (f_71 : a1973.eval (.tmp 71) = .slice A1972 x1970.length cA1972), (b1973_A1972 : RwO own1973 1971 [] w1973 26 R26 A1972 cA1972 x1970)⟩, (q_3 : ∀ (A1972 : Option Addr) (cA1972 : Nat), a1973.eval (.tmp 71) = .slice A1972 x1970.length cA1972 → a1973.eval (.tmp 3) = .slice A1972 x1970.length cA1972), -⟩ := hf1973 [22, 23] rfl
          have e1973_3 := q_3 _ _ f_71
          have hX1973 := es_ hX1954 hE1973
          have b1973_g1617 := be_ hE1973 b1954_g1617
          have b1973_An1_0 := RdO.evo rfl hE1973 b1954_An1_0
          have b1973_An1_1 := RdO.evo rfl hE1973 b1954_An1_1
          have b1973_g1623 := be_ hE1973 b1954_g1623
          have b1973_g1874 := be_ hE1973 b1954_g1874
          have b1973_A1873 := RdO.evo rfl hE1973 b1954_A1873
          obtain ⟨x1975, hx1975, hs⟩ := obind hs
          refine rg_plain (n := 153) (rs := [Fct.at_ 1921 g1623 73 #[.int .i64 x1922.1, .int .i64 x1922.2]]) (own0 := own1973) (K := [1921]) (bs := [0, 1, 0, 7, 15, 31]) (ds := [⟨[], [6], [], Fct.val 72 (.pointer (some ⟨g1874, 0, none⟩))⟩, ⟨[0], [], [], Fct.val 73 (.slice A1873 x1872.1.length cA1873)⟩, ⟨[], [7], [], Fct.val 74 (.int .i64 k1923)⟩, ⟨[1, 2], [], [], Fct.val 75 (.pointer (some ((adr A1873).add ((k1923 : Int).toNat * R73.s))))⟩, ⟨[3], [], [], Fct.val 76 (.agg #[.int .i64 x1975.1, .int .i64 x1975.2])⟩, ⟨[4, 6], [4], [1921], Fct.at_ 1976 g1623 73 #[.int .i64 x1975.1, .int .i64 x1975.2]⟩]) (by kernel_rfl) hz1973 hd1973 (by simp only [List.forall_mem_cons]; exact ⟨b1973_g1623, fun _ h => nomatch h⟩) ?_ ?_
          · refine sc (fun _ _ _ _ s _ => px (or_field fo78_0 (s.1.trans e1973_6) (by rfl))) ?_
            refine sc (fun _ _ _ f _ hE => px (or_load1 to76 f.1 (Blk.at_ (be_ hE b1973_g1874).2 0 rfl))) ?_
            refine sc (fun _ _ _ _ s _ => px (or_move (s.1.trans e1973_7))) ?_
            refine sc (fun _ _ _ f _ _ => px (or_index (R := R73) (l := x1872.1) tl76 f.1 f.2.1 (RdO.some_ b1973_A1873 hx1975) hx1975)) ?_
            refine sc (fun _ _ _ f _ hE => px (or_load (l := E73.f x1975) ta73 f.1 (RdO.cells (F := E73) (RdO.evo rfl hE b1973_A1873) hx1975) rfl)) ?_
            refine sc (fun own a wx hf hsl hE => ?_) ?_
            · obtain ⟨f_76, b_g1623, -⟩ := hf
              obtain ⟨s_4, -⟩ := hsl
              exact px (or_store (l := #[.int .i64 x1975.1, .int .i64 x1975.2]) (lab := 1921) (lab2 := 1976) ts73 (s_4.trans e1973_4) f_76 b_g1623 (by simp) (by kernel_rfl) (mem_of rfl) (by decide) (by kernel_rfl) (fun own' a' w' ha hb => hb))
            exact steps_nil
          intro own1977 a1977 w1977 hd1977 hz1977 hk1977 hf1977 hE1977
          have e1977_1 := (hk1977 1 rfl).trans e1973_1
          have e1977_3 := (hk1977 3 rfl).trans e1973_3
          have e1977_4 := (hk1977 4 rfl).trans e1973_4
          have e1977_5 := (hk1977 5 rfl).trans e1973_5
          have e1977_6 := (hk1977 6 rfl).trans e1973_6
          have e1977_7 := (hk1977 7 rfl).trans e1973_7
          obtain ⟨(b1977_g1623 : BlkO own1977 1976 w1977 g1623 73 #[.int .i64 x1975.1, .int .i64 x1975.2]), -⟩ := hf1977 [5] rfl
          have hX1977 := es_ hX1973 hE1977
          have b1977_g1617 := be_ hE1977 b1973_g1617
          have b1977_An1_0 := RdO.evo rfl hE1977 b1973_An1_0
          have b1977_An1_1 := RdO.evo rfl hE1977 b1973_An1_1
          have b1977_g1874 := be_ hE1977 b1973_g1874
          have b1977_A1873 := RdO.evo rfl hE1977 b1973_A1873
          have b1977_A1972 := re_ hE1977 b1973_A1972
          refine hn1957 _ _ ?_
          refine hn1956 _ _ ?_
          refine rg0 153 own1977 (bz 3) [⟨[], [7], [], Fct.val 47 (.int .i64 k1923)⟩, ⟨[0], [], [], Fct.val 48 (.int .i64 (ad k1923 1))⟩, ⟨[1], [], [], Fct.val 7 (.int .i64 (ad k1923 1))⟩] hz1977 hd1977 (by kernel_rfl) ?_ ?_
          · refine sc (fun _ _ _ _ s _ => px (or_move (s.1.trans e1977_7))) ?_
            refine sc (fun _ _ _ f _ _ => px (or_add f.1 rfl rfl)) ?_
            refine sc (fun _ _ _ f _ _ => px (or_assign f.1)) ?_
            exact steps_nil
          intro own1978 a1978 w1978 hd1978 hz1978 hk1978 hf1978 hE1978
          have e1978_1 := (hk1978 1 rfl).trans e1977_1
          have e1978_3 := (hk1978 3 rfl).trans e1977_3
          have e1978_4 := (hk1978 4 rfl).trans e1977_4
          have e1978_5 := (hk1978 5 rfl).trans e1977_5
          have e1978_6 := (hk1978 6 rfl).trans e1977_6
          obtain ⟨(e1978_7 : a1978.eval (.tmp 7) = .int .i64 (ad k1923 1)), -⟩ := hf1978 [2] rfl
          have hX1978 := es_ hX1977 hE1978
          have b1978_g1617 := be_ hE1978 b1977_g1617
          have b1978_An1_0 := RdO.evo rfl hE1978 b1977_An1_0
          have b1978_An1_1 := RdO.evo rfl hE1978 b1977_An1_1
          have b1978_g1874 := be_ hE1978 b1977_g1874
          have b1978_A1873 := RdO.evo rfl hE1978 b1977_A1873
          have b1978_A1972 := re_ hE1978 b1977_A1972
          have b1978_g1623 := be_ hE1978 b1977_g1623
          exact hn1951 _ _ _ hs ⟨(rl [(1971, 1920), (1976, 1921)] own1978), A1972, cA1972, hd1978, hz1978, e1978_1, e1978_3, e1978_4, e1978_5, e1978_6, e1978_7, (Evo.rl_ hX1978 (fun _ => Nat.le_refl 0) rfl), (BlkO.rl_ (mm := [(1971, 1920), (1976, 1921)]) b1978_g1617), (RdO.rl_ (mm := [(1971, 1920), (1976, 1921)]) b1978_An1_0), (RdO.rl_ (mm := [(1971, 1920), (1976, 1921)]) b1978_An1_1), (RwO.rl_ (mm := [(1971, 1920), (1976, 1921)]) b1978_A1972), (BlkO.rl_ (mm := [(1971, 1920), (1976, 1921)]) b1978_g1623), (BlkO.rl_ (mm := [(1971, 1920), (1976, 1921)]) b1978_g1874), (RdO.rl_ (mm := [(1971, 1920), (1976, 1921)]) b1978_A1873)⟩
        refine fl_exit ?_
        refine hp1953 _ _ _ rfl ?_
        replace hs := hz1951 _ hs
        refine hp1951 _ _ _ rfl ?_
        refine hx1889 _ _ ?_
        refine hn1871 _ _ ?_
        refine hn1870 _ _ ?_
        refine rg0 153 own1954 (bz 3) [⟨[], [5], [], Fct.val 22 (.int .i64 i1750)⟩, ⟨[0], [], [], Fct.val 23 (.int .i64 (ad i1750 1))⟩, ⟨[1], [], [], Fct.val 5 (.int .i64 (ad i1750 1))⟩] hz1954 hd1954 (by kernel_rfl) ?_ ?_
        · refine sc (fun _ _ _ _ s _ => px (or_move (s.1.trans e1954_5))) ?_
          refine sc (fun _ _ _ f _ _ => px (or_add f.1 rfl rfl)) ?_
          refine sc (fun _ _ _ f _ _ => px (or_assign f.1)) ?_
          exact steps_nil
        intro own1979 a1979 w1979 hd1979 hz1979 hk1979 hf1979 hE1979
        have e1979_1 := (hk1979 1 rfl).trans e1954_1
        have e1979_3 := (hk1979 3 rfl).trans e1954_3
        have e1979_4 := (hk1979 4 rfl).trans e1954_4
        obtain ⟨(e1979_5 : a1979.eval (.tmp 5) = .int .i64 (ad i1750 1)), -⟩ := hf1979 [2] rfl
        have hX1979 := es_ hX1954 hE1979
        have b1979_g1617 := be_ hE1979 b1954_g1617
        have b1979_An1_0 := RdO.evo rfl hE1979 b1954_An1_0
        have b1979_An1_1 := RdO.evo rfl hE1979 b1954_An1_1
        have b1979_A1917 := re_ hE1979 b1954_A1917
        have b1979_g1623 := be_ hE1979 b1954_g1623
        exact hn1865 _ _ _ hs ⟨(rl [(1920, 1747), (1921, 1748)] own1979), A1917, c1918, hd1979, hz1979, e1979_1, e1979_3, e1979_4, e1979_5, (Evo.rl_ hX1979 (fun _ => Nat.le_refl 0) rfl), (BlkO.rl_ (mm := [(1920, 1747), (1921, 1748)]) b1979_g1617), (RdO.rl_ (mm := [(1920, 1747), (1921, 1748)]) b1979_An1_0), (RdO.rl_ (mm := [(1920, 1747), (1921, 1748)]) b1979_An1_1), (RwO.rl_ (mm := [(1920, 1747), (1921, 1748)]) b1979_A1917), (BlkO.rl_ (mm := [(1920, 1747), (1921, 1748)]) b1979_g1623)⟩
    refine fl_exit ?_
    refine hp1867 _ _ _ rfl ?_
    replace hs := hz1865 _ hs
    refine hp1865 _ _ _ rfl ?_
    refine hx1629 _ _ ?_
    refine hn1627 _ _ ?_
    obtain ⟨x1984, hx1984, hs⟩ := obind hs
    refine rg_plain_seq (n := 153) (rs := [Fct.rowAt 1747 [] 26 R26 A1744 c1745 out1746]) (own0 := own1868) (K := [1747]) (bs := [0, 0, 2, 6, 14, 30, 63, 127]) (ds := [⟨[], [3], [], Fct.val 77 (.slice A1744 out1746.length c1745)⟩, ⟨[], [1], [], Fct.val 78 (.pointer (some ⟨g1617, 1, none⟩))⟩, ⟨[1], [], [], Fct.val 79 (.slice An1_1 n1.2.length cn1_1)⟩, ⟨[2], [], [], Fct.val 80 (.int .i64 (n1.2.length : Int))⟩, ⟨[3], [], [], Fct.val 81 (.int .u64 (IntKind.u64.wrap (n1.2.length : Int)))⟩, ⟨[4], [], [], Fct.row 1983 [] 82 26 R26 [IntKind.u64.wrap (n1.2.length : Int)]⟩, ⟨[0, 5, 8], [], [1747], Fct.row 1985 [] 83 26 R26 x1984⟩, ⟨[6], [], [], Fct.rel [3, 83] (fun l => ∀ (A1986 : Option Addr) (cA1986 : Nat), l.getD 1 undef = .slice A1986 x1984.length cA1986 → l.getD 0 undef = .slice A1986 x1984.length cA1986)⟩]) (by kernel_rfl) hz1868 hd1868 (by simp only [List.forall_mem_cons]; exact ⟨b1868_A1744, fun _ h => nomatch h⟩) ?_ ?_
    · refine sc (fun _ _ _ _ s _ => px (or_move (s.1.trans e1868_3))) ?_
      refine sc (fun _ _ _ _ s _ => px (or_field fo38_1 (s.1.trans e1868_1) (by rfl))) ?_
      refine sc (fun _ _ _ f _ hE => px (or_load1 to23 f.1 (Blk.at_ (be_ hE b1868_g1617).2 1 rfl))) ?_
      refine sc (fun _ _ _ f _ _ => px (or_len tu23 f.1 rfl)) ?_
      refine sc (fun _ _ _ f _ _ => px (or_conv f.1 tn3 tn26 rfl)) ?_
      refine sc (fun _ _ _ f _ _ => px (or_lit (lab := 1983) (e := 26) (cs := #[.int .u64 (IntKind.u64.wrap (n1.2.length : Int))]) (F := E26) (or_new [(81, .int .u64 (IntKind.u64.wrap (n1.2.length : Int)))] rfl rfl ⟨f.1, trivial⟩ (by kernel_rfl)) rfl rfl (show 1 ≤ maxLen by decide))) ?_
      refine sc (fun own a wx hf hsl hE => ?_) ?_
      · obtain ⟨f_77, ⟨⟨A1982, cA1982⟩, f_82, b_A1982⟩, b_A1744, -⟩ := hf
        exact px (or_append (R := R26) (lab := 1747) (lab2 := 1985) (L := []) (L3 := []) tp87 f_77 b_A1744 (by decide) f_82 (RwO.rd b_A1982) hx1984 (by decide) (by decide) (mem_of rfl) (.inl (Rep.fl_flat _)))
      refine sc (fun own a wx hf hsl hE => ?_) ?_
      · obtain ⟨⟨⟨A1986, cA1986⟩, (f_83 : a.eval (.tmp 83) = .slice A1986 x1984.length cA1986), b_A1986⟩, -⟩ := hf
        exact px (or_mono (f := Fct.val 3 (.slice A1986 x1984.length cA1986)) (or_assign f_83) (fun own' a' w' v' hp h => fun _ _ h0' => by cases (f_83.symm.trans ((hp.2 83 (by decide)).symm.trans h0')); exact h))
      exact steps_nil
    intro own1987 a1987 w1987 hd1987 hz1987 hk1987 hf1987 hE1987
    have e1987_1 := (hk1987 1 rfl).trans e1868_1
    obtain ⟨⟨⟨A1986, cA1986⟩, (f_83 : a1987.eval (.tmp 83) = .slice A1986 x1984.length cA1986), (b1987_A1986 : RwO own1987 1985 [] w1987 26 R26 A1986 cA1986 x1984)⟩, (q_3 : ∀ (A1986 : Option Addr) (cA1986 : Nat), a1987.eval (.tmp 83) = .slice A1986 x1984.length cA1986 → a1987.eval (.tmp 3) = .slice A1986 x1984.length cA1986), -⟩ := hf1987 [6, 7] rfl
    have e1987_3 := q_3 _ _ f_83
    have hX1987 := es_ hX1868 hE1987
    have b1987_g1617 := be_ hE1987 b1868_g1617
    have b1987_An1_0 := RdO.evo rfl hE1987 b1868_An1_0
    have b1987_An1_1 := RdO.evo rfl hE1987 b1868_An1_1
    refine fl_seq (fun Q1988 hn1988 hp1988 => ?_)
    refine rg0_seq 153 own1987 (bz 1) [⟨[], [], [], Fct.val 8 (.int .i64 0)⟩] hz1987 hd1987 (by kernel_rfl) ?_ ?_
    · refine sc (fun _ _ _ _ _ _ => px (or_assign rfl)) ?_
      exact steps_nil
    intro own1989 a1989 w1989 hd1989 hz1989 hk1989 hf1989 hE1989
    have e1989_1 := (hk1989 1 rfl).trans e1987_1
    have e1989_3 := (hk1989 3 rfl).trans e1987_3
    obtain ⟨(e1989_8 : a1989.eval (.tmp 8) = .int .i64 0), -⟩ := hf1989 [0] rfl
    have hX1989 := es_ hX1987 hE1989
    have b1989_g1617 := be_ hE1989 b1987_g1617
    have b1989_An1_0 := RdO.evo rfl hE1989 b1987_An1_0
    have b1989_An1_1 := RdO.evo rfl hE1989 b1987_An1_1
    have b1989_A1986 := re_ hE1989 b1987_A1986
    refine fl_block (fun Q1990 hn1990 hx1990 hp1990 => ?_)
    refine fl_loop (body := (fun s => ref26_Numbers_b3 n1 s.1 s.2)) (z := r) (show loopO _ _ = _ from hs) (fun (s : (List Int) × Int) a wx => match s with | (out2406, i2408) => ∃ (ox : Own) (A2404 : Option Addr) (c2405 : Nat), a.defers = [] ∧ a.tmps.size = 153 ∧ a.eval (.tmp 1) = .pointer (some ⟨g1617, 0, none⟩) ∧ a.eval (.tmp 3) = .slice A2404 out2406.length c2405 ∧ a.eval (.tmp 8) = .int .i64 i2408 ∧ Evo [] (fun _ => 0) ox w wx ∧ BlkO ox 1618 wx g1617 38 #[.slice An1_0 n1.1.length cn1_0, .slice An1_1 n1.2.length cn1_1] ∧ RdO ox [0] wx R78 An1_0 cn1_0 n1.1 ∧ RdO ox [0] wx R27 An1_1 cn1_1 n1.2 ∧ RwO ox 2407 [] wx 26 R26 A2404 c2405 out2406) ?_ ?_
    · exact ⟨(rl [(1985, 2407)] own1989), A1986, cA1986, hd1989, hz1989, e1989_1, e1989_3, e1989_8, (Evo.rl_ hX1989 (fun _ => Nat.le_refl 0) rfl), (BlkO.rl_ (mm := [(1985, 2407)]) b1989_g1617), (RdO.rl_ (mm := [(1985, 2407)]) b1989_An1_0), (RdO.rl_ (mm := [(1985, 2407)]) b1989_An1_1), (RwO.rl_ (mm := [(1985, 2407)]) b1989_A1986)⟩
    · rintro ⟨out2406, i2408⟩ zz2822 a2822 w2822 ⟨own2822, A2404, c2405, hd2823, hz2823, e2823_1, e2823_3, e2823_8, hE2823, b2823_g1617, b2823_An1_0, b2823_An1_1, b2823_A2404⟩ hs Q2822 hn2822 hp2822 hz2822
      have hs : ref26_Numbers_b3 n1 out2406 i2408 = some zz2822 := hs
      refine fl_seq (fun Q2824 hn2824 hp2824 => ?_)
      refine rg0_seq 153 own2822 [0, 0, 2, 6, 15] [⟨[], [8], [], Fct.val 84 (.int .i64 i2408)⟩, ⟨[], [1], [], Fct.val 85 (.pointer (some ⟨g1617, 1, none⟩))⟩, ⟨[1], [], [], Fct.val 86 (.slice An1_1 n1.2.length cn1_1)⟩, ⟨[2], [], [], Fct.val 87 (.int .i64 (n1.2.length : Int))⟩, ⟨[0, 3], [], [], Fct.val 88 (.bool (decide (i2408 < (n1.2.length : Int))))⟩] hz2823 hd2823 (by kernel_rfl) ?_ ?_
      · refine sc (fun _ _ _ _ s _ => px (or_move (s.1.trans e2823_8))) ?_
        refine sc (fun _ _ _ _ s _ => px (or_field fo38_1 (s.1.trans e2823_1) (by rfl))) ?_
        refine sc (fun _ _ _ f _ hE => px (or_load1 to23 f.1 (Blk.at_ (be_ hE b2823_g1617).2 1 rfl))) ?_
        refine sc (fun _ _ _ f _ _ => px (or_len tu23 f.1 rfl)) ?_
        refine sc (fun _ _ _ f _ _ => px (or_lss f.1 f.2.1 rfl)) ?_
        exact steps_nil
      intro own2825 a2825 w2825 hd2825 hz2825 hk2825 hf2825 hE2825
      have e2825_1 := (hk2825 1 rfl).trans e2823_1
      have e2825_3 := (hk2825 3 rfl).trans e2823_3
      have e2825_8 := (hk2825 8 rfl).trans e2823_8
      obtain ⟨(e2825_88 : a2825.eval (.tmp 88) = .bool (decide (i2408 < (n1.2.length : Int)))), -⟩ := hf2825 [4] rfl
      have hX2825 := es_ hE2823 hE2825
      have b2825_g1617 := be_ hE2825 b2823_g1617
      have b2825_An1_0 := RdO.evo rfl hE2825 b2823_An1_0
      have b2825_An1_1 := RdO.evo rfl hE2825 b2823_An1_1
      have b2825_A2404 := re_ hE2825 b2823_A2404
      refine fl_cond e2825_88 hs (fun c2826 hs => ?_) (fun c2826 hs => ?_)
      · refine fl_skip ?_
        refine hn2824 _ _ ?_
        refine fl_seq (fun Q2827 hn2827 hp2827 => ?_)
        refine fl_block (fun Q2828 hn2828 hx2828 hp2828 => ?_)
        obtain ⟨x2834, hx2834, hs⟩ := obind hs
        obtain ⟨x2836, hx2836, hs⟩ := obind hs
        obtain ⟨x2839, hx2839, hs⟩ := obind hs
        refine rg_plain_seq (n := 153) (rs := [Fct.rowAt 2407 [] 26 R26 A2404 c2405 out2406]) (own0 := own2825) (K := [2407]) (bs := [0, 0, 2, 0, 14, 30, 62, 126, 254, 511, 1023]) (ds := [⟨[], [3], [], Fct.val 91 (.slice A2404 out2406.length c2405)⟩, ⟨[], [1], [], Fct.val 92 (.pointer (some ⟨g1617, 1, none⟩))⟩, ⟨[1], [], [], Fct.val 93 (.slice An1_1 n1.2.length cn1_1)⟩, ⟨[], [8], [], Fct.val 94 (.int .i64 i2408)⟩, ⟨[2, 3], [], [], Fct.val 95 (.pointer (some ((adr An1_1).add ((i2408 : Int).toNat * R27.s))))⟩, ⟨[4], [], [], Fct.nest X27 [0] 96 (fun (y : (Option Addr × Nat)) => .slice y.1 x2834.length y.2) x2834⟩, ⟨[5], [], [], Fct.val 97 (.int .i64 (x2834.length : Int))⟩, ⟨[6], [], [], Fct.val 98 (.int .u64 x2836)⟩, ⟨[7], [], [], Fct.row 2838 [] 99 26 R26 [x2836]⟩, ⟨[0, 8, 11], [], [2407], Fct.row 2840 [] 100 26 R26 x2839⟩, ⟨[9], [], [], Fct.rel [3, 100] (fun l => ∀ (A2841 : Option Addr) (cA2841 : Nat), l.getD 1 undef = .slice A2841 x2839.length cA2841 → l.getD 0 undef = .slice A2841 x2839.length cA2841)⟩]) (by kernel_rfl) hz2825 hd2825 (by simp only [List.forall_mem_cons]; exact ⟨b2825_A2404, fun _ h => nomatch h⟩) ?_ ?_
        · refine sc (fun _ _ _ _ s _ => px (or_move (s.1.trans e2825_3))) ?_
          refine sc (fun _ _ _ _ s _ => px (or_field fo38_1 (s.1.trans e2825_1) (by rfl))) ?_
          refine sc (fun _ _ _ f _ hE => px (or_load1 to23 f.1 (Blk.at_ (be_ hE b2825_g1617).2 1 rfl))) ?_
          refine sc (fun _ _ _ _ s _ => px (or_move (s.1.trans e2825_8))) ?_
          refine sc (fun _ _ _ f _ _ => px (or_index (R := R27) (l := n1.2) tl23 f.1 f.2.1 (RdO.some_ b2825_An1_1 hx2834) hx2834)) ?_
          refine sc (fun _ _ _ f _ hE => px (or_loadN1 X27 0 to27 f.1 (Addr.add_zero' _).symm (RdO.evo rfl hE b2825_An1_1) hx2834 (fun _ => rfl))) ?_
          refine sc (fun own a wx hf hsl hE => ?_) ?_
          · obtain ⟨⟨⟨A2835, cA2835⟩, f_96, b_A2835⟩, -⟩ := hf
            exact px (or_len tu27 f_96 rfl)
          refine sc (fun _ _ _ f _ _ => px (or_conv f.1 tn3 tn26 (osome hx2836).symm)) ?_
          refine sc (fun _ _ _ f _ _ => px (or_lit (lab := 2838) (e := 26) (cs := #[.int .u64 x2836]) (F := E26) (or_new [(98, .int .u64 x2836)] rfl rfl ⟨f.1, trivial⟩ (by kernel_rfl)) rfl rfl (show 1 ≤ maxLen by decide))) ?_
          refine sc (fun own a wx hf hsl hE => ?_) ?_
          · obtain ⟨f_91, ⟨⟨A2837, cA2837⟩, f_99, b_A2837⟩, b_A2404, -⟩ := hf
            exact px (or_append (R := R26) (lab := 2407) (lab2 := 2840) (L := []) (L3 := []) tp87 f_91 b_A2404 (by decide) f_99 (RwO.rd b_A2837) hx2839 (by decide) (by decide) (mem_of rfl) (.inl (Rep.fl_flat _)))
          refine sc (fun own a wx hf hsl hE => ?_) ?_
          · obtain ⟨⟨⟨A2841, cA2841⟩, (f_100 : a.eval (.tmp 100) = .slice A2841 x2839.length cA2841), b_A2841⟩, -⟩ := hf
            exact px (or_mono (f := Fct.val 3 (.slice A2841 x2839.length cA2841)) (or_assign f_100) (fun own' a' w' v' hp h => fun _ _ h0' => by cases (f_100.symm.trans ((hp.2 100 (by decide)).symm.trans h0')); exact h))
          exact steps_nil
        intro own2842 a2842 w2842 hd2842 hz2842 hk2842 hf2842 hE2842
        have e2842_1 := (hk2842 1 rfl).trans e2825_1
        have e2842_8 := (hk2842 8 rfl).trans e2825_8
        obtain ⟨⟨⟨A2841, cA2841⟩, (f_100 : a2842.eval (.tmp 100) = .slice A2841 x2839.length cA2841), (b2842_A2841 : RwO own2842 2840 [] w2842 26 R26 A2841 cA2841 x2839)⟩, (q_3 : ∀ (A2841 : Option Addr) (cA2841 : Nat), a2842.eval (.tmp 100) = .slice A2841 x2839.length cA2841 → a2842.eval (.tmp 3) = .slice A2841 x2839.length cA2841), -⟩ := hf2842 [9, 10] rfl
        have e2842_3 := q_3 _ _ f_100
        have hX2842 := es_ hX2825 hE2842
        have b2842_g1617 := be_ hE2842 b2825_g1617
        have b2842_An1_0 := RdO.evo rfl hE2842 b2825_An1_0
        have b2842_An1_1 := RdO.evo rfl hE2842 b2825_An1_1
        refine rg0_seq 153 own2842 (bz 1) [⟨[], [], [], Fct.val 9 (.int .i64 0)⟩] hz2842 hd2842 (by kernel_rfl) ?_ ?_
        · refine sc (fun _ _ _ _ _ _ => px (or_assign rfl)) ?_
          exact steps_nil
        intro own2843 a2843 w2843 hd2843 hz2843 hk2843 hf2843 hE2843
        have e2843_1 := (hk2843 1 rfl).trans e2842_1
        have e2843_3 := (hk2843 3 rfl).trans e2842_3
        have e2843_8 := (hk2843 8 rfl).trans e2842_8
        obtain ⟨(e2843_9 : a2843.eval (.tmp 9) = .int .i64 0), -⟩ := hf2843 [0] rfl
        have hX2843 := es_ hX2842 hE2843
        have b2843_g1617 := be_ hE2843 b2842_g1617
        have b2843_An1_0 := RdO.evo rfl hE2843 b2842_An1_0
        have b2843_An1_1 := RdO.evo rfl hE2843 b2842_An1_1
        have b2843_A2841 := re_ hE2843 b2842_A2841
        refine fl_block (fun Q2844 hn2844 hx2844 hp2844 => ?_)
        refine fl_loop (body := (fun s => ref26_Numbers_b4 n1 i2408 s.1 s.2)) (z := zz2822) (show loopO _ _ = _ from hs) (fun (s : (List Int) × Int) a wx => match s with | (out2975, k2977) => ∃ (ox : Own) (A2973 : Option Addr) (c2974 : Nat), a.defers = [] ∧ a.tmps.size = 153 ∧ a.eval (.tmp 1) = .pointer (some ⟨g1617, 0, none⟩) ∧ a.eval (.tmp 3) = .slice A2973 out2975.length c2974 ∧ a.eval (.tmp 8) = .int .i64 i2408 ∧ a.eval (.tmp 9) = .int .i64 k2977 ∧ Evo [] (fun _ => 0) ox w wx ∧ BlkO ox 1618 wx g1617 38 #[.slice An1_0 n1.1.length cn1_0, .slice An1_1 n1.2.length cn1_1] ∧ RdO ox [0] wx R78 An1_0 cn1_0 n1.1 ∧ RdO ox [0] wx R27 An1_1 cn1_1 n1.2 ∧ RwO ox 2976 [] wx 26 R26 A2973 c2974 out2975) ?_ ?_
        · exact ⟨(rl [(2840, 2976)] own2843), A2841, cA2841, hd2843, hz2843, e2843_1, e2843_3, e2843_8, e2843_9, (Evo.rl_ hX2843 (fun _ => Nat.le_refl 0) rfl), (BlkO.rl_ (mm := [(2840, 2976)]) b2843_g1617), (RdO.rl_ (mm := [(2840, 2976)]) b2843_An1_0), (RdO.rl_ (mm := [(2840, 2976)]) b2843_An1_1), (RwO.rl_ (mm := [(2840, 2976)]) b2843_A2841)⟩
        · rintro ⟨out2975, k2977⟩ zz3106 a3106 w3106 ⟨own3106, A2973, c2974, hd3107, hz3107, e3107_1, e3107_3, e3107_8, e3107_9, hE3107, b3107_g1617, b3107_An1_0, b3107_An1_1, b3107_A2973⟩ hs Q3106 hn3106 hp3106 hz3106
          have hs : ref26_Numbers_b4 n1 i2408 out2975 k2977 = some zz3106 := hs
          refine fl_seq (fun Q3108 hn3108 hp3108 => ?_)
          obtain ⟨x3109, hx3109, hs⟩ := obind hs
          refine rg0_seq 153 own3106 [0, 0, 2, 0, 14, 30, 62, 127] [⟨[], [9], [], Fct.val 101 (.int .i64 k2977)⟩, ⟨[], [1], [], Fct.val 102 (.pointer (some ⟨g1617, 1, none⟩))⟩, ⟨[1], [], [], Fct.val 103 (.slice An1_1 n1.2.length cn1_1)⟩, ⟨[], [8], [], Fct.val 104 (.int .i64 i2408)⟩, ⟨[2, 3], [], [], Fct.val 105 (.pointer (some ((adr An1_1).add ((i2408 : Int).toNat * R27.s))))⟩, ⟨[4], [], [], Fct.nest X27 [0] 106 (fun (y : (Option Addr × Nat)) => .slice y.1 x3109.length y.2) x3109⟩, ⟨[5], [], [], Fct.val 107 (.int .i64 (x3109.length : Int))⟩, ⟨[0, 6], [], [], Fct.val 108 (.bool (decide (k2977 < (x3109.length : Int))))⟩] hz3107 hd3107 (by kernel_rfl) ?_ ?_
          · refine sc (fun _ _ _ _ s _ => px (or_move (s.1.trans e3107_9))) ?_
            refine sc (fun _ _ _ _ s _ => px (or_field fo38_1 (s.1.trans e3107_1) (by rfl))) ?_
            refine sc (fun _ _ _ f _ hE => px (or_load1 to23 f.1 (Blk.at_ (be_ hE b3107_g1617).2 1 rfl))) ?_
            refine sc (fun _ _ _ _ s _ => px (or_move (s.1.trans e3107_8))) ?_
            refine sc (fun _ _ _ f _ _ => px (or_index (R := R27) (l := n1.2) tl23 f.1 f.2.1 (RdO.some_ b3107_An1_1 hx3109) hx3109)) ?_
            refine sc (fun _ _ _ f _ hE => px (or_loadN1 X27 0 to27 f.1 (Addr.add_zero' _).symm (RdO.evo rfl hE b3107_An1_1) hx3109 (fun _ => rfl))) ?_
            refine sc (fun own a wx hf hsl hE => ?_) ?_
            · obtain ⟨⟨⟨A3110, cA3110⟩, f_106, b_A3110⟩, -⟩ := hf
              exact px (or_len tu27 f_106 rfl)
            refine sc (fun _ _ _ f _ _ => px (or_lss f.1 f.2.1 rfl)) ?_
            exact steps_nil
          intro own3111 a3111 w3111 hd3111 hz3111 hk3111 hf3111 hE3111
          have e3111_1 := (hk3111 1 rfl).trans e3107_1
          have e3111_3 := (hk3111 3 rfl).trans e3107_3
          have e3111_8 := (hk3111 8 rfl).trans e3107_8
          have e3111_9 := (hk3111 9 rfl).trans e3107_9
          obtain ⟨(e3111_108 : a3111.eval (.tmp 108) = .bool (decide (k2977 < (x3109.length : Int)))), -⟩ := hf3111 [7] rfl
          have hX3111 := es_ hE3107 hE3111
          have b3111_g1617 := be_ hE3111 b3107_g1617
          have b3111_An1_0 := RdO.evo rfl hE3111 b3107_An1_0
          have b3111_An1_1 := RdO.evo rfl hE3111 b3107_An1_1
          have b3111_A2973 := re_ hE3111 b3107_A2973
          refine fl_cond e3111_108 hs (fun c3112 hs => ?_) (fun c3112 hs => ?_)
          · refine fl_skip ?_
            refine hn3108 _ _ ?_
            refine fl_seq (fun Q3113 hn3113 hp3113 => ?_)
            refine fl_block (fun Q3114 hn3114 hx3114 hp3114 => ?_)
            obtain ⟨x3122, hx3122, hs⟩ := obind hs
            obtain ⟨x3124, hx3124, hs⟩ := obind hs
            obtain ⟨x3126, hx3126, hs⟩ := obind hs
            obtain ⟨x3129, hx3129, hs⟩ := obind hs
            refine rg_plain_seq (n := 153) (rs := [Fct.rowAt 2976 [] 26 R26 A2973 c2974 out2975]) (own0 := own3111) (K := [2976]) (bs := [0, 0, 2, 0, 14, 30, 0, 126, 254, 510, 1022, 2046, 4095, 8191]) (ds := [⟨[], [3], [], Fct.val 111 (.slice A2973 out2975.length c2974)⟩, ⟨[], [1], [], Fct.val 112 (.pointer (some ⟨g1617, 1, none⟩))⟩, ⟨[1], [], [], Fct.val 113 (.slice An1_1 n1.2.length cn1_1)⟩, ⟨[], [8], [], Fct.val 114 (.int .i64 i2408)⟩, ⟨[2, 3], [], [], Fct.val 115 (.pointer (some ((adr An1_1).add ((i2408 : Int).toNat * R27.s))))⟩, ⟨[4], [], [], Fct.nest X27 [0] 116 (fun (y : (Option Addr × Nat)) => .slice y.1 x3122.length y.2) x3122⟩, ⟨[], [9], [], Fct.val 117 (.int .i64 k2977)⟩, ⟨[5, 6], [], [], Fct.rel [118, 116] (fun l => ∀ (A3123 : Option Addr) (cA3123 : Nat), l.getD 1 undef = .slice A3123 x3122.length cA3123 → l.getD 0 undef = .pointer (some ((adr A3123).add ((k2977 : Int).toNat * R28.s))))⟩, ⟨[7, 5], [], [], Fct.nest X28 [0] 119 (fun (y : (Option Addr × Nat)) => .slice y.1 x3124.length y.2) x3124⟩, ⟨[8], [], [], Fct.val 120 (.int .i64 (x3124.length : Int))⟩, ⟨[9], [], [], Fct.val 121 (.int .u64 x3126)⟩, ⟨[10], [], [], Fct.row 3128 [] 122 26 R26 [x3126]⟩, ⟨[0, 11, 14], [], [2976], Fct.row 3130 [] 123 26 R26 x3129⟩, ⟨[12], [], [], Fct.rel [3, 123] (fun l => ∀ (A3131 : Option Addr) (cA3131 : Nat), l.getD 1 undef = .slice A3131 x3129.length cA3131 → l.getD 0 undef = .slice A3131 x3129.length cA3131)⟩]) (by kernel_rfl) hz3111 hd3111 (by simp only [List.forall_mem_cons]; exact ⟨b3111_A2973, fun _ h => nomatch h⟩) ?_ ?_
            · refine sc (fun _ _ _ _ s _ => px (or_move (s.1.trans e3111_3))) ?_
              refine sc (fun _ _ _ _ s _ => px (or_field fo38_1 (s.1.trans e3111_1) (by rfl))) ?_
              refine sc (fun _ _ _ f _ hE => px (or_load1 to23 f.1 (Blk.at_ (be_ hE b3111_g1617).2 1 rfl))) ?_
              refine sc (fun _ _ _ _ s _ => px (or_move (s.1.trans e3111_8))) ?_
              refine sc (fun _ _ _ f _ _ => px (or_index (R := R27) (l := n1.2) tl23 f.1 f.2.1 (RdO.some_ b3111_An1_1 hx3122) hx3122)) ?_
              refine sc (fun _ _ _ f _ hE => px (or_loadN1 X27 0 to27 f.1 (Addr.add_zero' _).symm (RdO.evo rfl hE b3111_An1_1) hx3122 (fun _ => rfl))) ?_
              refine sc (fun _ _ _ _ s _ => px (or_move (s.1.trans e3111_9))) ?_
              refine sc (fun own a wx hf hsl hE => ?_) ?_
              · obtain ⟨⟨⟨A3123, cA3123⟩, (f_116 : a.eval (.tmp 116) = .slice A3123 x3122.length cA3123), b_A3123⟩, f_117, -⟩ := hf
                exact px (or_mono (f := Fct.val 118 (.pointer (some ((adr A3123).add ((k2977 : Int).toNat * R28.s))))) (or_index (R := R28) (l := x3122) tl27 f_116 f_117 (RdO.some_ b_A3123 hx3124) hx3124) (fun own' a' w' v' hp h => fun _ _ h0' => by cases (f_116.symm.trans ((hp.2 116 (by decide)).symm.trans h0')); exact h))
              refine sc (fun own a wx hf hsl hE => ?_) ?_
              · obtain ⟨(q_118 : ∀ (A3123 : Option Addr) (cA3123 : Nat), a.eval (.tmp 116) = .slice A3123 x3122.length cA3123 → a.eval (.tmp 118) = .pointer (some ((adr A3123).add ((k2977 : Int).toNat * R28.s)))), ⟨⟨A3123, cA3123⟩, f_116, b_A3123⟩, -⟩ := hf
                have f_118 := q_118 _ _ f_116
                exact px (or_loadN1 X28 0 to28 f_118 (Addr.add_zero' _).symm b_A3123 hx3124 (fun _ => rfl))
              refine sc (fun own a wx hf hsl hE => ?_) ?_
              · obtain ⟨⟨⟨A3125, cA3125⟩, f_119, b_A3125⟩, -⟩ := hf
                exact px (or_len tu28 f_119 rfl)
              refine sc (fun _ _ _ f _ _ => px (or_conv f.1 tn3 tn26 (osome hx3126).symm)) ?_
              refine sc (fun _ _ _ f _ _ => px (or_lit (lab := 3128) (e := 26) (cs := #[.int .u64 x3126]) (F := E26) (or_new [(121, .int .u64 x3126)] rfl rfl ⟨f.1, trivial⟩ (by kernel_rfl)) rfl rfl (show 1 ≤ maxLen by decide))) ?_
              refine sc (fun own a wx hf hsl hE => ?_) ?_
              · obtain ⟨f_111, ⟨⟨A3127, cA3127⟩, f_122, b_A3127⟩, b_A2973, -⟩ := hf
                exact px (or_append (R := R26) (lab := 2976) (lab2 := 3130) (L := []) (L3 := []) tp87 f_111 b_A2973 (by decide) f_122 (RwO.rd b_A3127) hx3129 (by decide) (by decide) (mem_of rfl) (.inl (Rep.fl_flat _)))
              refine sc (fun own a wx hf hsl hE => ?_) ?_
              · obtain ⟨⟨⟨A3131, cA3131⟩, (f_123 : a.eval (.tmp 123) = .slice A3131 x3129.length cA3131), b_A3131⟩, -⟩ := hf
                exact px (or_mono (f := Fct.val 3 (.slice A3131 x3129.length cA3131)) (or_assign f_123) (fun own' a' w' v' hp h => fun _ _ h0' => by cases (f_123.symm.trans ((hp.2 123 (by decide)).symm.trans h0')); exact h))
              exact steps_nil
            intro own3132 a3132 w3132 hd3132 hz3132 hk3132 hf3132 hE3132
            have e3132_1 := (hk3132 1 rfl).trans e3111_1
            have e3132_8 := (hk3132 8 rfl).trans e3111_8
            have e3132_9 := (hk3132 9 rfl).trans e3111_9
            obtain ⟨⟨⟨A3131, cA3131⟩, (f_123 : a3132.eval (.tmp 123) = .slice A3131 x3129.length cA3131), (b3132_A3131 : RwO own3132 3130 [] w3132 26 R26 A3131 cA3131 x3129)⟩, (q_3 : ∀ (A3131 : Option Addr) (cA3131 : Nat), a3132.eval (.tmp 123) = .slice A3131 x3129.length cA3131 → a3132.eval (.tmp 3) = .slice A3131 x3129.length cA3131), -⟩ := hf3132 [12, 13] rfl
            have e3132_3 := q_3 _ _ f_123
            have hX3132 := es_ hX3111 hE3132
            have b3132_g1617 := be_ hE3132 b3111_g1617
            have b3132_An1_0 := RdO.evo rfl hE3132 b3111_An1_0
            have b3132_An1_1 := RdO.evo rfl hE3132 b3111_An1_1
            refine rg0_seq 153 own3132 (bz 1) [⟨[], [], [], Fct.val 10 (.int .i64 0)⟩] hz3132 hd3132 (by kernel_rfl) ?_ ?_
            · refine sc (fun _ _ _ _ _ _ => px (or_assign rfl)) ?_
              exact steps_nil
            intro own3133 a3133 w3133 hd3133 hz3133 hk3133 hf3133 hE3133
            have e3133_1 := (hk3133 1 rfl).trans e3132_1
            have e3133_3 := (hk3133 3 rfl).trans e3132_3
            have e3133_8 := (hk3133 8 rfl).trans e3132_8
            have e3133_9 := (hk3133 9 rfl).trans e3132_9
            obtain ⟨(e3133_10 : a3133.eval (.tmp 10) = .int .i64 0), -⟩ := hf3133 [0] rfl
            have hX3133 := es_ hX3132 hE3133
            have b3133_g1617 := be_ hE3133 b3132_g1617
            have b3133_An1_0 := RdO.evo rfl hE3133 b3132_An1_0
            have b3133_An1_1 := RdO.evo rfl hE3133 b3132_An1_1
            have b3133_A3131 := re_ hE3133 b3132_A3131
            refine fl_block (fun Q3134 hn3134 hx3134 hp3134 => ?_)
            refine fl_loop (body := (fun s => ref26_Numbers_b5 n1 i2408 k2977 s.1 s.2)) (z := zz3106) (show loopO _ _ = _ from hs) (fun (s : (List Int) × Int) a wx => match s with | (out3168, j3170) => ∃ (ox : Own) (A3166 : Option Addr) (c3167 : Nat), a.defers = [] ∧ a.tmps.size = 153 ∧ a.eval (.tmp 1) = .pointer (some ⟨g1617, 0, none⟩) ∧ a.eval (.tmp 3) = .slice A3166 out3168.length c3167 ∧ a.eval (.tmp 8) = .int .i64 i2408 ∧ a.eval (.tmp 9) = .int .i64 k2977 ∧ a.eval (.tmp 10) = .int .i64 j3170 ∧ Evo [] (fun _ => 0) ox w wx ∧ BlkO ox 1618 wx g1617 38 #[.slice An1_0 n1.1.length cn1_0, .slice An1_1 n1.2.length cn1_1] ∧ RdO ox [0] wx R78 An1_0 cn1_0 n1.1 ∧ RdO ox [0] wx R27 An1_1 cn1_1 n1.2 ∧ RwO ox 3169 [] wx 26 R26 A3166 c3167 out3168) ?_ ?_
            · exact ⟨(rl [(3130, 3169)] own3133), A3131, cA3131, hd3133, hz3133, e3133_1, e3133_3, e3133_8, e3133_9, e3133_10, (Evo.rl_ hX3133 (fun _ => Nat.le_refl 0) rfl), (BlkO.rl_ (mm := [(3130, 3169)]) b3133_g1617), (RdO.rl_ (mm := [(3130, 3169)]) b3133_An1_0), (RdO.rl_ (mm := [(3130, 3169)]) b3133_An1_1), (RwO.rl_ (mm := [(3130, 3169)]) b3133_A3131)⟩
            · rintro ⟨out3168, j3170⟩ zz3202 a3202 w3202 ⟨own3202, A3166, c3167, hd3203, hz3203, e3203_1, e3203_3, e3203_8, e3203_9, e3203_10, hE3203, b3203_g1617, b3203_An1_0, b3203_An1_1, b3203_A3166⟩ hs Q3202 hn3202 hp3202 hz3202
              have hs : ref26_Numbers_b5 n1 i2408 k2977 out3168 j3170 = some zz3202 := hs
              refine fl_seq (fun Q3204 hn3204 hp3204 => ?_)
              obtain ⟨x3205, hx3205, hs⟩ := obind hs
              obtain ⟨x3207, hx3207, hs⟩ := obind hs
              refine rg0_seq 153 own3202 [0, 0, 2, 0, 14, 30, 0, 126, 254, 510, 1023] [⟨[], [10], [], Fct.val 124 (.int .i64 j3170)⟩, ⟨[], [1], [], Fct.val 125 (.pointer (some ⟨g1617, 1, none⟩))⟩, ⟨[1], [], [], Fct.val 126 (.slice An1_1 n1.2.length cn1_1)⟩, ⟨[], [8], [], Fct.val 127 (.int .i64 i2408)⟩, ⟨[2, 3], [], [], Fct.val 128 (.pointer (some ((adr An1_1).add ((i2408 : Int).toNat * R27.s))))⟩, ⟨[4], [], [], Fct.nest X27 [0] 129 (fun (y : (Option Addr × Nat)) => .slice y.1 x3205.length y.2) x3205⟩, ⟨[], [9], [], Fct.val 130 (.int .i64 k2977)⟩, ⟨[5, 6], [], [], Fct.rel [131, 129] (fun l => ∀ (A3206 : Option Addr) (cA3206 : Nat), l.getD 1 undef = .slice A3206 x3205.length cA3206 → l.getD 0 undef = .pointer (some ((adr A3206).add ((k2977 : Int).toNat * R28.s))))⟩, ⟨[7, 5], [], [], Fct.nest X28 [0] 132 (fun (y : (Option Addr × Nat)) => .slice y.1 x3207.length y.2) x3207⟩, ⟨[8], [], [], Fct.val 133 (.int .i64 (x3207.length : Int))⟩, ⟨[0, 9], [], [], Fct.val 134 (.bool (decide (j3170 < (x3207.length : Int))))⟩] hz3203 hd3203 (by kernel_rfl) ?_ ?_
              · refine sc (fun _ _ _ _ s _ => px (or_move (s.1.trans e3203_10))) ?_
                refine sc (fun _ _ _ _ s _ => px (or_field fo38_1 (s.1.trans e3203_1) (by rfl))) ?_
                refine sc (fun _ _ _ f _ hE => px (or_load1 to23 f.1 (Blk.at_ (be_ hE b3203_g1617).2 1 rfl))) ?_
                refine sc (fun _ _ _ _ s _ => px (or_move (s.1.trans e3203_8))) ?_
                refine sc (fun _ _ _ f _ _ => px (or_index (R := R27) (l := n1.2) tl23 f.1 f.2.1 (RdO.some_ b3203_An1_1 hx3205) hx3205)) ?_
                refine sc (fun _ _ _ f _ hE => px (or_loadN1 X27 0 to27 f.1 (Addr.add_zero' _).symm (RdO.evo rfl hE b3203_An1_1) hx3205 (fun _ => rfl))) ?_
                refine sc (fun _ _ _ _ s _ => px (or_move (s.1.trans e3203_9))) ?_
                refine sc (fun own a wx hf hsl hE => ?_) ?_
                · obtain ⟨⟨⟨A3206, cA3206⟩, (f_129 : a.eval (.tmp 129) = .slice A3206 x3205.length cA3206), b_A3206⟩, f_130, -⟩ := hf
                  exact px (or_mono (f := Fct.val 131 (.pointer (some ((adr A3206).add ((k2977 : Int).toNat * R28.s))))) (or_index (R := R28) (l := x3205) tl27 f_129 f_130 (RdO.some_ b_A3206 hx3207) hx3207) (fun own' a' w' v' hp h => fun _ _ h0' => by cases (f_129.symm.trans ((hp.2 129 (by decide)).symm.trans h0')); exact h))
                refine sc (fun own a wx hf hsl hE => ?_) ?_
                · obtain ⟨(q_131 : ∀ (A3206 : Option Addr) (cA3206 : Nat), a.eval (.tmp 129) = .slice A3206 x3205.length cA3206 → a.eval (.tmp 131) = .pointer (some ((adr A3206).add ((k2977 : Int).toNat * R28.s)))), ⟨⟨A3206, cA3206⟩, f_129, b_A3206⟩, -⟩ := hf
                  have f_131 := q_131 _ _ f_129
                  exact px (or_loadN1 X28 0 to28 f_131 (Addr.add_zero' _).symm b_A3206 hx3207 (fun _ => rfl))
                refine sc (fun own a wx hf hsl hE => ?_) ?_
                · obtain ⟨⟨⟨A3208, cA3208⟩, f_132, b_A3208⟩, -⟩ := hf
                  exact px (or_len tu28 f_132 rfl)
                refine sc (fun _ _ _ f _ _ => px (or_lss f.1 f.2.1 rfl)) ?_
                exact steps_nil
              intro own3209 a3209 w3209 hd3209 hz3209 hk3209 hf3209 hE3209
              have e3209_1 := (hk3209 1 rfl).trans e3203_1
              have e3209_3 := (hk3209 3 rfl).trans e3203_3
              have e3209_8 := (hk3209 8 rfl).trans e3203_8
              have e3209_9 := (hk3209 9 rfl).trans e3203_9
              have e3209_10 := (hk3209 10 rfl).trans e3203_10
              obtain ⟨(e3209_134 : a3209.eval (.tmp 134) = .bool (decide (j3170 < (x3207.length : Int)))), -⟩ := hf3209 [10] rfl
              have hX3209 := es_ hE3203 hE3209
              have b3209_g1617 := be_ hE3209 b3203_g1617
              have b3209_An1_0 := RdO.evo rfl hE3209 b3203_An1_0
              have b3209_An1_1 := RdO.evo rfl hE3209 b3203_An1_1
              have b3209_A3166 := re_ hE3209 b3203_A3166
              refine fl_cond e3209_134 hs (fun c3210 hs => ?_) (fun c3210 hs => ?_)
              · refine fl_skip ?_
                refine hn3204 _ _ ?_
                refine fl_seq (fun Q3211 hn3211 hp3211 => ?_)
                refine fl_block (fun Q3212 hn3212 hx3212 hp3212 => ?_)
                obtain ⟨x3221, hx3221, hs⟩ := obind hs
                obtain ⟨x3223, hx3223, hs⟩ := obind hs
                obtain ⟨x3225, hx3225, hs⟩ := obind hs
                obtain ⟨r3226, hr3226, hs⟩ := obind hs
                obtain ⟨x3229, hx3229, hs⟩ := obind hs
                refine rg_plain (n := 153) (rs := [Fct.rowAt 3169 [] 26 R26 A3166 c3167 out3168]) (own0 := own3209) (K := [3169]) (bs := [0, 0, 2, 0, 14, 30, 0, 126, 254, 0, 1022, 2046, 4094, 8190, 16383, 32767]) (ds := [⟨[], [3], [], Fct.val 137 (.slice A3166 out3168.length c3167)⟩, ⟨[], [1], [], Fct.val 138 (.pointer (some ⟨g1617, 1, none⟩))⟩, ⟨[1], [], [], Fct.val 139 (.slice An1_1 n1.2.length cn1_1)⟩, ⟨[], [8], [], Fct.val 140 (.int .i64 i2408)⟩, ⟨[2, 3], [], [], Fct.val 141 (.pointer (some ((adr An1_1).add ((i2408 : Int).toNat * R27.s))))⟩, ⟨[4], [], [], Fct.nest X27 [0] 142 (fun (y : (Option Addr × Nat)) => .slice y.1 x3221.length y.2) x3221⟩, ⟨[], [9], [], Fct.val 143 (.int .i64 k2977)⟩, ⟨[5, 6], [], [], Fct.rel [144, 142] (fun l => ∀ (A3222 : Option Addr) (cA3222 : Nat), l.getD 1 undef = .slice A3222 x3221.length cA3222 → l.getD 0 undef = .pointer (some ((adr A3222).add ((k2977 : Int).toNat * R28.s))))⟩, ⟨[7, 5], [], [], Fct.nest X28 [0] 145 (fun (y : (Option Addr × Nat)) => .slice y.1 x3223.length y.2) x3223⟩, ⟨[], [10], [], Fct.val 146 (.int .i64 j3170)⟩, ⟨[8, 9], [], [], Fct.rel [147, 145] (fun l => ∀ (A3224 : Option Addr) (cA3224 : Nat), l.getD 1 undef = .slice A3224 x3223.length cA3224 → l.getD 0 undef = .pointer (some ((adr A3224).add ((j3170 : Int).toNat * R3.s))))⟩, ⟨[10, 8], [], [], Fct.val 148 (.int .i64 x3225)⟩, ⟨[11], [], [], Fct.val 149 (.int .u64 r3226)⟩, ⟨[12], [], [], Fct.row 3228 [] 150 26 R26 [r3226]⟩, ⟨[0, 13, 16], [], [3169], Fct.row 3230 [] 151 26 R26 x3229⟩, ⟨[14], [], [], Fct.rel [3, 151] (fun l => ∀ (A3231 : Option Addr) (cA3231 : Nat), l.getD 1 undef = .slice A3231 x3229.length cA3231 → l.getD 0 undef = .slice A3231 x3229.length cA3231)⟩]) (by kernel_rfl) hz3209 hd3209 (by simp only [List.forall_mem_cons]; exact ⟨b3209_A3166, fun _ h => nomatch h⟩) ?_ ?_
                · refine sc (fun _ _ _ _ s _ => px (or_move (s.1.trans e3209_3))) ?_
                  refine sc (fun _ _ _ _ s _ => px (or_field fo38_1 (s.1.trans e3209_1) (by rfl))) ?_
                  refine sc (fun _ _ _ f _ hE => px (or_load1 to23 f.1 (Blk.at_ (be_ hE b3209_g1617).2 1 rfl))) ?_
                  refine sc (fun _ _ _ _ s _ => px (or_move (s.1.trans e3209_8))) ?_
                  refine sc (fun _ _ _ f _ _ => px (or_index (R := R27) (l := n1.2) tl23 f.1 f.2.1 (RdO.some_ b3209_An1_1 hx3221) hx3221)) ?_
                  refine sc (fun _ _ _ f _ hE => px (or_loadN1 X27 0 to27 f.1 (Addr.add_zero' _).symm (RdO.evo rfl hE b3209_An1_1) hx3221 (fun _ => rfl))) ?_
                  refine sc (fun _ _ _ _ s _ => px (or_move (s.1.trans e3209_9))) ?_
                  refine sc (fun own a wx hf hsl hE => ?_) ?_
                  · obtain ⟨⟨⟨A3222, cA3222⟩, (f_142 : a.eval (.tmp 142) = .slice A3222 x3221.length cA3222), b_A3222⟩, f_143, -⟩ := hf
                    exact px (or_mono (f := Fct.val 144 (.pointer (some ((adr A3222).add ((k2977 : Int).toNat * R28.s))))) (or_index (R := R28) (l := x3221) tl27 f_142 f_143 (RdO.some_ b_A3222 hx3223) hx3223) (fun own' a' w' v' hp h => fun _ _ h0' => by cases (f_142.symm.trans ((hp.2 142 (by decide)).symm.trans h0')); exact h))
                  refine sc (fun own a wx hf hsl hE => ?_) ?_
                  · obtain ⟨(q_144 : ∀ (A3222 : Option Addr) (cA3222 : Nat), a.eval (.tmp 142) = .slice A3222 x3221.length cA3222 → a.eval (.tmp 144) = .pointer (some ((adr A3222).add ((k2977 : Int).toNat * R28.s)))), ⟨⟨A3222, cA3222⟩, f_142, b_A3222⟩, -⟩ := hf
                    have f_144 := q_144 _ _ f_142
                    exact px (or_loadN1 X28 0 to28 f_144 (Addr.add_zero' _).symm b_A3222 hx3223 (fun _ => rfl))
                  refine sc (fun _ _ _ _ s _ => px (or_move (s.1.trans e3209_10))) ?_
                  refine sc (fun own a wx hf hsl hE => ?_) ?_
                  · obtain ⟨⟨⟨A3224, cA3224⟩, (f_145 : a.eval (.tmp 145) = .slice A3224 x3223.length cA3224), b_A3224⟩, f_146, -⟩ := hf
                    exact px (or_mono (f := Fct.val 147 (.pointer (some ((adr A3224).add ((j3170 : Int).toNat * R3.s))))) (or_index (R := R3) (l := x3223) tl28 f_145 f_146 (RdO.some_ b_A3224 hx3225) hx3225) (fun own' a' w' v' hp h => fun _ _ h0' => by cases (f_145.symm.trans ((hp.2 145 (by decide)).symm.trans h0')); exact h))
                  refine sc (fun own a wx hf hsl hE => ?_) ?_
                  · obtain ⟨(q_147 : ∀ (A3224 : Option Addr) (cA3224 : Nat), a.eval (.tmp 145) = .slice A3224 x3223.length cA3224 → a.eval (.tmp 147) = .pointer (some ((adr A3224).add ((j3170 : Int).toNat * R3.s)))), ⟨⟨A3224, cA3224⟩, f_145, b_A3224⟩, -⟩ := hf
                    have f_147 := q_147 _ _ f_145
                    exact px (or_load1 to3 f_147 (CellsAt.zero (RdO.cells (F := E3) b_A3224 hx3225) rfl))
                  refine sc (fun _ _ _ f _ _ => px (or_call cf56 (args1 f.1) (ref07_Zig_w _ x3225  r3226 hr3226) post_val)) ?_
                  refine sc (fun _ _ _ f _ _ => px (or_lit (lab := 3228) (e := 26) (cs := #[.int .u64 r3226]) (F := E26) (or_new [(149, .int .u64 r3226)] rfl rfl ⟨f.1, trivial⟩ (by kernel_rfl)) rfl rfl (show 1 ≤ maxLen by decide))) ?_
                  refine sc (fun own a wx hf hsl hE => ?_) ?_
                  · obtain ⟨f_137, ⟨⟨A3227, cA3227⟩, f_150, b_A3227⟩, b_A3166, -⟩ := hf
                    exact px (or_append (R := R26) (lab := 3169) (lab2 := 3230) (L := []) (L3 := []) tp87 f_137 b_A3166 (by decide) f_150 (RwO.rd b_A3227) hx3229 (by decide) (by decide) (mem_of rfl) (.inl (Rep.fl_flat _)))
                  refine sc (fun own a wx hf hsl hE => ?_) ?_
                  · obtain ⟨⟨⟨A3231, cA3231⟩, (f_151 : a.eval (.tmp 151) = .slice A3231 x3229.length cA3231), b_A3231⟩, -⟩ := hf
                    exact px (or_mono (f := Fct.val 3 (.slice A3231 x3229.length cA3231)) (or_assign f_151) (fun own' a' w' v' hp h => fun _ _ h0' => by cases (f_151.symm.trans ((hp.2 151 (by decide)).symm.trans h0')); exact h))
                  exact steps_nil
                intro own3232 a3232 w3232 hd3232 hz3232 hk3232 hf3232 hE3232
                have e3232_1 := (hk3232 1 rfl).trans e3209_1
                have e3232_8 := (hk3232 8 rfl).trans e3209_8
                have e3232_9 := (hk3232 9 rfl).trans e3209_9
                have e3232_10 := (hk3232 10 rfl).trans e3209_10
                obtain ⟨⟨⟨A3231, cA3231⟩, (f_151 : a3232.eval (.tmp 151) = .slice A3231 x3229.length cA3231), (b3232_A3231 : RwO own3232 3230 [] w3232 26 R26 A3231 cA3231 x3229)⟩, (q_3 : ∀ (A3231 : Option Addr) (cA3231 : Nat), a3232.eval (.tmp 151) = .slice A3231 x3229.length cA3231 → a3232.eval (.tmp 3) = .slice A3231 x3229.length cA3231), -⟩ := hf3232 [14, 15] rfl
                have e3232_3 := q_3 _ _ f_151
                have hX3232 := es_ hX3209 hE3232
                have b3232_g1617 := be_ hE3232 b3209_g1617
                have b3232_An1_0 := RdO.evo rfl hE3232 b3209_An1_0
                have b3232_An1_1 := RdO.evo rfl hE3232 b3209_An1_1
                refine hn3212 _ _ ?_
                refine hn3211 _ _ ?_
                refine rg0 153 own3232 (bz 3) [⟨[], [10], [], Fct.val 135 (.int .i64 j3170)⟩, ⟨[0], [], [], Fct.val 136 (.int .i64 (ad j3170 1))⟩, ⟨[1], [], [], Fct.val 10 (.int .i64 (ad j3170 1))⟩] hz3232 hd3232 (by kernel_rfl) ?_ ?_
                · refine sc (fun _ _ _ _ s _ => px (or_move (s.1.trans e3232_10))) ?_
                  refine sc (fun _ _ _ f _ _ => px (or_add f.1 rfl rfl)) ?_
                  refine sc (fun _ _ _ f _ _ => px (or_assign f.1)) ?_
                  exact steps_nil
                intro own3233 a3233 w3233 hd3233 hz3233 hk3233 hf3233 hE3233
                have e3233_1 := (hk3233 1 rfl).trans e3232_1
                have e3233_3 := (hk3233 3 rfl).trans e3232_3
                have e3233_8 := (hk3233 8 rfl).trans e3232_8
                have e3233_9 := (hk3233 9 rfl).trans e3232_9
                obtain ⟨(e3233_10 : a3233.eval (.tmp 10) = .int .i64 (ad j3170 1)), -⟩ := hf3233 [2] rfl
                have hX3233 := es_ hX3232 hE3233
                have b3233_g1617 := be_ hE3233 b3232_g1617
                have b3233_An1_0 := RdO.evo rfl hE3233 b3232_An1_0
                have b3233_An1_1 := RdO.evo rfl hE3233 b3232_An1_1
                have b3233_A3231 := re_ hE3233 b3232_A3231
                exact hn3202 _ _ _ hs ⟨(rl [(3230, 3169)] own3233), A3231, cA3231, hd3233, hz3233, e3233_1, e3233_3, e3233_8, e3233_9, e3233_10, (Evo.rl_ hX3233 (fun _ => Nat.le_refl 0) rfl), (BlkO.rl_ (mm := [(3230, 3169)]) b3233_g1617), (RdO.rl_ (mm := [(3230, 3169)]) b3233_An1_0), (RdO.rl_ (mm := [(3230, 3169)]) b3233_An1_1), (RwO.rl_ (mm := [(3230, 3169)]) b3233_A3231)⟩
              refine fl_exit ?_
              refine hp3204 _ _ _ rfl ?_
              replace hs := hz3202 _ hs
              refine hp3202 _ _ _ rfl ?_
              refine hx3134 _ _ ?_
              refine hn3114 _ _ ?_
              refine hn3113 _ _ ?_
              refine rg0 153 own3209 (bz 3) [⟨[], [9], [], Fct.val 109 (.int .i64 k2977)⟩, ⟨[0], [], [], Fct.val 110 (.int .i64 (ad k2977 1))⟩, ⟨[1], [], [], Fct.val 9 (.int .i64 (ad k2977 1))⟩] hz3209 hd3209 (by kernel_rfl) ?_ ?_
              · refine sc (fun _ _ _ _ s _ => px (or_move (s.1.trans e3209_9))) ?_
                refine sc (fun _ _ _ f _ _ => px (or_add f.1 rfl rfl)) ?_
                refine sc (fun _ _ _ f _ _ => px (or_assign f.1)) ?_
                exact steps_nil
              intro own3234 a3234 w3234 hd3234 hz3234 hk3234 hf3234 hE3234
              have e3234_1 := (hk3234 1 rfl).trans e3209_1
              have e3234_3 := (hk3234 3 rfl).trans e3209_3
              have e3234_8 := (hk3234 8 rfl).trans e3209_8
              obtain ⟨(e3234_9 : a3234.eval (.tmp 9) = .int .i64 (ad k2977 1)), -⟩ := hf3234 [2] rfl
              have hX3234 := es_ hX3209 hE3234
              have b3234_g1617 := be_ hE3234 b3209_g1617
              have b3234_An1_0 := RdO.evo rfl hE3234 b3209_An1_0
              have b3234_An1_1 := RdO.evo rfl hE3234 b3209_An1_1
              have b3234_A3166 := re_ hE3234 b3209_A3166
              exact hn3106 _ _ _ hs ⟨(rl [(3169, 2976)] own3234), A3166, c3167, hd3234, hz3234, e3234_1, e3234_3, e3234_8, e3234_9, (Evo.rl_ hX3234 (fun _ => Nat.le_refl 0) rfl), (BlkO.rl_ (mm := [(3169, 2976)]) b3234_g1617), (RdO.rl_ (mm := [(3169, 2976)]) b3234_An1_0), (RdO.rl_ (mm := [(3169, 2976)]) b3234_An1_1), (RwO.rl_ (mm := [(3169, 2976)]) b3234_A3166)⟩
          refine fl_exit ?_
          refine hp3108 _ _ _ rfl ?_
          replace hs := hz3106 _ hs
          refine hp3106 _ _ _ rfl ?_
          refine hx2844 _ _ ?_
          refine hn2828 _ _ ?_
          refine hn2827 _ _ ?_
          refine rg0 153 own3111 (bz 3) [⟨[], [8], [], Fct.val 89 (.int .i64 i2408)⟩, ⟨[0], [], [], Fct.val 90 (.int .i64 (ad i2408 1))⟩, ⟨[1], [], [], Fct.val 8 (.int .i64 (ad i2408 1))⟩] hz3111 hd3111 (by kernel_rfl) ?_ ?_
          · refine sc (fun _ _ _ _ s _ => px (or_move (s.1.trans e3111_8))) ?_
            refine sc (fun _ _ _ f _ _ => px (or_add f.1 rfl rfl)) ?_
            refine sc (fun _ _ _ f _ _ => px (or_assign f.1)) ?_
            exact steps_nil
          intro own3235 a3235 w3235 hd3235 hz3235 hk3235 hf3235 hE3235
          have e3235_1 := (hk3235 1 rfl).trans e3111_1
          have e3235_3 := (hk3235 3 rfl).trans e3111_3
          obtain ⟨(e3235_8 : a3235.eval (.tmp 8) = .int .i64 (ad i2408 1)), -⟩ := hf3235 [2] rfl
          have hX3235 := es_ hX3111 hE3235
          have b3235_g1617 := be_ hE3235 b3111_g1617
          have b3235_An1_0 := RdO.evo rfl hE3235 b3111_An1_0
          have b3235_An1_1 := RdO.evo rfl hE3235 b3111_An1_1
          have b3235_A2973 := re_ hE3235 b3111_A2973
          exact hn2822 _ _ _ hs ⟨(rl [(2976, 2407)] own3235), A2973, c2974, hd3235, hz3235, e3235_1, e3235_3, e3235_8, (Evo.rl_ hX3235 (fun _ => Nat.le_refl 0) rfl), (BlkO.rl_ (mm := [(2976, 2407)]) b3235_g1617), (RdO.rl_ (mm := [(2976, 2407)]) b3235_An1_0), (RdO.rl_ (mm := [(2976, 2407)]) b3235_An1_1), (RwO.rl_ (mm := [(2976, 2407)]) b3235_A2973)⟩
      refine fl_exit ?_
      refine hp2824 _ _ _ rfl ?_
      replace hs := hz2822 _ hs
      refine hp2822 _ _ _ rfl ?_
      refine hx1990 _ _ ?_
      refine hn1988 _ _ ?_
      refine rg0_seq 153 own2825 (bz 2) [⟨[], [3], [], Fct.val 152 (.slice A2404 out2406.length c2405)⟩, ⟨[0], [], [], Fct.val 2 (.slice A2404 out2406.length c2405)⟩] hz2825 hd2825 (by kernel_rfl) ?_ ?_
      · refine sc (fun _ _ _ _ s _ => px (or_move (s.1.trans e2825_3))) ?_
        refine sc (fun _ _ _ f _ _ => px (or_assign f.1)) ?_
        exact steps_nil
      intro own3236 a3236 w3236 hd3236 hz3236 hk3236 hf3236 hE3236
      obtain ⟨(e3236_2 : a3236.eval (.tmp 2) = .slice A2404 out2406.length c2405), -⟩ := hf3236 [1] rfl
      have hX3236 := es_ hX2825 hE3236
      have b3236_A2404 := re_ hE3236 b2825_A2404
      refine fl_ret ?_
      obtain rfl := (osome hs).symm
      exact hret _ _ _ _ (.inl rfl) hd3236 (results1_ rfl (RVal.tmp_ e3236_2)) ⟨(rl [(2407, 1)] own3236), (A2404, c2405), rfl, (Evo.rl_ hX3236 (fun _ => Nat.le_refl 0) rfl), (RwO.rl_ (mm := [(2407, 1)]) b3236_A2404)⟩
end Go.Proofs.Ytaobbaohelpdgaa
