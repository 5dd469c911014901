import Derived.Test.YtopnbammdeimcaaWp6
import Derived.Test.YtopnbammdeimcaaSp7
namespace Go.Proofs.Ytopnbammdeimcaa
open Go.RowKit
set_option linter.unusedVariables false
set_option maxRecDepth 10000
theorem ref01_May_w (w : World) (p1 : Int × Int) (r : Bool) (hs : ref01_May p1 = some r) :
    Calls Try.prog 19 #[.agg #[.int .i64 p1.1, .int .i64 p1.2]] w fun e w' => ∃ own' : Own, e = .returned (.bool r) ∧ Evo [] (fun _ => 0) own' w w' := by
  refine fl_enter (n := 21) rfl rfl rfl (Nat.le_of_ble_eq_true rfl) ?_
  intro a0 Q hd0 hz0 harg hret
  have ha0 := harg 0 _ rfl
  clear harg
  have hE0 : Evo [] (fun _ => 0) (fun _ => 0) w w := Evo.refl _ _ _
  refine rg0_seq 21 (fun _ => 0) [0, 0] [⟨[], [0], [], Fct.blk 18 1 (fun g => .pointer (some ⟨g, 0, none⟩)) 43 #[.int .i64 p1.1, .int .i64 p1.2]⟩, ⟨[], [], [], Fct.val 2 (.bool false)⟩] hz0 hd0 (by kernel_rfl) ?_ ?_
  · refine sc (fun _ _ _ _ s _ => px (or_new [(0, .agg #[.int .i64 p1.1, .int .i64 p1.2])] rfl rfl ⟨(s.1.trans ha0), trivial⟩ (by kernel_rfl))) ?_
    refine sc (fun _ _ _ _ _ _ => px (or_assign rfl)) ?_
    exact steps_nil
  intro own19 a19 w19 hd19 hz19 hk19 hf19 hE19
  obtain ⟨⟨g17, (e19_1 : a19.eval (.tmp 1) = .pointer (some ⟨g17, 0, none⟩)), (b19_g17 : BlkO own19 18 w19 g17 43 #[.int .i64 p1.1, .int .i64 p1.2])⟩, -⟩ := hf19 [0] rfl
  have hX19 := es_ hE0 hE19
  obtain ⟨x20, hx20, hs⟩ := obind hs
  obtain ⟨x21, hx21, hs⟩ := obind hs
  refine rg0_seq 21 own19 (bz 19) [⟨[], [1], [], Fct.val 3 (.pointer (some ⟨g17, 0, none⟩))⟩, ⟨[0], [], [], Fct.val 4 (.int .i64 p1.1)⟩, ⟨[1], [], [], Fct.val 5 (.bool (decide ((-16777216) ≤ p1.1)))⟩, ⟨[2], [], [], Fct.val 6 (.bool (decide ((-16777216) ≤ p1.1)))⟩, ⟨[3], [1], [], Fct.cond (decide ((-16777216) ≤ p1.1)) (some 7) (Fct.val 7 (.pointer (some ⟨g17, 0, none⟩)))⟩, ⟨[3, 4], [], [], Fct.cond (decide ((-16777216) ≤ p1.1)) (some 8) (Fct.val 8 (.int .i64 p1.1))⟩, ⟨[3, 5], [], [], Fct.cond (decide ((-16777216) ≤ p1.1)) (some 9) (Fct.val 9 (.bool (decide (p1.1 ≤ 16777216))))⟩, ⟨[3, 6], [], [], Fct.val 10 (.bool x20)⟩, ⟨[7], [], [], Fct.val 11 (.bool x20)⟩, ⟨[8], [1], [], Fct.cond x20 (some 12) (Fct.val 12 (.pointer (some ⟨g17, 1, none⟩)))⟩, ⟨[8, 9], [], [], Fct.cond x20 (some 13) (Fct.val 13 (.int .i64 p1.2))⟩, ⟨[8, 10], [], [], Fct.cond x20 (some 14) (Fct.val 14 (.bool (decide ((-16777216) ≤ p1.2))))⟩, ⟨[8, 11], [], [], Fct.val 15 (.bool x21)⟩, ⟨[12], [], [], Fct.val 16 (.bool x21)⟩, ⟨[13], [1], [], Fct.cond x21 (some 17) (Fct.val 17 (.pointer (some ⟨g17, 1, none⟩)))⟩, ⟨[13, 14], [], [], Fct.cond x21 (some 18) (Fct.val 18 (.int .i64 p1.2))⟩, ⟨[13, 15], [], [], Fct.cond x21 (some 19) (Fct.val 19 (.bool (decide (p1.2 ≤ 16777216))))⟩, ⟨[13, 16], [], [], Fct.val 20 (.bool (x21 && (decide (p1.2 ≤ 16777216))))⟩, ⟨[17], [], [], Fct.val 2 (.bool (x21 && (decide (p1.2 ≤ 16777216))))⟩] hz19 hd19 (by kernel_rfl) ?_ ?_
  · refine sc (fun _ _ _ _ s _ => px (or_field fo43_0 (s.1.trans e19_1) (by rfl))) ?_
    refine sc (fun _ _ _ f _ hE => px (or_load1 to3 f.1 (Blk.at_ (be_ hE b19_g17).2 0 rfl))) ?_
    refine sc (fun _ _ _ f _ _ => px (or_geq f.1 rfl rfl)) ?_
    refine sc (fun _ _ _ f _ _ => px (or_move f.1)) ?_
    refine sc (fun _ _ _ f s _ => sg_t rfl rfl rfl f.1 (fun hg => or_field fo43_0 (s.1.trans e19_1) (by rfl))) ?_
    refine sc (fun _ _ _ f _ hE => sg_t rfl rfl rfl f.1 (fun hg => or_load1 to3 (f.2.1.1 hg) (Blk.at_ (be_ hE b19_g17).2 0 rfl))) ?_
    refine sc (fun _ _ _ f _ _ => sg_t rfl rfl rfl f.1 (fun hg => or_leq (f.2.1.1 hg) rfl rfl)) ?_
    refine sc (fun _ _ _ f _ _ => px (or_and f.1 (fun hx => f.2.1.1 hx) rfl (osome hx20).symm)) ?_
    refine sc (fun _ _ _ f _ _ => px (or_move f.1)) ?_
    refine sc (fun _ _ _ f s _ => sg_t rfl rfl rfl f.1 (fun hg => or_field fo43_1 (s.1.trans e19_1) (by rfl))) ?_
    refine sc (fun _ _ _ f _ hE => sg_t rfl rfl rfl f.1 (fun hg => or_load1 to3 (f.2.1.1 hg) (Blk.at_ (be_ hE b19_g17).2 1 rfl))) ?_
    refine sc (fun _ _ _ f _ _ => sg_t rfl rfl rfl f.1 (fun hg => or_geq (f.2.1.1 hg) rfl rfl)) ?_
    refine sc (fun _ _ _ f _ _ => px (or_and f.1 (fun hx => f.2.1.1 hx) rfl (osome hx21).symm)) ?_
    refine sc (fun _ _ _ f _ _ => px (or_move f.1)) ?_
    refine sc (fun _ _ _ f s _ => sg_t rfl rfl rfl f.1 (fun hg => or_field fo43_1 (s.1.trans e19_1) (by rfl))) ?_
    refine sc (fun _ _ _ f _ hE => sg_t rfl rfl rfl f.1 (fun hg => or_load1 to3 (f.2.1.1 hg) (Blk.at_ (be_ hE b19_g17).2 1 rfl))) ?_
    refine sc (fun _ _ _ f _ _ => sg_t rfl rfl rfl f.1 (fun hg => or_leq (f.2.1.1 hg) rfl rfl)) ?_
    refine sc (fun _ _ _ f _ _ => px (or_and f.1 (fun hx => f.2.1.1 hx) rfl rfl)) ?_
    refine sc (fun _ _ _ f _ _ => px (or_assign f.1)) ?_
    exact steps_nil
  intro own22 a22 w22 hd22 hz22 hk22 hf22 hE22
  obtain ⟨(e22_2 : a22.eval (.tmp 2) = .bool (x21 && (decide (p1.2 ≤ 16777216)))), -⟩ := hf22 [18] rfl
  have hX22 := es_ hX19 hE22
  refine fl_ret ?_
  obtain rfl := osome hs
  exact hret _ _ _ _ (.inl rfl) hd22 (results1_ rfl (RVal.tmp_ e22_2)) ⟨own22, rfl, hX22⟩
set_option maxHeartbeats 2000000 in
theorem law21_PolyclipKeeps_w (w : World) (l1 : List (Int × Int)) (Al1 : Option Addr) (cl1 : Nat) (b2 : (Int × Int) × (Int × Int)) (p3 : Int × Int) (hl1 : RdO (fun _ => 0) [0] w R25 Al1 cl1 l1) (r : Bool) (hs : law21_PolyclipKeeps l1 b2 p3 = some r) :
    Calls Try.prog 5 #[.slice Al1 l1.length cl1, .agg #[.int .i64 b2.1.1, .int .i64 b2.1.2, .int .i64 b2.2.1, .int .i64 b2.2.2], .agg #[.int .i64 p3.1, .int .i64 p3.2]] w fun e w' => ∃ own' : Own, e = .returned (.bool r) ∧ Evo [] (fun _ => 0) own' w w' := by
  refine fl_enter (n := 166) rfl rfl rfl (Nat.le_of_ble_eq_true rfl) ?_
  intro a0 Q hd0 hz0 harg hret
  have ha0 := harg 0 _ rfl
  have ha1 := harg 1 _ rfl
  have ha2 := harg 2 _ rfl
  clear harg
  have hE0 : Evo [] (fun _ => 0) (fun _ => 0) w w := Evo.refl _ _ _
  refine rg0_seq 166 (fun _ => 0) [0, 0, 0] [⟨[], [1], [], Fct.blk 146 4 (fun g => .pointer (some ⟨g, 0, none⟩)) 31 #[.int .i64 b2.1.1, .int .i64 b2.1.2, .int .i64 b2.2.1, .int .i64 b2.2.2]⟩, ⟨[], [2], [], Fct.blk 148 5 (fun g => .pointer (some ⟨g, 0, none⟩)) 25 #[.int .i64 p3.1, .int .i64 p3.2]⟩, ⟨[], [], [], Fct.val 6 (.bool false)⟩] hz0 hd0 (by kernel_rfl) ?_ ?_
  · refine sc (fun _ _ _ _ s _ => px (or_new [(1, .agg #[.int .i64 b2.1.1, .int .i64 b2.1.2, .int .i64 b2.2.1, .int .i64 b2.2.2])] rfl rfl ⟨(s.1.trans ha1), trivial⟩ (by kernel_rfl))) ?_
    refine sc (fun _ _ _ _ s _ => px (or_new [(2, .agg #[.int .i64 p3.1, .int .i64 p3.2])] rfl rfl ⟨(s.1.trans ha2), trivial⟩ (by kernel_rfl))) ?_
    refine sc (fun _ _ _ _ _ _ => px (or_assign rfl)) ?_
    exact steps_nil
  intro own149 a149 w149 hd149 hz149 hk149 hf149 hE149
  have e149_0 := (hk149 0 rfl).trans ha0
  obtain ⟨⟨g145, (e149_4 : a149.eval (.tmp 4) = .pointer (some ⟨g145, 0, none⟩)), (b149_g145 : BlkO own149 146 w149 g145 31 #[.int .i64 b2.1.1, .int .i64 b2.1.2, .int .i64 b2.2.1, .int .i64 b2.2.2])⟩, ⟨g147, (e149_5 : a149.eval (.tmp 5) = .pointer (some ⟨g147, 0, none⟩)), (b149_g147 : BlkO own149 148 w149 g147 25 #[.int .i64 p3.1, .int .i64 p3.2])⟩, -⟩ := hf149 [0, 1] rfl
  have hX149 := es_ hE0 hE149
  have b149_Al1 := RdO.evo rfl hE149 hl1
  obtain ⟨r150, hr150, hs⟩ := obind hs
  refine rg0_seq 166 own149 (bz 3) [⟨[], [0], [], Fct.val 16 (.slice Al1 l1.length cl1)⟩, ⟨[0], [], [], Fct.mems [152, 153, 0] 17 (fun (x : Option Addr × Nat) => .slice x.1 r150.length x.2) (fun (x : Option Addr × Nat) own w => RdO own [152, 153, 0] w R25 x.1 x.2 r150) (fun hk he h => RdO.evo (hits_sub hk (by decide)) he h)⟩, ⟨[1], [], [], Fct.rel [0, 17] (fun l => ∀ (A151 : Option Addr) (cA151 : Nat), l.getD 1 undef = .slice A151 r150.length cA151 → l.getD 0 undef = .slice A151 r150.length cA151)⟩] hz149 hd149 (by kernel_rfl) ?_ ?_
  · refine sc (fun _ _ _ _ s _ => px (or_move (s.1.trans e149_0))) ?_
    refine sc (fun own _ _ f _ hE => px (or_call cf6 (args1 f.1) (law03_Cut_w _ (forth own (inL [0])) l1 Al1 cl1 inL_le (RdO.alias_ (La := [0]) (RdO.evo rfl hE b149_Al1) (by decide)) r150 hr150) (post_alias (La := [0]) (m' := (look0 [(1, 152), (2, 153)])) (fun own' w' a' x ho hsz h1 h => ⟨x, h1, RdO.backN_ ho hsz h (by decide) (by decide) (by decide)⟩)))) ?_
    refine sc (fun own a wx hf hsl hE => ?_) ?_
    · obtain ⟨⟨⟨A151, cA151⟩, (f_17 : a.eval (.tmp 17) = .slice A151 r150.length cA151), b_A151⟩, -⟩ := hf
      exact px (or_mono (f := Fct.val 0 (.slice A151 r150.length cA151)) (or_assign f_17) (fun own' a' w' v' hp h => fun _ _ h0' => by cases (f_17.symm.trans ((hp.2 17 (by decide)).symm.trans h0')); exact h))
    exact steps_nil
  intro own154 a154 w154 hd154 hz154 hk154 hf154 hE154
  have e154_4 := (hk154 4 rfl).trans e149_4
  have e154_5 := (hk154 5 rfl).trans e149_5
  obtain ⟨⟨⟨A151, cA151⟩, (f_17 : a154.eval (.tmp 17) = .slice A151 r150.length cA151), (b154_A151 : RdO own154 [152, 153, 0] w154 R25 A151 cA151 r150)⟩, (q_0 : ∀ (A151 : Option Addr) (cA151 : Nat), a154.eval (.tmp 17) = .slice A151 r150.length cA151 → a154.eval (.tmp 0) = .slice A151 r150.length cA151), -⟩ := hf154 [1, 2] rfl
  have e154_0 := q_0 _ _ f_17
  have hX154 := es_ hX149 hE154
  have b154_g145 := be_ hE154 b149_g145
  have b154_g147 := be_ hE154 b149_g147
  obtain ⟨r155, hr155, hs⟩ := obind hs
  refine rg0_seq 166 own154 [0, 0, 3, 7] [⟨[], [0], [], Fct.val 18 (.slice A151 r150.length cA151)⟩, ⟨[], [4], [], Fct.val 19 (.agg #[.int .i64 b2.1.1, .int .i64 b2.1.2, .int .i64 b2.2.1, .int .i64 b2.2.2])⟩, ⟨[0, 1], [], [], Fct.mems [157] 20 (fun (x : Option Addr × Nat) => .slice x.1 r155.length x.2) (fun (x : Option Addr × Nat) own w => RdO own [157] w R25 x.1 x.2 r155) (fun hk he h => RdO.evo (hits_sub hk (by decide)) he h)⟩, ⟨[2], [], [], Fct.rel [7, 20] (fun l => ∀ (A156 : Option Addr) (cA156 : Nat), l.getD 1 undef = .slice A156 r155.length cA156 → l.getD 0 undef = .slice A156 r155.length cA156)⟩] hz154 hd154 (by kernel_rfl) ?_ ?_
  · refine sc (fun _ _ _ _ s _ => px (or_move (s.1.trans e154_0))) ?_
    refine sc (fun _ _ _ _ s hE => px (or_load (l := [.int .i64 b2.1.1, .int .i64 b2.1.2, .int .i64 b2.2.1, .int .i64 b2.2.2]) ta31 (s.1.trans e154_4) (Blk.cellsFrom (be_ hE b154_g145).2 0 rfl) rfl)) ?_
    refine sc (fun _ _ _ f _ hE => px (or_call cf10 (args2 f.1 f.2.1) (polyclip_Ring_w _ r150 A151 cA151 b2 (RdO.zero (RdO.evo rfl hE b154_A151)) r155 hr155) (post_mems (m := (fun _ => 0)) (m' := (look0 [(1, 157)])) (fun _ _ => .inl rfl) (fun own' w' a' x h1 h => ⟨x, h1, RdO.back_ h (by decide)⟩)))) ?_
    refine sc (fun own a wx hf hsl hE => ?_) ?_
    · obtain ⟨⟨⟨A156, cA156⟩, (f_20 : a.eval (.tmp 20) = .slice A156 r155.length cA156), b_A156⟩, -⟩ := hf
      exact px (or_mono (f := Fct.val 7 (.slice A156 r155.length cA156)) (or_assign f_20) (fun own' a' w' v' hp h => fun _ _ h0' => by cases (f_20.symm.trans ((hp.2 20 (by decide)).symm.trans h0')); exact h))
    exact steps_nil
  intro own158 a158 w158 hd158 hz158 hk158 hf158 hE158
  have e158_0 := (hk158 0 rfl).trans e154_0
  have e158_4 := (hk158 4 rfl).trans e154_4
  have e158_5 := (hk158 5 rfl).trans e154_5
  obtain ⟨⟨⟨A156, cA156⟩, (f_20 : a158.eval (.tmp 20) = .slice A156 r155.length cA156), (b158_A156 : RdO own158 [157] w158 R25 A156 cA156 r155)⟩, (q_7 : ∀ (A156 : Option Addr) (cA156 : Nat), a158.eval (.tmp 20) = .slice A156 r155.length cA156 → a158.eval (.tmp 7) = .slice A156 r155.length cA156), -⟩ := hf158 [2, 3] rfl
  have e158_7 := q_7 _ _ f_20
  have hX158 := es_ hX154 hE158
  have b158_g145 := be_ hE158 b154_g145
  have b158_g147 := be_ hE158 b154_g147
  have b158_A151 := RdO.evo rfl hE158 b154_A151
  obtain ⟨r159, hr159, hs⟩ := obind hs
  obtain ⟨x160, hx160, hs⟩ := obind hs
  refine rg0_seq 166 own158 (bz 8) [⟨[], [0], [], Fct.val 21 (.slice A151 r150.length cA151)⟩, ⟨[0], [], [], Fct.val 22 (.int .i64 (r150.length : Int))⟩, ⟨[1], [], [], Fct.val 23 (.bool (decide (0 < (r150.length : Int))))⟩, ⟨[2], [], [], Fct.val 24 (.bool (decide (0 < (r150.length : Int))))⟩, ⟨[3], [4], [], Fct.cond (decide (0 < (r150.length : Int))) (some 25) (Fct.val 25 (.agg #[.int .i64 b2.1.1, .int .i64 b2.1.2, .int .i64 b2.2.1, .int .i64 b2.2.2]))⟩, ⟨[3, 4], [], [], Fct.cond (decide (0 < (r150.length : Int))) (some 26) (Fct.val 26 (.bool r159))⟩, ⟨[3, 5], [], [], Fct.val 27 (.bool x160)⟩, ⟨[6], [], [], Fct.val 8 (.bool x160)⟩] hz158 hd158 (by kernel_rfl) ?_ ?_
  · refine sc (fun _ _ _ _ s _ => px (or_move (s.1.trans e158_0))) ?_
    refine sc (fun _ _ _ f _ _ => px (or_len tu22 f.1 rfl)) ?_
    refine sc (fun _ _ _ f _ _ => px (or_gtr f.1 rfl rfl)) ?_
    refine sc (fun _ _ _ f _ _ => px (or_move f.1)) ?_
    refine sc (fun _ _ _ f s hE => sg_t rfl rfl rfl f.1 (fun hg => or_load (l := [.int .i64 b2.1.1, .int .i64 b2.1.2, .int .i64 b2.2.1, .int .i64 b2.2.2]) ta31 (s.1.trans e158_4) (Blk.cellsFrom (be_ hE b158_g145).2 0 rfl) rfl)) ?_
    refine sc (fun _ _ _ f _ _ => sg_t rfl rfl rfl f.1 (fun hg => or_call cf14 (args1 (f.2.1.1 hg)) (rows_Right_w _ b2  r159 (gd_t hr159 hg)) post_val)) ?_
    refine sc (fun _ _ _ f _ _ => px (or_and f.1 (fun hx => f.2.1.1 hx) rfl (osome hx160).symm)) ?_
    refine sc (fun _ _ _ f _ _ => px (or_assign f.1)) ?_
    exact steps_nil
  intro own161 a161 w161 hd161 hz161 hk161 hf161 hE161
  have e161_0 := (hk161 0 rfl).trans e158_0
  have e161_4 := (hk161 4 rfl).trans e158_4
  have e161_5 := (hk161 5 rfl).trans e158_5
  have e161_7 := (hk161 7 rfl).trans e158_7
  obtain ⟨(e161_8 : a161.eval (.tmp 8) = .bool x160), -⟩ := hf161 [7] rfl
  have hX161 := es_ hX158 hE161
  have b161_g145 := be_ hE161 b158_g145
  have b161_g147 := be_ hE161 b158_g147
  have b161_A151 := RdO.evo rfl hE161 b158_A151
  have b161_A156 := RdO.evo rfl hE161 b158_A156
  refine fl_seq (fun Q162 hn162 hp162 => ?_)
  refine rg0_seq 166 own161 (bz 1) [⟨[], [], [], Fct.val 9 (.int .i64 0)⟩] hz161 hd161 (by kernel_rfl) ?_ ?_
  · refine sc (fun _ _ _ _ _ _ => px (or_assign rfl)) ?_
    exact steps_nil
  intro own163 a163 w163 hd163 hz163 hk163 hf163 hE163
  have e163_0 := (hk163 0 rfl).trans e161_0
  have e163_4 := (hk163 4 rfl).trans e161_4
  have e163_5 := (hk163 5 rfl).trans e161_5
  have e163_7 := (hk163 7 rfl).trans e161_7
  have e163_8 := (hk163 8 rfl).trans e161_8
  obtain ⟨(e163_9 : a163.eval (.tmp 9) = .int .i64 0), -⟩ := hf163 [0] rfl
  have hX163 := es_ hX161 hE163
  have b163_g145 := be_ hE163 b161_g145
  have b163_g147 := be_ hE163 b161_g147
  have b163_A151 := RdO.evo rfl hE163 b161_A151
  have b163_A156 := RdO.evo rfl hE163 b161_A156
  refine fl_block (fun Q164 hn164 hx164 hp164 => ?_)
  refine fl_loop (body := (fun s => law21_PolyclipKeeps_b1 b2 p3 r150 r155 s.1 s.2)) (z := r) (show loopO _ _ = _ from hs) (fun (s : Bool × Int) a wx => match s with | (inside176, i177) => ∃ (ox : Own), a.defers = [] ∧ a.tmps.size = 166 ∧ a.eval (.tmp 0) = .slice A151 r150.length cA151 ∧ a.eval (.tmp 4) = .pointer (some ⟨g145, 0, none⟩) ∧ a.eval (.tmp 5) = .pointer (some ⟨g147, 0, none⟩) ∧ a.eval (.tmp 7) = .slice A156 r155.length cA156 ∧ a.eval (.tmp 8) = .bool inside176 ∧ a.eval (.tmp 9) = .int .i64 i177 ∧ Evo [] (fun _ => 0) ox w wx ∧ RdO ox [152, 153, 0] wx R25 A151 cA151 r150 ∧ BlkO ox 146 wx g145 31 #[.int .i64 b2.1.1, .int .i64 b2.1.2, .int .i64 b2.2.1, .int .i64 b2.2.2] ∧ BlkO ox 148 wx g147 25 #[.int .i64 p3.1, .int .i64 p3.2] ∧ RdO ox [157] wx R25 A156 cA156 r155) ?_ ?_
  · exact ⟨own163, hd163, hz163, e163_0, e163_4, e163_5, e163_7, e163_8, e163_9, hX163, b163_A151, b163_g145, b163_g147, b163_A156⟩
  · rintro ⟨inside176, i177⟩ zz189 a189 w189 ⟨own189, hd190, hz190, e190_0, e190_4, e190_5, e190_7, e190_8, e190_9, hE190, b190_A151, b190_g145, b190_g147, b190_A156⟩ hs Q189 hn189 hp189 hz189
    have hs : law21_PolyclipKeeps_b1 b2 p3 r150 r155 inside176 i177 = some zz189 := hs
    refine fl_seq (fun Q191 hn191 hp191 => ?_)
    refine rg0_seq 166 own189 [0, 0, 2, 7] [⟨[], [9], [], Fct.val 28 (.int .i64 i177)⟩, ⟨[], [0], [], Fct.val 29 (.slice A151 r150.length cA151)⟩, ⟨[1], [], [], Fct.val 30 (.int .i64 (r150.length : Int))⟩, ⟨[0, 2], [], [], Fct.val 31 (.bool (decide (i177 < (r150.length : Int))))⟩] hz190 hd190 (by kernel_rfl) ?_ ?_
    · refine sc (fun _ _ _ _ s _ => px (or_move (s.1.trans e190_9))) ?_
      refine sc (fun _ _ _ _ s _ => px (or_move (s.1.trans e190_0))) ?_
      refine sc (fun _ _ _ f _ _ => px (or_len tu22 f.1 rfl)) ?_
      refine sc (fun _ _ _ f _ _ => px (or_lss f.1 f.2.1 rfl)) ?_
      exact steps_nil
    intro own192 a192 w192 hd192 hz192 hk192 hf192 hE192
    have e192_0 := (hk192 0 rfl).trans e190_0
    have e192_4 := (hk192 4 rfl).trans e190_4
    have e192_5 := (hk192 5 rfl).trans e190_5
    have e192_7 := (hk192 7 rfl).trans e190_7
    have e192_8 := (hk192 8 rfl).trans e190_8
    have e192_9 := (hk192 9 rfl).trans e190_9
    obtain ⟨(e192_31 : a192.eval (.tmp 31) = .bool (decide (i177 < (r150.length : Int)))), -⟩ := hf192 [3] rfl
    have hX192 := es_ hE190 hE192
    have b192_A151 := RdO.evo rfl hE192 b190_A151
    have b192_g145 := be_ hE192 b190_g145
    have b192_g147 := be_ hE192 b190_g147
    have b192_A156 := RdO.evo rfl hE192 b190_A156
    refine fl_cond e192_31 hs (fun c193 hs => ?_) (fun c193 hs => ?_)
    · refine fl_skip ?_
      refine hn191 _ _ ?_
      refine fl_seq (fun Q194 hn194 hp194 => ?_)
      refine fl_block (fun Q195 hn195 hx195 hp195 => ?_)
      obtain ⟨x196, hx196, hs⟩ := obind hs
      obtain ⟨x197, hx197, hs⟩ := obind hs
      obtain ⟨r198, hr198, hs⟩ := obind hs
      refine rg_draw g_mixed (n := 166) (rs := []) (own0 := own192) (K := []) (bs := [0, 1, 3, 3, 3, 27, 59, 3, 3, 387, 899, 2043, 4095, 8191, 16383]) (ds := [⟨[], [8], [], Fct.val 34 (.bool inside176)⟩, ⟨[0], [], [], Fct.val 35 (.bool inside176)⟩, ⟨[1], [4], [], Fct.cond inside176 (some 36) (Fct.val 36 (.agg #[.int .i64 b2.1.1, .int .i64 b2.1.2, .int .i64 b2.2.1, .int .i64 b2.2.2]))⟩, ⟨[1], [0], [], Fct.cond inside176 (some 37) (Fct.val 37 (.slice A151 r150.length cA151))⟩, ⟨[1], [9], [], Fct.cond inside176 (some 38) (Fct.val 38 (.int .i64 i177))⟩, ⟨[1, 3, 4], [], [], Fct.cond inside176 (some 39) (Fct.val 39 (.pointer (some ((adr A151).add ((i177 : Int).toNat * R25.s)))))⟩, ⟨[1, 5], [], [], Fct.cond inside176 (some 40) (Fct.val 40 (.agg #[.int .i64 x196.1, .int .i64 x196.2]))⟩, ⟨[1], [0], [], Fct.cond inside176 (some 41) (Fct.val 41 (.slice A151 r150.length cA151))⟩, ⟨[1], [9], [], Fct.cond inside176 (some 42) (Fct.val 42 (.int .i64 i177))⟩, ⟨[1, 7, 8], [], [], Fct.cond inside176 (some 43) (Fct.val 43 (.pointer (some ((adr A151).add ((i177 : Int).toNat * R25.s)))))⟩, ⟨[1, 9], [], [], Fct.cond inside176 (some 44) (Fct.val 44 (.agg #[.int .i64 x197.1, .int .i64 x197.2]))⟩, ⟨[1, 6, 10], [], [], Fct.cond inside176 (some 45) (Fct.val 45 (.agg #[.int .i64 x196.1, .int .i64 x196.2, .int .i64 x197.1, .int .i64 x197.2]))⟩, ⟨[1, 2, 11], [], [], Fct.cond inside176 (some 46) (Fct.val 46 (.bool r198))⟩, ⟨[1, 12], [], [], Fct.val 47 (.bool (inside176 && r198))⟩, ⟨[13], [], [], Fct.val 8 (.bool (inside176 && r198))⟩]) (by kernel_rfl) hz192 hd192 nm_ ?_ ?_
      · refine sc (fun _ _ _ _ s _ => px (or_move (s.1.trans e192_8))) ?_
        refine sc (fun _ _ _ f _ _ => px (or_move f.1)) ?_
        refine sc (fun _ _ _ f s hE => sg_t rfl rfl rfl f.1 (fun hg => or_load (l := [.int .i64 b2.1.1, .int .i64 b2.1.2, .int .i64 b2.2.1, .int .i64 b2.2.2]) ta31 (s.1.trans e192_4) (Blk.cellsFrom (be_ hE b192_g145).2 0 rfl) rfl)) ?_
        refine sc (fun _ _ _ f s _ => sg_t rfl rfl rfl f.1 (fun hg => or_move (s.1.trans e192_0))) ?_
        refine sc (fun _ _ _ f s _ => sg_t rfl rfl rfl f.1 (fun hg => or_move (s.1.trans e192_9))) ?_
        refine sc (fun _ _ _ f _ _ => sg_t rfl rfl rfl f.1 (fun hg => or_index (R := R25) (l := r150) tl22 (f.2.1.1 hg) (f.2.2.1.1 hg) (RdO.some_ b192_A151 (gd_t hx196 hg)) (gd_t hx196 hg))) ?_
        refine sc (fun _ _ _ f _ hE => sg_t rfl rfl rfl f.1 (fun hg => or_load (l := E25.f x196) ta25 (f.2.1.1 hg) (RdO.cells (F := E25) (RdO.evo rfl hE b192_A151) (gd_t hx196 hg)) rfl)) ?_
        refine sc (fun _ _ _ f s _ => sg_t rfl rfl rfl f.1 (fun hg => or_move (s.1.trans e192_0))) ?_
        refine sc (fun _ _ _ f s _ => sg_t rfl rfl rfl f.1 (fun hg => or_move (s.1.trans e192_9))) ?_
        refine sc (fun _ _ _ f _ _ => sg_t rfl rfl rfl f.1 (fun hg => or_index (R := R25) (l := r150) tl22 (f.2.1.1 hg) (f.2.2.1.1 hg) (RdO.some_ b192_A151 (gd_t hx197 hg)) (gd_t hx197 hg))) ?_
        refine sc (fun _ _ _ f _ hE => sg_t rfl rfl rfl f.1 (fun hg => or_load (l := E25.f x197) ta25 (f.2.1.1 hg) (RdO.cells (F := E25) (RdO.evo rfl hE b192_A151) (gd_t hx197 hg)) rfl)) ?_
        refine sc (fun _ _ _ f _ _ => sg_t rfl rfl rfl f.1 (fun hg => or_k [(40, .agg #[.int .i64 x196.1, .int .i64 x196.2]), (44, .agg #[.int .i64 x197.1, .int .i64 x197.2])] rfl rfl ⟨(f.2.1.1 hg), (f.2.2.1.1 hg), trivial⟩ (by kernel_rfl))) ?_
        refine sc (fun _ _ _ f _ _ => sg_t rfl rfl rfl f.1 (fun hg => or_call cf15 (args2 (f.2.1.1 hg) (f.2.2.1.1 hg)) (rows_Meet_w _ b2 (x196, x197)  r198 (gd_t hr198 hg)) post_val)) ?_
        refine sc (fun _ _ _ f _ _ => px (or_and f.1 (fun hx => f.2.1.1 hx) rfl rfl)) ?_
        refine sc (fun _ _ _ f _ _ => px (or_assign f.1)) ?_
        exact steps_nil
      intro own199 a199 w199 hd199 hz199 hk199 hf199 hE199
      have e199_0 := (hk199 0 rfl).trans e192_0
      have e199_4 := (hk199 4 rfl).trans e192_4
      have e199_5 := (hk199 5 rfl).trans e192_5
      have e199_7 := (hk199 7 rfl).trans e192_7
      have e199_9 := (hk199 9 rfl).trans e192_9
      obtain ⟨(e199_8 : a199.eval (.tmp 8) = .bool (inside176 && r198)), -⟩ := hf199 [14] rfl
      have hX199 := es_ hX192 hE199
      have b199_A151 := RdO.evo rfl hE199 b192_A151
      have b199_g145 := be_ hE199 b192_g145
      have b199_g147 := be_ hE199 b192_g147
      have b199_A156 := RdO.evo rfl hE199 b192_A156
      refine hn195 _ _ ?_
      refine hn194 _ _ ?_
      refine rg0 166 own199 (bz 3) [⟨[], [9], [], Fct.val 32 (.int .i64 i177)⟩, ⟨[0], [], [], Fct.val 33 (.int .i64 (ad i177 1))⟩, ⟨[1], [], [], Fct.val 9 (.int .i64 (ad i177 1))⟩] hz199 hd199 (by kernel_rfl) ?_ ?_
      · refine sc (fun _ _ _ _ s _ => px (or_move (s.1.trans e199_9))) ?_
        refine sc (fun _ _ _ f _ _ => px (or_add f.1 rfl rfl)) ?_
        refine sc (fun _ _ _ f _ _ => px (or_assign f.1)) ?_
        exact steps_nil
      intro own200 a200 w200 hd200 hz200 hk200 hf200 hE200
      have e200_0 := (hk200 0 rfl).trans e199_0
      have e200_4 := (hk200 4 rfl).trans e199_4
      have e200_5 := (hk200 5 rfl).trans e199_5
      have e200_7 := (hk200 7 rfl).trans e199_7
      have e200_8 := (hk200 8 rfl).trans e199_8
      obtain ⟨(e200_9 : a200.eval (.tmp 9) = .int .i64 (ad i177 1)), -⟩ := hf200 [2] rfl
      have hX200 := es_ hX199 hE200
      have b200_A151 := RdO.evo rfl hE200 b199_A151
      have b200_g145 := be_ hE200 b199_g145
      have b200_g147 := be_ hE200 b199_g147
      have b200_A156 := RdO.evo rfl hE200 b199_A156
      exact hn189 _ _ _ hs ⟨own200, hd200, hz200, e200_0, e200_4, e200_5, e200_7, e200_8, e200_9, hX200, b200_A151, b200_g145, b200_g147, b200_A156⟩
    refine fl_exit ?_
    refine hp191 _ _ _ rfl ?_
    replace hs := hz189 _ hs
    refine hp189 _ _ _ rfl ?_
    refine hx164 _ _ ?_
    refine hn162 _ _ ?_
    refine fl_seq (fun Q201 hn201 hp201 => ?_)
    refine rg0_seq 166 own192 (bz 1) [⟨[], [], [], Fct.val 10 (.int .i64 0)⟩] hz192 hd192 (by kernel_rfl) ?_ ?_
    · refine sc (fun _ _ _ _ _ _ => px (or_assign rfl)) ?_
      exact steps_nil
    intro own202 a202 w202 hd202 hz202 hk202 hf202 hE202
    have e202_0 := (hk202 0 rfl).trans e192_0
    have e202_4 := (hk202 4 rfl).trans e192_4
    have e202_5 := (hk202 5 rfl).trans e192_5
    have e202_7 := (hk202 7 rfl).trans e192_7
    have e202_8 := (hk202 8 rfl).trans e192_8
    obtain ⟨(e202_10 : a202.eval (.tmp 10) = .int .i64 0), -⟩ := hf202 [0] rfl
    have hX202 := es_ hX192 hE202
    have b202_A151 := RdO.evo rfl hE202 b192_A151
    have b202_g145 := be_ hE202 b192_g145
    have b202_g147 := be_ hE202 b192_g147
    have b202_A156 := RdO.evo rfl hE202 b192_A156
    refine fl_block (fun Q203 hn203 hx203 hp203 => ?_)
    refine fl_loop (body := (fun s => law21_PolyclipKeeps_b2 b2 p3 r150 r155 inside176 s)) (z := r) (show loopO _ _ = _ from hs) (fun (i217 : Int) a wx => ∃ (ox : Own), a.defers = [] ∧ a.tmps.size = 166 ∧ a.eval (.tmp 0) = .slice A151 r150.length cA151 ∧ a.eval (.tmp 4) = .pointer (some ⟨g145, 0, none⟩) ∧ a.eval (.tmp 5) = .pointer (some ⟨g147, 0, none⟩) ∧ a.eval (.tmp 7) = .slice A156 r155.length cA156 ∧ a.eval (.tmp 8) = .bool inside176 ∧ a.eval (.tmp 10) = .int .i64 i217 ∧ Evo [] (fun _ => 0) ox w wx ∧ RdO ox [152, 153, 0] wx R25 A151 cA151 r150 ∧ BlkO ox 146 wx g145 31 #[.int .i64 b2.1.1, .int .i64 b2.1.2, .int .i64 b2.2.1, .int .i64 b2.2.2] ∧ BlkO ox 148 wx g147 25 #[.int .i64 p3.1, .int .i64 p3.2] ∧ RdO ox [157] wx R25 A156 cA156 r155) ?_ ?_
    · exact ⟨own202, hd202, hz202, e202_0, e202_4, e202_5, e202_7, e202_8, e202_10, hX202, b202_A151, b202_g145, b202_g147, b202_A156⟩
    · rintro i217 zz231 a231 w231 ⟨own231, hd232, hz232, e232_0, e232_4, e232_5, e232_7, e232_8, e232_10, hE232, b232_A151, b232_g145, b232_g147, b232_A156⟩ hs Q231 hn231 hp231 hz231
      have hs : law21_PolyclipKeeps_b2 b2 p3 r150 r155 inside176 i217 = some zz231 := hs
      refine fl_seq (fun Q233 hn233 hp233 => ?_)
      refine rg0_seq 166 own231 [0, 0, 2, 7] [⟨[], [10], [], Fct.val 48 (.int .i64 i217)⟩, ⟨[], [7], [], Fct.val 49 (.slice A156 r155.length cA156)⟩, ⟨[1], [], [], Fct.val 50 (.int .i64 (r155.length : Int))⟩, ⟨[0, 2], [], [], Fct.val 51 (.bool (decide (i217 < (r155.length : Int))))⟩] hz232 hd232 (by kernel_rfl) ?_ ?_
      · refine sc (fun _ _ _ _ s _ => px (or_move (s.1.trans e232_10))) ?_
        refine sc (fun _ _ _ _ s _ => px (or_move (s.1.trans e232_7))) ?_
        refine sc (fun _ _ _ f _ _ => px (or_len tu22 f.1 rfl)) ?_
        refine sc (fun _ _ _ f _ _ => px (or_lss f.1 f.2.1 rfl)) ?_
        exact steps_nil
      intro own234 a234 w234 hd234 hz234 hk234 hf234 hE234
      have e234_0 := (hk234 0 rfl).trans e232_0
      have e234_4 := (hk234 4 rfl).trans e232_4
      have e234_5 := (hk234 5 rfl).trans e232_5
      have e234_7 := (hk234 7 rfl).trans e232_7
      have e234_8 := (hk234 8 rfl).trans e232_8
      have e234_10 := (hk234 10 rfl).trans e232_10
      obtain ⟨(e234_51 : a234.eval (.tmp 51) = .bool (decide (i217 < (r155.length : Int)))), -⟩ := hf234 [3] rfl
      have hX234 := es_ hE232 hE234
      have b234_A151 := RdO.evo rfl hE234 b232_A151
      have b234_g145 := be_ hE234 b232_g145
      have b234_g147 := be_ hE234 b232_g147
      have b234_A156 := RdO.evo rfl hE234 b232_A156
      refine fl_cond e234_51 hs (fun c235 hs => ?_) (fun c235 hs => ?_)
      · refine fl_skip ?_
        refine hn233 _ _ ?_
        refine fl_seq (fun Q236 hn236 hp236 => ?_)
        refine fl_block (fun Q237 hn237 hx237 hp237 => ?_)
        obtain ⟨x238, hx238, hs⟩ := obind hs
        obtain ⟨x239, hx239, hs⟩ := obind hs
        obtain ⟨r240, hr240, hs⟩ := obind hs
        refine rg_draw_seq g_mixed (n := 166) (rs := []) (own0 := own234) (K := []) (bs := [0, 0, 0, 6, 14, 0, 0, 96, 224, 510, 1023, 2047]) (ds := [⟨[], [4], [], Fct.val 54 (.agg #[.int .i64 b2.1.1, .int .i64 b2.1.2, .int .i64 b2.2.1, .int .i64 b2.2.2])⟩, ⟨[], [7], [], Fct.val 55 (.slice A156 r155.length cA156)⟩, ⟨[], [10], [], Fct.val 56 (.int .i64 i217)⟩, ⟨[1, 2], [], [], Fct.val 57 (.pointer (some ((adr A156).add ((i217 : Int).toNat * R25.s))))⟩, ⟨[3], [], [], Fct.val 58 (.agg #[.int .i64 x238.1, .int .i64 x238.2])⟩, ⟨[], [7], [], Fct.val 59 (.slice A156 r155.length cA156)⟩, ⟨[], [10], [], Fct.val 60 (.int .i64 i217)⟩, ⟨[5, 6], [], [], Fct.val 61 (.pointer (some ((adr A156).add ((i217 : Int).toNat * R25.s))))⟩, ⟨[7], [], [], Fct.val 62 (.agg #[.int .i64 x239.1, .int .i64 x239.2])⟩, ⟨[4, 8], [], [], Fct.val 63 (.agg #[.int .i64 x238.1, .int .i64 x238.2, .int .i64 x239.1, .int .i64 x239.2])⟩, ⟨[0, 9], [], [], Fct.val 64 (.bool r240)⟩, ⟨[10], [], [], Fct.val 65 (.bool (!r240))⟩]) (by kernel_rfl) hz234 hd234 nm_ ?_ ?_
        · refine sc (fun _ _ _ _ s hE => px (or_load (l := [.int .i64 b2.1.1, .int .i64 b2.1.2, .int .i64 b2.2.1, .int .i64 b2.2.2]) ta31 (s.1.trans e234_4) (Blk.cellsFrom (be_ hE b234_g145).2 0 rfl) rfl)) ?_
          refine sc (fun _ _ _ _ s _ => px (or_move (s.1.trans e234_7))) ?_
          refine sc (fun _ _ _ _ s _ => px (or_move (s.1.trans e234_10))) ?_
          refine sc (fun _ _ _ f _ _ => px (or_index (R := R25) (l := r155) tl22 f.1 f.2.1 (RdO.some_ b234_A156 hx238) hx238)) ?_
          refine sc (fun _ _ _ f _ hE => px (or_load (l := E25.f x238) ta25 f.1 (RdO.cells (F := E25) (RdO.evo rfl hE b234_A156) hx238) rfl)) ?_
          refine sc (fun _ _ _ _ s _ => px (or_move (s.1.trans e234_7))) ?_
          refine sc (fun _ _ _ _ s _ => px (or_move (s.1.trans e234_10))) ?_
          refine sc (fun _ _ _ f _ _ => px (or_index (R := R25) (l := r155) tl22 f.1 f.2.1 (RdO.some_ b234_A156 hx239) hx239)) ?_
          refine sc (fun _ _ _ f _ hE => px (or_load (l := E25.f x239) ta25 f.1 (RdO.cells (F := E25) (RdO.evo rfl hE b234_A156) hx239) rfl)) ?_
          refine sc (fun _ _ _ f _ _ => px (or_k [(58, .agg #[.int .i64 x238.1, .int .i64 x238.2]), (62, .agg #[.int .i64 x239.1, .int .i64 x239.2])] rfl rfl ⟨f.1, f.2.1, trivial⟩ (by kernel_rfl))) ?_
          refine sc (fun _ _ _ f _ _ => px (or_call cf15 (args2 f.1 f.2.1) (rows_Meet_w _ b2 (x238, x239)  r240 hr240) post_val)) ?_
          refine sc (fun _ _ _ f _ _ => px (or_not f.1 rfl)) ?_
          exact steps_nil
        intro own241 a241 w241 hd241 hz241 hk241 hf241 hE241
        have e241_0 := (hk241 0 rfl).trans e234_0
        have e241_4 := (hk241 4 rfl).trans e234_4
        have e241_5 := (hk241 5 rfl).trans e234_5
        have e241_7 := (hk241 7 rfl).trans e234_7
        have e241_8 := (hk241 8 rfl).trans e234_8
        have e241_10 := (hk241 10 rfl).trans e234_10
        obtain ⟨(e241_65 : a241.eval (.tmp 65) = .bool (!r240)), -⟩ := hf241 [11] rfl
        have hX241 := es_ hX234 hE241
        have b241_A151 := RdO.evo rfl hE241 b234_A151
        have b241_g145 := be_ hE241 b234_g145
        have b241_g147 := be_ hE241 b234_g147
        have b241_A156 := RdO.evo rfl hE241 b234_A156
        refine fl_cond e241_65 hs (fun c242 hs => ?_) (fun c242 hs => ?_)
        · refine rg0_seq 166 own241 (bz 1) [⟨[], [], [], Fct.val 6 (.bool false)⟩] hz241 hd241 (by kernel_rfl) ?_ ?_
          · refine sc (fun _ _ _ _ _ _ => px (or_assign rfl)) ?_
            exact steps_nil
          intro own243 a243 w243 hd243 hz243 hk243 hf243 hE243
          obtain ⟨(e243_6 : a243.eval (.tmp 6) = .bool false), -⟩ := hf243 [0] rfl
          have hX243 := es_ hX241 hE243
          refine fl_ret ?_
          refine hp237 _ _ _ rfl ?_
          refine hp236 _ _ _ rfl ?_
          replace hs := hz231 _ hs
          refine hp231 _ _ _ rfl ?_
          refine hp203 _ _ _ rfl ?_
          refine hp201 _ _ _ rfl ?_
          obtain rfl := osome hs
          exact hret _ _ _ _ (.inl rfl) hd243 (results1_ rfl (RVal.tmp_ e243_6)) ⟨own243, rfl, hX243⟩
        refine fl_skip ?_
        refine hn237 _ _ ?_
        refine hn236 _ _ ?_
        refine rg0 166 own241 (bz 3) [⟨[], [10], [], Fct.val 52 (.int .i64 i217)⟩, ⟨[0], [], [], Fct.val 53 (.int .i64 (ad i217 1))⟩, ⟨[1], [], [], Fct.val 10 (.int .i64 (ad i217 1))⟩] hz241 hd241 (by kernel_rfl) ?_ ?_
        · refine sc (fun _ _ _ _ s _ => px (or_move (s.1.trans e241_10))) ?_
          refine sc (fun _ _ _ f _ _ => px (or_add f.1 rfl rfl)) ?_
          refine sc (fun _ _ _ f _ _ => px (or_assign f.1)) ?_
          exact steps_nil
        intro own244 a244 w244 hd244 hz244 hk244 hf244 hE244
        have e244_0 := (hk244 0 rfl).trans e241_0
        have e244_4 := (hk244 4 rfl).trans e241_4
        have e244_5 := (hk244 5 rfl).trans e241_5
        have e244_7 := (hk244 7 rfl).trans e241_7
        have e244_8 := (hk244 8 rfl).trans e241_8
        obtain ⟨(e244_10 : a244.eval (.tmp 10) = .int .i64 (ad i217 1)), -⟩ := hf244 [2] rfl
        have hX244 := es_ hX241 hE244
        have b244_A151 := RdO.evo rfl hE244 b241_A151
        have b244_g145 := be_ hE244 b241_g145
        have b244_g147 := be_ hE244 b241_g147
        have b244_A156 := RdO.evo rfl hE244 b241_A156
        exact hn231 _ _ _ hs ⟨own244, hd244, hz244, e244_0, e244_4, e244_5, e244_7, e244_8, e244_10, hX244, b244_A151, b244_g145, b244_g147, b244_A156⟩
      refine fl_exit ?_
      refine hp233 _ _ _ rfl ?_
      replace hs := hz231 _ hs
      refine hp231 _ _ _ rfl ?_
      refine hx203 _ _ ?_
      refine hn201 _ _ ?_
      obtain ⟨r245, hr245, hs⟩ := obind hs
      refine rg0_seq 166 own234 (bz 3) [⟨[], [0], [], Fct.val 66 (.slice A151 r150.length cA151)⟩, ⟨[0], [], [], Fct.mems [247] 67 (fun (x : Option Addr × Nat) => .slice x.1 r245.length r245.length) (fun (x : Option Addr × Nat) own w => RdO own [247] w R25 x.1 r245.length r245) (fun hk he h => RdO.evo (hits_sub hk (by decide)) he h)⟩, ⟨[1], [], [], Fct.rel [11, 67] (fun l => ∀ (A246 : Option Addr), l.getD 1 undef = .slice A246 r245.length r245.length → l.getD 0 undef = .slice A246 r245.length r245.length)⟩] hz234 hd234 (by kernel_rfl) ?_ ?_
      · refine sc (fun _ _ _ _ s _ => px (or_move (s.1.trans e234_0))) ?_
        refine sc (fun _ _ _ f _ hE => px (or_call cf16 (args1 f.1) (ring_Thin_w _ r150 A151 cA151 (RdO.zero (RdO.evo rfl hE b234_A151)) r245 hr245) (post_mems (m := (fun _ => 0)) (m' := (look0 [(1, 247)])) (fun _ _ => .inl rfl) (fun own' w' a' x h1 h => ⟨x, h1, RdO.back_ h (by decide)⟩)))) ?_
        refine sc (fun own a wx hf hsl hE => ?_) ?_
        · obtain ⟨⟨⟨A246, cA246⟩, (f_67 : a.eval (.tmp 67) = .slice A246 r245.length r245.length), b_A246⟩, -⟩ := hf
          exact px (or_mono (f := Fct.val 11 (.slice A246 r245.length r245.length)) (or_assign f_67) (fun own' a' w' v' hp h => fun _ h0' => by cases (f_67.symm.trans ((hp.2 67 (by decide)).symm.trans h0')); exact h))
        exact steps_nil
      intro own248 a248 w248 hd248 hz248 hk248 hf248 hE248
      have e248_0 := (hk248 0 rfl).trans e234_0
      have e248_4 := (hk248 4 rfl).trans e234_4
      have e248_5 := (hk248 5 rfl).trans e234_5
      have e248_7 := (hk248 7 rfl).trans e234_7
      have e248_8 := (hk248 8 rfl).trans e234_8
      obtain ⟨⟨⟨A246, cA246⟩, (f_67 : a248.eval (.tmp 67) = .slice A246 r245.length r245.length), (b248_A246 : RdO own248 [247] w248 R25 A246 r245.length r245)⟩, (q_11 : ∀ (A246 : Option Addr), a248.eval (.tmp 67) = .slice A246 r245.length r245.length → a248.eval (.tmp 11) = .slice A246 r245.length r245.length), -⟩ := hf248 [1, 2] rfl
      have e248_11 := q_11 _ f_67
      have hX248 := es_ hX234 hE248
      have b248_A151 := RdO.evo rfl hE248 b234_A151
      have b248_g145 := be_ hE248 b234_g145
      have b248_g147 := be_ hE248 b234_g147
      have b248_A156 := RdO.evo rfl hE248 b234_A156
      refine fl_seq (fun Q249 hn249 hp249 => ?_)
      obtain ⟨r250, hr250, hs⟩ := obind hs
      obtain ⟨r251, hr251, hs⟩ := obind hs
      obtain ⟨r254, hr254, hs⟩ := obind hs
      obtain ⟨x255, hx255, hs⟩ := obind hs
      refine rg0_seq 166 own248 [0, 1, 3, 7, 15, 31, 63, 127, 127, 383, 1023, 2047, 4095] [⟨[], [8], [], Fct.val 68 (.bool inside176)⟩, ⟨[0], [], [], Fct.val 69 (.bool inside176)⟩, ⟨[1], [0], [], Fct.cond inside176 (some 70) (Fct.val 70 (.slice A151 r150.length cA151))⟩, ⟨[1, 2], [], [], Fct.cond inside176 (some 71) (Fct.val 71 (.int .i64 r250))⟩, ⟨[1, 3], [], [], Fct.cond inside176 (some 72) (Fct.val 72 (.bool (!decide (r250 = 0))))⟩, ⟨[1, 4], [], [], Fct.val 73 (.bool (inside176 && (!decide (r250 = 0))))⟩, ⟨[5], [], [], Fct.val 74 (.bool (inside176 && (!decide (r250 = 0))))⟩, ⟨[6], [7], [], Fct.cond (inside176 && (!decide (r250 = 0))) (some 75) (Fct.val 75 (.slice A156 r155.length cA156))⟩, ⟨[6], [11], [], Fct.cond (inside176 && (!decide (r250 = 0))) (some 76) (Fct.val 76 (.slice A246 r245.length r245.length))⟩, ⟨[6, 8], [], [], Fct.cond (inside176 && (!decide (r250 = 0))) (some 77) (Fct.row 253 [] 77 43 R43 r251)⟩, ⟨[6, 7, 9], [], [], Fct.cond (inside176 && (!decide (r250 = 0))) (some 78) (Fct.val 78 (.bool r254))⟩, ⟨[6, 10], [], [], Fct.cond (inside176 && (!decide (r250 = 0))) (some 79) (Fct.val 79 (.bool (!r254)))⟩, ⟨[6, 11], [], [], Fct.val 80 (.bool x255)⟩] hz248 hd248 (by kernel_rfl) ?_ ?_
      · refine sc (fun _ _ _ _ s _ => px (or_move (s.1.trans e248_8))) ?_
        refine sc (fun _ _ _ f _ _ => px (or_move f.1)) ?_
        refine sc (fun _ _ _ f s _ => sg_t rfl rfl rfl f.1 (fun hg => or_move (s.1.trans e248_0))) ?_
        refine sc (fun _ _ _ f _ hE => sg_t rfl rfl rfl f.1 (fun hg => or_call cf9 (args1 (f.2.1.1 hg)) (ring_Area_w _ r150 A151 cA151 (RdO.zero (RdO.evo rfl hE b248_A151)) r250 (gd_t hr250 hg)) post_val)) ?_
        refine sc (fun _ _ _ f _ _ => sg_t rfl rfl rfl f.1 (fun hg => or_neq (f.2.1.1 hg) rfl rfl)) ?_
        refine sc (fun _ _ _ f _ _ => px (or_and f.1 (fun hx => f.2.1.1 hx) rfl rfl)) ?_
        refine sc (fun _ _ _ f _ _ => px (or_move f.1)) ?_
        refine sc (fun _ _ _ f s _ => sg_t rfl rfl rfl f.1 (fun hg => or_move (s.1.trans e248_7))) ?_
        refine sc (fun _ _ _ f s _ => sg_t rfl rfl rfl f.1 (fun hg => or_move (s.1.trans e248_11))) ?_
        refine sc (fun _ _ _ f _ hE => sg_t rfl rfl rfl f.1 (fun hg => or_call cf12 (args1 (f.2.1.1 hg)) (law01_Ofs_w _ r245 A246 r245.length (RdO.zero (RdO.evo rfl hE b248_A246)) r251 (gd_t hr251 hg)) (post_row (m' := (look0 [(1, 253)])) (.inl (Rep.fl_flat _)) rfl rfl (fun _ => rfl)))) ?_
        refine sc (fun own a wx hf hsl hE => ?_) ?_
        · obtain ⟨f_74, c_75, c_77, -⟩ := hf
          refine sg_t rfl rfl rfl f_74 (fun hg => ?_)
          have f_75 := c_75.1 hg
          obtain ⟨⟨A252, cA252⟩, f_77, b_A252⟩ := c_77.1 hg
          exact or_call cf11 (args2 f_75 f_77) (law03_Same_w _ r155 A156 cA156 r251 A252 cA252 (RdO.zero (RdO.evo rfl hE b248_A156)) (RdO.zero (RwO.rd b_A252)) r254 (gd_t hr254 hg)) post_val
        refine sc (fun _ _ _ f _ _ => sg_t rfl rfl rfl f.1 (fun hg => or_not (f.2.1.1 hg) rfl)) ?_
        refine sc (fun _ _ _ f _ _ => px (or_and f.1 (fun hx => f.2.1.1 hx) rfl (osome hx255).symm)) ?_
        exact steps_nil
      intro own256 a256 w256 hd256 hz256 hk256 hf256 hE256
      have e256_0 := (hk256 0 rfl).trans e248_0
      have e256_4 := (hk256 4 rfl).trans e248_4
      have e256_5 := (hk256 5 rfl).trans e248_5
      have e256_7 := (hk256 7 rfl).trans e248_7
      obtain ⟨(e256_80 : a256.eval (.tmp 80) = .bool x255), -⟩ := hf256 [12] rfl
      have hX256 := es_ hX248 hE256
      have b256_A151 := RdO.evo rfl hE256 b248_A151
      have b256_g145 := be_ hE256 b248_g145
      have b256_g147 := be_ hE256 b248_g147
      have b256_A156 := RdO.evo rfl hE256 b248_A156
      refine fl_cond e256_80 hs (fun c257 hs => ?_) (fun c257 hs => ?_)
      · refine rg0_seq 166 own256 (bz 1) [⟨[], [], [], Fct.val 6 (.bool false)⟩] hz256 hd256 (by kernel_rfl) ?_ ?_
        · refine sc (fun _ _ _ _ _ _ => px (or_assign rfl)) ?_
          exact steps_nil
        intro own258 a258 w258 hd258 hz258 hk258 hf258 hE258
        obtain ⟨(e258_6 : a258.eval (.tmp 6) = .bool false), -⟩ := hf258 [0] rfl
        have hX258 := es_ hX256 hE258
        refine fl_ret ?_
        refine hp249 _ _ _ rfl ?_
        obtain rfl := osome hs
        exact hret _ _ _ _ (.inl rfl) hd258 (results1_ rfl (RVal.tmp_ e258_6)) ⟨own258, rfl, hX258⟩
      refine fl_skip ?_
      refine hn249 _ _ ?_
      refine fl_seq (fun Q259 hn259 hp259 => ?_)
      obtain ⟨r260, hr260, hs⟩ := obind hs
      obtain ⟨r261, hr261, hs⟩ := obind hs
      obtain ⟨x262, hx262, hs⟩ := obind hs
      obtain ⟨x263, hx263, hs⟩ := obind hs
      obtain ⟨x264, hx264, hs⟩ := obind hs
      refine rg0_seq 166 own256 [0, 0, 3, 7, 15, 31, 63, 127, 255, 511, 1023, 2047, 4095, 8191, 16383, 32767, 65535, 32767, 163839, 425983, 1048575, 2097151, 4194303, 8388607, 16777215, 8388607, 41943039, 109051903, 268435455, 536870911, 1073741823, 2147483647, 4294967295, 2147483647, 10737418239, 27917287423, 68719476735, 137438953471, 274877906943, 549755813887, 1099511627775, 549755813887, 2748779069439, 7146825580543, 17592186044415, 35184372088831] [⟨[], [0], [], Fct.val 81 (.slice A151 r150.length cA151)⟩, ⟨[], [4], [], Fct.val 82 (.agg #[.int .i64 b2.1.1, .int .i64 b2.1.2, .int .i64 b2.2.1, .int .i64 b2.2.2])⟩, ⟨[0, 1], [], [], Fct.val 83 (.bool r260)⟩, ⟨[2], [], [], Fct.val 84 (.bool (!r260))⟩, ⟨[3], [], [], Fct.val 85 (.bool (!r260))⟩, ⟨[4], [0], [], Fct.cond (!(!r260)) (some 86) (Fct.val 86 (.slice A151 r150.length cA151))⟩, ⟨[4, 5], [], [], Fct.cond (!(!r260)) (some 87) (Fct.val 87 (.bool r261))⟩, ⟨[4, 6], [], [], Fct.cond (!(!r260)) (some 88) (Fct.val 88 (.bool (!r261)))⟩, ⟨[4, 7], [], [], Fct.cond (!(!r260)) (some 89) (Fct.val 89 (.bool (!r261)))⟩, ⟨[8], [7], [], Fct.cond ((!(!r260)) && (!r261)) (some 90) (Fct.val 90 (.slice A156 r155.length cA156))⟩, ⟨[8, 9], [], [], Fct.cond ((!(!r260)) && (!r261)) (some 91) (Fct.val 91 (.int .i64 (r155.length : Int)))⟩, ⟨[8, 10], [], [], Fct.cond ((!(!r260)) && (!r261)) (some 92) (Fct.val 92 (.bool (decide ((r155.length : Int) = 0))))⟩, ⟨[4, 8, 11], [], [], Fct.cond (!(!r260)) (some 93) (Fct.val 93 (.bool x262))⟩, ⟨[4, 12], [], [], Fct.val 94 (.bool ((!r260) || x262))⟩, ⟨[13], [], [], Fct.val 95 (.bool ((!r260) || x262))⟩, ⟨[14], [5], [], Fct.cond (!((!r260) || x262)) (some 96) (Fct.val 96 (.pointer (some ⟨g147, 0, none⟩)))⟩, ⟨[14, 15], [], [], Fct.cond (!((!r260) || x262)) (some 97) (Fct.val 97 (.int .i64 p3.1))⟩, ⟨[14], [4], [], Fct.cond (!((!r260) || x262)) (some 98) (Fct.val 98 (.pointer (some ⟨g145, 0, none⟩)))⟩, ⟨[14, 17], [], [], Fct.cond (!((!r260) || x262)) (some 99) (Fct.val 99 (.pointer (some ⟨g145, 0, none⟩)))⟩, ⟨[14, 18], [], [], Fct.cond (!((!r260) || x262)) (some 100) (Fct.val 100 (.int .i64 b2.1.1))⟩, ⟨[14, 16, 19], [], [], Fct.cond (!((!r260) || x262)) (some 101) (Fct.val 101 (.bool (decide (p3.1 ≤ b2.1.1))))⟩, ⟨[14, 20], [], [], Fct.val 102 (.bool x263)⟩, ⟨[21], [], [], Fct.val 103 (.bool x263)⟩, ⟨[22], [5], [], Fct.cond (!x263) (some 104) (Fct.val 104 (.pointer (some ⟨g147, 0, none⟩)))⟩, ⟨[22, 23], [], [], Fct.cond (!x263) (some 105) (Fct.val 105 (.int .i64 p3.1))⟩, ⟨[22], [4], [], Fct.cond (!x263) (some 106) (Fct.val 106 (.pointer (some ⟨g145, 2, none⟩)))⟩, ⟨[22, 25], [], [], Fct.cond (!x263) (some 107) (Fct.val 107 (.pointer (some ⟨g145, 2, none⟩)))⟩, ⟨[22, 26], [], [], Fct.cond (!x263) (some 108) (Fct.val 108 (.int .i64 b2.2.1))⟩, ⟨[22, 24, 27], [], [], Fct.cond (!x263) (some 109) (Fct.val 109 (.bool (decide (b2.2.1 ≤ p3.1))))⟩, ⟨[22, 28], [], [], Fct.val 110 (.bool (x263 || (decide (b2.2.1 ≤ p3.1))))⟩, ⟨[29], [], [], Fct.val 111 (.bool (x263 || (decide (b2.2.1 ≤ p3.1))))⟩, ⟨[30], [5], [], Fct.cond (!(x263 || (decide (b2.2.1 ≤ p3.1)))) (some 112) (Fct.val 112 (.pointer (some ⟨g147, 1, none⟩)))⟩, ⟨[30, 31], [], [], Fct.cond (!(x263 || (decide (b2.2.1 ≤ p3.1)))) (some 113) (Fct.val 113 (.int .i64 p3.2))⟩, ⟨[30], [4], [], Fct.cond (!(x263 || (decide (b2.2.1 ≤ p3.1)))) (some 114) (Fct.val 114 (.pointer (some ⟨g145, 0, none⟩)))⟩, ⟨[30, 33], [], [], Fct.cond (!(x263 || (decide (b2.2.1 ≤ p3.1)))) (some 115) (Fct.val 115 (.pointer (some ⟨g145, 1, none⟩)))⟩, ⟨[30, 34], [], [], Fct.cond (!(x263 || (decide (b2.2.1 ≤ p3.1)))) (some 116) (Fct.val 116 (.int .i64 b2.1.2))⟩, ⟨[30, 32, 35], [], [], Fct.cond (!(x263 || (decide (b2.2.1 ≤ p3.1)))) (some 117) (Fct.val 117 (.bool (decide (p3.2 ≤ b2.1.2))))⟩, ⟨[30, 36], [], [], Fct.val 118 (.bool x264)⟩, ⟨[37], [], [], Fct.val 119 (.bool x264)⟩, ⟨[38], [5], [], Fct.cond (!x264) (some 120) (Fct.val 120 (.pointer (some ⟨g147, 1, none⟩)))⟩, ⟨[38, 39], [], [], Fct.cond (!x264) (some 121) (Fct.val 121 (.int .i64 p3.2))⟩, ⟨[38], [4], [], Fct.cond (!x264) (some 122) (Fct.val 122 (.pointer (some ⟨g145, 2, none⟩)))⟩, ⟨[38, 41], [], [], Fct.cond (!x264) (some 123) (Fct.val 123 (.pointer (some ⟨g145, 3, none⟩)))⟩, ⟨[38, 42], [], [], Fct.cond (!x264) (some 124) (Fct.val 124 (.int .i64 b2.2.2))⟩, ⟨[38, 40, 43], [], [], Fct.cond (!x264) (some 125) (Fct.val 125 (.bool (decide (b2.2.2 ≤ p3.2))))⟩, ⟨[38, 44], [], [], Fct.val 126 (.bool (x264 || (decide (b2.2.2 ≤ p3.2))))⟩] hz256 hd256 (by kernel_rfl) ?_ ?_
      · refine sc (fun _ _ _ _ s _ => px (or_move (s.1.trans e256_0))) ?_
        refine sc (fun _ _ _ _ s hE => px (or_load (l := [.int .i64 b2.1.1, .int .i64 b2.1.2, .int .i64 b2.2.1, .int .i64 b2.2.2]) ta31 (s.1.trans e256_4) (Blk.cellsFrom (be_ hE b256_g145).2 0 rfl) rfl)) ?_
        refine sc (fun _ _ _ f _ hE => px (or_call cf13 (args2 f.1 f.2.1) (polyclip_Whole_w _ r150 A151 cA151 b2 (RdO.zero (RdO.evo rfl hE b256_A151)) r260 hr260) post_val)) ?_
        refine sc (fun _ _ _ f _ _ => px (or_not f.1 rfl)) ?_
        refine sc (fun _ _ _ f _ _ => px (or_move f.1)) ?_
        refine sc (fun _ _ _ f s _ => sg_f rfl rfl rfl f.1 (fun hg => or_move (s.1.trans e256_0))) ?_
        refine sc (fun _ _ _ f _ hE => sg_f rfl rfl rfl f.1 (fun hg => or_call cf17 (args1 (f.2.1.1 hg)) (ring_Simple_w _ r150 A151 cA151 (RdO.zero (RdO.evo rfl hE b256_A151)) r261 (gd_t hr261 hg)) post_val)) ?_
        refine sc (fun _ _ _ f _ _ => sg_f rfl rfl rfl f.1 (fun hg => or_not (f.2.1.1 hg) rfl)) ?_
        refine sc (fun _ _ _ f _ _ => sg_f rfl rfl rfl f.1 (fun hg => or_move (f.2.1.1 hg))) ?_
        refine sc (fun _ _ _ f s _ => sg_tc rfl rfl rfl f.1 (fun hg => or_move (s.1.trans e256_7))) ?_
        refine sc (fun _ _ _ f _ _ => sg_tc rfl rfl rfl f.1 (fun hg => or_len tu22 (f.2.1.1 hg) rfl)) ?_
        refine sc (fun _ _ _ f _ _ => sg_tc rfl rfl rfl f.1 (fun hg => or_eql (f.2.1.1 hg) rfl rfl)) ?_
        refine sc (fun _ _ _ f _ _ => sg_f rfl rfl rfl f.1 (fun hg => or_and (f.2.1.1 hg) (fun hx => f.2.2.1.1 (gI hg hx)) rfl (osome hx262).symm)) ?_
        refine sc (fun _ _ _ f _ _ => px (or_or f.1 rfl (fun hx => f.2.1.1 hx) rfl)) ?_
        refine sc (fun _ _ _ f _ _ => px (or_move f.1)) ?_
        refine sc (fun _ _ _ f s _ => sg_f rfl rfl rfl f.1 (fun hg => or_field fo25_0 (s.1.trans e256_5) (by rfl))) ?_
        refine sc (fun _ _ _ f _ hE => sg_f rfl rfl rfl f.1 (fun hg => or_load1 to3 (f.2.1.1 hg) (Blk.at_ (be_ hE b256_g147).2 0 rfl))) ?_
        refine sc (fun _ _ _ f s _ => sg_f rfl rfl rfl f.1 (fun hg => or_field fo31_0 (s.1.trans e256_4) (by rfl))) ?_
        refine sc (fun _ _ _ f _ _ => sg_f rfl rfl rfl f.1 (fun hg => or_field fo25_0 (f.2.1.1 hg) (by rfl))) ?_
        refine sc (fun _ _ _ f _ hE => sg_f rfl rfl rfl f.1 (fun hg => or_load1 to3 (f.2.1.1 hg) (Blk.at_ (be_ hE b256_g145).2 0 rfl))) ?_
        refine sc (fun _ _ _ f _ _ => sg_f rfl rfl rfl f.1 (fun hg => or_leq (f.2.1.1 hg) (f.2.2.1.1 hg) rfl)) ?_
        refine sc (fun _ _ _ f _ _ => px (or_or f.1 rfl (fun hx => f.2.1.1 hx) (osome hx263).symm)) ?_
        refine sc (fun _ _ _ f _ _ => px (or_move f.1)) ?_
        refine sc (fun _ _ _ f s _ => sg_f rfl rfl rfl f.1 (fun hg => or_field fo25_0 (s.1.trans e256_5) (by rfl))) ?_
        refine sc (fun _ _ _ f _ hE => sg_f rfl rfl rfl f.1 (fun hg => or_load1 to3 (f.2.1.1 hg) (Blk.at_ (be_ hE b256_g147).2 0 rfl))) ?_
        refine sc (fun _ _ _ f s _ => sg_f rfl rfl rfl f.1 (fun hg => or_field fo31_1 (s.1.trans e256_4) (by rfl))) ?_
        refine sc (fun _ _ _ f _ _ => sg_f rfl rfl rfl f.1 (fun hg => or_field fo25_0 (f.2.1.1 hg) (by rfl))) ?_
        refine sc (fun _ _ _ f _ hE => sg_f rfl rfl rfl f.1 (fun hg => or_load1 to3 (f.2.1.1 hg) (Blk.at_ (be_ hE b256_g145).2 2 rfl))) ?_
        refine sc (fun _ _ _ f _ _ => sg_f rfl rfl rfl f.1 (fun hg => or_geq (f.2.1.1 hg) (f.2.2.1.1 hg) rfl)) ?_
        refine sc (fun _ _ _ f _ _ => px (or_or f.1 rfl (fun hx => f.2.1.1 hx) rfl)) ?_
        refine sc (fun _ _ _ f _ _ => px (or_move f.1)) ?_
        refine sc (fun _ _ _ f s _ => sg_f rfl rfl rfl f.1 (fun hg => or_field fo25_1 (s.1.trans e256_5) (by rfl))) ?_
        refine sc (fun _ _ _ f _ hE => sg_f rfl rfl rfl f.1 (fun hg => or_load1 to3 (f.2.1.1 hg) (Blk.at_ (be_ hE b256_g147).2 1 rfl))) ?_
        refine sc (fun _ _ _ f s _ => sg_f rfl rfl rfl f.1 (fun hg => or_field fo31_0 (s.1.trans e256_4) (by rfl))) ?_
        refine sc (fun _ _ _ f _ _ => sg_f rfl rfl rfl f.1 (fun hg => or_field fo25_1 (f.2.1.1 hg) (by rfl))) ?_
        refine sc (fun _ _ _ f _ hE => sg_f rfl rfl rfl f.1 (fun hg => or_load1 to3 (f.2.1.1 hg) (Blk.at_ (be_ hE b256_g145).2 1 rfl))) ?_
        refine sc (fun _ _ _ f _ _ => sg_f rfl rfl rfl f.1 (fun hg => or_leq (f.2.1.1 hg) (f.2.2.1.1 hg) rfl)) ?_
        refine sc (fun _ _ _ f _ _ => px (or_or f.1 rfl (fun hx => f.2.1.1 hx) (osome hx264).symm)) ?_
        refine sc (fun _ _ _ f _ _ => px (or_move f.1)) ?_
        refine sc (fun _ _ _ f s _ => sg_f rfl rfl rfl f.1 (fun hg => or_field fo25_1 (s.1.trans e256_5) (by rfl))) ?_
        refine sc (fun _ _ _ f _ hE => sg_f rfl rfl rfl f.1 (fun hg => or_load1 to3 (f.2.1.1 hg) (Blk.at_ (be_ hE b256_g147).2 1 rfl))) ?_
        refine sc (fun _ _ _ f s _ => sg_f rfl rfl rfl f.1 (fun hg => or_field fo31_1 (s.1.trans e256_4) (by rfl))) ?_
        refine sc (fun _ _ _ f _ _ => sg_f rfl rfl rfl f.1 (fun hg => or_field fo25_1 (f.2.1.1 hg) (by rfl))) ?_
        refine sc (fun _ _ _ f _ hE => sg_f rfl rfl rfl f.1 (fun hg => or_load1 to3 (f.2.1.1 hg) (Blk.at_ (be_ hE b256_g145).2 3 rfl))) ?_
        refine sc (fun _ _ _ f _ _ => sg_f rfl rfl rfl f.1 (fun hg => or_geq (f.2.1.1 hg) (f.2.2.1.1 hg) rfl)) ?_
        refine sc (fun _ _ _ f _ _ => px (or_or f.1 rfl (fun hx => f.2.1.1 hx) rfl)) ?_
        exact steps_nil
      intro own265 a265 w265 hd265 hz265 hk265 hf265 hE265
      have e265_0 := (hk265 0 rfl).trans e256_0
      have e265_5 := (hk265 5 rfl).trans e256_5
      have e265_7 := (hk265 7 rfl).trans e256_7
      obtain ⟨(e265_126 : a265.eval (.tmp 126) = .bool (x264 || (decide (b2.2.2 ≤ p3.2)))), -⟩ := hf265 [45] rfl
      have hX265 := es_ hX256 hE265
      have b265_A151 := RdO.evo rfl hE265 b256_A151
      have b265_g147 := be_ hE265 b256_g147
      have b265_A156 := RdO.evo rfl hE265 b256_A156
      refine fl_cond e265_126 hs (fun c266 hs => ?_) (fun c266 hs => ?_)
      · obtain ⟨r267, hr267, hs⟩ := obind hs
        refine rg0_seq 166 own265 (bz 2) [⟨[], [], [], Fct.val 127 (.bool r267)⟩, ⟨[0], [], [], Fct.val 6 (.bool r267)⟩] hz265 hd265 (by kernel_rfl) ?_ ?_
        · refine sc (fun _ _ _ _ _ _ => px (or_call cf7 (args0) (law21_known_w _   r267 hr267) post_val)) ?_
          refine sc (fun _ _ _ f _ _ => px (or_assign f.1)) ?_
          exact steps_nil
        intro own268 a268 w268 hd268 hz268 hk268 hf268 hE268
        obtain ⟨(e268_6 : a268.eval (.tmp 6) = .bool r267), -⟩ := hf268 [1] rfl
        have hX268 := es_ hX265 hE268
        refine fl_ret ?_
        refine hp259 _ _ _ rfl ?_
        obtain rfl := (osome hs).symm
        exact hret _ _ _ _ (.inl rfl) hd268 (results1_ rfl (RVal.tmp_ e268_6)) ⟨own268, rfl, hX268⟩
      refine fl_skip ?_
      refine hn259 _ _ ?_
      obtain ⟨r269, hr269, hs⟩ := obind hs
      refine rg0_seq 166 own265 [0, 0, 3, 7, 15, 15, 31, 127] [⟨[], [0], [], Fct.val 129 (.slice A151 r150.length cA151)⟩, ⟨[], [5], [], Fct.val 130 (.agg #[.int .i64 p3.1, .int .i64 p3.2])⟩, ⟨[0, 1], [], [], Fct.val 131 (.tuple #[.int .i64 r269.1, .bool r269.2])⟩, ⟨[2], [], [], Fct.val 128 (.tuple #[.int .i64 r269.1, .bool r269.2])⟩, ⟨[3], [], [], Fct.val 132 (.int .i64 r269.1)⟩, ⟨[3], [], [], Fct.val 133 (.bool r269.2)⟩, ⟨[4], [], [], Fct.val 12 (.int .i64 r269.1)⟩, ⟨[5], [], [], Fct.val 13 (.bool r269.2)⟩] hz265 hd265 (by kernel_rfl) ?_ ?_
      · refine sc (fun _ _ _ _ s _ => px (or_move (s.1.trans e265_0))) ?_
        refine sc (fun _ _ _ _ s hE => px (or_load (l := [.int .i64 p3.1, .int .i64 p3.2]) ta25 (s.1.trans e265_5) (Blk.cellsFrom (be_ hE b265_g147).2 0 rfl) rfl)) ?_
        refine sc (fun _ _ _ f _ hE => px (or_call cf18 (args2 f.1 f.2.1) (ring_Winding_w _ r150 A151 cA151 p3 (RdO.zero (RdO.evo rfl hE b265_A151)) r269 hr269) post_val)) ?_
        refine sc (fun _ _ _ f _ _ => px (or_move f.1)) ?_
        refine sc (fun _ _ _ f _ _ => px (or_k [(128, .tuple #[.int .i64 r269.1, .bool r269.2])] rfl rfl ⟨f.1, trivial⟩ (by kernel_rfl))) ?_
        refine sc (fun _ _ _ f _ _ => px (or_k [(128, .tuple #[.int .i64 r269.1, .bool r269.2])] rfl rfl ⟨f.1, trivial⟩ (by kernel_rfl))) ?_
        refine sc (fun _ _ _ f _ _ => px (or_assign f.1)) ?_
        refine sc (fun _ _ _ f _ _ => px (or_assign f.1)) ?_
        exact steps_nil
      intro own270 a270 w270 hd270 hz270 hk270 hf270 hE270
      have e270_5 := (hk270 5 rfl).trans e265_5
      have e270_7 := (hk270 7 rfl).trans e265_7
      obtain ⟨(e270_12 : a270.eval (.tmp 12) = .int .i64 r269.1), (e270_13 : a270.eval (.tmp 13) = .bool r269.2), -⟩ := hf270 [6, 7] rfl
      have hX270 := es_ hX265 hE270
      have b270_g147 := be_ hE270 b265_g147
      have b270_A156 := RdO.evo rfl hE270 b265_A156
      obtain ⟨r271, hr271, hs⟩ := obind hs
      refine rg0_seq 166 own270 [0, 0, 3, 7, 15, 15, 31, 127] [⟨[], [7], [], Fct.val 135 (.slice A156 r155.length cA156)⟩, ⟨[], [5], [], Fct.val 136 (.agg #[.int .i64 p3.1, .int .i64 p3.2])⟩, ⟨[0, 1], [], [], Fct.val 137 (.tuple #[.int .i64 r271.1, .bool r271.2])⟩, ⟨[2], [], [], Fct.val 134 (.tuple #[.int .i64 r271.1, .bool r271.2])⟩, ⟨[3], [], [], Fct.val 138 (.int .i64 r271.1)⟩, ⟨[3], [], [], Fct.val 139 (.bool r271.2)⟩, ⟨[4], [], [], Fct.val 14 (.int .i64 r271.1)⟩, ⟨[5], [], [], Fct.val 15 (.bool r271.2)⟩] hz270 hd270 (by kernel_rfl) ?_ ?_
      · refine sc (fun _ _ _ _ s _ => px (or_move (s.1.trans e270_7))) ?_
        refine sc (fun _ _ _ _ s hE => px (or_load (l := [.int .i64 p3.1, .int .i64 p3.2]) ta25 (s.1.trans e270_5) (Blk.cellsFrom (be_ hE b270_g147).2 0 rfl) rfl)) ?_
        refine sc (fun _ _ _ f _ hE => px (or_call cf18 (args2 f.1 f.2.1) (ring_Winding_w _ r155 A156 cA156 p3 (RdO.zero (RdO.evo rfl hE b270_A156)) r271 hr271) post_val)) ?_
        refine sc (fun _ _ _ f _ _ => px (or_move f.1)) ?_
        refine sc (fun _ _ _ f _ _ => px (or_k [(134, .tuple #[.int .i64 r271.1, .bool r271.2])] rfl rfl ⟨f.1, trivial⟩ (by kernel_rfl))) ?_
        refine sc (fun _ _ _ f _ _ => px (or_k [(134, .tuple #[.int .i64 r271.1, .bool r271.2])] rfl rfl ⟨f.1, trivial⟩ (by kernel_rfl))) ?_
        refine sc (fun _ _ _ f _ _ => px (or_assign f.1)) ?_
        refine sc (fun _ _ _ f _ _ => px (or_assign f.1)) ?_
        exact steps_nil
      intro own272 a272 w272 hd272 hz272 hk272 hf272 hE272
      have e272_5 := (hk272 5 rfl).trans e270_5
      have e272_12 := (hk272 12 rfl).trans e270_12
      have e272_13 := (hk272 13 rfl).trans e270_13
      obtain ⟨(e272_14 : a272.eval (.tmp 14) = .int .i64 r271.1), (e272_15 : a272.eval (.tmp 15) = .bool r271.2), -⟩ := hf272 [6, 7] rfl
      have hX272 := es_ hX270 hE272
      have b272_g147 := be_ hE272 b270_g147
      obtain ⟨r273, hr273, hs⟩ := obind hs
      obtain ⟨x274, hx274, hs⟩ := obind hs
      obtain ⟨x275, hx275, hs⟩ := obind hs
      obtain ⟨r276, hr276, hs⟩ := obind hs
      obtain ⟨r277, hr277, hs⟩ := obind hs
      refine rg0_seq 166 own272 [0, 1, 3, 7, 15, 31, 63, 127, 255, 511, 511, 2047, 4095, 8191, 16383, 32767, 65535, 131071, 262143, 524287, 1048575, 2097151, 4194303, 8388607, 16777215, 33554431, 67108863] [⟨[], [], [], Fct.val 140 (.bool r273)⟩, ⟨[0], [], [], Fct.val 141 (.bool r273)⟩, ⟨[1], [13], [], Fct.cond r273 (some 142) (Fct.val 142 (.bool r269.2))⟩, ⟨[1, 2], [], [], Fct.cond r273 (some 143) (Fct.val 143 (.bool (!r269.2)))⟩, ⟨[1, 3], [], [], Fct.cond r273 (some 144) (Fct.val 144 (.bool (!r269.2)))⟩, ⟨[4], [15], [], Fct.cond (r273 && (!(!r269.2))) (some 145) (Fct.val 145 (.bool r271.2))⟩, ⟨[4, 5], [], [], Fct.cond (r273 && (!(!r269.2))) (some 146) (Fct.val 146 (.bool (!r271.2)))⟩, ⟨[1, 4, 6], [], [], Fct.cond r273 (some 147) (Fct.val 147 (.bool ((!r269.2) || (!r271.2))))⟩, ⟨[1, 7], [], [], Fct.cond r273 (some 148) (Fct.val 148 (.bool ((!r269.2) || (!r271.2))))⟩, ⟨[8], [12], [], Fct.cond (r273 && (!((!r269.2) || (!r271.2)))) (some 149) (Fct.val 149 (.int .i64 r269.1))⟩, ⟨[8], [14], [], Fct.cond (r273 && (!((!r269.2) || (!r271.2)))) (some 150) (Fct.val 150 (.int .i64 r271.1))⟩, ⟨[8, 9, 10], [], [], Fct.cond (r273 && (!((!r269.2) || (!r271.2)))) (some 151) (Fct.val 151 (.bool (decide (r269.1 = r271.1))))⟩, ⟨[1, 8, 11], [], [], Fct.cond r273 (some 152) (Fct.val 152 (.bool x274))⟩, ⟨[1, 12], [], [], Fct.val 153 (.bool (r273 && x274))⟩, ⟨[13], [], [], Fct.val 154 (.bool (r273 && x274))⟩, ⟨[14], [13], [], Fct.cond (r273 && x274) (some 155) (Fct.val 155 (.bool r269.2))⟩, ⟨[14, 15], [], [], Fct.cond (r273 && x274) (some 156) (Fct.val 156 (.bool (!r269.2)))⟩, ⟨[14, 16], [], [], Fct.cond (r273 && x274) (some 157) (Fct.val 157 (.bool (!r269.2)))⟩, ⟨[17], [15], [], Fct.cond ((r273 && x274) && (!(!r269.2))) (some 158) (Fct.val 158 (.bool r271.2))⟩, ⟨[14, 17, 18], [], [], Fct.cond (r273 && x274) (some 159) (Fct.val 159 (.bool ((!r269.2) || r271.2)))⟩, ⟨[14, 19], [], [], Fct.val 160 (.bool x275)⟩, ⟨[20], [], [], Fct.val 161 (.bool x275)⟩, ⟨[21], [5], [], Fct.cond x275 (some 162) (Fct.val 162 (.agg #[.int .i64 p3.1, .int .i64 p3.2]))⟩, ⟨[21, 22], [], [], Fct.cond x275 (some 163) (Fct.val 163 (.agg #[.int .i64 r276.1, .int .i64 r276.2]))⟩, ⟨[21, 23], [], [], Fct.cond x275 (some 164) (Fct.val 164 (.bool r277))⟩, ⟨[21, 24], [], [], Fct.val 165 (.bool (x275 && r277))⟩, ⟨[25], [], [], Fct.val 6 (.bool (x275 && r277))⟩] hz272 hd272 (by kernel_rfl) ?_ ?_
      · refine sc (fun _ _ _ _ _ _ => px (or_call cf7 (args0) (law21_known_w _   r273 hr273) post_val)) ?_
        refine sc (fun _ _ _ f _ _ => px (or_move f.1)) ?_
        refine sc (fun _ _ _ f s _ => sg_t rfl rfl rfl f.1 (fun hg => or_move (s.1.trans e272_13))) ?_
        refine sc (fun _ _ _ f _ _ => sg_t rfl rfl rfl f.1 (fun hg => or_not (f.2.1.1 hg) rfl)) ?_
        refine sc (fun _ _ _ f _ _ => sg_t rfl rfl rfl f.1 (fun hg => or_move (f.2.1.1 hg))) ?_
        refine sc (fun _ _ _ f s _ => sg_fc rfl rfl rfl f.1 (fun hg => or_move (s.1.trans e272_15))) ?_
        refine sc (fun _ _ _ f _ _ => sg_fc rfl rfl rfl f.1 (fun hg => or_not (f.2.1.1 hg) rfl)) ?_
        refine sc (fun _ _ _ f _ _ => sg_t rfl rfl rfl f.1 (fun hg => or_or (f.2.1.1 hg) rfl (fun hx => f.2.2.1.1 (gI hg hx)) rfl)) ?_
        refine sc (fun _ _ _ f _ _ => sg_t rfl rfl rfl f.1 (fun hg => or_move (f.2.1.1 hg))) ?_
        refine sc (fun _ _ _ f s _ => sg_fc rfl rfl rfl f.1 (fun hg => or_move (s.1.trans e272_12))) ?_
        refine sc (fun _ _ _ f s _ => sg_fc rfl rfl rfl f.1 (fun hg => or_move (s.1.trans e272_14))) ?_
        refine sc (fun _ _ _ f _ _ => sg_fc rfl rfl rfl f.1 (fun hg => or_eql (f.2.1.1 hg) (f.2.2.1.1 hg) rfl)) ?_
        refine sc (fun _ _ _ f _ _ => sg_t rfl rfl rfl f.1 (fun hg => or_or (f.2.1.1 hg) rfl (fun hx => f.2.2.1.1 (gI hg hx)) (osome hx274).symm)) ?_
        refine sc (fun _ _ _ f _ _ => px (or_and f.1 (fun hx => f.2.1.1 hx) rfl rfl)) ?_
        refine sc (fun _ _ _ f _ _ => px (or_move f.1)) ?_
        refine sc (fun _ _ _ f s _ => sg_t rfl rfl rfl f.1 (fun hg => or_move (s.1.trans e272_13))) ?_
        refine sc (fun _ _ _ f _ _ => sg_t rfl rfl rfl f.1 (fun hg => or_not (f.2.1.1 hg) rfl)) ?_
        refine sc (fun _ _ _ f _ _ => sg_t rfl rfl rfl f.1 (fun hg => or_move (f.2.1.1 hg))) ?_
        refine sc (fun _ _ _ f s _ => sg_fc rfl rfl rfl f.1 (fun hg => or_move (s.1.trans e272_15))) ?_
        refine sc (fun _ _ _ f _ _ => sg_t rfl rfl rfl f.1 (fun hg => or_or (f.2.1.1 hg) rfl (fun hx => f.2.2.1.1 (gI hg hx)) rfl)) ?_
        refine sc (fun _ _ _ f _ _ => px (or_and f.1 (fun hx => f.2.1.1 hx) rfl (osome hx275).symm)) ?_
        refine sc (fun _ _ _ f _ _ => px (or_move f.1)) ?_
        refine sc (fun _ _ _ f s hE => sg_t rfl rfl rfl f.1 (fun hg => or_load (l := [.int .i64 p3.1, .int .i64 p3.2]) ta25 (s.1.trans e272_5) (Blk.cellsFrom (be_ hE b272_g147).2 0 rfl) rfl)) ?_
        refine sc (fun _ _ _ f _ _ => sg_t rfl rfl rfl f.1 (fun hg => or_call cf20 (args1 (f.2.1.1 hg)) (law01_Of_w _ p3  r276 (gd_t hr276 hg)) post_val)) ?_
        refine sc (fun _ _ _ f _ _ => sg_t rfl rfl rfl f.1 (fun hg => or_call cf19 (args1 (f.2.1.1 hg)) (ref01_May_w _ r276  r277 (gd_t hr277 hg)) post_val)) ?_
        refine sc (fun _ _ _ f _ _ => px (or_and f.1 (fun hx => f.2.1.1 hx) rfl rfl)) ?_
        refine sc (fun _ _ _ f _ _ => px (or_assign f.1)) ?_
        exact steps_nil
      intro own278 a278 w278 hd278 hz278 hk278 hf278 hE278
      obtain ⟨(e278_6 : a278.eval (.tmp 6) = .bool (x275 && r277)), -⟩ := hf278 [26] rfl
      have hX278 := es_ hX272 hE278
      refine fl_ret ?_
      obtain rfl := osome hs
      exact hret _ _ _ _ (.inl rfl) hd278 (results1_ rfl (RVal.tmp_ e278_6)) ⟨own278, rfl, hX278⟩
end Go.Proofs.Ytopnbammdeimcaa
