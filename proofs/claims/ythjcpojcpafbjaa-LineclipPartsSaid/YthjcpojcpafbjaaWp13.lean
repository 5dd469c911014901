/-
  Chapter 22. The walks.
-/
import Derived.Test.YthjcpojcpafbjaaWp12
import Derived.Test.YthjcpojcpafbjaaSp13
namespace Go.Proofs.Ythjcpojcpafbjaa
open Go.RowKit
set_option linter.unusedVariables false
theorem ref22_Meets_w (w : World) (l1 : List (Int × Int)) (Al1 : Option Addr) (cl1 : Nat) (b2 : (Int × Int) × (Int × Int)) (hl1 : RdO (fun _ => 0) [0] w R37 Al1 cl1 l1) (r : Bool) (hs : ref22_Meets l1 b2 = some r) :
    Calls Try.prog 20 #[.slice Al1 l1.length cl1, .agg #[.int .i64 b2.1.1, .int .i64 b2.1.2, .int .i64 b2.2.1, .int .i64 b2.2.2]] w fun e w' => ∃ own' : Own, e = .returned (.bool r) ∧ Evo [] (fun _ => 0) own' w w' := by
  refine fl_enter (n := 54) rfl rfl rfl (Nat.le_of_ble_eq_true rfl) ?_
  intro a0 Q hd0 hz0 harg hret
  have ha0 := harg 0 _ rfl
  have ha1 := harg 1 _ rfl
  clear harg
  have hE0 : Evo [] (fun _ => 0) (fun _ => 0) w w := Evo.refl _ _ _
  refine rg_plain_seq (n := 54) (rs := []) (own0 := (fun _ => 0)) (K := [])
      (bs := [0, 0])
      (ds := [⟨[], [1], [], Fct.blk 84 3 (fun g => .pointer (some ⟨g, 0, none⟩)) 39 #[.int .i64 b2.1.1, .int .i64 b2.1.2, .int .i64 b2.2.1, .int .i64 b2.2.2]⟩,
      ⟨[], [], [], Fct.val 4 (.bool false)⟩]) (by kernel_rfl) hz0 hd0 (fun _ h => nomatch h) ?_ ?_
  · refine steps_cons (fun own a wx hf hsl hE => ?_) ?_
    · obtain ⟨s_1, -⟩ := hsl
      exact sg_plain rfl rfl (or_new [(1, .agg #[.int .i64 b2.1.1, .int .i64 b2.1.2, .int .i64 b2.2.1, .int .i64 b2.2.2])] rfl rfl ⟨(s_1.trans ha1), trivial⟩ (by kernel_rfl))
    refine steps_cons (fun own a wx hf hsl hE => ?_) ?_
    · exact sg_plain rfl rfl (or_assign rfl)
    exact steps_nil
  intro own85 a85 w85 hd85 hz85 hk85 hf85 hE85
  have e85_0 : a85.eval (.tmp 0) = .slice Al1 l1.length cl1 := (hk85 0 rfl).trans ha0
  obtain ⟨⟨g83, (f_3 : a85.eval (.tmp 3) = .pointer (some ⟨g83, 0, none⟩)), (b_g83 : BlkO own85 84 w85 g83 39 #[.int .i64 b2.1.1, .int .i64 b2.1.2, .int .i64 b2.2.1, .int .i64 b2.2.2])⟩, -⟩ := hf85 [0] rfl
  have e85_3 := f_3
  have hX85 := Evo.step hE0 (fun _ => Nat.le_refl 0) hE85 rfl
  have b85_Al1 := RdO.evo rfl hE85 hl1
  have b85_g83 := b_g83
  refine fl_seq (fun Q86 hn86 hp86 => ?_)
  refine rg_plain_seq (n := 54) (rs := []) (own0 := own85) (K := [])
      (bs := [0])
      (ds := [⟨[], [], [], Fct.val 5 (.int .i64 1)⟩]) (by kernel_rfl) hz85 hd85 (fun _ h => nomatch h) ?_ ?_
  · refine steps_cons (fun own a wx hf hsl hE => ?_) ?_
    · exact sg_plain rfl rfl (or_assign rfl)
    exact steps_nil
  intro own87 a87 w87 hd87 hz87 hk87 hf87 hE87
  have e87_0 : a87.eval (.tmp 0) = .slice Al1 l1.length cl1 := (hk87 0 rfl).trans e85_0
  have e87_3 : a87.eval (.tmp 3) = .pointer (some ⟨g83, 0, none⟩) := (hk87 3 rfl).trans e85_3
  obtain ⟨(f_5 : a87.eval (.tmp 5) = .int .i64 1), -⟩ := hf87 [0] rfl
  have e87_5 := f_5
  have hX87 := Evo.step hX85 (fun _ => Nat.le_refl 0) hE87 rfl
  have b87_Al1 := RdO.evo rfl hE87 b85_Al1
  have b87_g83 := BlkO.evo (by decide) hE87 b85_g83
  refine fl_block (fun Q88 hn88 hx88 hp88 => ?_)
  refine fl_loop (body := (fun s => ref22_Meets_b1 l1 b2 s)) (z := r) (show loopO _ _ = _ from hs) (fun (i110 : Int) a wx => ∃ (ox : Own), a.defers = [] ∧ a.tmps.size = 54 ∧ a.eval (.tmp 0) = .slice Al1 l1.length cl1 ∧ a.eval (.tmp 3) = .pointer (some ⟨g83, 0, none⟩) ∧ a.eval (.tmp 5) = .int .i64 i110 ∧ Evo [] (fun _ => 0) ox w wx ∧ RdO ox [0] wx R37 Al1 cl1 l1 ∧ BlkO ox 84 wx g83 39 #[.int .i64 b2.1.1, .int .i64 b2.1.2, .int .i64 b2.2.1, .int .i64 b2.2.2]) ?_ ?_
  · exact ⟨own87, hd87, hz87, e87_0, e87_3, e87_5, hX87, b87_Al1, b87_g83⟩
  · rintro i110 zz132 a132 w132 ⟨own132, hd133, hz133, e133_0, e133_3, e133_5, hE133, b133_Al1, b133_g83⟩ hs Q132 hn132 hp132 hz132
    have hs : ref22_Meets_b1 l1 b2 i110 = some zz132 := hs
    refine fl_seq (fun Q134 hn134 hp134 => ?_)
    refine rg_plain_seq (n := 54) (rs := []) (own0 := own132) (K := [])
        (bs := [0, 0, 2, 7])
        (ds := [⟨[], [5], [], Fct.val 6 (.int .i64 i110)⟩,
        ⟨[], [0], [], Fct.val 7 (.slice Al1 l1.length cl1)⟩,
        ⟨[1], [], [], Fct.val 8 (.int .i64 (l1.length : Int))⟩,
        ⟨[0, 2], [], [], Fct.val 9 (.bool (decide (i110 < (l1.length : Int))))⟩]) (by kernel_rfl) hz133 hd133 (fun _ h => nomatch h) ?_ ?_
    · refine steps_cons (fun own a wx hf hsl hE => ?_) ?_
      · obtain ⟨s_5, -⟩ := hsl
        exact sg_plain rfl rfl (or_move (s_5.trans e133_5))
      refine steps_cons (fun own a wx hf hsl hE => ?_) ?_
      · obtain ⟨s_0, -⟩ := hsl
        exact sg_plain rfl rfl (or_move (s_0.trans e133_0))
      refine steps_cons (fun own a wx hf hsl hE => ?_) ?_
      · obtain ⟨(f_7 : a.eval (.tmp 7) = .slice Al1 l1.length cl1), -⟩ := hf
        exact sg_plain rfl rfl (or_len tu26 f_7 rfl)
      refine steps_cons (fun own a wx hf hsl hE => ?_) ?_
      · obtain ⟨(f_6 : a.eval (.tmp 6) = .int .i64 i110), (f_8 : a.eval (.tmp 8) = .int .i64 (l1.length : Int)), -⟩ := hf
        exact sg_plain rfl rfl (or_lss f_6 f_8 rfl)
      exact steps_nil
    intro own135 a135 w135 hd135 hz135 hk135 hf135 hE135
    have e135_0 : a135.eval (.tmp 0) = .slice Al1 l1.length cl1 := (hk135 0 rfl).trans e133_0
    have e135_3 : a135.eval (.tmp 3) = .pointer (some ⟨g83, 0, none⟩) := (hk135 3 rfl).trans e133_3
    have e135_5 : a135.eval (.tmp 5) = .int .i64 i110 := (hk135 5 rfl).trans e133_5
    obtain ⟨(f_9 : a135.eval (.tmp 9) = .bool (decide (i110 < (l1.length : Int)))), -⟩ := hf135 [3] rfl
    have e135_9 := f_9
    have hX135 := Evo.step hE133 (fun _ => Nat.le_refl 0) hE135 rfl
    have b135_Al1 := RdO.evo rfl hE135 b133_Al1
    have b135_g83 := BlkO.evo (by decide) hE135 b133_g83
    refine fl_cond e135_9 hs (fun c136 hs => ?_) (fun c136 hs => ?_)
    · refine fl_skip ?_
      refine hn134 _ _ ?_
      refine fl_seq (fun Q137 hn137 hp137 => ?_)
      refine fl_block (fun Q138 hn138 hx138 hp138 => ?_)
      obtain ⟨x139, hx139, hs⟩ := obind hs
      obtain ⟨x140, hx140, hs⟩ := obind hs
      obtain ⟨x141, hx141, hs⟩ := obind hs
      obtain ⟨r142, hr142, hs⟩ := obind hs
      obtain ⟨x143, hx143, hs⟩ := obind hs
      obtain ⟨r144, hr144, hs⟩ := obind hs
      obtain ⟨x145, hx145, hs⟩ := obind hs
      obtain ⟨r146, hr146, hs⟩ := obind hs
      obtain ⟨x147, hx147, hs⟩ := obind hs
      obtain ⟨x148, hx148, hs⟩ := obind hs
      obtain ⟨r149, hr149, hs⟩ := obind hs
      refine rg_draw_seq g_mixed (n := 54) (rs := []) (own0 := own135) (K := [])
          (bs := [0, 0, 2, 7, 15, 0, 0, 96, 224, 511, 1023, 2047, 2047, 6143, 16383, 32767, 65535, 131071, 262143, 524287, 524287, 2097151, 4194303, 8388607, 16777215, 33554431, 67108863, 134217727, 268435455, 536870911, 1073741823, 1073741823, 3221225471, 8589934591, 17179869183, 1073741823, 1073741823, 104152956927, 241591910399, 1073741823, 1099511627775, 2199023255551])
          (ds := [⟨[], [0], [], Fct.val 12 (.slice Al1 l1.length cl1)⟩,
          ⟨[], [5], [], Fct.val 13 (.int .i64 i110)⟩,
          ⟨[1], [], [], Fct.val 14 (.int .i64 (sb i110 1))⟩,
          ⟨[0, 2], [], [], Fct.val 15 (.pointer (some ((adr Al1).add ((sb i110 1 : Int).toNat * R37.s))))⟩,
          ⟨[3], [], [], Fct.val 16 (.agg #[.int .i64 x139.1, .int .i64 x139.2])⟩,
          ⟨[], [0], [], Fct.val 17 (.slice Al1 l1.length cl1)⟩,
          ⟨[], [5], [], Fct.val 18 (.int .i64 i110)⟩,
          ⟨[5, 6], [], [], Fct.val 19 (.pointer (some ((adr Al1).add ((i110 : Int).toNat * R37.s))))⟩,
          ⟨[7], [], [], Fct.val 20 (.agg #[.int .i64 x140.1, .int .i64 x140.2])⟩,
          ⟨[4, 8], [], [], Fct.val 21 (.bool (!decide (x139 = x140)))⟩,
          ⟨[9], [], [], Fct.val 22 (.bool (!decide (x139 = x140)))⟩,
          ⟨[10], [0], [], Fct.cond (!decide (x139 = x140)) (some 23) (Fct.val 23 (.slice Al1 l1.length cl1))⟩,
          ⟨[10], [5], [], Fct.cond (!decide (x139 = x140)) (some 24) (Fct.val 24 (.int .i64 i110))⟩,
          ⟨[10, 12], [], [], Fct.cond (!decide (x139 = x140)) (some 25) (Fct.val 25 (.int .i64 (sb i110 1)))⟩,
          ⟨[10, 11, 13], [], [], Fct.cond (!decide (x139 = x140)) (some 26) (Fct.val 26 (.pointer (some ((adr Al1).add ((sb i110 1 : Int).toNat * R37.s)))))⟩,
          ⟨[10, 14], [], [], Fct.cond (!decide (x139 = x140)) (some 27) (Fct.val 27 (.agg #[.int .i64 x141.1, .int .i64 x141.2]))⟩,
          ⟨[10, 15], [], [], Fct.cond (!decide (x139 = x140)) (some 28) (Fct.val 28 (.bool r142))⟩,
          ⟨[10, 16], [], [], Fct.val 29 (.bool ((!decide (x139 = x140)) && r142))⟩,
          ⟨[17], [], [], Fct.val 30 (.bool ((!decide (x139 = x140)) && r142))⟩,
          ⟨[18], [0], [], Fct.cond ((!decide (x139 = x140)) && r142) (some 31) (Fct.val 31 (.slice Al1 l1.length cl1))⟩,
          ⟨[18], [5], [], Fct.cond ((!decide (x139 = x140)) && r142) (some 32) (Fct.val 32 (.int .i64 i110))⟩,
          ⟨[18, 19, 20], [], [], Fct.cond ((!decide (x139 = x140)) && r142) (some 33) (Fct.val 33 (.pointer (some ((adr Al1).add ((i110 : Int).toNat * R37.s)))))⟩,
          ⟨[18, 21], [], [], Fct.cond ((!decide (x139 = x140)) && r142) (some 34) (Fct.val 34 (.agg #[.int .i64 x143.1, .int .i64 x143.2]))⟩,
          ⟨[18, 22], [], [], Fct.cond ((!decide (x139 = x140)) && r142) (some 35) (Fct.val 35 (.bool r144))⟩,
          ⟨[18, 23], [], [], Fct.val 36 (.bool x145)⟩,
          ⟨[24], [], [], Fct.val 37 (.bool x145)⟩,
          ⟨[25], [3], [], Fct.cond x145 (some 38) (Fct.val 38 (.agg #[.int .i64 b2.1.1, .int .i64 b2.1.2, .int .i64 b2.2.1, .int .i64 b2.2.2]))⟩,
          ⟨[25, 26], [], [], Fct.cond x145 (some 39) (Fct.val 39 (.bool r146))⟩,
          ⟨[25, 27], [], [], Fct.val 40 (.bool (x145 && r146))⟩,
          ⟨[28], [], [], Fct.val 41 (.bool (x145 && r146))⟩,
          ⟨[29], [0], [], Fct.cond (x145 && r146) (some 42) (Fct.val 42 (.slice Al1 l1.length cl1))⟩,
          ⟨[29], [5], [], Fct.cond (x145 && r146) (some 43) (Fct.val 43 (.int .i64 i110))⟩,
          ⟨[29, 31], [], [], Fct.cond (x145 && r146) (some 44) (Fct.val 44 (.int .i64 (sb i110 1)))⟩,
          ⟨[29, 30, 32], [], [], Fct.cond (x145 && r146) (some 45) (Fct.val 45 (.pointer (some ((adr Al1).add ((sb i110 1 : Int).toNat * R37.s)))))⟩,
          ⟨[29, 33], [], [], Fct.cond (x145 && r146) (some 46) (Fct.val 46 (.agg #[.int .i64 x147.1, .int .i64 x147.2]))⟩,
          ⟨[29], [0], [], Fct.cond (x145 && r146) (some 47) (Fct.val 47 (.slice Al1 l1.length cl1))⟩,
          ⟨[29], [5], [], Fct.cond (x145 && r146) (some 48) (Fct.val 48 (.int .i64 i110))⟩,
          ⟨[29, 35, 36], [], [], Fct.cond (x145 && r146) (some 49) (Fct.val 49 (.pointer (some ((adr Al1).add ((i110 : Int).toNat * R37.s)))))⟩,
          ⟨[29, 37], [], [], Fct.cond (x145 && r146) (some 50) (Fct.val 50 (.agg #[.int .i64 x148.1, .int .i64 x148.2]))⟩,
          ⟨[29], [3], [], Fct.cond (x145 && r146) (some 51) (Fct.val 51 (.agg #[.int .i64 b2.1.1, .int .i64 b2.1.2, .int .i64 b2.2.1, .int .i64 b2.2.2]))⟩,
          ⟨[29, 34, 38, 39], [], [], Fct.cond (x145 && r146) (some 52) (Fct.val 52 (.bool r149))⟩,
          ⟨[29, 40], [], [], Fct.val 53 (.bool ((x145 && r146) && r149))⟩]) (by kernel_rfl) hz135 hd135 (fun _ h => nomatch h) ?_ ?_
      · refine steps_cons (fun own a wx hf hsl hE => ?_) ?_
        · obtain ⟨s_0, -⟩ := hsl
          exact sg_plain rfl rfl (or_move (s_0.trans e135_0))
        refine steps_cons (fun own a wx hf hsl hE => ?_) ?_
        · obtain ⟨s_5, -⟩ := hsl
          exact sg_plain rfl rfl (or_move (s_5.trans e135_5))
        refine steps_cons (fun own a wx hf hsl hE => ?_) ?_
        · obtain ⟨(f_13 : a.eval (.tmp 13) = .int .i64 i110), -⟩ := hf
          exact sg_plain rfl rfl (or_sub f_13 rfl rfl)
        refine steps_cons (fun own a wx hf hsl hE => ?_) ?_
        · obtain ⟨(f_12 : a.eval (.tmp 12) = .slice Al1 l1.length cl1), (f_14 : a.eval (.tmp 14) = .int .i64 (sb i110 1)), -⟩ := hf
          exact sg_plain rfl rfl (or_index (R := R37) (l := l1) tl26 f_12 f_14 (RdO.some_ b135_Al1 hx139) hx139)
        refine steps_cons (fun own a wx hf hsl hE => ?_) ?_
        · obtain ⟨(f_15 : a.eval (.tmp 15) = .pointer (some ((adr Al1).add ((sb i110 1 : Int).toNat * R37.s)))), -⟩ := hf
          exact sg_plain rfl rfl (or_load (l := E37.f x139) ta37 f_15 (RdO.cells (F := E37) (RdO.evo rfl hE b135_Al1) hx139) rfl)
        refine steps_cons (fun own a wx hf hsl hE => ?_) ?_
        · obtain ⟨s_0, -⟩ := hsl
          exact sg_plain rfl rfl (or_move (s_0.trans e135_0))
        refine steps_cons (fun own a wx hf hsl hE => ?_) ?_
        · obtain ⟨s_5, -⟩ := hsl
          exact sg_plain rfl rfl (or_move (s_5.trans e135_5))
        refine steps_cons (fun own a wx hf hsl hE => ?_) ?_
        · obtain ⟨(f_17 : a.eval (.tmp 17) = .slice Al1 l1.length cl1), (f_18 : a.eval (.tmp 18) = .int .i64 i110), -⟩ := hf
          exact sg_plain rfl rfl (or_index (R := R37) (l := l1) tl26 f_17 f_18 (RdO.some_ b135_Al1 hx140) hx140)
        refine steps_cons (fun own a wx hf hsl hE => ?_) ?_
        · obtain ⟨(f_19 : a.eval (.tmp 19) = .pointer (some ((adr Al1).add ((i110 : Int).toNat * R37.s)))), -⟩ := hf
          exact sg_plain rfl rfl (or_load (l := E37.f x140) ta37 f_19 (RdO.cells (F := E37) (RdO.evo rfl hE b135_Al1) hx140) rfl)
        refine steps_cons (fun own a wx hf hsl hE => ?_) ?_
        · obtain ⟨(f_16 : a.eval (.tmp 16) = .agg #[.int .i64 x139.1, .int .i64 x139.2]), (f_20 : a.eval (.tmp 20) = .agg #[.int .i64 x140.1, .int .i64 x140.2]), -⟩ := hf
          exact sg_plain rfl rfl (or_neqA sg37 f_16 f_20 (sn37 x139.1 x139.2 x140.1 x140.2 _) rfl)
        refine steps_cons (fun own a wx hf hsl hE => ?_) ?_
        · obtain ⟨(f_21 : a.eval (.tmp 21) = .bool (!decide (x139 = x140))), -⟩ := hf
          exact sg_plain rfl rfl (or_move f_21)
        refine steps_cons (fun own a wx hf hsl hE => ?_) ?_
        · obtain ⟨(f_22 : a.eval (.tmp 22) = .bool (!decide (x139 = x140))), -⟩ := hf
          obtain ⟨s_0, -⟩ := hsl
          refine sg_t rfl rfl rfl f_22 (fun hg => ?_)
          exact or_move (s_0.trans e135_0)
        refine steps_cons (fun own a wx hf hsl hE => ?_) ?_
        · obtain ⟨(f_22 : a.eval (.tmp 22) = .bool (!decide (x139 = x140))), -⟩ := hf
          obtain ⟨s_5, -⟩ := hsl
          refine sg_t rfl rfl rfl f_22 (fun hg => ?_)
          exact or_move (s_5.trans e135_5)
        refine steps_cons (fun own a wx hf hsl hE => ?_) ?_
        · obtain ⟨(f_22 : a.eval (.tmp 22) = .bool (!decide (x139 = x140))), c_24, -⟩ := hf
          refine sg_t rfl rfl rfl f_22 (fun hg => ?_)
          have f_24 : a.eval (.tmp 24) = .int .i64 i110 := c_24.1 hg
          exact or_sub f_24 rfl rfl
        refine steps_cons (fun own a wx hf hsl hE => ?_) ?_
        · obtain ⟨(f_22 : a.eval (.tmp 22) = .bool (!decide (x139 = x140))), c_23, c_25, -⟩ := hf
          refine sg_t rfl rfl rfl f_22 (fun hg => ?_)
          have f_23 : a.eval (.tmp 23) = .slice Al1 l1.length cl1 := c_23.1 hg
          have f_25 : a.eval (.tmp 25) = .int .i64 (sb i110 1) := c_25.1 hg
          exact or_index (R := R37) (l := l1) tl26 f_23 f_25 (RdO.some_ b135_Al1 (gd_t hx141 hg)) (gd_t hx141 hg)
        refine steps_cons (fun own a wx hf hsl hE => ?_) ?_
        · obtain ⟨(f_22 : a.eval (.tmp 22) = .bool (!decide (x139 = x140))), c_26, -⟩ := hf
          refine sg_t rfl rfl rfl f_22 (fun hg => ?_)
          have f_26 : a.eval (.tmp 26) = .pointer (some ((adr Al1).add ((sb i110 1 : Int).toNat * R37.s))) := c_26.1 hg
          exact or_load (l := E37.f x141) ta37 f_26 (RdO.cells (F := E37) (RdO.evo rfl hE b135_Al1) (gd_t hx141 hg)) rfl
        refine steps_cons (fun own a wx hf hsl hE => ?_) ?_
        · obtain ⟨(f_22 : a.eval (.tmp 22) = .bool (!decide (x139 = x140))), c_27, -⟩ := hf
          refine sg_t rfl rfl rfl f_22 (fun hg => ?_)
          have f_27 : a.eval (.tmp 27) = .agg #[.int .i64 x141.1, .int .i64 x141.2] := c_27.1 hg
          exact or_call cf25 (args1 f_27) (ref01_May_w _ x141  r142 (gd_t hr142 hg)) post_val
        refine steps_cons (fun own a wx hf hsl hE => ?_) ?_
        · obtain ⟨(f_22 : a.eval (.tmp 22) = .bool (!decide (x139 = x140))), c_28, -⟩ := hf
          exact sg_plain rfl rfl (or_and f_22 (fun hx => c_28.1 hx) rfl rfl)
        refine steps_cons (fun own a wx hf hsl hE => ?_) ?_
        · obtain ⟨(f_29 : a.eval (.tmp 29) = .bool ((!decide (x139 = x140)) && r142)), -⟩ := hf
          exact sg_plain rfl rfl (or_move f_29)
        refine steps_cons (fun own a wx hf hsl hE => ?_) ?_
        · obtain ⟨(f_30 : a.eval (.tmp 30) = .bool ((!decide (x139 = x140)) && r142)), -⟩ := hf
          obtain ⟨s_0, -⟩ := hsl
          refine sg_t rfl rfl rfl f_30 (fun hg => ?_)
          exact or_move (s_0.trans e135_0)
        refine steps_cons (fun own a wx hf hsl hE => ?_) ?_
        · obtain ⟨(f_30 : a.eval (.tmp 30) = .bool ((!decide (x139 = x140)) && r142)), -⟩ := hf
          obtain ⟨s_5, -⟩ := hsl
          refine sg_t rfl rfl rfl f_30 (fun hg => ?_)
          exact or_move (s_5.trans e135_5)
        refine steps_cons (fun own a wx hf hsl hE => ?_) ?_
        · obtain ⟨(f_30 : a.eval (.tmp 30) = .bool ((!decide (x139 = x140)) && r142)), c_31, c_32, -⟩ := hf
          refine sg_t rfl rfl rfl f_30 (fun hg => ?_)
          have f_31 : a.eval (.tmp 31) = .slice Al1 l1.length cl1 := c_31.1 hg
          have f_32 : a.eval (.tmp 32) = .int .i64 i110 := c_32.1 hg
          exact or_index (R := R37) (l := l1) tl26 f_31 f_32 (RdO.some_ b135_Al1 (gd_t hx143 hg)) (gd_t hx143 hg)
        refine steps_cons (fun own a wx hf hsl hE => ?_) ?_
        · obtain ⟨(f_30 : a.eval (.tmp 30) = .bool ((!decide (x139 = x140)) && r142)), c_33, -⟩ := hf
          refine sg_t rfl rfl rfl f_30 (fun hg => ?_)
          have f_33 : a.eval (.tmp 33) = .pointer (some ((adr Al1).add ((i110 : Int).toNat * R37.s))) := c_33.1 hg
          exact or_load (l := E37.f x143) ta37 f_33 (RdO.cells (F := E37) (RdO.evo rfl hE b135_Al1) (gd_t hx143 hg)) rfl
        refine steps_cons (fun own a wx hf hsl hE => ?_) ?_
        · obtain ⟨(f_30 : a.eval (.tmp 30) = .bool ((!decide (x139 = x140)) && r142)), c_34, -⟩ := hf
          refine sg_t rfl rfl rfl f_30 (fun hg => ?_)
          have f_34 : a.eval (.tmp 34) = .agg #[.int .i64 x143.1, .int .i64 x143.2] := c_34.1 hg
          exact or_call cf25 (args1 f_34) (ref01_May_w _ x143  r144 (gd_t hr144 hg)) post_val
        refine steps_cons (fun own a wx hf hsl hE => ?_) ?_
        · obtain ⟨(f_30 : a.eval (.tmp 30) = .bool ((!decide (x139 = x140)) && r142)), c_35, -⟩ := hf
          exact sg_plain rfl rfl (or_and f_30 (fun hx => c_35.1 hx) rfl (osome hx145).symm)
        refine steps_cons (fun own a wx hf hsl hE => ?_) ?_
        · obtain ⟨(f_36 : a.eval (.tmp 36) = .bool x145), -⟩ := hf
          exact sg_plain rfl rfl (or_move f_36)
        refine steps_cons (fun own a wx hf hsl hE => ?_) ?_
        · obtain ⟨(f_37 : a.eval (.tmp 37) = .bool x145), -⟩ := hf
          obtain ⟨s_3, -⟩ := hsl
          refine sg_t rfl rfl rfl f_37 (fun hg => ?_)
          exact or_load (l := [.int .i64 b2.1.1, .int .i64 b2.1.2, .int .i64 b2.2.1, .int .i64 b2.2.2]) ta39 (s_3.trans e135_3) (Blk.cellsFrom (BlkO.evo (by decide) hE b135_g83).2 0 rfl) rfl
        refine steps_cons (fun own a wx hf hsl hE => ?_) ?_
        · obtain ⟨(f_37 : a.eval (.tmp 37) = .bool x145), c_38, -⟩ := hf
          refine sg_t rfl rfl rfl f_37 (fun hg => ?_)
          have f_38 : a.eval (.tmp 38) = .agg #[.int .i64 b2.1.1, .int .i64 b2.1.2, .int .i64 b2.2.1, .int .i64 b2.2.2] := c_38.1 hg
          exact or_call cf33 (args1 f_38) (ref06_Right_w _ b2  r146 (gd_t hr146 hg)) post_val
        refine steps_cons (fun own a wx hf hsl hE => ?_) ?_
        · obtain ⟨(f_37 : a.eval (.tmp 37) = .bool x145), c_39, -⟩ := hf
          exact sg_plain rfl rfl (or_and f_37 (fun hx => c_39.1 hx) rfl rfl)
        refine steps_cons (fun own a wx hf hsl hE => ?_) ?_
        · obtain ⟨(f_40 : a.eval (.tmp 40) = .bool (x145 && r146)), -⟩ := hf
          exact sg_plain rfl rfl (or_move f_40)
        refine steps_cons (fun own a wx hf hsl hE => ?_) ?_
        · obtain ⟨(f_41 : a.eval (.tmp 41) = .bool (x145 && r146)), -⟩ := hf
          obtain ⟨s_0, -⟩ := hsl
          refine sg_t rfl rfl rfl f_41 (fun hg => ?_)
          exact or_move (s_0.trans e135_0)
        refine steps_cons (fun own a wx hf hsl hE => ?_) ?_
        · obtain ⟨(f_41 : a.eval (.tmp 41) = .bool (x145 && r146)), -⟩ := hf
          obtain ⟨s_5, -⟩ := hsl
          refine sg_t rfl rfl rfl f_41 (fun hg => ?_)
          exact or_move (s_5.trans e135_5)
        refine steps_cons (fun own a wx hf hsl hE => ?_) ?_
        · obtain ⟨(f_41 : a.eval (.tmp 41) = .bool (x145 && r146)), c_43, -⟩ := hf
          refine sg_t rfl rfl rfl f_41 (fun hg => ?_)
          have f_43 : a.eval (.tmp 43) = .int .i64 i110 := c_43.1 hg
          exact or_sub f_43 rfl rfl
        refine steps_cons (fun own a wx hf hsl hE => ?_) ?_
        · obtain ⟨(f_41 : a.eval (.tmp 41) = .bool (x145 && r146)), c_42, c_44, -⟩ := hf
          refine sg_t rfl rfl rfl f_41 (fun hg => ?_)
          have f_42 : a.eval (.tmp 42) = .slice Al1 l1.length cl1 := c_42.1 hg
          have f_44 : a.eval (.tmp 44) = .int .i64 (sb i110 1) := c_44.1 hg
          exact or_index (R := R37) (l := l1) tl26 f_42 f_44 (RdO.some_ b135_Al1 (gd_t hx147 hg)) (gd_t hx147 hg)
        refine steps_cons (fun own a wx hf hsl hE => ?_) ?_
        · obtain ⟨(f_41 : a.eval (.tmp 41) = .bool (x145 && r146)), c_45, -⟩ := hf
          refine sg_t rfl rfl rfl f_41 (fun hg => ?_)
          have f_45 : a.eval (.tmp 45) = .pointer (some ((adr Al1).add ((sb i110 1 : Int).toNat * R37.s))) := c_45.1 hg
          exact or_load (l := E37.f x147) ta37 f_45 (RdO.cells (F := E37) (RdO.evo rfl hE b135_Al1) (gd_t hx147 hg)) rfl
        refine steps_cons (fun own a wx hf hsl hE => ?_) ?_
        · obtain ⟨(f_41 : a.eval (.tmp 41) = .bool (x145 && r146)), -⟩ := hf
          obtain ⟨s_0, -⟩ := hsl
          refine sg_t rfl rfl rfl f_41 (fun hg => ?_)
          exact or_move (s_0.trans e135_0)
        refine steps_cons (fun own a wx hf hsl hE => ?_) ?_
        · obtain ⟨(f_41 : a.eval (.tmp 41) = .bool (x145 && r146)), -⟩ := hf
          obtain ⟨s_5, -⟩ := hsl
          refine sg_t rfl rfl rfl f_41 (fun hg => ?_)
          exact or_move (s_5.trans e135_5)
        refine steps_cons (fun own a wx hf hsl hE => ?_) ?_
        · obtain ⟨(f_41 : a.eval (.tmp 41) = .bool (x145 && r146)), c_47, c_48, -⟩ := hf
          refine sg_t rfl rfl rfl f_41 (fun hg => ?_)
          have f_47 : a.eval (.tmp 47) = .slice Al1 l1.length cl1 := c_47.1 hg
          have f_48 : a.eval (.tmp 48) = .int .i64 i110 := c_48.1 hg
          exact or_index (R := R37) (l := l1) tl26 f_47 f_48 (RdO.some_ b135_Al1 (gd_t hx148 hg)) (gd_t hx148 hg)
        refine steps_cons (fun own a wx hf hsl hE => ?_) ?_
        · obtain ⟨(f_41 : a.eval (.tmp 41) = .bool (x145 && r146)), c_49, -⟩ := hf
          refine sg_t rfl rfl rfl f_41 (fun hg => ?_)
          have f_49 : a.eval (.tmp 49) = .pointer (some ((adr Al1).add ((i110 : Int).toNat * R37.s))) := c_49.1 hg
          exact or_load (l := E37.f x148) ta37 f_49 (RdO.cells (F := E37) (RdO.evo rfl hE b135_Al1) (gd_t hx148 hg)) rfl
        refine steps_cons (fun own a wx hf hsl hE => ?_) ?_
        · obtain ⟨(f_41 : a.eval (.tmp 41) = .bool (x145 && r146)), -⟩ := hf
          obtain ⟨s_3, -⟩ := hsl
          refine sg_t rfl rfl rfl f_41 (fun hg => ?_)
          exact or_load (l := [.int .i64 b2.1.1, .int .i64 b2.1.2, .int .i64 b2.2.1, .int .i64 b2.2.2]) ta39 (s_3.trans e135_3) (Blk.cellsFrom (BlkO.evo (by decide) hE b135_g83).2 0 rfl) rfl
        refine steps_cons (fun own a wx hf hsl hE => ?_) ?_
        · obtain ⟨(f_41 : a.eval (.tmp 41) = .bool (x145 && r146)), c_46, c_50, c_51, -⟩ := hf
          refine sg_t rfl rfl rfl f_41 (fun hg => ?_)
          have f_46 : a.eval (.tmp 46) = .agg #[.int .i64 x147.1, .int .i64 x147.2] := c_46.1 hg
          have f_50 : a.eval (.tmp 50) = .agg #[.int .i64 x148.1, .int .i64 x148.2] := c_50.1 hg
          have f_51 : a.eval (.tmp 51) = .agg #[.int .i64 b2.1.1, .int .i64 b2.1.2, .int .i64 b2.2.1, .int .i64 b2.2.2] := c_51.1 hg
          exact or_call cf34 (args3 f_46 f_50 f_51) (ref22_inside_w _ x147 x148 b2  r149 (gd_t hr149 hg)) post_val
        refine steps_cons (fun own a wx hf hsl hE => ?_) ?_
        · obtain ⟨(f_41 : a.eval (.tmp 41) = .bool (x145 && r146)), c_52, -⟩ := hf
          exact sg_plain rfl rfl (or_and f_41 (fun hx => c_52.1 hx) rfl rfl)
        exact steps_nil
      intro own150 a150 w150 hd150 hz150 hk150 hf150 hE150
      have e150_0 : a150.eval (.tmp 0) = .slice Al1 l1.length cl1 := (hk150 0 rfl).trans e135_0
      have e150_3 : a150.eval (.tmp 3) = .pointer (some ⟨g83, 0, none⟩) := (hk150 3 rfl).trans e135_3
      have e150_5 : a150.eval (.tmp 5) = .int .i64 i110 := (hk150 5 rfl).trans e135_5
      obtain ⟨(f_53 : a150.eval (.tmp 53) = .bool ((x145 && r146) && r149)), -⟩ := hf150 [41] rfl
      have e150_53 := f_53
      have hX150 := Evo.step hX135 (fun _ => Nat.le_refl 0) hE150 rfl
      have b150_Al1 := RdO.evo rfl hE150 b135_Al1
      have b150_g83 := BlkO.evo (by decide) hE150 b135_g83
      refine fl_cond e150_53 hs (fun c151 hs => ?_) (fun c151 hs => ?_)
      · refine rg_plain_seq (n := 54) (rs := []) (own0 := own150) (K := [])
            (bs := [0])
            (ds := [⟨[], [], [], Fct.val 4 (.bool true)⟩]) (by kernel_rfl) hz150 hd150 (fun _ h => nomatch h) ?_ ?_
        · refine steps_cons (fun own a wx hf hsl hE => ?_) ?_
          · exact sg_plain rfl rfl (or_assign rfl)
          exact steps_nil
        intro own152 a152 w152 hd152 hz152 hk152 hf152 hE152
        obtain ⟨(f_4 : a152.eval (.tmp 4) = .bool true), -⟩ := hf152 [0] rfl
        have e152_4 := f_4
        have hX152 := Evo.step hX150 (fun _ => Nat.le_refl 0) hE152 rfl
        refine fl_ret ?_
        refine hp138 _ _ _ rfl ?_
        refine hp137 _ _ _ rfl ?_
        replace hs := hz132 _ hs
        refine hp132 _ _ _ rfl ?_
        refine hp88 _ _ _ rfl ?_
        refine hp86 _ _ _ rfl ?_
        obtain rfl := osome hs
        exact hret _ _ _ _ (.inl rfl) hd152 (results1_ rfl (RVal.tmp_ e152_4)) ⟨own152, rfl, hX152⟩
      refine fl_skip ?_
      refine hn138 _ _ ?_
      refine hn137 _ _ ?_
      refine rg_plain (n := 54) (rs := []) (own0 := own150) (K := [])
          (bs := [0, 1, 3])
          (ds := [⟨[], [5], [], Fct.val 10 (.int .i64 i110)⟩,
          ⟨[0], [], [], Fct.val 11 (.int .i64 (ad i110 1))⟩,
          ⟨[1], [], [], Fct.val 5 (.int .i64 (ad i110 1))⟩]) (by kernel_rfl) hz150 hd150 (fun _ h => nomatch h) ?_ ?_
      · refine steps_cons (fun own a wx hf hsl hE => ?_) ?_
        · obtain ⟨s_5, -⟩ := hsl
          exact sg_plain rfl rfl (or_move (s_5.trans e150_5))
        refine steps_cons (fun own a wx hf hsl hE => ?_) ?_
        · obtain ⟨(f_10 : a.eval (.tmp 10) = .int .i64 i110), -⟩ := hf
          exact sg_plain rfl rfl (or_add f_10 rfl rfl)
        refine steps_cons (fun own a wx hf hsl hE => ?_) ?_
        · obtain ⟨(f_11 : a.eval (.tmp 11) = .int .i64 (ad i110 1)), -⟩ := hf
          exact sg_plain rfl rfl (or_assign f_11)
        exact steps_nil
      intro own153 a153 w153 hd153 hz153 hk153 hf153 hE153
      have e153_0 : a153.eval (.tmp 0) = .slice Al1 l1.length cl1 := (hk153 0 rfl).trans e150_0
      have e153_3 : a153.eval (.tmp 3) = .pointer (some ⟨g83, 0, none⟩) := (hk153 3 rfl).trans e150_3
      obtain ⟨(f_5 : a153.eval (.tmp 5) = .int .i64 (ad i110 1)), -⟩ := hf153 [2] rfl
      have e153_5 := f_5
      have hX153 := Evo.step hX150 (fun _ => Nat.le_refl 0) hE153 rfl
      have b153_Al1 := RdO.evo rfl hE153 b150_Al1
      have b153_g83 := BlkO.evo (by decide) hE153 b150_g83
      exact hn132 _ _ _ hs ⟨own153, hd153, hz153, e153_0, e153_3, e153_5, hX153, b153_Al1, b153_g83⟩
    refine fl_exit ?_
    refine hp134 _ _ _ rfl ?_
    replace hs := hz132 _ hs
    refine hp132 _ _ _ rfl ?_
    refine hx88 _ _ ?_
    refine hn86 _ _ ?_
    refine rg_plain_seq (n := 54) (rs := []) (own0 := own135) (K := [])
        (bs := [0])
        (ds := [⟨[], [], [], Fct.val 4 (.bool false)⟩]) (by kernel_rfl) hz135 hd135 (fun _ h => nomatch h) ?_ ?_
    · refine steps_cons (fun own a wx hf hsl hE => ?_) ?_
      · exact sg_plain rfl rfl (or_assign rfl)
      exact steps_nil
    intro own154 a154 w154 hd154 hz154 hk154 hf154 hE154
    obtain ⟨(f_4 : a154.eval (.tmp 4) = .bool false), -⟩ := hf154 [0] rfl
    have e154_4 := f_4
    have hX154 := Evo.step hX135 (fun _ => Nat.le_refl 0) hE154 rfl
    refine fl_ret ?_
    obtain rfl := osome hs
    exact hret _ _ _ _ (.inl rfl) hd154 (results1_ rfl (RVal.tmp_ e154_4)) ⟨own154, rfl, hX154⟩

set_option maxHeartbeats 2000000 in
theorem law22_LineclipParts_w (w : World) (l1 : List (Int × Int)) (Al1 : Option Addr) (cl1 : Nat) (b2 : (Int × Int) × (Int × Int)) (hl1 : RdO (fun _ => 0) [0] w R34 Al1 cl1 l1) (r : Bool) (hs : law22_LineclipParts l1 b2 = some r) :
    Calls Try.prog 4 #[.slice Al1 l1.length cl1, .agg #[.int .i64 b2.1.1, .int .i64 b2.1.2, .int .i64 b2.2.1, .int .i64 b2.2.2]] w fun e w' => ∃ own' : Own, e = .returned (.bool r) ∧ Evo [] (fun _ => 0) own' w w' := by
  refine fl_enter (n := 75) rfl rfl rfl (Nat.le_of_ble_eq_true rfl) ?_
  intro a0 Q hd0 hz0 harg hret
  have ha0 := harg 0 _ rfl
  have ha1 := harg 1 _ rfl
  clear harg
  have hE0 : Evo [] (fun _ => 0) (fun _ => 0) w w := Evo.refl _ _ _
  refine rg_plain_seq (n := 75) (rs := []) (own0 := (fun _ => 0)) (K := [])
      (bs := [0, 0])
      (ds := [⟨[], [1], [], Fct.blk 260 3 (fun g => .pointer (some ⟨g, 0, none⟩)) 36 #[.int .i64 b2.1.1, .int .i64 b2.1.2, .int .i64 b2.2.1, .int .i64 b2.2.2]⟩,
      ⟨[], [], [], Fct.val 4 (.bool false)⟩]) (by kernel_rfl) hz0 hd0 (fun _ h => nomatch h) ?_ ?_
  · refine steps_cons (fun own a wx hf hsl hE => ?_) ?_
    · obtain ⟨s_1, -⟩ := hsl
      exact sg_plain rfl rfl (or_new [(1, .agg #[.int .i64 b2.1.1, .int .i64 b2.1.2, .int .i64 b2.2.1, .int .i64 b2.2.2])] rfl rfl ⟨(s_1.trans ha1), trivial⟩ (by kernel_rfl))
    refine steps_cons (fun own a wx hf hsl hE => ?_) ?_
    · exact sg_plain rfl rfl (or_assign rfl)
    exact steps_nil
  intro own261 a261 w261 hd261 hz261 hk261 hf261 hE261
  have e261_0 : a261.eval (.tmp 0) = .slice Al1 l1.length cl1 := (hk261 0 rfl).trans ha0
  obtain ⟨⟨g259, (f_3 : a261.eval (.tmp 3) = .pointer (some ⟨g259, 0, none⟩)), (b_g259 : BlkO own261 260 w261 g259 36 #[.int .i64 b2.1.1, .int .i64 b2.1.2, .int .i64 b2.2.1, .int .i64 b2.2.2])⟩, -⟩ := hf261 [0] rfl
  have e261_3 := f_3
  have hX261 := Evo.step hE0 (fun _ => Nat.le_refl 0) hE261 rfl
  have b261_Al1 := RdO.evo rfl hE261 hl1
  have b261_g259 := b_g259
  obtain ⟨r262, hr262, hs⟩ := obind hs
  refine rg_plain_seq (n := 75) (rs := []) (own0 := own261) (K := [])
      (bs := [0, 1, 3])
      (ds := [⟨[], [0], [], Fct.val 10 (.slice Al1 l1.length cl1)⟩,
      ⟨[0], [], [], Fct.mems [264, 265, 0] 11 (fun (x : Option Addr × Nat) => .slice x.1 r262.length x.2) (fun (x : Option Addr × Nat) own w => RdO own [264, 265, 0] w R34 x.1 x.2 r262) (fun hk he h => RdO.evo (hits_sub hk (by decide)) he h)⟩,
      ⟨[1], [], [], Fct.rel [0, 11] (fun l => ∀ (A263 : Option Addr) (cA263 : Nat), l.getD 1 undef = .slice A263 r262.length cA263 → l.getD 0 undef = .slice A263 r262.length cA263)⟩]) (by kernel_rfl) hz261 hd261 (fun _ h => nomatch h) ?_ ?_
  · refine steps_cons (fun own a wx hf hsl hE => ?_) ?_
    · obtain ⟨s_0, -⟩ := hsl
      exact sg_plain rfl rfl (or_move (s_0.trans e261_0))
    refine steps_cons (fun own a wx hf hsl hE => ?_) ?_
    · obtain ⟨(f_10 : a.eval (.tmp 10) = .slice Al1 l1.length cl1), -⟩ := hf
      exact sg_plain rfl rfl (or_call cf7 (args1 f_10) (law03_Cut_w _ (forth own (inL [0])) l1 Al1 cl1 inL_le (RdO.alias_ (La := [0]) (RdO.evo rfl hE b261_Al1) (by decide)) r262 hr262) (post_alias (La := [0]) (m' := (look0 [(1, 264), (2, 265)])) (fun own' w' a' x ho hsz h1 h => ⟨x, h1, RdO.backN_ ho hsz h (by decide) (by decide) (by decide)⟩)))
    refine steps_cons (fun own a wx hf hsl hE => ?_) ?_
    · obtain ⟨⟨⟨A263, cA263⟩, (f_11 : a.eval (.tmp 11) = .slice A263 r262.length cA263), (b_A263 : RdO own [264, 265, 0] wx R34 A263 cA263 r262)⟩, -⟩ := hf
      exact sg_plain rfl rfl (or_mono (f := Fct.val 0 (.slice A263 r262.length cA263)) (or_assign f_11) (fun own' a' w' v' hp h => fun _ _ h0' => by cases (f_11.symm.trans ((hp.2 11 (by decide)).symm.trans h0')); exact h))
    exact steps_nil
  intro own266 a266 w266 hd266 hz266 hk266 hf266 hE266
  have e266_3 : a266.eval (.tmp 3) = .pointer (some ⟨g259, 0, none⟩) := (hk266 3 rfl).trans e261_3
  obtain ⟨⟨⟨A263, cA263⟩, (f_11 : a266.eval (.tmp 11) = .slice A263 r262.length cA263), (b_A263 : RdO own266 [264, 265, 0] w266 R34 A263 cA263 r262)⟩, (q_0 : ∀ (A263 : Option Addr) (cA263 : Nat), a266.eval (.tmp 11) = .slice A263 r262.length cA263 → a266.eval (.tmp 0) = .slice A263 r262.length cA263), -⟩ := hf266 [1, 2] rfl
  have f_0 := q_0 _ _ f_11
  have e266_0 := f_0
  have hX266 := Evo.step hX261 (fun _ => Nat.le_refl 0) hE266 rfl
  have b266_g259 := BlkO.evo (by decide) hE266 b261_g259
  have b266_A263 := b_A263
  obtain ⟨r267, hr267, hs⟩ := obind hs
  obtain ⟨r270, hr270, hs⟩ := obind hs
  refine rg_draw_seq g_mixed (n := 75) (rs := []) (own0 := own266) (K := [272])
      (bs := [0, 1, 0, 7, 0, 31, 63])
      (ds := [⟨[], [0], [], Fct.val 12 (.slice A263 r262.length cA263)⟩,
      ⟨[0], [], [], Fct.row 269 [] 13 37 R37 r267⟩,
      ⟨[], [3], [], Fct.val 14 (.agg #[.int .i64 b2.1.1, .int .i64 b2.1.2, .int .i64 b2.2.1, .int .i64 b2.2.2])⟩,
      ⟨[2], [], [], Fct.val 15 (.agg #[.int .i64 r270.1.1, .int .i64 r270.1.2, .int .i64 r270.2.1, .int .i64 r270.2.2])⟩,
      ⟨[], [], [], Fct.blk 272 6 (fun g => .pointer (some ⟨g, 0, none⟩)) 39 #[.int .i64 0, .int .i64 0, .int .i64 0, .int .i64 0]⟩,
      ⟨[1], [], [], Fct.rel [5, 13] (fun l => ∀ (A268 : Option Addr) (cA268 : Nat), l.getD 1 undef = .slice A268 r267.length cA268 → l.getD 0 undef = .slice A268 r267.length cA268)⟩,
      ⟨[4, 3], [], [272], Fct.blk 273 6 (fun g => .pointer (some ⟨g, 0, none⟩)) 39 #[.int .i64 r270.1.1, .int .i64 r270.1.2, .int .i64 r270.2.1, .int .i64 r270.2.2]⟩]) (by kernel_rfl) hz266 hd266 (fun _ h => nomatch h) ?_ ?_
  · refine steps_cons (fun own a wx hf hsl hE => ?_) ?_
    · obtain ⟨s_0, -⟩ := hsl
      exact sg_plain rfl rfl (or_move (s_0.trans e266_0))
    refine steps_cons (fun own a wx hf hsl hE => ?_) ?_
    · obtain ⟨(f_12 : a.eval (.tmp 12) = .slice A263 r262.length cA263), -⟩ := hf
      exact sg_plain rfl rfl (or_call cf8 (args1 f_12) (law01_Ofs_w _ r262 A263 cA263 (RdO.zero (RdO.evo rfl hE b266_A263)) r267 hr267) (post_row (m' := (look0 [(1, 269)])) (.inl (Rep.fl_flat _)) rfl rfl (fun _ => rfl)))
    refine steps_cons (fun own a wx hf hsl hE => ?_) ?_
    · obtain ⟨s_3, -⟩ := hsl
      exact sg_plain rfl rfl (or_load (l := [.int .i64 b2.1.1, .int .i64 b2.1.2, .int .i64 b2.2.1, .int .i64 b2.2.2]) ta36 (s_3.trans e266_3) (Blk.cellsFrom (BlkO.evo (by decide) hE b266_g259).2 0 rfl) rfl)
    refine steps_cons (fun own a wx hf hsl hE => ?_) ?_
    · obtain ⟨(f_14 : a.eval (.tmp 14) = .agg #[.int .i64 b2.1.1, .int .i64 b2.1.2, .int .i64 b2.2.1, .int .i64 b2.2.2]), -⟩ := hf
      exact sg_plain rfl rfl (or_call cf13 (args1 f_14) (law21_Box_w _ b2  r270 hr270) post_val)
    refine steps_cons (fun own a wx hf hsl hE => ?_) ?_
    · exact sg_plain rfl rfl (or_new [] rfl rfl trivial (by kernel_rfl))
    refine steps_cons (fun own a wx hf hsl hE => ?_) ?_
    · obtain ⟨⟨⟨A268, cA268⟩, (f_13 : a.eval (.tmp 13) = .slice A268 r267.length cA268), (b_A268 : RwO own 269 [] wx 37 R37 A268 cA268 r267)⟩, -⟩ := hf
      exact sg_plain rfl rfl (or_mono (f := Fct.val 5 (.slice A268 r267.length cA268)) (or_assign f_13) (fun own' a' w' v' hp h => fun _ _ h0' => by cases (f_13.symm.trans ((hp.2 13 (by decide)).symm.trans h0')); exact h))
    refine steps_cons (fun own a wx hf hsl hE => ?_) ?_
    · obtain ⟨⟨g271, (f_6 : a.eval (.tmp 6) = .pointer (some ⟨g271, 0, none⟩)), (b_g271 : BlkO own 272 wx g271 39 #[.int .i64 0, .int .i64 0, .int .i64 0, .int .i64 0])⟩, (f_15 : a.eval (.tmp 15) = .agg #[.int .i64 r270.1.1, .int .i64 r270.1.2, .int .i64 r270.2.1, .int .i64 r270.2.2]), -⟩ := hf
      exact sg_plain rfl rfl (or_store (l := #[.int .i64 r270.1.1, .int .i64 r270.1.2, .int .i64 r270.2.1, .int .i64 r270.2.2]) (lab := 272) (lab2 := 273) ts39 f_6 f_15 b_g271 (by simp) (by kernel_rfl) (mem_of rfl) (by decide) (by kernel_rfl) (fun own' a' w' ha hb => ⟨_, (ha 6).trans f_6, hb⟩))
    exact steps_nil
  intro own274 a274 w274 hd274 hz274 hk274 hf274 hE274
  have e274_0 : a274.eval (.tmp 0) = .slice A263 r262.length cA263 := (hk274 0 rfl).trans e266_0
  have e274_3 : a274.eval (.tmp 3) = .pointer (some ⟨g259, 0, none⟩) := (hk274 3 rfl).trans e266_3
  obtain ⟨⟨g271, (f_6 : a274.eval (.tmp 6) = .pointer (some ⟨g271, 0, none⟩)), (b_g271 : BlkO own274 273 w274 g271 39 #[.int .i64 r270.1.1, .int .i64 r270.1.2, .int .i64 r270.2.1, .int .i64 r270.2.2])⟩, ⟨⟨A268, cA268⟩, (f_13 : a274.eval (.tmp 13) = .slice A268 r267.length cA268), (b_A268 : RwO own274 269 [] w274 37 R37 A268 cA268 r267)⟩, (q_5 : ∀ (A268 : Option Addr) (cA268 : Nat), a274.eval (.tmp 13) = .slice A268 r267.length cA268 → a274.eval (.tmp 5) = .slice A268 r267.length cA268), -⟩ := hf274 [6, 1, 5] rfl
  have f_5 := q_5 _ _ f_13
  have e274_6 := f_6
  have e274_5 := f_5
  have hX274 := Evo.step hX266 (fun _ => Nat.le_refl 0) hE274 rfl
  have b274_g259 := BlkO.evo (by decide) hE274 b266_g259
  have b274_A263 := RdO.evo rfl hE274 b266_A263
  have b274_A268 := b_A268
  have b274_g271 := b_g271
  refine rg_plain_seq (n := 75) (rs := []) (own0 := own274) (K := [])
      (bs := [0])
      (ds := [⟨[], [], [], Fct.val 7 (.int .i64 0)⟩]) (by kernel_rfl) hz274 hd274 (fun _ h => nomatch h) ?_ ?_
  · refine steps_cons (fun own a wx hf hsl hE => ?_) ?_
    · exact sg_plain rfl rfl (or_assign rfl)
    exact steps_nil
  intro own275 a275 w275 hd275 hz275 hk275 hf275 hE275
  have e275_0 : a275.eval (.tmp 0) = .slice A263 r262.length cA263 := (hk275 0 rfl).trans e274_0
  have e275_3 : a275.eval (.tmp 3) = .pointer (some ⟨g259, 0, none⟩) := (hk275 3 rfl).trans e274_3
  have e275_5 : a275.eval (.tmp 5) = .slice A268 r267.length cA268 := (hk275 5 rfl).trans e274_5
  have e275_6 : a275.eval (.tmp 6) = .pointer (some ⟨g271, 0, none⟩) := (hk275 6 rfl).trans e274_6
  obtain ⟨(f_7 : a275.eval (.tmp 7) = .int .i64 0), -⟩ := hf275 [0] rfl
  have e275_7 := f_7
  have hX275 := Evo.step hX274 (fun _ => Nat.le_refl 0) hE275 rfl
  have b275_g259 := BlkO.evo (by decide) hE275 b274_g259
  have b275_A263 := RdO.evo rfl hE275 b274_A263
  have b275_A268 := RwO.evo rfl hE275 b274_A268
  have b275_g271 := BlkO.evo (by decide) hE275 b274_g271
  refine fl_seq (fun Q276 hn276 hp276 => ?_)
  refine rg_plain_seq (n := 75) (rs := []) (own0 := own275) (K := [])
      (bs := [0])
      (ds := [⟨[], [], [], Fct.val 8 (.int .i64 1)⟩]) (by kernel_rfl) hz275 hd275 (fun _ h => nomatch h) ?_ ?_
  · refine steps_cons (fun own a wx hf hsl hE => ?_) ?_
    · exact sg_plain rfl rfl (or_assign rfl)
    exact steps_nil
  intro own277 a277 w277 hd277 hz277 hk277 hf277 hE277
  have e277_0 : a277.eval (.tmp 0) = .slice A263 r262.length cA263 := (hk277 0 rfl).trans e275_0
  have e277_3 : a277.eval (.tmp 3) = .pointer (some ⟨g259, 0, none⟩) := (hk277 3 rfl).trans e275_3
  have e277_5 : a277.eval (.tmp 5) = .slice A268 r267.length cA268 := (hk277 5 rfl).trans e275_5
  have e277_6 : a277.eval (.tmp 6) = .pointer (some ⟨g271, 0, none⟩) := (hk277 6 rfl).trans e275_6
  have e277_7 : a277.eval (.tmp 7) = .int .i64 0 := (hk277 7 rfl).trans e275_7
  obtain ⟨(f_8 : a277.eval (.tmp 8) = .int .i64 1), -⟩ := hf277 [0] rfl
  have e277_8 := f_8
  have hX277 := Evo.step hX275 (fun _ => Nat.le_refl 0) hE277 rfl
  have b277_g259 := BlkO.evo (by decide) hE277 b275_g259
  have b277_A263 := RdO.evo rfl hE277 b275_A263
  have b277_A268 := RwO.evo rfl hE277 b275_A268
  have b277_g271 := BlkO.evo (by decide) hE277 b275_g271
  refine fl_block (fun Q278 hn278 hx278 hp278 => ?_)
  refine fl_loop (body := (fun s => law22_LineclipParts_b1 b2 r262 r267 r270 s.1 s.2)) (z := r) (show loopO _ _ = _ from hs) (fun (s : Int × Int) a wx => match s with | (n349, i350) => ∃ (ox : Own), a.defers = [] ∧ a.tmps.size = 75 ∧ a.eval (.tmp 0) = .slice A263 r262.length cA263 ∧ a.eval (.tmp 3) = .pointer (some ⟨g259, 0, none⟩) ∧ a.eval (.tmp 5) = .slice A268 r267.length cA268 ∧ a.eval (.tmp 6) = .pointer (some ⟨g271, 0, none⟩) ∧ a.eval (.tmp 7) = .int .i64 n349 ∧ a.eval (.tmp 8) = .int .i64 i350 ∧ Evo [] (fun _ => 0) ox w wx ∧ RdO ox [264, 265, 0] wx R34 A263 cA263 r262 ∧ BlkO ox 260 wx g259 36 #[.int .i64 b2.1.1, .int .i64 b2.1.2, .int .i64 b2.2.1, .int .i64 b2.2.2] ∧ RwO ox 269 [] wx 37 R37 A268 cA268 r267 ∧ BlkO ox 273 wx g271 39 #[.int .i64 r270.1.1, .int .i64 r270.1.2, .int .i64 r270.2.1, .int .i64 r270.2.2]) ?_ ?_
  · exact ⟨own277, hd277, hz277, e277_0, e277_3, e277_5, e277_6, e277_7, e277_8, hX277, b277_A263, b277_g259, b277_A268, b277_g271⟩
  · rintro ⟨n349, i350⟩ zz421 a421 w421 ⟨own421, hd422, hz422, e422_0, e422_3, e422_5, e422_6, e422_7, e422_8, hE422, b422_A263, b422_g259, b422_A268, b422_g271⟩ hs Q421 hn421 hp421 hz421
    have hs : law22_LineclipParts_b1 b2 r262 r267 r270 n349 i350 = some zz421 := hs
    refine fl_seq (fun Q423 hn423 hp423 => ?_)
    refine rg_plain_seq (n := 75) (rs := []) (own0 := own421) (K := [])
        (bs := [0, 0, 2, 7])
        (ds := [⟨[], [8], [], Fct.val 16 (.int .i64 i350)⟩,
        ⟨[], [0], [], Fct.val 17 (.slice A263 r262.length cA263)⟩,
        ⟨[1], [], [], Fct.val 18 (.int .i64 (r262.length : Int))⟩,
        ⟨[0, 2], [], [], Fct.val 19 (.bool (decide (i350 < (r262.length : Int))))⟩]) (by kernel_rfl) hz422 hd422 (fun _ h => nomatch h) ?_ ?_
    · refine steps_cons (fun own a wx hf hsl hE => ?_) ?_
      · obtain ⟨s_8, -⟩ := hsl
        exact sg_plain rfl rfl (or_move (s_8.trans e422_8))
      refine steps_cons (fun own a wx hf hsl hE => ?_) ?_
      · obtain ⟨s_0, -⟩ := hsl
        exact sg_plain rfl rfl (or_move (s_0.trans e422_0))
      refine steps_cons (fun own a wx hf hsl hE => ?_) ?_
      · obtain ⟨(f_17 : a.eval (.tmp 17) = .slice A263 r262.length cA263), -⟩ := hf
        exact sg_plain rfl rfl (or_len tu24 f_17 rfl)
      refine steps_cons (fun own a wx hf hsl hE => ?_) ?_
      · obtain ⟨(f_16 : a.eval (.tmp 16) = .int .i64 i350), (f_18 : a.eval (.tmp 18) = .int .i64 (r262.length : Int)), -⟩ := hf
        exact sg_plain rfl rfl (or_lss f_16 f_18 rfl)
      exact steps_nil
    intro own424 a424 w424 hd424 hz424 hk424 hf424 hE424
    have e424_0 : a424.eval (.tmp 0) = .slice A263 r262.length cA263 := (hk424 0 rfl).trans e422_0
    have e424_3 : a424.eval (.tmp 3) = .pointer (some ⟨g259, 0, none⟩) := (hk424 3 rfl).trans e422_3
    have e424_5 : a424.eval (.tmp 5) = .slice A268 r267.length cA268 := (hk424 5 rfl).trans e422_5
    have e424_6 : a424.eval (.tmp 6) = .pointer (some ⟨g271, 0, none⟩) := (hk424 6 rfl).trans e422_6
    have e424_7 : a424.eval (.tmp 7) = .int .i64 n349 := (hk424 7 rfl).trans e422_7
    have e424_8 : a424.eval (.tmp 8) = .int .i64 i350 := (hk424 8 rfl).trans e422_8
    obtain ⟨(f_19 : a424.eval (.tmp 19) = .bool (decide (i350 < (r262.length : Int)))), -⟩ := hf424 [3] rfl
    have e424_19 := f_19
    have hX424 := Evo.step hE422 (fun _ => Nat.le_refl 0) hE424 rfl
    have b424_A263 := RdO.evo rfl hE424 b422_A263
    have b424_g259 := BlkO.evo (by decide) hE424 b422_g259
    have b424_A268 := RwO.evo rfl hE424 b422_A268
    have b424_g271 := BlkO.evo (by decide) hE424 b422_g271
    refine fl_cond e424_19 hs (fun c425 hs => ?_) (fun c425 hs => ?_)
    · refine fl_skip ?_
      refine hn423 _ _ ?_
      refine fl_seq (fun Q426 hn426 hp426 => ?_)
      refine fl_block (fun Q459 hn459 hx459 hp459 => ?_)
      have K475 : ∀ (a475 : Act) (w475 : World) (own475 : Own) (n474 : Int), a475.defers = [] → a475.tmps.size = 75 → a475.eval (.tmp 0) = .slice A263 r262.length cA263 → a475.eval (.tmp 3) = .pointer (some ⟨g259, 0, none⟩) → a475.eval (.tmp 5) = .slice A268 r267.length cA268 → a475.eval (.tmp 6) = .pointer (some ⟨g271, 0, none⟩) → a475.eval (.tmp 7) = .int .i64 n474 → a475.eval (.tmp 8) = .int .i64 i350 → Evo [] (fun _ => 0) own475 w w475 → RdO own475 [264, 265, 0] w475 R34 A263 cA263 r262 → BlkO own475 260 w475 g259 36 #[.int .i64 b2.1.1, .int .i64 b2.1.2, .int .i64 b2.2.1, .int .i64 b2.2.2] → RwO own475 269 [] w475 37 R37 A268 cA268 r267 → BlkO own475 273 w475 g271 39 #[.int .i64 r270.1.1, .int .i64 r270.1.2, .int .i64 r270.2.1, .int .i64 r270.2.2] → law22_LineclipParts_k2 i350 n474 = some zz421 → (Q459 .normal a475 w475 ∧ Q459 (.exit 1) a475 w475) := by
        intro a475 w475 own475 n474 hd476 hz476 e476_0 e476_3 e476_5 e476_6 e476_7 e476_8 hE476 b476_A263 b476_g259 b476_A268 b476_g271 hs
        refine and_both (hn459 _ _) (hx459 _ _) ?_
        refine hn426 _ _ ?_
        refine rg_plain (n := 75) (rs := []) (own0 := own475) (K := [])
            (bs := [0, 1, 3])
            (ds := [⟨[], [8], [], Fct.val 20 (.int .i64 i350)⟩,
            ⟨[0], [], [], Fct.val 21 (.int .i64 (ad i350 1))⟩,
            ⟨[1], [], [], Fct.val 8 (.int .i64 (ad i350 1))⟩]) (by kernel_rfl) hz476 hd476 (fun _ h => nomatch h) ?_ ?_
        · refine steps_cons (fun own a wx hf hsl hE => ?_) ?_
          · obtain ⟨s_8, -⟩ := hsl
            exact sg_plain rfl rfl (or_move (s_8.trans e476_8))
          refine steps_cons (fun own a wx hf hsl hE => ?_) ?_
          · obtain ⟨(f_20 : a.eval (.tmp 20) = .int .i64 i350), -⟩ := hf
            exact sg_plain rfl rfl (or_add f_20 rfl rfl)
          refine steps_cons (fun own a wx hf hsl hE => ?_) ?_
          · obtain ⟨(f_21 : a.eval (.tmp 21) = .int .i64 (ad i350 1)), -⟩ := hf
            exact sg_plain rfl rfl (or_assign f_21)
          exact steps_nil
        intro own477 a477 w477 hd477 hz477 hk477 hf477 hE477
        have e477_0 : a477.eval (.tmp 0) = .slice A263 r262.length cA263 := (hk477 0 rfl).trans e476_0
        have e477_3 : a477.eval (.tmp 3) = .pointer (some ⟨g259, 0, none⟩) := (hk477 3 rfl).trans e476_3
        have e477_5 : a477.eval (.tmp 5) = .slice A268 r267.length cA268 := (hk477 5 rfl).trans e476_5
        have e477_6 : a477.eval (.tmp 6) = .pointer (some ⟨g271, 0, none⟩) := (hk477 6 rfl).trans e476_6
        have e477_7 : a477.eval (.tmp 7) = .int .i64 n474 := (hk477 7 rfl).trans e476_7
        obtain ⟨(f_8 : a477.eval (.tmp 8) = .int .i64 (ad i350 1)), -⟩ := hf477 [2] rfl
        have e477_8 := f_8
        have hX477 := Evo.step hE476 (fun _ => Nat.le_refl 0) hE477 rfl
        have b477_A263 := RdO.evo rfl hE477 b476_A263
        have b477_g259 := BlkO.evo (by decide) hE477 b476_g259
        have b477_A268 := RwO.evo rfl hE477 b476_A268
        have b477_g271 := BlkO.evo (by decide) hE477 b476_g271
        exact hn421 _ _ _ hs ⟨own477, hd477, hz477, e477_0, e477_3, e477_5, e477_6, e477_7, e477_8, hX477, b477_A263, b477_g259, b477_A268, b477_g271⟩
      obtain ⟨x478, hx478, hs⟩ := obind hs
      obtain ⟨x479, hx479, hs⟩ := obind hs
      obtain ⟨r480, hr480, hs⟩ := obind hs
      refine rg_draw_seq g_mixed (n := 75) (rs := []) (own0 := own424) (K := [])
          (bs := [0, 0, 2, 7, 15, 0, 0, 96, 224, 0, 1023, 2047])
          (ds := [⟨[], [5], [], Fct.val 22 (.slice A268 r267.length cA268)⟩,
          ⟨[], [8], [], Fct.val 23 (.int .i64 i350)⟩,
          ⟨[1], [], [], Fct.val 24 (.int .i64 (sb i350 1))⟩,
          ⟨[0, 2], [], [], Fct.val 25 (.pointer (some ((adr A268).add ((sb i350 1 : Int).toNat * R37.s))))⟩,
          ⟨[3], [], [], Fct.val 26 (.agg #[.int .i64 x478.1, .int .i64 x478.2])⟩,
          ⟨[], [5], [], Fct.val 27 (.slice A268 r267.length cA268)⟩,
          ⟨[], [8], [], Fct.val 28 (.int .i64 i350)⟩,
          ⟨[5, 6], [], [], Fct.val 29 (.pointer (some ((adr A268).add ((i350 : Int).toNat * R37.s))))⟩,
          ⟨[7], [], [], Fct.val 30 (.agg #[.int .i64 x479.1, .int .i64 x479.2])⟩,
          ⟨[], [6], [], Fct.val 31 (.agg #[.int .i64 r270.1.1, .int .i64 r270.1.2, .int .i64 r270.2.1, .int .i64 r270.2.2])⟩,
          ⟨[4, 8, 9], [], [], Fct.val 32 (.bool r480)⟩,
          ⟨[10], [], [], Fct.val 9 (.bool r480)⟩]) (by kernel_rfl) hz424 hd424 (fun _ h => nomatch h) ?_ ?_
      · refine steps_cons (fun own a wx hf hsl hE => ?_) ?_
        · obtain ⟨s_5, -⟩ := hsl
          exact sg_plain rfl rfl (or_move (s_5.trans e424_5))
        refine steps_cons (fun own a wx hf hsl hE => ?_) ?_
        · obtain ⟨s_8, -⟩ := hsl
          exact sg_plain rfl rfl (or_move (s_8.trans e424_8))
        refine steps_cons (fun own a wx hf hsl hE => ?_) ?_
        · obtain ⟨(f_23 : a.eval (.tmp 23) = .int .i64 i350), -⟩ := hf
          exact sg_plain rfl rfl (or_sub f_23 rfl rfl)
        refine steps_cons (fun own a wx hf hsl hE => ?_) ?_
        · obtain ⟨(f_22 : a.eval (.tmp 22) = .slice A268 r267.length cA268), (f_24 : a.eval (.tmp 24) = .int .i64 (sb i350 1)), -⟩ := hf
          exact sg_plain rfl rfl (or_index (R := R37) (l := r267) tl26 f_22 f_24 (RdO.some_ (RwO.rd b424_A268) hx478) hx478)
        refine steps_cons (fun own a wx hf hsl hE => ?_) ?_
        · obtain ⟨(f_25 : a.eval (.tmp 25) = .pointer (some ((adr A268).add ((sb i350 1 : Int).toNat * R37.s)))), -⟩ := hf
          exact sg_plain rfl rfl (or_load (l := E37.f x478) ta37 f_25 (RdO.cells (F := E37) (RwO.rd (RwO.evo rfl hE b424_A268)) hx478) rfl)
        refine steps_cons (fun own a wx hf hsl hE => ?_) ?_
        · obtain ⟨s_5, -⟩ := hsl
          exact sg_plain rfl rfl (or_move (s_5.trans e424_5))
        refine steps_cons (fun own a wx hf hsl hE => ?_) ?_
        · obtain ⟨s_8, -⟩ := hsl
          exact sg_plain rfl rfl (or_move (s_8.trans e424_8))
        refine steps_cons (fun own a wx hf hsl hE => ?_) ?_
        · obtain ⟨(f_27 : a.eval (.tmp 27) = .slice A268 r267.length cA268), (f_28 : a.eval (.tmp 28) = .int .i64 i350), -⟩ := hf
          exact sg_plain rfl rfl (or_index (R := R37) (l := r267) tl26 f_27 f_28 (RdO.some_ (RwO.rd b424_A268) hx479) hx479)
        refine steps_cons (fun own a wx hf hsl hE => ?_) ?_
        · obtain ⟨(f_29 : a.eval (.tmp 29) = .pointer (some ((adr A268).add ((i350 : Int).toNat * R37.s)))), -⟩ := hf
          exact sg_plain rfl rfl (or_load (l := E37.f x479) ta37 f_29 (RdO.cells (F := E37) (RwO.rd (RwO.evo rfl hE b424_A268)) hx479) rfl)
        refine steps_cons (fun own a wx hf hsl hE => ?_) ?_
        · obtain ⟨s_6, -⟩ := hsl
          exact sg_plain rfl rfl (or_load (l := [.int .i64 r270.1.1, .int .i64 r270.1.2, .int .i64 r270.2.1, .int .i64 r270.2.2]) ta39 (s_6.trans e424_6) (Blk.cellsFrom (BlkO.evo (by decide) hE b424_g271).2 0 rfl) rfl)
        refine steps_cons (fun own a wx hf hsl hE => ?_) ?_
        · obtain ⟨(f_26 : a.eval (.tmp 26) = .agg #[.int .i64 x478.1, .int .i64 x478.2]), (f_30 : a.eval (.tmp 30) = .agg #[.int .i64 x479.1, .int .i64 x479.2]), (f_31 : a.eval (.tmp 31) = .agg #[.int .i64 r270.1.1, .int .i64 r270.1.2, .int .i64 r270.2.1, .int .i64 r270.2.2]), -⟩ := hf
          exact sg_plain rfl rfl (or_call cf14 (args3 f_26 f_30 f_31) (ref22_Shown_w _ x478 x479 r270  r480 hr480) post_val)
        refine steps_cons (fun own a wx hf hsl hE => ?_) ?_
        · obtain ⟨(f_32 : a.eval (.tmp 32) = .bool r480), -⟩ := hf
          exact sg_plain rfl rfl (or_assign f_32)
        exact steps_nil
      intro own481 a481 w481 hd481 hz481 hk481 hf481 hE481
      have e481_0 : a481.eval (.tmp 0) = .slice A263 r262.length cA263 := (hk481 0 rfl).trans e424_0
      have e481_3 : a481.eval (.tmp 3) = .pointer (some ⟨g259, 0, none⟩) := (hk481 3 rfl).trans e424_3
      have e481_5 : a481.eval (.tmp 5) = .slice A268 r267.length cA268 := (hk481 5 rfl).trans e424_5
      have e481_6 : a481.eval (.tmp 6) = .pointer (some ⟨g271, 0, none⟩) := (hk481 6 rfl).trans e424_6
      have e481_7 : a481.eval (.tmp 7) = .int .i64 n349 := (hk481 7 rfl).trans e424_7
      have e481_8 : a481.eval (.tmp 8) = .int .i64 i350 := (hk481 8 rfl).trans e424_8
      obtain ⟨(f_9 : a481.eval (.tmp 9) = .bool r480), -⟩ := hf481 [11] rfl
      have e481_9 := f_9
      have hX481 := Evo.step hX424 (fun _ => Nat.le_refl 0) hE481 rfl
      have b481_A263 := RdO.evo rfl hE481 b424_A263
      have b481_g259 := BlkO.evo (by decide) hE481 b424_g259
      have b481_A268 := RwO.evo rfl hE481 b424_A268
      have b481_g271 := BlkO.evo (by decide) hE481 b424_g271
      refine fl_seq (fun Q482 hn482 hp482 => ?_)
      obtain ⟨x483, hx483, hs⟩ := obind hs
      obtain ⟨x484, hx484, hs⟩ := obind hs
      obtain ⟨r485, hr485, hs⟩ := obind hs
      refine rg_draw_seq g_mixed (n := 75) (rs := []) (own0 := own481) (K := [])
          (bs := [0, 0, 2, 7, 15, 0, 0, 96, 224, 0, 1023, 0, 4095])
          (ds := [⟨[], [0], [], Fct.val 33 (.slice A263 r262.length cA263)⟩,
          ⟨[], [8], [], Fct.val 34 (.int .i64 i350)⟩,
          ⟨[1], [], [], Fct.val 35 (.int .i64 (sb i350 1))⟩,
          ⟨[0, 2], [], [], Fct.val 36 (.pointer (some ((adr A263).add ((sb i350 1 : Int).toNat * R34.s))))⟩,
          ⟨[3], [], [], Fct.val 37 (.agg #[.int .i64 x483.1, .int .i64 x483.2])⟩,
          ⟨[], [0], [], Fct.val 38 (.slice A263 r262.length cA263)⟩,
          ⟨[], [8], [], Fct.val 39 (.int .i64 i350)⟩,
          ⟨[5, 6], [], [], Fct.val 40 (.pointer (some ((adr A263).add ((i350 : Int).toNat * R34.s))))⟩,
          ⟨[7], [], [], Fct.val 41 (.agg #[.int .i64 x484.1, .int .i64 x484.2])⟩,
          ⟨[], [3], [], Fct.val 42 (.agg #[.int .i64 b2.1.1, .int .i64 b2.1.2, .int .i64 b2.2.1, .int .i64 b2.2.2])⟩,
          ⟨[4, 8, 9], [], [], Fct.val 43 (.bool r485)⟩,
          ⟨[], [9], [], Fct.val 44 (.bool r480)⟩,
          ⟨[10, 11], [], [], Fct.val 45 (.bool (!(r485 == r480)))⟩]) (by kernel_rfl) hz481 hd481 (fun _ h => nomatch h) ?_ ?_
      · refine steps_cons (fun own a wx hf hsl hE => ?_) ?_
        · obtain ⟨s_0, -⟩ := hsl
          exact sg_plain rfl rfl (or_move (s_0.trans e481_0))
        refine steps_cons (fun own a wx hf hsl hE => ?_) ?_
        · obtain ⟨s_8, -⟩ := hsl
          exact sg_plain rfl rfl (or_move (s_8.trans e481_8))
        refine steps_cons (fun own a wx hf hsl hE => ?_) ?_
        · obtain ⟨(f_34 : a.eval (.tmp 34) = .int .i64 i350), -⟩ := hf
          exact sg_plain rfl rfl (or_sub f_34 rfl rfl)
        refine steps_cons (fun own a wx hf hsl hE => ?_) ?_
        · obtain ⟨(f_33 : a.eval (.tmp 33) = .slice A263 r262.length cA263), (f_35 : a.eval (.tmp 35) = .int .i64 (sb i350 1)), -⟩ := hf
          exact sg_plain rfl rfl (or_index (R := R34) (l := r262) tl24 f_33 f_35 (RdO.some_ b481_A263 hx483) hx483)
        refine steps_cons (fun own a wx hf hsl hE => ?_) ?_
        · obtain ⟨(f_36 : a.eval (.tmp 36) = .pointer (some ((adr A263).add ((sb i350 1 : Int).toNat * R34.s)))), -⟩ := hf
          exact sg_plain rfl rfl (or_load (l := E34.f x483) ta34 f_36 (RdO.cells (F := E34) (RdO.evo rfl hE b481_A263) hx483) rfl)
        refine steps_cons (fun own a wx hf hsl hE => ?_) ?_
        · obtain ⟨s_0, -⟩ := hsl
          exact sg_plain rfl rfl (or_move (s_0.trans e481_0))
        refine steps_cons (fun own a wx hf hsl hE => ?_) ?_
        · obtain ⟨s_8, -⟩ := hsl
          exact sg_plain rfl rfl (or_move (s_8.trans e481_8))
        refine steps_cons (fun own a wx hf hsl hE => ?_) ?_
        · obtain ⟨(f_38 : a.eval (.tmp 38) = .slice A263 r262.length cA263), (f_39 : a.eval (.tmp 39) = .int .i64 i350), -⟩ := hf
          exact sg_plain rfl rfl (or_index (R := R34) (l := r262) tl24 f_38 f_39 (RdO.some_ b481_A263 hx484) hx484)
        refine steps_cons (fun own a wx hf hsl hE => ?_) ?_
        · obtain ⟨(f_40 : a.eval (.tmp 40) = .pointer (some ((adr A263).add ((i350 : Int).toNat * R34.s)))), -⟩ := hf
          exact sg_plain rfl rfl (or_load (l := E34.f x484) ta34 f_40 (RdO.cells (F := E34) (RdO.evo rfl hE b481_A263) hx484) rfl)
        refine steps_cons (fun own a wx hf hsl hE => ?_) ?_
        · obtain ⟨s_3, -⟩ := hsl
          exact sg_plain rfl rfl (or_load (l := [.int .i64 b2.1.1, .int .i64 b2.1.2, .int .i64 b2.2.1, .int .i64 b2.2.2]) ta36 (s_3.trans e481_3) (Blk.cellsFrom (BlkO.evo (by decide) hE b481_g259).2 0 rfl) rfl)
        refine steps_cons (fun own a wx hf hsl hE => ?_) ?_
        · obtain ⟨(f_37 : a.eval (.tmp 37) = .agg #[.int .i64 x483.1, .int .i64 x483.2]), (f_41 : a.eval (.tmp 41) = .agg #[.int .i64 x484.1, .int .i64 x484.2]), (f_42 : a.eval (.tmp 42) = .agg #[.int .i64 b2.1.1, .int .i64 b2.1.2, .int .i64 b2.2.1, .int .i64 b2.2.2]), -⟩ := hf
          exact sg_plain rfl rfl (or_call cf15 (args3 f_37 f_41 f_42) (lineclip_Shown_w _ x483 x484 b2  r485 hr485) post_val)
        refine steps_cons (fun own a wx hf hsl hE => ?_) ?_
        · obtain ⟨s_9, -⟩ := hsl
          exact sg_plain rfl rfl (or_move (s_9.trans e481_9))
        refine steps_cons (fun own a wx hf hsl hE => ?_) ?_
        · obtain ⟨(f_43 : a.eval (.tmp 43) = .bool r485), (f_44 : a.eval (.tmp 44) = .bool r480), -⟩ := hf
          exact sg_plain rfl rfl (or_neqb tb4 f_43 f_44 rfl)
        exact steps_nil
      intro own486 a486 w486 hd486 hz486 hk486 hf486 hE486
      have e486_0 : a486.eval (.tmp 0) = .slice A263 r262.length cA263 := (hk486 0 rfl).trans e481_0
      have e486_3 : a486.eval (.tmp 3) = .pointer (some ⟨g259, 0, none⟩) := (hk486 3 rfl).trans e481_3
      have e486_5 : a486.eval (.tmp 5) = .slice A268 r267.length cA268 := (hk486 5 rfl).trans e481_5
      have e486_6 : a486.eval (.tmp 6) = .pointer (some ⟨g271, 0, none⟩) := (hk486 6 rfl).trans e481_6
      have e486_7 : a486.eval (.tmp 7) = .int .i64 n349 := (hk486 7 rfl).trans e481_7
      have e486_8 : a486.eval (.tmp 8) = .int .i64 i350 := (hk486 8 rfl).trans e481_8
      have e486_9 : a486.eval (.tmp 9) = .bool r480 := (hk486 9 rfl).trans e481_9
      obtain ⟨(f_45 : a486.eval (.tmp 45) = .bool (!(r485 == r480))), -⟩ := hf486 [12] rfl
      have e486_45 := f_45
      have hX486 := Evo.step hX481 (fun _ => Nat.le_refl 0) hE486 rfl
      have b486_A263 := RdO.evo rfl hE486 b481_A263
      have b486_g259 := BlkO.evo (by decide) hE486 b481_g259
      have b486_A268 := RwO.evo rfl hE486 b481_A268
      have b486_g271 := BlkO.evo (by decide) hE486 b481_g271
      refine fl_cond e486_45 hs (fun c487 hs => ?_) (fun c487 hs => ?_)
      · refine rg_plain_seq (n := 75) (rs := []) (own0 := own486) (K := [])
            (bs := [0])
            (ds := [⟨[], [], [], Fct.val 4 (.bool false)⟩]) (by kernel_rfl) hz486 hd486 (fun _ h => nomatch h) ?_ ?_
        · refine steps_cons (fun own a wx hf hsl hE => ?_) ?_
          · exact sg_plain rfl rfl (or_assign rfl)
          exact steps_nil
        intro own488 a488 w488 hd488 hz488 hk488 hf488 hE488
        obtain ⟨(f_4 : a488.eval (.tmp 4) = .bool false), -⟩ := hf488 [0] rfl
        have e488_4 := f_4
        have hX488 := Evo.step hX486 (fun _ => Nat.le_refl 0) hE488 rfl
        refine fl_ret ?_
        refine hp482 _ _ _ rfl ?_
        refine hp459 _ _ _ rfl ?_
        refine hp426 _ _ _ rfl ?_
        replace hs := hz421 _ hs
        refine hp421 _ _ _ rfl ?_
        refine hp278 _ _ _ rfl ?_
        refine hp276 _ _ _ rfl ?_
        obtain rfl := osome hs
        exact hret _ _ _ _ (.inl rfl) hd488 (results1_ rfl (RVal.tmp_ e488_4)) ⟨own488, rfl, hX488⟩
      refine fl_skip ?_
      refine hn482 _ _ ?_
      refine rg_plain_seq (n := 75) (rs := []) (own0 := own486) (K := [])
          (bs := [0])
          (ds := [⟨[], [9], [], Fct.val 46 (.bool r480)⟩]) (by kernel_rfl) hz486 hd486 (fun _ h => nomatch h) ?_ ?_
      · refine steps_cons (fun own a wx hf hsl hE => ?_) ?_
        · obtain ⟨s_9, -⟩ := hsl
          exact sg_plain rfl rfl (or_move (s_9.trans e486_9))
        exact steps_nil
      intro own489 a489 w489 hd489 hz489 hk489 hf489 hE489
      have e489_0 : a489.eval (.tmp 0) = .slice A263 r262.length cA263 := (hk489 0 rfl).trans e486_0
      have e489_3 : a489.eval (.tmp 3) = .pointer (some ⟨g259, 0, none⟩) := (hk489 3 rfl).trans e486_3
      have e489_5 : a489.eval (.tmp 5) = .slice A268 r267.length cA268 := (hk489 5 rfl).trans e486_5
      have e489_6 : a489.eval (.tmp 6) = .pointer (some ⟨g271, 0, none⟩) := (hk489 6 rfl).trans e486_6
      have e489_7 : a489.eval (.tmp 7) = .int .i64 n349 := (hk489 7 rfl).trans e486_7
      have e489_8 : a489.eval (.tmp 8) = .int .i64 i350 := (hk489 8 rfl).trans e486_8
      obtain ⟨(f_46 : a489.eval (.tmp 46) = .bool r480), -⟩ := hf489 [0] rfl
      have e489_46 := f_46
      have hX489 := Evo.step hX486 (fun _ => Nat.le_refl 0) hE489 rfl
      have b489_A263 := RdO.evo rfl hE489 b486_A263
      have b489_g259 := BlkO.evo (by decide) hE489 b486_g259
      have b489_A268 := RwO.evo rfl hE489 b486_A268
      have b489_g271 := BlkO.evo (by decide) hE489 b486_g271
      refine fl_cond e489_46 hs (fun c490 hs => ?_) (fun c490 hs => ?_)
      · refine rg_plain (n := 75) (rs := []) (own0 := own489) (K := [])
            (bs := [0, 1, 3])
            (ds := [⟨[], [7], [], Fct.val 47 (.int .i64 n349)⟩,
            ⟨[0], [], [], Fct.val 48 (.int .i64 (ad n349 1))⟩,
            ⟨[1], [], [], Fct.val 7 (.int .i64 (ad n349 1))⟩]) (by kernel_rfl) hz489 hd489 (fun _ h => nomatch h) ?_ ?_
        · refine steps_cons (fun own a wx hf hsl hE => ?_) ?_
          · obtain ⟨s_7, -⟩ := hsl
            exact sg_plain rfl rfl (or_move (s_7.trans e489_7))
          refine steps_cons (fun own a wx hf hsl hE => ?_) ?_
          · obtain ⟨(f_47 : a.eval (.tmp 47) = .int .i64 n349), -⟩ := hf
            exact sg_plain rfl rfl (or_add f_47 rfl rfl)
          refine steps_cons (fun own a wx hf hsl hE => ?_) ?_
          · obtain ⟨(f_48 : a.eval (.tmp 48) = .int .i64 (ad n349 1)), -⟩ := hf
            exact sg_plain rfl rfl (or_assign f_48)
          exact steps_nil
        intro own491 a491 w491 hd491 hz491 hk491 hf491 hE491
        have e491_0 : a491.eval (.tmp 0) = .slice A263 r262.length cA263 := (hk491 0 rfl).trans e489_0
        have e491_3 : a491.eval (.tmp 3) = .pointer (some ⟨g259, 0, none⟩) := (hk491 3 rfl).trans e489_3
        have e491_5 : a491.eval (.tmp 5) = .slice A268 r267.length cA268 := (hk491 5 rfl).trans e489_5
        have e491_6 : a491.eval (.tmp 6) = .pointer (some ⟨g271, 0, none⟩) := (hk491 6 rfl).trans e489_6
        have e491_8 : a491.eval (.tmp 8) = .int .i64 i350 := (hk491 8 rfl).trans e489_8
        obtain ⟨(f_7 : a491.eval (.tmp 7) = .int .i64 (ad n349 1)), -⟩ := hf491 [2] rfl
        have e491_7 := f_7
        have hX491 := Evo.step hX489 (fun _ => Nat.le_refl 0) hE491 rfl
        have b491_A263 := RdO.evo rfl hE491 b489_A263
        have b491_g259 := BlkO.evo (by decide) hE491 b489_g259
        have b491_A268 := RwO.evo rfl hE491 b489_A268
        have b491_g271 := BlkO.evo (by decide) hE491 b489_g271
        exact (K475 _ _ own491 _ hd491 hz491 e491_0 e491_3 e491_5 e491_6 e491_7 e491_8 hX491 b491_A263 b491_g259 b491_A268 b491_g271 hs).1
      refine fl_skip ?_
      exact (K475 _ _ own489 _ hd489 hz489 e489_0 e489_3 e489_5 e489_6 e489_7 e489_8 hX489 b489_A263 b489_g259 b489_A268 b489_g271 hs).1
    refine fl_exit ?_
    refine hp423 _ _ _ rfl ?_
    replace hs := hz421 _ hs
    refine hp421 _ _ _ rfl ?_
    refine hx278 _ _ ?_
    refine hn276 _ _ ?_
    obtain ⟨r492, hr492, hs⟩ := obind hs
    obtain ⟨r493, hr493, hs⟩ := obind hs
    obtain ⟨r497, hr497, hs⟩ := obind hs
    obtain ⟨r501, hr501, hs⟩ := obind hs
    obtain ⟨r502, hr502, hs⟩ := obind hs
    obtain ⟨x503, hx503, hs⟩ := obind hs
    obtain ⟨r504, hr504, hs⟩ := obind hs
    obtain ⟨r505, hr505, hs⟩ := obind hs
    refine rg_draw_seq g_mixed (n := 75) (rs := []) (own0 := own424) (K := [])
        (bs := [0, 1, 3, 3, 15, 3, 3, 127, 255, 511, 1023, 2047, 2047, 8191, 2047, 32767, 65535, 131071, 262143, 262143, 1048575, 262143, 262143, 8388607, 16777215, 33554431, 67108863])
        (ds := [⟨[], [], [], Fct.val 49 (.bool r492)⟩,
        ⟨[0], [], [], Fct.val 50 (.bool r492)⟩,
        ⟨[1], [0], [], Fct.cond r492 (some 51) (Fct.val 51 (.slice A263 r262.length cA263))⟩,
        ⟨[1], [3], [], Fct.cond r492 (some 52) (Fct.val 52 (.agg #[.int .i64 b2.1.1, .int .i64 b2.1.2, .int .i64 b2.2.1, .int .i64 b2.2.2]))⟩,
        ⟨[1, 2, 3], [], [], Fct.cond r492 (some 53) (Fct.row 495 [496] 53 24 R24 r493)⟩,
        ⟨[1], [5], [], Fct.cond r492 (some 54) (Fct.val 54 (.slice A268 r267.length cA268))⟩,
        ⟨[1], [6], [], Fct.cond r492 (some 55) (Fct.val 55 (.agg #[.int .i64 r270.1.1, .int .i64 r270.1.2, .int .i64 r270.2.1, .int .i64 r270.2.2]))⟩,
        ⟨[1, 5, 6], [], [], Fct.cond r492 (some 56) (Fct.row 499 [500] 56 26 R26 r497)⟩,
        ⟨[1, 4, 7], [], [], Fct.cond r492 (some 57) (Fct.val 57 (.bool r501))⟩,
        ⟨[1, 8], [], [], Fct.val 58 (.bool (r492 && r501))⟩,
        ⟨[9], [], [], Fct.val 59 (.bool (r492 && r501))⟩,
        ⟨[10], [0], [], Fct.cond (r492 && r501) (some 60) (Fct.val 60 (.slice A263 r262.length cA263))⟩,
        ⟨[10], [3], [], Fct.cond (r492 && r501) (some 61) (Fct.val 61 (.agg #[.int .i64 b2.1.1, .int .i64 b2.1.2, .int .i64 b2.2.1, .int .i64 b2.2.2]))⟩,
        ⟨[10, 11, 12], [], [], Fct.cond (r492 && r501) (some 62) (Fct.val 62 (.int .i64 r502))⟩,
        ⟨[10], [7], [], Fct.cond (r492 && r501) (some 63) (Fct.val 63 (.int .i64 n349))⟩,
        ⟨[10, 13, 14], [], [], Fct.cond (r492 && r501) (some 64) (Fct.val 64 (.bool (decide (r502 = n349))))⟩,
        ⟨[10, 15], [], [], Fct.val 65 (.bool x503)⟩,
        ⟨[16], [], [], Fct.val 66 (.bool x503)⟩,
        ⟨[17], [0], [], Fct.cond x503 (some 67) (Fct.val 67 (.slice A263 r262.length cA263))⟩,
        ⟨[17], [3], [], Fct.cond x503 (some 68) (Fct.val 68 (.agg #[.int .i64 b2.1.1, .int .i64 b2.1.2, .int .i64 b2.2.1, .int .i64 b2.2.2]))⟩,
        ⟨[17, 18, 19], [], [], Fct.cond x503 (some 69) (Fct.val 69 (.bool r504))⟩,
        ⟨[17], [5], [], Fct.cond x503 (some 70) (Fct.val 70 (.slice A268 r267.length cA268))⟩,
        ⟨[17], [6], [], Fct.cond x503 (some 71) (Fct.val 71 (.agg #[.int .i64 r270.1.1, .int .i64 r270.1.2, .int .i64 r270.2.1, .int .i64 r270.2.2]))⟩,
        ⟨[17, 21, 22], [], [], Fct.cond x503 (some 72) (Fct.val 72 (.bool r505))⟩,
        ⟨[17, 20, 23], [], [], Fct.cond x503 (some 73) (Fct.val 73 (.bool (r504 == r505)))⟩,
        ⟨[17, 24], [], [], Fct.val 74 (.bool (x503 && (r504 == r505)))⟩,
        ⟨[25], [], [], Fct.val 4 (.bool (x503 && (r504 == r505)))⟩]) (by kernel_rfl) hz424 hd424 (fun _ h => nomatch h) ?_ ?_
    · refine steps_cons (fun own a wx hf hsl hE => ?_) ?_
      · exact sg_plain rfl rfl (or_call cf10 (args0) (law22_known_w _   r492 hr492) post_val)
      refine steps_cons (fun own a wx hf hsl hE => ?_) ?_
      · obtain ⟨(f_49 : a.eval (.tmp 49) = .bool r492), -⟩ := hf
        exact sg_plain rfl rfl (or_move f_49)
      refine steps_cons (fun own a wx hf hsl hE => ?_) ?_
      · obtain ⟨(f_50 : a.eval (.tmp 50) = .bool r492), -⟩ := hf
        obtain ⟨s_0, -⟩ := hsl
        refine sg_t rfl rfl rfl f_50 (fun hg => ?_)
        exact or_move (s_0.trans e424_0)
      refine steps_cons (fun own a wx hf hsl hE => ?_) ?_
      · obtain ⟨(f_50 : a.eval (.tmp 50) = .bool r492), -⟩ := hf
        obtain ⟨s_3, -⟩ := hsl
        refine sg_t rfl rfl rfl f_50 (fun hg => ?_)
        exact or_load (l := [.int .i64 b2.1.1, .int .i64 b2.1.2, .int .i64 b2.2.1, .int .i64 b2.2.2]) ta36 (s_3.trans e424_3) (Blk.cellsFrom (BlkO.evo (by decide) hE b424_g259).2 0 rfl) rfl
      refine steps_cons (fun own a wx hf hsl hE => ?_) ?_
      · obtain ⟨(f_50 : a.eval (.tmp 50) = .bool r492), c_51, c_52, -⟩ := hf
        refine sg_t rfl rfl rfl f_50 (fun hg => ?_)
        have f_51 : a.eval (.tmp 51) = .slice A263 r262.length cA263 := c_51.1 hg
        have f_52 : a.eval (.tmp 52) = .agg #[.int .i64 b2.1.1, .int .i64 b2.1.2, .int .i64 b2.2.1, .int .i64 b2.2.2] := c_52.1 hg
        exact or_call cf16 (args2 f_51 f_52) (lineclip_Parts_w _ r262 A263 cA263 b2 (RdO.zero (RdO.evo rfl hE b424_A263)) r493 (gd_t hr493 hg)) (post_row (m' := (look0 [(1, 495), (2, 496)])) (.inr (by decide)) rfl rfl (fun _ => rfl))
      refine steps_cons (fun own a wx hf hsl hE => ?_) ?_
      · obtain ⟨(f_50 : a.eval (.tmp 50) = .bool r492), -⟩ := hf
        obtain ⟨s_5, -⟩ := hsl
        refine sg_t rfl rfl rfl f_50 (fun hg => ?_)
        exact or_move (s_5.trans e424_5)
      refine steps_cons (fun own a wx hf hsl hE => ?_) ?_
      · obtain ⟨(f_50 : a.eval (.tmp 50) = .bool r492), -⟩ := hf
        obtain ⟨s_6, -⟩ := hsl
        refine sg_t rfl rfl rfl f_50 (fun hg => ?_)
        exact or_load (l := [.int .i64 r270.1.1, .int .i64 r270.1.2, .int .i64 r270.2.1, .int .i64 r270.2.2]) ta39 (s_6.trans e424_6) (Blk.cellsFrom (BlkO.evo (by decide) hE b424_g271).2 0 rfl) rfl
      refine steps_cons (fun own a wx hf hsl hE => ?_) ?_
      · obtain ⟨(f_50 : a.eval (.tmp 50) = .bool r492), c_54, c_55, -⟩ := hf
        refine sg_t rfl rfl rfl f_50 (fun hg => ?_)
        have f_54 : a.eval (.tmp 54) = .slice A268 r267.length cA268 := c_54.1 hg
        have f_55 : a.eval (.tmp 55) = .agg #[.int .i64 r270.1.1, .int .i64 r270.1.2, .int .i64 r270.2.1, .int .i64 r270.2.2] := c_55.1 hg
        exact or_call cf17 (args2 f_54 f_55) (ref22_Parts_w _ r267 A268 cA268 r270 (RdO.zero (RwO.rd (RwO.evo rfl hE b424_A268))) r497 (gd_t hr497 hg)) (post_row (m' := (look0 [(1, 499), (2, 500)])) (.inr (by decide)) rfl rfl (fun _ => rfl))
      refine steps_cons (fun own a wx hf hsl hE => ?_) ?_
      · obtain ⟨(f_50 : a.eval (.tmp 50) = .bool r492), c_53, c_56, -⟩ := hf
        refine sg_t rfl rfl rfl f_50 (fun hg => ?_)
        obtain ⟨⟨A494, cA494⟩, (f_53 : a.eval (.tmp 53) = .slice A494 r493.length cA494), (b_A494 : RwO own 495 [496] wx 24 R24 A494 cA494 r493)⟩ := c_53.1 hg
        obtain ⟨⟨A498, cA498⟩, (f_56 : a.eval (.tmp 56) = .slice A498 r497.length cA498), (b_A498 : RwO own 499 [500] wx 26 R26 A498 cA498 r497)⟩ := c_56.1 hg
        exact or_call cf11 (args2 f_53 f_56) (law22_Same_w _ r493 A494 cA494 r497 A498 cA498 (RdO.zero (RwO.rd b_A494)) (RdO.zero (RwO.rd b_A498)) r501 (gd_t hr501 hg)) post_val
      refine steps_cons (fun own a wx hf hsl hE => ?_) ?_
      · obtain ⟨(f_50 : a.eval (.tmp 50) = .bool r492), c_57, -⟩ := hf
        exact sg_plain rfl rfl (or_and f_50 (fun hx => c_57.1 hx) rfl rfl)
      refine steps_cons (fun own a wx hf hsl hE => ?_) ?_
      · obtain ⟨(f_58 : a.eval (.tmp 58) = .bool (r492 && r501)), -⟩ := hf
        exact sg_plain rfl rfl (or_move f_58)
      refine steps_cons (fun own a wx hf hsl hE => ?_) ?_
      · obtain ⟨(f_59 : a.eval (.tmp 59) = .bool (r492 && r501)), -⟩ := hf
        obtain ⟨s_0, -⟩ := hsl
        refine sg_t rfl rfl rfl f_59 (fun hg => ?_)
        exact or_move (s_0.trans e424_0)
      refine steps_cons (fun own a wx hf hsl hE => ?_) ?_
      · obtain ⟨(f_59 : a.eval (.tmp 59) = .bool (r492 && r501)), -⟩ := hf
        obtain ⟨s_3, -⟩ := hsl
        refine sg_t rfl rfl rfl f_59 (fun hg => ?_)
        exact or_load (l := [.int .i64 b2.1.1, .int .i64 b2.1.2, .int .i64 b2.2.1, .int .i64 b2.2.2]) ta36 (s_3.trans e424_3) (Blk.cellsFrom (BlkO.evo (by decide) hE b424_g259).2 0 rfl) rfl
      refine steps_cons (fun own a wx hf hsl hE => ?_) ?_
      · obtain ⟨(f_59 : a.eval (.tmp 59) = .bool (r492 && r501)), c_60, c_61, -⟩ := hf
        refine sg_t rfl rfl rfl f_59 (fun hg => ?_)
        have f_60 : a.eval (.tmp 60) = .slice A263 r262.length cA263 := c_60.1 hg
        have f_61 : a.eval (.tmp 61) = .agg #[.int .i64 b2.1.1, .int .i64 b2.1.2, .int .i64 b2.2.1, .int .i64 b2.2.2] := c_61.1 hg
        exact or_call cf18 (args2 f_60 f_61) (lineclip_Count_w _ r262 A263 cA263 b2 (RdO.zero (RdO.evo rfl hE b424_A263)) r502 (gd_t hr502 hg)) post_val
      refine steps_cons (fun own a wx hf hsl hE => ?_) ?_
      · obtain ⟨(f_59 : a.eval (.tmp 59) = .bool (r492 && r501)), -⟩ := hf
        obtain ⟨s_7, -⟩ := hsl
        refine sg_t rfl rfl rfl f_59 (fun hg => ?_)
        exact or_move (s_7.trans e424_7)
      refine steps_cons (fun own a wx hf hsl hE => ?_) ?_
      · obtain ⟨(f_59 : a.eval (.tmp 59) = .bool (r492 && r501)), c_62, c_63, -⟩ := hf
        refine sg_t rfl rfl rfl f_59 (fun hg => ?_)
        have f_62 : a.eval (.tmp 62) = .int .i64 r502 := c_62.1 hg
        have f_63 : a.eval (.tmp 63) = .int .i64 n349 := c_63.1 hg
        exact or_eql f_62 f_63 rfl
      refine steps_cons (fun own a wx hf hsl hE => ?_) ?_
      · obtain ⟨(f_59 : a.eval (.tmp 59) = .bool (r492 && r501)), c_64, -⟩ := hf
        exact sg_plain rfl rfl (or_and f_59 (fun hx => c_64.1 hx) rfl (osome hx503).symm)
      refine steps_cons (fun own a wx hf hsl hE => ?_) ?_
      · obtain ⟨(f_65 : a.eval (.tmp 65) = .bool x503), -⟩ := hf
        exact sg_plain rfl rfl (or_move f_65)
      refine steps_cons (fun own a wx hf hsl hE => ?_) ?_
      · obtain ⟨(f_66 : a.eval (.tmp 66) = .bool x503), -⟩ := hf
        obtain ⟨s_0, -⟩ := hsl
        refine sg_t rfl rfl rfl f_66 (fun hg => ?_)
        exact or_move (s_0.trans e424_0)
      refine steps_cons (fun own a wx hf hsl hE => ?_) ?_
      · obtain ⟨(f_66 : a.eval (.tmp 66) = .bool x503), -⟩ := hf
        obtain ⟨s_3, -⟩ := hsl
        refine sg_t rfl rfl rfl f_66 (fun hg => ?_)
        exact or_load (l := [.int .i64 b2.1.1, .int .i64 b2.1.2, .int .i64 b2.2.1, .int .i64 b2.2.2]) ta36 (s_3.trans e424_3) (Blk.cellsFrom (BlkO.evo (by decide) hE b424_g259).2 0 rfl) rfl
      refine steps_cons (fun own a wx hf hsl hE => ?_) ?_
      · obtain ⟨(f_66 : a.eval (.tmp 66) = .bool x503), c_67, c_68, -⟩ := hf
        refine sg_t rfl rfl rfl f_66 (fun hg => ?_)
        have f_67 : a.eval (.tmp 67) = .slice A263 r262.length cA263 := c_67.1 hg
        have f_68 : a.eval (.tmp 68) = .agg #[.int .i64 b2.1.1, .int .i64 b2.1.2, .int .i64 b2.2.1, .int .i64 b2.2.2] := c_68.1 hg
        exact or_call cf19 (args2 f_67 f_68) (lineclip_Meets_w _ r262 A263 cA263 b2 (RdO.zero (RdO.evo rfl hE b424_A263)) r504 (gd_t hr504 hg)) post_val
      refine steps_cons (fun own a wx hf hsl hE => ?_) ?_
      · obtain ⟨(f_66 : a.eval (.tmp 66) = .bool x503), -⟩ := hf
        obtain ⟨s_5, -⟩ := hsl
        refine sg_t rfl rfl rfl f_66 (fun hg => ?_)
        exact or_move (s_5.trans e424_5)
      refine steps_cons (fun own a wx hf hsl hE => ?_) ?_
      · obtain ⟨(f_66 : a.eval (.tmp 66) = .bool x503), -⟩ := hf
        obtain ⟨s_6, -⟩ := hsl
        refine sg_t rfl rfl rfl f_66 (fun hg => ?_)
        exact or_load (l := [.int .i64 r270.1.1, .int .i64 r270.1.2, .int .i64 r270.2.1, .int .i64 r270.2.2]) ta39 (s_6.trans e424_6) (Blk.cellsFrom (BlkO.evo (by decide) hE b424_g271).2 0 rfl) rfl
      refine steps_cons (fun own a wx hf hsl hE => ?_) ?_
      · obtain ⟨(f_66 : a.eval (.tmp 66) = .bool x503), c_70, c_71, -⟩ := hf
        refine sg_t rfl rfl rfl f_66 (fun hg => ?_)
        have f_70 : a.eval (.tmp 70) = .slice A268 r267.length cA268 := c_70.1 hg
        have f_71 : a.eval (.tmp 71) = .agg #[.int .i64 r270.1.1, .int .i64 r270.1.2, .int .i64 r270.2.1, .int .i64 r270.2.2] := c_71.1 hg
        exact or_call cf20 (args2 f_70 f_71) (ref22_Meets_w _ r267 A268 cA268 r270 (RdO.zero (RwO.rd (RwO.evo rfl hE b424_A268))) r505 (gd_t hr505 hg)) post_val
      refine steps_cons (fun own a wx hf hsl hE => ?_) ?_
      · obtain ⟨(f_66 : a.eval (.tmp 66) = .bool x503), c_69, c_72, -⟩ := hf
        refine sg_t rfl rfl rfl f_66 (fun hg => ?_)
        have f_69 : a.eval (.tmp 69) = .bool r504 := c_69.1 hg
        have f_72 : a.eval (.tmp 72) = .bool r505 := c_72.1 hg
        exact or_eqlb tb4 f_69 f_72 rfl
      refine steps_cons (fun own a wx hf hsl hE => ?_) ?_
      · obtain ⟨(f_66 : a.eval (.tmp 66) = .bool x503), c_73, -⟩ := hf
        exact sg_plain rfl rfl (or_and f_66 (fun hx => c_73.1 hx) rfl rfl)
      refine steps_cons (fun own a wx hf hsl hE => ?_) ?_
      · obtain ⟨(f_74 : a.eval (.tmp 74) = .bool (x503 && (r504 == r505))), -⟩ := hf
        exact sg_plain rfl rfl (or_assign f_74)
      exact steps_nil
    intro own506 a506 w506 hd506 hz506 hk506 hf506 hE506
    obtain ⟨(f_4 : a506.eval (.tmp 4) = .bool (x503 && (r504 == r505))), -⟩ := hf506 [26] rfl
    have e506_4 := f_4
    have hX506 := Evo.step hX424 (fun _ => Nat.le_refl 0) hE506 rfl
    refine fl_ret ?_
    obtain rfl := osome hs
    exact hret _ _ _ _ (.inl rfl) hd506 (results1_ rfl (RVal.tmp_ e506_4)) ⟨own506, rfl, hX506⟩

end Go.Proofs.Ythjcpojcpafbjaa
