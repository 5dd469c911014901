/-
  Chapter 03. The walks.
-/
import Derived.Test.YthkmkmkcnljmaaaWp4
import Derived.Test.YthkmkmkcnljmaaaWp6
import Derived.Test.YthkmkmkcnljmaaaSp8
namespace Go.Proofs.Ythkmkmkcnljmaaa
open Go.RowKit
set_option linter.unusedVariables false
theorem ref01_May_w (w : World) (p1 : Int × Int) (r : Bool) (hs : ref01_May p1 = some r) :
    Calls Try.prog 32 #[.agg #[.int .i64 p1.1, .int .i64 p1.2]] w fun e w' => ∃ own' : Own, e = .returned (.bool r) ∧ Evo [] (fun _ => 0) own' w w' := by
  refine fl_enter (n := 21) rfl rfl rfl (Nat.le_of_ble_eq_true rfl) ?_
  intro a0 Q hd0 hz0 harg hret
  have ha0 := harg 0 _ rfl
  clear harg
  have hE0 : Evo [] (fun _ => 0) (fun _ => 0) w w := Evo.refl _ _ _
  refine rg_plain_seq (n := 21) (rs := []) (own0 := (fun _ => 0)) (K := [])
      (bs := [0, 0])
      (ds := [⟨[], [0], [], Fct.blk 18 1 (fun g => .pointer (some ⟨g, 0, none⟩)) 49 #[.int .i64 p1.1, .int .i64 p1.2]⟩,
      ⟨[], [], [], Fct.val 2 (.bool false)⟩]) (by kernel_rfl) hz0 hd0 (fun _ h => nomatch h) ?_ ?_
  · refine steps_cons (fun own a wx hf hsl hE => ?_) ?_
    · obtain ⟨s_0, -⟩ := hsl
      exact sg_plain rfl rfl (or_new [(0, .agg #[.int .i64 p1.1, .int .i64 p1.2])] rfl rfl ⟨(s_0.trans ha0), trivial⟩ (by kernel_rfl))
    refine steps_cons (fun own a wx hf hsl hE => ?_) ?_
    · exact sg_plain rfl rfl (or_assign rfl)
    exact steps_nil
  intro own19 a19 w19 hd19 hz19 hk19 hf19 hE19
  obtain ⟨⟨g17, (f_1 : a19.eval (.tmp 1) = .pointer (some ⟨g17, 0, none⟩)), (b_g17 : BlkO own19 18 w19 g17 49 #[.int .i64 p1.1, .int .i64 p1.2])⟩, -⟩ := hf19 [0] rfl
  have e19_1 := f_1
  have hX19 := Evo.step hE0 (fun _ => Nat.le_refl 0) hE19 rfl
  have b19_g17 := b_g17
  obtain ⟨x20, hx20, hs⟩ := obind hs
  obtain ⟨x21, hx21, hs⟩ := obind hs
  refine rg_plain_seq (n := 21) (rs := []) (own0 := own19) (K := [])
      (bs := [0, 1, 3, 7, 15, 31, 63, 127, 255, 511, 1023, 2047, 4095, 8191, 16383, 32767, 65535, 131071, 262143])
      (ds := [⟨[], [1], [], Fct.val 3 (.pointer (some ⟨g17, 0, none⟩))⟩,
      ⟨[0], [], [], Fct.val 4 (.int .i64 p1.1)⟩,
      ⟨[1], [], [], Fct.val 5 (.bool (decide ((-16777216) ≤ p1.1)))⟩,
      ⟨[2], [], [], Fct.val 6 (.bool (decide ((-16777216) ≤ p1.1)))⟩,
      ⟨[3], [1], [], Fct.cond (decide ((-16777216) ≤ p1.1)) (some 7) (Fct.val 7 (.pointer (some ⟨g17, 0, none⟩)))⟩,
      ⟨[3, 4], [], [], Fct.cond (decide ((-16777216) ≤ p1.1)) (some 8) (Fct.val 8 (.int .i64 p1.1))⟩,
      ⟨[3, 5], [], [], Fct.cond (decide ((-16777216) ≤ p1.1)) (some 9) (Fct.val 9 (.bool (decide (p1.1 ≤ 16777216))))⟩,
      ⟨[3, 6], [], [], Fct.val 10 (.bool x20)⟩,
      ⟨[7], [], [], Fct.val 11 (.bool x20)⟩,
      ⟨[8], [1], [], Fct.cond x20 (some 12) (Fct.val 12 (.pointer (some ⟨g17, 1, none⟩)))⟩,
      ⟨[8, 9], [], [], Fct.cond x20 (some 13) (Fct.val 13 (.int .i64 p1.2))⟩,
      ⟨[8, 10], [], [], Fct.cond x20 (some 14) (Fct.val 14 (.bool (decide ((-16777216) ≤ p1.2))))⟩,
      ⟨[8, 11], [], [], Fct.val 15 (.bool x21)⟩,
      ⟨[12], [], [], Fct.val 16 (.bool x21)⟩,
      ⟨[13], [1], [], Fct.cond x21 (some 17) (Fct.val 17 (.pointer (some ⟨g17, 1, none⟩)))⟩,
      ⟨[13, 14], [], [], Fct.cond x21 (some 18) (Fct.val 18 (.int .i64 p1.2))⟩,
      ⟨[13, 15], [], [], Fct.cond x21 (some 19) (Fct.val 19 (.bool (decide (p1.2 ≤ 16777216))))⟩,
      ⟨[13, 16], [], [], Fct.val 20 (.bool (x21 && (decide (p1.2 ≤ 16777216))))⟩,
      ⟨[17], [], [], Fct.val 2 (.bool (x21 && (decide (p1.2 ≤ 16777216))))⟩]) (by kernel_rfl) hz19 hd19 (fun _ h => nomatch h) ?_ ?_
  · refine steps_cons (fun own a wx hf hsl hE => ?_) ?_
    · obtain ⟨s_1, -⟩ := hsl
      exact sg_plain rfl rfl (or_field fo49_0 (s_1.trans e19_1) (by rfl))
    refine steps_cons (fun own a wx hf hsl hE => ?_) ?_
    · obtain ⟨(f_3 : a.eval (.tmp 3) = .pointer (some ⟨g17, 0, none⟩)), -⟩ := hf
      exact sg_plain rfl rfl (or_load1 to3 f_3 (Blk.at_ (BlkO.evo (by decide) hE b19_g17).2 0 rfl))
    refine steps_cons (fun own a wx hf hsl hE => ?_) ?_
    · obtain ⟨(f_4 : a.eval (.tmp 4) = .int .i64 p1.1), -⟩ := hf
      exact sg_plain rfl rfl (or_geq f_4 rfl rfl)
    refine steps_cons (fun own a wx hf hsl hE => ?_) ?_
    · obtain ⟨(f_5 : a.eval (.tmp 5) = .bool (decide ((-16777216) ≤ p1.1))), -⟩ := hf
      exact sg_plain rfl rfl (or_move f_5)
    refine steps_cons (fun own a wx hf hsl hE => ?_) ?_
    · obtain ⟨(f_6 : a.eval (.tmp 6) = .bool (decide ((-16777216) ≤ p1.1))), -⟩ := hf
      obtain ⟨s_1, -⟩ := hsl
      refine sg_t rfl rfl rfl f_6 (fun hg => ?_)
      exact or_field fo49_0 (s_1.trans e19_1) (by rfl)
    refine steps_cons (fun own a wx hf hsl hE => ?_) ?_
    · obtain ⟨(f_6 : a.eval (.tmp 6) = .bool (decide ((-16777216) ≤ p1.1))), c_7, -⟩ := hf
      refine sg_t rfl rfl rfl f_6 (fun hg => ?_)
      have f_7 : a.eval (.tmp 7) = .pointer (some ⟨g17, 0, none⟩) := c_7.1 hg
      exact or_load1 to3 f_7 (Blk.at_ (BlkO.evo (by decide) hE b19_g17).2 0 rfl)
    refine steps_cons (fun own a wx hf hsl hE => ?_) ?_
    · obtain ⟨(f_6 : a.eval (.tmp 6) = .bool (decide ((-16777216) ≤ p1.1))), c_8, -⟩ := hf
      refine sg_t rfl rfl rfl f_6 (fun hg => ?_)
      have f_8 : a.eval (.tmp 8) = .int .i64 p1.1 := c_8.1 hg
      exact or_leq f_8 rfl rfl
    refine steps_cons (fun own a wx hf hsl hE => ?_) ?_
    · obtain ⟨(f_6 : a.eval (.tmp 6) = .bool (decide ((-16777216) ≤ p1.1))), c_9, -⟩ := hf
      exact sg_plain rfl rfl (or_and f_6 (fun hx => c_9.1 hx) rfl (osome hx20).symm)
    refine steps_cons (fun own a wx hf hsl hE => ?_) ?_
    · obtain ⟨(f_10 : a.eval (.tmp 10) = .bool x20), -⟩ := hf
      exact sg_plain rfl rfl (or_move f_10)
    refine steps_cons (fun own a wx hf hsl hE => ?_) ?_
    · obtain ⟨(f_11 : a.eval (.tmp 11) = .bool x20), -⟩ := hf
      obtain ⟨s_1, -⟩ := hsl
      refine sg_t rfl rfl rfl f_11 (fun hg => ?_)
      exact or_field fo49_1 (s_1.trans e19_1) (by rfl)
    refine steps_cons (fun own a wx hf hsl hE => ?_) ?_
    · obtain ⟨(f_11 : a.eval (.tmp 11) = .bool x20), c_12, -⟩ := hf
      refine sg_t rfl rfl rfl f_11 (fun hg => ?_)
      have f_12 : a.eval (.tmp 12) = .pointer (some ⟨g17, 1, none⟩) := c_12.1 hg
      exact or_load1 to3 f_12 (Blk.at_ (BlkO.evo (by decide) hE b19_g17).2 1 rfl)
    refine steps_cons (fun own a wx hf hsl hE => ?_) ?_
    · obtain ⟨(f_11 : a.eval (.tmp 11) = .bool x20), c_13, -⟩ := hf
      refine sg_t rfl rfl rfl f_11 (fun hg => ?_)
      have f_13 : a.eval (.tmp 13) = .int .i64 p1.2 := c_13.1 hg
      exact or_geq f_13 rfl rfl
    refine steps_cons (fun own a wx hf hsl hE => ?_) ?_
    · obtain ⟨(f_11 : a.eval (.tmp 11) = .bool x20), c_14, -⟩ := hf
      exact sg_plain rfl rfl (or_and f_11 (fun hx => c_14.1 hx) rfl (osome hx21).symm)
    refine steps_cons (fun own a wx hf hsl hE => ?_) ?_
    · obtain ⟨(f_15 : a.eval (.tmp 15) = .bool x21), -⟩ := hf
      exact sg_plain rfl rfl (or_move f_15)
    refine steps_cons (fun own a wx hf hsl hE => ?_) ?_
    · obtain ⟨(f_16 : a.eval (.tmp 16) = .bool x21), -⟩ := hf
      obtain ⟨s_1, -⟩ := hsl
      refine sg_t rfl rfl rfl f_16 (fun hg => ?_)
      exact or_field fo49_1 (s_1.trans e19_1) (by rfl)
    refine steps_cons (fun own a wx hf hsl hE => ?_) ?_
    · obtain ⟨(f_16 : a.eval (.tmp 16) = .bool x21), c_17, -⟩ := hf
      refine sg_t rfl rfl rfl f_16 (fun hg => ?_)
      have f_17 : a.eval (.tmp 17) = .pointer (some ⟨g17, 1, none⟩) := c_17.1 hg
      exact or_load1 to3 f_17 (Blk.at_ (BlkO.evo (by decide) hE b19_g17).2 1 rfl)
    refine steps_cons (fun own a wx hf hsl hE => ?_) ?_
    · obtain ⟨(f_16 : a.eval (.tmp 16) = .bool x21), c_18, -⟩ := hf
      refine sg_t rfl rfl rfl f_16 (fun hg => ?_)
      have f_18 : a.eval (.tmp 18) = .int .i64 p1.2 := c_18.1 hg
      exact or_leq f_18 rfl rfl
    refine steps_cons (fun own a wx hf hsl hE => ?_) ?_
    · obtain ⟨(f_16 : a.eval (.tmp 16) = .bool x21), c_19, -⟩ := hf
      exact sg_plain rfl rfl (or_and f_16 (fun hx => c_19.1 hx) rfl rfl)
    refine steps_cons (fun own a wx hf hsl hE => ?_) ?_
    · obtain ⟨(f_20 : a.eval (.tmp 20) = .bool (x21 && (decide (p1.2 ≤ 16777216)))), -⟩ := hf
      exact sg_plain rfl rfl (or_assign f_20)
    exact steps_nil
  intro own22 a22 w22 hd22 hz22 hk22 hf22 hE22
  obtain ⟨(f_2 : a22.eval (.tmp 2) = .bool (x21 && (decide (p1.2 ≤ 16777216)))), -⟩ := hf22 [18] rfl
  have e22_2 := f_2
  have hX22 := Evo.step hX19 (fun _ => Nat.le_refl 0) hE22 rfl
  refine fl_ret ?_
  obtain rfl := osome hs
  exact hret _ _ _ _ (.inl rfl) hd22 (results1_ rfl (RVal.tmp_ e22_2)) ⟨own22, rfl, hX22⟩

theorem ref01_All_w (w : World) (l1 : List (Int × Int)) (Al1 : Option Addr) (cl1 : Nat) (hl1 : RdO (fun _ => 0) [0] w R49 Al1 cl1 l1) (r : Bool) (hs : ref01_All l1 = some r) :
    Calls Try.prog 10 #[.slice Al1 l1.length cl1] w fun e w' => ∃ own' : Own, e = .returned (.bool r) ∧ Evo [] (fun _ => 0) own' w w' := by
  refine fl_enter (n := 16) rfl rfl rfl (Nat.le_of_ble_eq_true rfl) ?_
  intro a0 Q hd0 hz0 harg hret
  have ha0 := harg 0 _ rfl
  clear harg
  have hE0 : Evo [] (fun _ => 0) (fun _ => 0) w w := Evo.refl _ _ _
  refine rg_plain_seq (n := 16) (rs := []) (own0 := (fun _ => 0)) (K := [])
      (bs := [0])
      (ds := [⟨[], [], [], Fct.val 2 (.bool false)⟩]) (by kernel_rfl) hz0 hd0 (fun _ h => nomatch h) ?_ ?_
  · refine steps_cons (fun own a wx hf hsl hE => ?_) ?_
    · exact sg_plain rfl rfl (or_assign rfl)
    exact steps_nil
  intro own54 a54 w54 hd54 hz54 hk54 hf54 hE54
  have e54_0 : a54.eval (.tmp 0) = .slice Al1 l1.length cl1 := (hk54 0 rfl).trans ha0
  have hX54 := Evo.step hE0 (fun _ => Nat.le_refl 0) hE54 rfl
  have b54_Al1 := RdO.evo rfl hE54 hl1
  refine fl_seq (fun Q55 hn55 hp55 => ?_)
  refine rg_plain_seq (n := 16) (rs := []) (own0 := own54) (K := [])
      (bs := [0])
      (ds := [⟨[], [], [], Fct.val 3 (.int .i64 0)⟩]) (by kernel_rfl) hz54 hd54 (fun _ h => nomatch h) ?_ ?_
  · refine steps_cons (fun own a wx hf hsl hE => ?_) ?_
    · exact sg_plain rfl rfl (or_assign rfl)
    exact steps_nil
  intro own56 a56 w56 hd56 hz56 hk56 hf56 hE56
  have e56_0 : a56.eval (.tmp 0) = .slice Al1 l1.length cl1 := (hk56 0 rfl).trans e54_0
  obtain ⟨(f_3 : a56.eval (.tmp 3) = .int .i64 0), -⟩ := hf56 [0] rfl
  have e56_3 := f_3
  have hX56 := Evo.step hX54 (fun _ => Nat.le_refl 0) hE56 rfl
  have b56_Al1 := RdO.evo rfl hE56 b54_Al1
  refine fl_block (fun Q57 hn57 hx57 hp57 => ?_)
  refine fl_loop (body := (fun s => ref01_All_b1 l1 s)) (z := r) (show loopO _ _ = _ from hs) (fun (i70 : Int) a wx => ∃ (ox : Own), a.defers = [] ∧ a.tmps.size = 16 ∧ a.eval (.tmp 0) = .slice Al1 l1.length cl1 ∧ a.eval (.tmp 3) = .int .i64 i70 ∧ Evo [] (fun _ => 0) ox w wx ∧ RdO ox [0] wx R49 Al1 cl1 l1) ?_ ?_
  · exact ⟨own56, hd56, hz56, e56_0, e56_3, hX56, b56_Al1⟩
  · rintro i70 zz83 a83 w83 ⟨own83, hd84, hz84, e84_0, e84_3, hE84, b84_Al1⟩ hs Q83 hn83 hp83 hz83
    have hs : ref01_All_b1 l1 i70 = some zz83 := hs
    refine fl_seq (fun Q85 hn85 hp85 => ?_)
    refine rg_plain_seq (n := 16) (rs := []) (own0 := own83) (K := [])
        (bs := [0, 0, 2, 7])
        (ds := [⟨[], [3], [], Fct.val 4 (.int .i64 i70)⟩,
        ⟨[], [0], [], Fct.val 5 (.slice Al1 l1.length cl1)⟩,
        ⟨[1], [], [], Fct.val 6 (.int .i64 (l1.length : Int))⟩,
        ⟨[0, 2], [], [], Fct.val 7 (.bool (decide (i70 < (l1.length : Int))))⟩]) (by kernel_rfl) hz84 hd84 (fun _ h => nomatch h) ?_ ?_
    · refine steps_cons (fun own a wx hf hsl hE => ?_) ?_
      · obtain ⟨s_3, -⟩ := hsl
        exact sg_plain rfl rfl (or_move (s_3.trans e84_3))
      refine steps_cons (fun own a wx hf hsl hE => ?_) ?_
      · obtain ⟨s_0, -⟩ := hsl
        exact sg_plain rfl rfl (or_move (s_0.trans e84_0))
      refine steps_cons (fun own a wx hf hsl hE => ?_) ?_
      · obtain ⟨(f_5 : a.eval (.tmp 5) = .slice Al1 l1.length cl1), -⟩ := hf
        exact sg_plain rfl rfl (or_len tu24 f_5 rfl)
      refine steps_cons (fun own a wx hf hsl hE => ?_) ?_
      · obtain ⟨(f_4 : a.eval (.tmp 4) = .int .i64 i70), (f_6 : a.eval (.tmp 6) = .int .i64 (l1.length : Int)), -⟩ := hf
        exact sg_plain rfl rfl (or_lss f_4 f_6 rfl)
      exact steps_nil
    intro own86 a86 w86 hd86 hz86 hk86 hf86 hE86
    have e86_0 : a86.eval (.tmp 0) = .slice Al1 l1.length cl1 := (hk86 0 rfl).trans e84_0
    have e86_3 : a86.eval (.tmp 3) = .int .i64 i70 := (hk86 3 rfl).trans e84_3
    obtain ⟨(f_7 : a86.eval (.tmp 7) = .bool (decide (i70 < (l1.length : Int)))), -⟩ := hf86 [3] rfl
    have e86_7 := f_7
    have hX86 := Evo.step hE84 (fun _ => Nat.le_refl 0) hE86 rfl
    have b86_Al1 := RdO.evo rfl hE86 b84_Al1
    refine fl_cond e86_7 hs (fun c87 hs => ?_) (fun c87 hs => ?_)
    · refine fl_skip ?_
      refine hn85 _ _ ?_
      refine fl_seq (fun Q88 hn88 hp88 => ?_)
      refine fl_block (fun Q89 hn89 hx89 hp89 => ?_)
      obtain ⟨x90, hx90, hs⟩ := obind hs
      obtain ⟨r91, hr91, hs⟩ := obind hs
      refine rg_plain_seq (n := 16) (rs := []) (own0 := own86) (K := [])
          (bs := [0, 0, 3, 7, 15, 31])
          (ds := [⟨[], [0], [], Fct.val 10 (.slice Al1 l1.length cl1)⟩,
          ⟨[], [3], [], Fct.val 11 (.int .i64 i70)⟩,
          ⟨[0, 1], [], [], Fct.val 12 (.pointer (some ((adr Al1).add ((i70 : Int).toNat * R49.s))))⟩,
          ⟨[2], [], [], Fct.val 13 (.agg #[.int .i64 x90.1, .int .i64 x90.2])⟩,
          ⟨[3], [], [], Fct.val 14 (.bool r91)⟩,
          ⟨[4], [], [], Fct.val 15 (.bool (!r91))⟩]) (by kernel_rfl) hz86 hd86 (fun _ h => nomatch h) ?_ ?_
      · refine steps_cons (fun own a wx hf hsl hE => ?_) ?_
        · obtain ⟨s_0, -⟩ := hsl
          exact sg_plain rfl rfl (or_move (s_0.trans e86_0))
        refine steps_cons (fun own a wx hf hsl hE => ?_) ?_
        · obtain ⟨s_3, -⟩ := hsl
          exact sg_plain rfl rfl (or_move (s_3.trans e86_3))
        refine steps_cons (fun own a wx hf hsl hE => ?_) ?_
        · obtain ⟨(f_10 : a.eval (.tmp 10) = .slice Al1 l1.length cl1), (f_11 : a.eval (.tmp 11) = .int .i64 i70), -⟩ := hf
          exact sg_plain rfl rfl (or_index (R := R49) (l := l1) tl24 f_10 f_11 (RdO.some_ b86_Al1 hx90) hx90)
        refine steps_cons (fun own a wx hf hsl hE => ?_) ?_
        · obtain ⟨(f_12 : a.eval (.tmp 12) = .pointer (some ((adr Al1).add ((i70 : Int).toNat * R49.s)))), -⟩ := hf
          exact sg_plain rfl rfl (or_load (l := E49.f x90) ta49 f_12 (RdO.cells (F := E49) (RdO.evo rfl hE b86_Al1) hx90) rfl)
        refine steps_cons (fun own a wx hf hsl hE => ?_) ?_
        · obtain ⟨(f_13 : a.eval (.tmp 13) = .agg #[.int .i64 x90.1, .int .i64 x90.2]), -⟩ := hf
          exact sg_plain rfl rfl (or_call cf32 (args1 f_13) (ref01_May_w _ x90  r91 hr91) post_val)
        refine steps_cons (fun own a wx hf hsl hE => ?_) ?_
        · obtain ⟨(f_14 : a.eval (.tmp 14) = .bool r91), -⟩ := hf
          exact sg_plain rfl rfl (or_not f_14 rfl)
        exact steps_nil
      intro own92 a92 w92 hd92 hz92 hk92 hf92 hE92
      have e92_0 : a92.eval (.tmp 0) = .slice Al1 l1.length cl1 := (hk92 0 rfl).trans e86_0
      have e92_3 : a92.eval (.tmp 3) = .int .i64 i70 := (hk92 3 rfl).trans e86_3
      obtain ⟨(f_15 : a92.eval (.tmp 15) = .bool (!r91)), -⟩ := hf92 [5] rfl
      have e92_15 := f_15
      have hX92 := Evo.step hX86 (fun _ => Nat.le_refl 0) hE92 rfl
      have b92_Al1 := RdO.evo rfl hE92 b86_Al1
      refine fl_cond e92_15 hs (fun c93 hs => ?_) (fun c93 hs => ?_)
      · refine rg_plain_seq (n := 16) (rs := []) (own0 := own92) (K := [])
            (bs := [0])
            (ds := [⟨[], [], [], Fct.val 2 (.bool false)⟩]) (by kernel_rfl) hz92 hd92 (fun _ h => nomatch h) ?_ ?_
        · refine steps_cons (fun own a wx hf hsl hE => ?_) ?_
          · exact sg_plain rfl rfl (or_assign rfl)
          exact steps_nil
        intro own94 a94 w94 hd94 hz94 hk94 hf94 hE94
        obtain ⟨(f_2 : a94.eval (.tmp 2) = .bool false), -⟩ := hf94 [0] rfl
        have e94_2 := f_2
        have hX94 := Evo.step hX92 (fun _ => Nat.le_refl 0) hE94 rfl
        refine fl_ret ?_
        refine hp89 _ _ _ rfl ?_
        refine hp88 _ _ _ rfl ?_
        replace hs := hz83 _ hs
        refine hp83 _ _ _ rfl ?_
        refine hp57 _ _ _ rfl ?_
        refine hp55 _ _ _ rfl ?_
        obtain rfl := osome hs
        exact hret _ _ _ _ (.inl rfl) hd94 (results1_ rfl (RVal.tmp_ e94_2)) ⟨own94, rfl, hX94⟩
      refine fl_skip ?_
      refine hn89 _ _ ?_
      refine hn88 _ _ ?_
      refine rg_plain (n := 16) (rs := []) (own0 := own92) (K := [])
          (bs := [0, 1, 3])
          (ds := [⟨[], [3], [], Fct.val 8 (.int .i64 i70)⟩,
          ⟨[0], [], [], Fct.val 9 (.int .i64 (ad i70 1))⟩,
          ⟨[1], [], [], Fct.val 3 (.int .i64 (ad i70 1))⟩]) (by kernel_rfl) hz92 hd92 (fun _ h => nomatch h) ?_ ?_
      · refine steps_cons (fun own a wx hf hsl hE => ?_) ?_
        · obtain ⟨s_3, -⟩ := hsl
          exact sg_plain rfl rfl (or_move (s_3.trans e92_3))
        refine steps_cons (fun own a wx hf hsl hE => ?_) ?_
        · obtain ⟨(f_8 : a.eval (.tmp 8) = .int .i64 i70), -⟩ := hf
          exact sg_plain rfl rfl (or_add f_8 rfl rfl)
        refine steps_cons (fun own a wx hf hsl hE => ?_) ?_
        · obtain ⟨(f_9 : a.eval (.tmp 9) = .int .i64 (ad i70 1)), -⟩ := hf
          exact sg_plain rfl rfl (or_assign f_9)
        exact steps_nil
      intro own95 a95 w95 hd95 hz95 hk95 hf95 hE95
      have e95_0 : a95.eval (.tmp 0) = .slice Al1 l1.length cl1 := (hk95 0 rfl).trans e92_0
      obtain ⟨(f_3 : a95.eval (.tmp 3) = .int .i64 (ad i70 1)), -⟩ := hf95 [2] rfl
      have e95_3 := f_3
      have hX95 := Evo.step hX92 (fun _ => Nat.le_refl 0) hE95 rfl
      have b95_Al1 := RdO.evo rfl hE95 b92_Al1
      exact hn83 _ _ _ hs ⟨own95, hd95, hz95, e95_0, e95_3, hX95, b95_Al1⟩
    refine fl_exit ?_
    refine hp85 _ _ _ rfl ?_
    replace hs := hz83 _ hs
    refine hp83 _ _ _ rfl ?_
    refine hx57 _ _ ?_
    refine hn55 _ _ ?_
    refine rg_plain_seq (n := 16) (rs := []) (own0 := own86) (K := [])
        (bs := [0])
        (ds := [⟨[], [], [], Fct.val 2 (.bool true)⟩]) (by kernel_rfl) hz86 hd86 (fun _ h => nomatch h) ?_ ?_
    · refine steps_cons (fun own a wx hf hsl hE => ?_) ?_
      · exact sg_plain rfl rfl (or_assign rfl)
      exact steps_nil
    intro own96 a96 w96 hd96 hz96 hk96 hf96 hE96
    obtain ⟨(f_2 : a96.eval (.tmp 2) = .bool true), -⟩ := hf96 [0] rfl
    have e96_2 := f_2
    have hX96 := Evo.step hX86 (fun _ => Nat.le_refl 0) hE96 rfl
    refine fl_ret ?_
    obtain rfl := osome hs
    exact hret _ _ _ _ (.inl rfl) hd96 (results1_ rfl (RVal.tmp_ e96_2)) ⟨own96, rfl, hX96⟩

theorem ref03_Area_w (w : World) (l1 : List (Int × Int)) (Al1 : Option Addr) (cl1 : Nat) (hl1 : RdO (fun _ => 0) [0] w R49 Al1 cl1 l1) (r : Int) (hs : ref03_Area l1 = some r) :
    Calls Try.prog 11 #[.slice Al1 l1.length cl1] w fun e w' => ∃ own' : Own, e = .returned (.int .i64 r) ∧ Evo [] (fun _ => 0) own' w w' := by
  refine fl_enter (n := 39) rfl rfl rfl (Nat.le_of_ble_eq_true rfl) ?_
  intro a0 Q hd0 hz0 harg hret
  have ha0 := harg 0 _ rfl
  clear harg
  have hE0 : Evo [] (fun _ => 0) (fun _ => 0) w w := Evo.refl _ _ _
  refine rg_plain_seq (n := 39) (rs := []) (own0 := (fun _ => 0)) (K := [])
      (bs := [0])
      (ds := [⟨[], [], [], Fct.val 2 (.int .i64 0)⟩]) (by kernel_rfl) hz0 hd0 (fun _ h => nomatch h) ?_ ?_
  · refine steps_cons (fun own a wx hf hsl hE => ?_) ?_
    · exact sg_plain rfl rfl (or_assign rfl)
    exact steps_nil
  intro own77 a77 w77 hd77 hz77 hk77 hf77 hE77
  have e77_0 : a77.eval (.tmp 0) = .slice Al1 l1.length cl1 := (hk77 0 rfl).trans ha0
  have hX77 := Evo.step hE0 (fun _ => Nat.le_refl 0) hE77 rfl
  have b77_Al1 := RdO.evo rfl hE77 hl1
  refine rg_plain_seq (n := 39) (rs := []) (own0 := own77) (K := [])
      (bs := [0])
      (ds := [⟨[], [], [], Fct.val 3 (.int .i64 0)⟩]) (by kernel_rfl) hz77 hd77 (fun _ h => nomatch h) ?_ ?_
  · refine steps_cons (fun own a wx hf hsl hE => ?_) ?_
    · exact sg_plain rfl rfl (or_assign rfl)
    exact steps_nil
  intro own78 a78 w78 hd78 hz78 hk78 hf78 hE78
  have e78_0 : a78.eval (.tmp 0) = .slice Al1 l1.length cl1 := (hk78 0 rfl).trans e77_0
  obtain ⟨(f_3 : a78.eval (.tmp 3) = .int .i64 0), -⟩ := hf78 [0] rfl
  have e78_3 := f_3
  have hX78 := Evo.step hX77 (fun _ => Nat.le_refl 0) hE78 rfl
  have b78_Al1 := RdO.evo rfl hE78 b77_Al1
  refine fl_seq (fun Q79 hn79 hp79 => ?_)
  refine rg_plain_seq (n := 39) (rs := []) (own0 := own78) (K := [])
      (bs := [0])
      (ds := [⟨[], [], [], Fct.val 4 (.int .i64 0)⟩]) (by kernel_rfl) hz78 hd78 (fun _ h => nomatch h) ?_ ?_
  · refine steps_cons (fun own a wx hf hsl hE => ?_) ?_
    · exact sg_plain rfl rfl (or_assign rfl)
    exact steps_nil
  intro own80 a80 w80 hd80 hz80 hk80 hf80 hE80
  have e80_0 : a80.eval (.tmp 0) = .slice Al1 l1.length cl1 := (hk80 0 rfl).trans e78_0
  have e80_3 : a80.eval (.tmp 3) = .int .i64 0 := (hk80 3 rfl).trans e78_3
  obtain ⟨(f_4 : a80.eval (.tmp 4) = .int .i64 0), -⟩ := hf80 [0] rfl
  have e80_4 := f_4
  have hX80 := Evo.step hX78 (fun _ => Nat.le_refl 0) hE80 rfl
  have b80_Al1 := RdO.evo rfl hE80 b78_Al1
  refine fl_block (fun Q81 hn81 hx81 hp81 => ?_)
  refine fl_loop (body := (fun s => ref03_Area_b1 l1 s.1 s.2)) (z := r) (show loopO _ _ = _ from hs) (fun (s : Int × Int) a wx => match s with | (n101, i102) => ∃ (ox : Own), a.defers = [] ∧ a.tmps.size = 39 ∧ a.eval (.tmp 0) = .slice Al1 l1.length cl1 ∧ a.eval (.tmp 3) = .int .i64 n101 ∧ a.eval (.tmp 4) = .int .i64 i102 ∧ Evo [] (fun _ => 0) ox w wx ∧ RdO ox [0] wx R49 Al1 cl1 l1) ?_ ?_
  · exact ⟨own80, hd80, hz80, e80_0, e80_3, e80_4, hX80, b80_Al1⟩
  · rintro ⟨n101, i102⟩ zz122 a122 w122 ⟨own122, hd123, hz123, e123_0, e123_3, e123_4, hE123, b123_Al1⟩ hs Q122 hn122 hp122 hz122
    have hs : ref03_Area_b1 l1 n101 i102 = some zz122 := hs
    refine fl_seq (fun Q124 hn124 hp124 => ?_)
    refine rg_plain_seq (n := 39) (rs := []) (own0 := own122) (K := [])
        (bs := [0, 0, 2, 7])
        (ds := [⟨[], [4], [], Fct.val 7 (.int .i64 i102)⟩,
        ⟨[], [0], [], Fct.val 8 (.slice Al1 l1.length cl1)⟩,
        ⟨[1], [], [], Fct.val 9 (.int .i64 (l1.length : Int))⟩,
        ⟨[0, 2], [], [], Fct.val 10 (.bool (decide (i102 < (l1.length : Int))))⟩]) (by kernel_rfl) hz123 hd123 (fun _ h => nomatch h) ?_ ?_
    · refine steps_cons (fun own a wx hf hsl hE => ?_) ?_
      · obtain ⟨s_4, -⟩ := hsl
        exact sg_plain rfl rfl (or_move (s_4.trans e123_4))
      refine steps_cons (fun own a wx hf hsl hE => ?_) ?_
      · obtain ⟨s_0, -⟩ := hsl
        exact sg_plain rfl rfl (or_move (s_0.trans e123_0))
      refine steps_cons (fun own a wx hf hsl hE => ?_) ?_
      · obtain ⟨(f_8 : a.eval (.tmp 8) = .slice Al1 l1.length cl1), -⟩ := hf
        exact sg_plain rfl rfl (or_len tu24 f_8 rfl)
      refine steps_cons (fun own a wx hf hsl hE => ?_) ?_
      · obtain ⟨(f_7 : a.eval (.tmp 7) = .int .i64 i102), (f_9 : a.eval (.tmp 9) = .int .i64 (l1.length : Int)), -⟩ := hf
        exact sg_plain rfl rfl (or_lss f_7 f_9 rfl)
      exact steps_nil
    intro own125 a125 w125 hd125 hz125 hk125 hf125 hE125
    have e125_0 : a125.eval (.tmp 0) = .slice Al1 l1.length cl1 := (hk125 0 rfl).trans e123_0
    have e125_3 : a125.eval (.tmp 3) = .int .i64 n101 := (hk125 3 rfl).trans e123_3
    have e125_4 : a125.eval (.tmp 4) = .int .i64 i102 := (hk125 4 rfl).trans e123_4
    obtain ⟨(f_10 : a125.eval (.tmp 10) = .bool (decide (i102 < (l1.length : Int)))), -⟩ := hf125 [3] rfl
    have e125_10 := f_10
    have hX125 := Evo.step hE123 (fun _ => Nat.le_refl 0) hE125 rfl
    have b125_Al1 := RdO.evo rfl hE125 b123_Al1
    refine fl_cond e125_10 hs (fun c126 hs => ?_) (fun c126 hs => ?_)
    · refine fl_skip ?_
      refine hn124 _ _ ?_
      refine fl_seq (fun Q127 hn127 hp127 => ?_)
      refine fl_block (fun Q128 hn128 hx128 hp128 => ?_)
      obtain ⟨x129, hx129, hs⟩ := obind hs
      obtain ⟨x130, hx130, hs⟩ := obind hs
      obtain ⟨x131, hx131, hs⟩ := obind hs
      refine rg_draw_seq g_mixed (n := 39) (rs := []) (own0 := own125) (K := [133, 135])
          (bs := [0, 0, 3, 7, 0, 0, 32, 0, 128, 480, 1008, 2032, 0, 0, 12303, 32767])
          (ds := [⟨[], [0], [], Fct.val 13 (.slice Al1 l1.length cl1)⟩,
          ⟨[], [4], [], Fct.val 14 (.int .i64 i102)⟩,
          ⟨[0, 1], [], [], Fct.val 15 (.pointer (some ((adr Al1).add ((i102 : Int).toNat * R49.s))))⟩,
          ⟨[2], [], [], Fct.val 16 (.agg #[.int .i64 x129.1, .int .i64 x129.2])⟩,
          ⟨[], [0], [], Fct.val 17 (.slice Al1 l1.length cl1)⟩,
          ⟨[], [4], [], Fct.val 18 (.int .i64 i102)⟩,
          ⟨[5], [], [], Fct.val 19 (.int .i64 (ad i102 1))⟩,
          ⟨[], [0], [], Fct.val 20 (.slice Al1 l1.length cl1)⟩,
          ⟨[7], [], [], Fct.val 21 (.int .i64 (l1.length : Int))⟩,
          ⟨[6, 8], [], [], Fct.val 22 (.int .i64 x130)⟩,
          ⟨[4, 9], [], [], Fct.val 23 (.pointer (some ((adr Al1).add ((x130 : Int).toNat * R49.s))))⟩,
          ⟨[10], [], [], Fct.val 24 (.agg #[.int .i64 x131.1, .int .i64 x131.2])⟩,
          ⟨[], [], [], Fct.blk 133 5 (fun g => .pointer (some ⟨g, 0, none⟩)) 49 #[.int .i64 0, .int .i64 0]⟩,
          ⟨[], [], [], Fct.blk 135 6 (fun g => .pointer (some ⟨g, 0, none⟩)) 49 #[.int .i64 0, .int .i64 0]⟩,
          ⟨[12, 3], [], [133], Fct.blk 136 5 (fun g => .pointer (some ⟨g, 0, none⟩)) 49 #[.int .i64 x129.1, .int .i64 x129.2]⟩,
          ⟨[13, 11], [], [135], Fct.blk 137 6 (fun g => .pointer (some ⟨g, 0, none⟩)) 49 #[.int .i64 x131.1, .int .i64 x131.2]⟩]) (by kernel_rfl) hz125 hd125 (fun _ h => nomatch h) ?_ ?_
      · refine steps_cons (fun own a wx hf hsl hE => ?_) ?_
        · obtain ⟨s_0, -⟩ := hsl
          exact sg_plain rfl rfl (or_move (s_0.trans e125_0))
        refine steps_cons (fun own a wx hf hsl hE => ?_) ?_
        · obtain ⟨s_4, -⟩ := hsl
          exact sg_plain rfl rfl (or_move (s_4.trans e125_4))
        refine steps_cons (fun own a wx hf hsl hE => ?_) ?_
        · obtain ⟨(f_13 : a.eval (.tmp 13) = .slice Al1 l1.length cl1), (f_14 : a.eval (.tmp 14) = .int .i64 i102), -⟩ := hf
          exact sg_plain rfl rfl (or_index (R := R49) (l := l1) tl24 f_13 f_14 (RdO.some_ b125_Al1 hx129) hx129)
        refine steps_cons (fun own a wx hf hsl hE => ?_) ?_
        · obtain ⟨(f_15 : a.eval (.tmp 15) = .pointer (some ((adr Al1).add ((i102 : Int).toNat * R49.s)))), -⟩ := hf
          exact sg_plain rfl rfl (or_load (l := E49.f x129) ta49 f_15 (RdO.cells (F := E49) (RdO.evo rfl hE b125_Al1) hx129) rfl)
        refine steps_cons (fun own a wx hf hsl hE => ?_) ?_
        · obtain ⟨s_0, -⟩ := hsl
          exact sg_plain rfl rfl (or_move (s_0.trans e125_0))
        refine steps_cons (fun own a wx hf hsl hE => ?_) ?_
        · obtain ⟨s_4, -⟩ := hsl
          exact sg_plain rfl rfl (or_move (s_4.trans e125_4))
        refine steps_cons (fun own a wx hf hsl hE => ?_) ?_
        · obtain ⟨(f_18 : a.eval (.tmp 18) = .int .i64 i102), -⟩ := hf
          exact sg_plain rfl rfl (or_add f_18 rfl rfl)
        refine steps_cons (fun own a wx hf hsl hE => ?_) ?_
        · obtain ⟨s_0, -⟩ := hsl
          exact sg_plain rfl rfl (or_move (s_0.trans e125_0))
        refine steps_cons (fun own a wx hf hsl hE => ?_) ?_
        · obtain ⟨(f_20 : a.eval (.tmp 20) = .slice Al1 l1.length cl1), -⟩ := hf
          exact sg_plain rfl rfl (or_len tu24 f_20 rfl)
        refine steps_cons (fun own a wx hf hsl hE => ?_) ?_
        · obtain ⟨(f_19 : a.eval (.tmp 19) = .int .i64 (ad i102 1)), (f_21 : a.eval (.tmp 21) = .int .i64 (l1.length : Int)), -⟩ := hf
          exact sg_plain rfl rfl (or_rem f_19 f_21 hx130)
        refine steps_cons (fun own a wx hf hsl hE => ?_) ?_
        · obtain ⟨(f_17 : a.eval (.tmp 17) = .slice Al1 l1.length cl1), (f_22 : a.eval (.tmp 22) = .int .i64 x130), -⟩ := hf
          exact sg_plain rfl rfl (or_index (R := R49) (l := l1) tl24 f_17 f_22 (RdO.some_ b125_Al1 hx131) hx131)
        refine steps_cons (fun own a wx hf hsl hE => ?_) ?_
        · obtain ⟨(f_23 : a.eval (.tmp 23) = .pointer (some ((adr Al1).add ((x130 : Int).toNat * R49.s)))), -⟩ := hf
          exact sg_plain rfl rfl (or_load (l := E49.f x131) ta49 f_23 (RdO.cells (F := E49) (RdO.evo rfl hE b125_Al1) hx131) rfl)
        refine steps_cons (fun own a wx hf hsl hE => ?_) ?_
        · exact sg_plain rfl rfl (or_new [] rfl rfl trivial (by kernel_rfl))
        refine steps_cons (fun own a wx hf hsl hE => ?_) ?_
        · exact sg_plain rfl rfl (or_new [] rfl rfl trivial (by kernel_rfl))
        refine steps_cons (fun own a wx hf hsl hE => ?_) ?_
        · obtain ⟨⟨g132, (f_5 : a.eval (.tmp 5) = .pointer (some ⟨g132, 0, none⟩)), (b_g132 : BlkO own 133 wx g132 49 #[.int .i64 0, .int .i64 0])⟩, (f_16 : a.eval (.tmp 16) = .agg #[.int .i64 x129.1, .int .i64 x129.2]), -⟩ := hf
          exact sg_plain rfl rfl (or_store (l := #[.int .i64 x129.1, .int .i64 x129.2]) (lab := 133) (lab2 := 136) ts49 f_5 f_16 b_g132 (by simp) (by kernel_rfl) (mem_of rfl) (by decide) (by kernel_rfl) (fun own' a' w' ha hb => ⟨_, (ha 5).trans f_5, hb⟩))
        refine steps_cons (fun own a wx hf hsl hE => ?_) ?_
        · obtain ⟨⟨g134, (f_6 : a.eval (.tmp 6) = .pointer (some ⟨g134, 0, none⟩)), (b_g134 : BlkO own 135 wx g134 49 #[.int .i64 0, .int .i64 0])⟩, (f_24 : a.eval (.tmp 24) = .agg #[.int .i64 x131.1, .int .i64 x131.2]), -⟩ := hf
          exact sg_plain rfl rfl (or_store (l := #[.int .i64 x131.1, .int .i64 x131.2]) (lab := 135) (lab2 := 137) ts49 f_6 f_24 b_g134 (by simp) (by kernel_rfl) (mem_of rfl) (by decide) (by kernel_rfl) (fun own' a' w' ha hb => ⟨_, (ha 6).trans f_6, hb⟩))
        exact steps_nil
      intro own138 a138 w138 hd138 hz138 hk138 hf138 hE138
      have e138_0 : a138.eval (.tmp 0) = .slice Al1 l1.length cl1 := (hk138 0 rfl).trans e125_0
      have e138_3 : a138.eval (.tmp 3) = .int .i64 n101 := (hk138 3 rfl).trans e125_3
      have e138_4 : a138.eval (.tmp 4) = .int .i64 i102 := (hk138 4 rfl).trans e125_4
      obtain ⟨⟨g132, (f_5 : a138.eval (.tmp 5) = .pointer (some ⟨g132, 0, none⟩)), (b_g132 : BlkO own138 136 w138 g132 49 #[.int .i64 x129.1, .int .i64 x129.2])⟩, ⟨g134, (f_6 : a138.eval (.tmp 6) = .pointer (some ⟨g134, 0, none⟩)), (b_g134 : BlkO own138 137 w138 g134 49 #[.int .i64 x131.1, .int .i64 x131.2])⟩, -⟩ := hf138 [14, 15] rfl
      have e138_5 := f_5
      have e138_6 := f_6
      have hX138 := Evo.step hX125 (fun _ => Nat.le_refl 0) hE138 rfl
      have b138_Al1 := RdO.evo rfl hE138 b125_Al1
      have b138_g132 := b_g132
      have b138_g134 := b_g134
      obtain ⟨x139, hx139, hs⟩ := obind hs
      refine rg_plain (n := 39) (rs := []) (own0 := own138) (K := [])
          (bs := [0, 0, 2, 0, 8, 30, 63, 0, 128, 0, 512, 1920, 4095, 8191])
          (ds := [⟨[], [3], [], Fct.val 25 (.int .i64 n101)⟩,
          ⟨[], [5], [], Fct.val 26 (.pointer (some ⟨g132, 0, none⟩))⟩,
          ⟨[1], [], [], Fct.val 27 (.int .i64 x129.1)⟩,
          ⟨[], [6], [], Fct.val 28 (.pointer (some ⟨g134, 1, none⟩))⟩,
          ⟨[3], [], [], Fct.val 29 (.int .i64 x131.2)⟩,
          ⟨[2, 4], [], [], Fct.val 30 (.int .i64 (ml x129.1 x131.2))⟩,
          ⟨[0, 5], [], [], Fct.val 31 (.int .i64 (ad n101 (ml x129.1 x131.2)))⟩,
          ⟨[], [6], [], Fct.val 32 (.pointer (some ⟨g134, 0, none⟩))⟩,
          ⟨[7], [], [], Fct.val 33 (.int .i64 x131.1)⟩,
          ⟨[], [5], [], Fct.val 34 (.pointer (some ⟨g132, 1, none⟩))⟩,
          ⟨[9], [], [], Fct.val 35 (.int .i64 x129.2)⟩,
          ⟨[8, 10], [], [], Fct.val 36 (.int .i64 (ml x131.1 x129.2))⟩,
          ⟨[6, 11], [], [], Fct.val 37 (.int .i64 x139)⟩,
          ⟨[12], [], [], Fct.val 3 (.int .i64 x139)⟩]) (by kernel_rfl) hz138 hd138 (fun _ h => nomatch h) ?_ ?_
      · refine steps_cons (fun own a wx hf hsl hE => ?_) ?_
        · obtain ⟨s_3, -⟩ := hsl
          exact sg_plain rfl rfl (or_move (s_3.trans e138_3))
        refine steps_cons (fun own a wx hf hsl hE => ?_) ?_
        · obtain ⟨s_5, -⟩ := hsl
          exact sg_plain rfl rfl (or_field fo49_0 (s_5.trans e138_5) (by rfl))
        refine steps_cons (fun own a wx hf hsl hE => ?_) ?_
        · obtain ⟨(f_26 : a.eval (.tmp 26) = .pointer (some ⟨g132, 0, none⟩)), -⟩ := hf
          exact sg_plain rfl rfl (or_load1 to3 f_26 (Blk.at_ (BlkO.evo (by decide) hE b138_g132).2 0 rfl))
        refine steps_cons (fun own a wx hf hsl hE => ?_) ?_
        · obtain ⟨s_6, -⟩ := hsl
          exact sg_plain rfl rfl (or_field fo49_1 (s_6.trans e138_6) (by rfl))
        refine steps_cons (fun own a wx hf hsl hE => ?_) ?_
        · obtain ⟨(f_28 : a.eval (.tmp 28) = .pointer (some ⟨g134, 1, none⟩)), -⟩ := hf
          exact sg_plain rfl rfl (or_load1 to3 f_28 (Blk.at_ (BlkO.evo (by decide) hE b138_g134).2 1 rfl))
        refine steps_cons (fun own a wx hf hsl hE => ?_) ?_
        · obtain ⟨(f_27 : a.eval (.tmp 27) = .int .i64 x129.1), (f_29 : a.eval (.tmp 29) = .int .i64 x131.2), -⟩ := hf
          exact sg_plain rfl rfl (or_mul f_27 f_29 rfl)
        refine steps_cons (fun own a wx hf hsl hE => ?_) ?_
        · obtain ⟨(f_25 : a.eval (.tmp 25) = .int .i64 n101), (f_30 : a.eval (.tmp 30) = .int .i64 (ml x129.1 x131.2)), -⟩ := hf
          exact sg_plain rfl rfl (or_add f_25 f_30 rfl)
        refine steps_cons (fun own a wx hf hsl hE => ?_) ?_
        · obtain ⟨s_6, -⟩ := hsl
          exact sg_plain rfl rfl (or_field fo49_0 (s_6.trans e138_6) (by rfl))
        refine steps_cons (fun own a wx hf hsl hE => ?_) ?_
        · obtain ⟨(f_32 : a.eval (.tmp 32) = .pointer (some ⟨g134, 0, none⟩)), -⟩ := hf
          exact sg_plain rfl rfl (or_load1 to3 f_32 (Blk.at_ (BlkO.evo (by decide) hE b138_g134).2 0 rfl))
        refine steps_cons (fun own a wx hf hsl hE => ?_) ?_
        · obtain ⟨s_5, -⟩ := hsl
          exact sg_plain rfl rfl (or_field fo49_1 (s_5.trans e138_5) (by rfl))
        refine steps_cons (fun own a wx hf hsl hE => ?_) ?_
        · obtain ⟨(f_34 : a.eval (.tmp 34) = .pointer (some ⟨g132, 1, none⟩)), -⟩ := hf
          exact sg_plain rfl rfl (or_load1 to3 f_34 (Blk.at_ (BlkO.evo (by decide) hE b138_g132).2 1 rfl))
        refine steps_cons (fun own a wx hf hsl hE => ?_) ?_
        · obtain ⟨(f_33 : a.eval (.tmp 33) = .int .i64 x131.1), (f_35 : a.eval (.tmp 35) = .int .i64 x129.2), -⟩ := hf
          exact sg_plain rfl rfl (or_mul f_33 f_35 rfl)
        refine steps_cons (fun own a wx hf hsl hE => ?_) ?_
        · obtain ⟨(f_31 : a.eval (.tmp 31) = .int .i64 (ad n101 (ml x129.1 x131.2))), (f_36 : a.eval (.tmp 36) = .int .i64 (ml x131.1 x129.2)), -⟩ := hf
          exact sg_plain rfl rfl (or_sub f_31 f_36 (osome hx139).symm)
        refine steps_cons (fun own a wx hf hsl hE => ?_) ?_
        · obtain ⟨(f_37 : a.eval (.tmp 37) = .int .i64 x139), -⟩ := hf
          exact sg_plain rfl rfl (or_assign f_37)
        exact steps_nil
      intro own140 a140 w140 hd140 hz140 hk140 hf140 hE140
      have e140_0 : a140.eval (.tmp 0) = .slice Al1 l1.length cl1 := (hk140 0 rfl).trans e138_0
      have e140_4 : a140.eval (.tmp 4) = .int .i64 i102 := (hk140 4 rfl).trans e138_4
      obtain ⟨(f_3 : a140.eval (.tmp 3) = .int .i64 x139), -⟩ := hf140 [13] rfl
      have e140_3 := f_3
      have hX140 := Evo.step hX138 (fun _ => Nat.le_refl 0) hE140 rfl
      have b140_Al1 := RdO.evo rfl hE140 b138_Al1
      refine hn128 _ _ ?_
      refine hn127 _ _ ?_
      refine rg_plain (n := 39) (rs := []) (own0 := own140) (K := [])
          (bs := [0, 1, 3])
          (ds := [⟨[], [4], [], Fct.val 11 (.int .i64 i102)⟩,
          ⟨[0], [], [], Fct.val 12 (.int .i64 (ad i102 1))⟩,
          ⟨[1], [], [], Fct.val 4 (.int .i64 (ad i102 1))⟩]) (by kernel_rfl) hz140 hd140 (fun _ h => nomatch h) ?_ ?_
      · refine steps_cons (fun own a wx hf hsl hE => ?_) ?_
        · obtain ⟨s_4, -⟩ := hsl
          exact sg_plain rfl rfl (or_move (s_4.trans e140_4))
        refine steps_cons (fun own a wx hf hsl hE => ?_) ?_
        · obtain ⟨(f_11 : a.eval (.tmp 11) = .int .i64 i102), -⟩ := hf
          exact sg_plain rfl rfl (or_add f_11 rfl rfl)
        refine steps_cons (fun own a wx hf hsl hE => ?_) ?_
        · obtain ⟨(f_12 : a.eval (.tmp 12) = .int .i64 (ad i102 1)), -⟩ := hf
          exact sg_plain rfl rfl (or_assign f_12)
        exact steps_nil
      intro own141 a141 w141 hd141 hz141 hk141 hf141 hE141
      have e141_0 : a141.eval (.tmp 0) = .slice Al1 l1.length cl1 := (hk141 0 rfl).trans e140_0
      have e141_3 : a141.eval (.tmp 3) = .int .i64 x139 := (hk141 3 rfl).trans e140_3
      obtain ⟨(f_4 : a141.eval (.tmp 4) = .int .i64 (ad i102 1)), -⟩ := hf141 [2] rfl
      have e141_4 := f_4
      have hX141 := Evo.step hX140 (fun _ => Nat.le_refl 0) hE141 rfl
      have b141_Al1 := RdO.evo rfl hE141 b140_Al1
      exact hn122 _ _ _ hs ⟨own141, hd141, hz141, e141_0, e141_3, e141_4, hX141, b141_Al1⟩
    refine fl_exit ?_
    refine hp124 _ _ _ rfl ?_
    replace hs := hz122 _ hs
    refine hp122 _ _ _ rfl ?_
    refine hx81 _ _ ?_
    refine hn79 _ _ ?_
    refine rg_plain_seq (n := 39) (rs := []) (own0 := own125) (K := [])
        (bs := [0, 1])
        (ds := [⟨[], [3], [], Fct.val 38 (.int .i64 n101)⟩,
        ⟨[0], [], [], Fct.val 2 (.int .i64 n101)⟩]) (by kernel_rfl) hz125 hd125 (fun _ h => nomatch h) ?_ ?_
    · refine steps_cons (fun own a wx hf hsl hE => ?_) ?_
      · obtain ⟨s_3, -⟩ := hsl
        exact sg_plain rfl rfl (or_move (s_3.trans e125_3))
      refine steps_cons (fun own a wx hf hsl hE => ?_) ?_
      · obtain ⟨(f_38 : a.eval (.tmp 38) = .int .i64 n101), -⟩ := hf
        exact sg_plain rfl rfl (or_assign f_38)
      exact steps_nil
    intro own142 a142 w142 hd142 hz142 hk142 hf142 hE142
    obtain ⟨(f_2 : a142.eval (.tmp 2) = .int .i64 n101), -⟩ := hf142 [1] rfl
    have e142_2 := f_2
    have hX142 := Evo.step hX125 (fun _ => Nat.le_refl 0) hE142 rfl
    refine fl_ret ?_
    obtain rfl := (osome hs).symm
    exact hret _ _ _ _ (.inl rfl) hd142 (results1_ rfl (RVal.tmp_ e142_2)) ⟨own142, rfl, hX142⟩

theorem ref01_Cross_w (w : World) (x1 : Int × Int) (b2 : Int × Int) (c3 : Int × Int) (r : Int) (hs : ref01_Cross x1 b2 c3 = some r) :
    Calls Try.prog 59 #[.agg #[.int .i64 x1.1, .int .i64 x1.2], .agg #[.int .i64 b2.1, .int .i64 b2.2], .agg #[.int .i64 c3.1, .int .i64 c3.2]] w fun e w' => ∃ own' : Own, e = .returned (.int .i64 r) ∧ Evo [] (fun _ => 0) own' w w' := by
  refine fl_enter (n := 42) rfl rfl rfl (Nat.le_of_ble_eq_true rfl) ?_
  intro a0 Q hd0 hz0 harg hret
  have ha0 := harg 0 _ rfl
  have ha1 := harg 1 _ rfl
  have ha2 := harg 2 _ rfl
  clear harg
  have hE0 : Evo [] (fun _ => 0) (fun _ => 0) w w := Evo.refl _ _ _
  refine rg_plain_seq (n := 42) (rs := []) (own0 := (fun _ => 0)) (K := [])
      (bs := [0, 0, 0, 0])
      (ds := [⟨[], [0], [], Fct.blk 22 3 (fun g => .pointer (some ⟨g, 0, none⟩)) 49 #[.int .i64 x1.1, .int .i64 x1.2]⟩,
      ⟨[], [1], [], Fct.blk 24 4 (fun g => .pointer (some ⟨g, 0, none⟩)) 49 #[.int .i64 b2.1, .int .i64 b2.2]⟩,
      ⟨[], [2], [], Fct.blk 26 5 (fun g => .pointer (some ⟨g, 0, none⟩)) 49 #[.int .i64 c3.1, .int .i64 c3.2]⟩,
      ⟨[], [], [], Fct.val 6 (.int .i64 0)⟩]) (by kernel_rfl) hz0 hd0 (fun _ h => nomatch h) ?_ ?_
  · refine steps_cons (fun own a wx hf hsl hE => ?_) ?_
    · obtain ⟨s_0, -⟩ := hsl
      exact sg_plain rfl rfl (or_new [(0, .agg #[.int .i64 x1.1, .int .i64 x1.2])] rfl rfl ⟨(s_0.trans ha0), trivial⟩ (by kernel_rfl))
    refine steps_cons (fun own a wx hf hsl hE => ?_) ?_
    · obtain ⟨s_1, -⟩ := hsl
      exact sg_plain rfl rfl (or_new [(1, .agg #[.int .i64 b2.1, .int .i64 b2.2])] rfl rfl ⟨(s_1.trans ha1), trivial⟩ (by kernel_rfl))
    refine steps_cons (fun own a wx hf hsl hE => ?_) ?_
    · obtain ⟨s_2, -⟩ := hsl
      exact sg_plain rfl rfl (or_new [(2, .agg #[.int .i64 c3.1, .int .i64 c3.2])] rfl rfl ⟨(s_2.trans ha2), trivial⟩ (by kernel_rfl))
    refine steps_cons (fun own a wx hf hsl hE => ?_) ?_
    · exact sg_plain rfl rfl (or_assign rfl)
    exact steps_nil
  intro own27 a27 w27 hd27 hz27 hk27 hf27 hE27
  obtain ⟨⟨g21, (f_3 : a27.eval (.tmp 3) = .pointer (some ⟨g21, 0, none⟩)), (b_g21 : BlkO own27 22 w27 g21 49 #[.int .i64 x1.1, .int .i64 x1.2])⟩, ⟨g23, (f_4 : a27.eval (.tmp 4) = .pointer (some ⟨g23, 0, none⟩)), (b_g23 : BlkO own27 24 w27 g23 49 #[.int .i64 b2.1, .int .i64 b2.2])⟩, ⟨g25, (f_5 : a27.eval (.tmp 5) = .pointer (some ⟨g25, 0, none⟩)), (b_g25 : BlkO own27 26 w27 g25 49 #[.int .i64 c3.1, .int .i64 c3.2])⟩, -⟩ := hf27 [0, 1, 2] rfl
  have e27_3 := f_3
  have e27_4 := f_4
  have e27_5 := f_5
  have hX27 := Evo.step hE0 (fun _ => Nat.le_refl 0) hE27 rfl
  have b27_g21 := b_g21
  have b27_g23 := b_g23
  have b27_g25 := b_g25
  obtain ⟨x28, hx28, hs⟩ := obind hs
  obtain ⟨x29, hx29, hs⟩ := obind hs
  refine rg_plain_seq (n := 42) (rs := []) (own0 := own27) (K := [])
      (bs := [0, 1, 0, 4, 15, 0, 32, 0, 128, 480, 1023, 0, 2048, 0, 8192, 30720, 65535, 0, 131072, 0, 524288, 1966080, 4194303, 0, 8388608, 0, 33554432, 125829120, 268435455, 0, 536870912, 0, 2147483648, 8053063680, 17179869183, 34359738367])
      (ds := [⟨[], [3], [], Fct.val 7 (.pointer (some ⟨g21, 0, none⟩))⟩,
      ⟨[0], [], [], Fct.val 8 (.int .i64 x1.1)⟩,
      ⟨[], [4], [], Fct.val 9 (.pointer (some ⟨g23, 1, none⟩))⟩,
      ⟨[2], [], [], Fct.val 10 (.int .i64 b2.2)⟩,
      ⟨[1, 3], [], [], Fct.val 11 (.int .i64 (ml x1.1 b2.2))⟩,
      ⟨[], [4], [], Fct.val 12 (.pointer (some ⟨g23, 0, none⟩))⟩,
      ⟨[5], [], [], Fct.val 13 (.int .i64 b2.1)⟩,
      ⟨[], [3], [], Fct.val 14 (.pointer (some ⟨g21, 1, none⟩))⟩,
      ⟨[7], [], [], Fct.val 15 (.int .i64 x1.2)⟩,
      ⟨[6, 8], [], [], Fct.val 16 (.int .i64 (ml b2.1 x1.2))⟩,
      ⟨[4, 9], [], [], Fct.val 17 (.int .i64 (sb (ml x1.1 b2.2) (ml b2.1 x1.2)))⟩,
      ⟨[], [4], [], Fct.val 18 (.pointer (some ⟨g23, 0, none⟩))⟩,
      ⟨[11], [], [], Fct.val 19 (.int .i64 b2.1)⟩,
      ⟨[], [5], [], Fct.val 20 (.pointer (some ⟨g25, 1, none⟩))⟩,
      ⟨[13], [], [], Fct.val 21 (.int .i64 c3.2)⟩,
      ⟨[12, 14], [], [], Fct.val 22 (.int .i64 (ml b2.1 c3.2))⟩,
      ⟨[10, 15], [], [], Fct.val 23 (.int .i64 x28)⟩,
      ⟨[], [5], [], Fct.val 24 (.pointer (some ⟨g25, 0, none⟩))⟩,
      ⟨[17], [], [], Fct.val 25 (.int .i64 c3.1)⟩,
      ⟨[], [4], [], Fct.val 26 (.pointer (some ⟨g23, 1, none⟩))⟩,
      ⟨[19], [], [], Fct.val 27 (.int .i64 b2.2)⟩,
      ⟨[18, 20], [], [], Fct.val 28 (.int .i64 (ml c3.1 b2.2))⟩,
      ⟨[16, 21], [], [], Fct.val 29 (.int .i64 (sb x28 (ml c3.1 b2.2)))⟩,
      ⟨[], [5], [], Fct.val 30 (.pointer (some ⟨g25, 0, none⟩))⟩,
      ⟨[23], [], [], Fct.val 31 (.int .i64 c3.1)⟩,
      ⟨[], [3], [], Fct.val 32 (.pointer (some ⟨g21, 1, none⟩))⟩,
      ⟨[25], [], [], Fct.val 33 (.int .i64 x1.2)⟩,
      ⟨[24, 26], [], [], Fct.val 34 (.int .i64 (ml c3.1 x1.2))⟩,
      ⟨[22, 27], [], [], Fct.val 35 (.int .i64 x29)⟩,
      ⟨[], [3], [], Fct.val 36 (.pointer (some ⟨g21, 0, none⟩))⟩,
      ⟨[29], [], [], Fct.val 37 (.int .i64 x1.1)⟩,
      ⟨[], [5], [], Fct.val 38 (.pointer (some ⟨g25, 1, none⟩))⟩,
      ⟨[31], [], [], Fct.val 39 (.int .i64 c3.2)⟩,
      ⟨[30, 32], [], [], Fct.val 40 (.int .i64 (ml x1.1 c3.2))⟩,
      ⟨[28, 33], [], [], Fct.val 41 (.int .i64 (sb x29 (ml x1.1 c3.2)))⟩,
      ⟨[34], [], [], Fct.val 6 (.int .i64 (sb x29 (ml x1.1 c3.2)))⟩]) (by kernel_rfl) hz27 hd27 (fun _ h => nomatch h) ?_ ?_
  · refine steps_cons (fun own a wx hf hsl hE => ?_) ?_
    · obtain ⟨s_3, -⟩ := hsl
      exact sg_plain rfl rfl (or_field fo49_0 (s_3.trans e27_3) (by rfl))
    refine steps_cons (fun own a wx hf hsl hE => ?_) ?_
    · obtain ⟨(f_7 : a.eval (.tmp 7) = .pointer (some ⟨g21, 0, none⟩)), -⟩ := hf
      exact sg_plain rfl rfl (or_load1 to3 f_7 (Blk.at_ (BlkO.evo (by decide) hE b27_g21).2 0 rfl))
    refine steps_cons (fun own a wx hf hsl hE => ?_) ?_
    · obtain ⟨s_4, -⟩ := hsl
      exact sg_plain rfl rfl (or_field fo49_1 (s_4.trans e27_4) (by rfl))
    refine steps_cons (fun own a wx hf hsl hE => ?_) ?_
    · obtain ⟨(f_9 : a.eval (.tmp 9) = .pointer (some ⟨g23, 1, none⟩)), -⟩ := hf
      exact sg_plain rfl rfl (or_load1 to3 f_9 (Blk.at_ (BlkO.evo (by decide) hE b27_g23).2 1 rfl))
    refine steps_cons (fun own a wx hf hsl hE => ?_) ?_
    · obtain ⟨(f_8 : a.eval (.tmp 8) = .int .i64 x1.1), (f_10 : a.eval (.tmp 10) = .int .i64 b2.2), -⟩ := hf
      exact sg_plain rfl rfl (or_mul f_8 f_10 rfl)
    refine steps_cons (fun own a wx hf hsl hE => ?_) ?_
    · obtain ⟨s_4, -⟩ := hsl
      exact sg_plain rfl rfl (or_field fo49_0 (s_4.trans e27_4) (by rfl))
    refine steps_cons (fun own a wx hf hsl hE => ?_) ?_
    · obtain ⟨(f_12 : a.eval (.tmp 12) = .pointer (some ⟨g23, 0, none⟩)), -⟩ := hf
      exact sg_plain rfl rfl (or_load1 to3 f_12 (Blk.at_ (BlkO.evo (by decide) hE b27_g23).2 0 rfl))
    refine steps_cons (fun own a wx hf hsl hE => ?_) ?_
    · obtain ⟨s_3, -⟩ := hsl
      exact sg_plain rfl rfl (or_field fo49_1 (s_3.trans e27_3) (by rfl))
    refine steps_cons (fun own a wx hf hsl hE => ?_) ?_
    · obtain ⟨(f_14 : a.eval (.tmp 14) = .pointer (some ⟨g21, 1, none⟩)), -⟩ := hf
      exact sg_plain rfl rfl (or_load1 to3 f_14 (Blk.at_ (BlkO.evo (by decide) hE b27_g21).2 1 rfl))
    refine steps_cons (fun own a wx hf hsl hE => ?_) ?_
    · obtain ⟨(f_13 : a.eval (.tmp 13) = .int .i64 b2.1), (f_15 : a.eval (.tmp 15) = .int .i64 x1.2), -⟩ := hf
      exact sg_plain rfl rfl (or_mul f_13 f_15 rfl)
    refine steps_cons (fun own a wx hf hsl hE => ?_) ?_
    · obtain ⟨(f_11 : a.eval (.tmp 11) = .int .i64 (ml x1.1 b2.2)), (f_16 : a.eval (.tmp 16) = .int .i64 (ml b2.1 x1.2)), -⟩ := hf
      exact sg_plain rfl rfl (or_sub f_11 f_16 rfl)
    refine steps_cons (fun own a wx hf hsl hE => ?_) ?_
    · obtain ⟨s_4, -⟩ := hsl
      exact sg_plain rfl rfl (or_field fo49_0 (s_4.trans e27_4) (by rfl))
    refine steps_cons (fun own a wx hf hsl hE => ?_) ?_
    · obtain ⟨(f_18 : a.eval (.tmp 18) = .pointer (some ⟨g23, 0, none⟩)), -⟩ := hf
      exact sg_plain rfl rfl (or_load1 to3 f_18 (Blk.at_ (BlkO.evo (by decide) hE b27_g23).2 0 rfl))
    refine steps_cons (fun own a wx hf hsl hE => ?_) ?_
    · obtain ⟨s_5, -⟩ := hsl
      exact sg_plain rfl rfl (or_field fo49_1 (s_5.trans e27_5) (by rfl))
    refine steps_cons (fun own a wx hf hsl hE => ?_) ?_
    · obtain ⟨(f_20 : a.eval (.tmp 20) = .pointer (some ⟨g25, 1, none⟩)), -⟩ := hf
      exact sg_plain rfl rfl (or_load1 to3 f_20 (Blk.at_ (BlkO.evo (by decide) hE b27_g25).2 1 rfl))
    refine steps_cons (fun own a wx hf hsl hE => ?_) ?_
    · obtain ⟨(f_19 : a.eval (.tmp 19) = .int .i64 b2.1), (f_21 : a.eval (.tmp 21) = .int .i64 c3.2), -⟩ := hf
      exact sg_plain rfl rfl (or_mul f_19 f_21 rfl)
    refine steps_cons (fun own a wx hf hsl hE => ?_) ?_
    · obtain ⟨(f_17 : a.eval (.tmp 17) = .int .i64 (sb (ml x1.1 b2.2) (ml b2.1 x1.2))), (f_22 : a.eval (.tmp 22) = .int .i64 (ml b2.1 c3.2)), -⟩ := hf
      exact sg_plain rfl rfl (or_add f_17 f_22 (osome hx28).symm)
    refine steps_cons (fun own a wx hf hsl hE => ?_) ?_
    · obtain ⟨s_5, -⟩ := hsl
      exact sg_plain rfl rfl (or_field fo49_0 (s_5.trans e27_5) (by rfl))
    refine steps_cons (fun own a wx hf hsl hE => ?_) ?_
    · obtain ⟨(f_24 : a.eval (.tmp 24) = .pointer (some ⟨g25, 0, none⟩)), -⟩ := hf
      exact sg_plain rfl rfl (or_load1 to3 f_24 (Blk.at_ (BlkO.evo (by decide) hE b27_g25).2 0 rfl))
    refine steps_cons (fun own a wx hf hsl hE => ?_) ?_
    · obtain ⟨s_4, -⟩ := hsl
      exact sg_plain rfl rfl (or_field fo49_1 (s_4.trans e27_4) (by rfl))
    refine steps_cons (fun own a wx hf hsl hE => ?_) ?_
    · obtain ⟨(f_26 : a.eval (.tmp 26) = .pointer (some ⟨g23, 1, none⟩)), -⟩ := hf
      exact sg_plain rfl rfl (or_load1 to3 f_26 (Blk.at_ (BlkO.evo (by decide) hE b27_g23).2 1 rfl))
    refine steps_cons (fun own a wx hf hsl hE => ?_) ?_
    · obtain ⟨(f_25 : a.eval (.tmp 25) = .int .i64 c3.1), (f_27 : a.eval (.tmp 27) = .int .i64 b2.2), -⟩ := hf
      exact sg_plain rfl rfl (or_mul f_25 f_27 rfl)
    refine steps_cons (fun own a wx hf hsl hE => ?_) ?_
    · obtain ⟨(f_23 : a.eval (.tmp 23) = .int .i64 x28), (f_28 : a.eval (.tmp 28) = .int .i64 (ml c3.1 b2.2)), -⟩ := hf
      exact sg_plain rfl rfl (or_sub f_23 f_28 rfl)
    refine steps_cons (fun own a wx hf hsl hE => ?_) ?_
    · obtain ⟨s_5, -⟩ := hsl
      exact sg_plain rfl rfl (or_field fo49_0 (s_5.trans e27_5) (by rfl))
    refine steps_cons (fun own a wx hf hsl hE => ?_) ?_
    · obtain ⟨(f_30 : a.eval (.tmp 30) = .pointer (some ⟨g25, 0, none⟩)), -⟩ := hf
      exact sg_plain rfl rfl (or_load1 to3 f_30 (Blk.at_ (BlkO.evo (by decide) hE b27_g25).2 0 rfl))
    refine steps_cons (fun own a wx hf hsl hE => ?_) ?_
    · obtain ⟨s_3, -⟩ := hsl
      exact sg_plain rfl rfl (or_field fo49_1 (s_3.trans e27_3) (by rfl))
    refine steps_cons (fun own a wx hf hsl hE => ?_) ?_
    · obtain ⟨(f_32 : a.eval (.tmp 32) = .pointer (some ⟨g21, 1, none⟩)), -⟩ := hf
      exact sg_plain rfl rfl (or_load1 to3 f_32 (Blk.at_ (BlkO.evo (by decide) hE b27_g21).2 1 rfl))
    refine steps_cons (fun own a wx hf hsl hE => ?_) ?_
    · obtain ⟨(f_31 : a.eval (.tmp 31) = .int .i64 c3.1), (f_33 : a.eval (.tmp 33) = .int .i64 x1.2), -⟩ := hf
      exact sg_plain rfl rfl (or_mul f_31 f_33 rfl)
    refine steps_cons (fun own a wx hf hsl hE => ?_) ?_
    · obtain ⟨(f_29 : a.eval (.tmp 29) = .int .i64 (sb x28 (ml c3.1 b2.2))), (f_34 : a.eval (.tmp 34) = .int .i64 (ml c3.1 x1.2)), -⟩ := hf
      exact sg_plain rfl rfl (or_add f_29 f_34 (osome hx29).symm)
    refine steps_cons (fun own a wx hf hsl hE => ?_) ?_
    · obtain ⟨s_3, -⟩ := hsl
      exact sg_plain rfl rfl (or_field fo49_0 (s_3.trans e27_3) (by rfl))
    refine steps_cons (fun own a wx hf hsl hE => ?_) ?_
    · obtain ⟨(f_36 : a.eval (.tmp 36) = .pointer (some ⟨g21, 0, none⟩)), -⟩ := hf
      exact sg_plain rfl rfl (or_load1 to3 f_36 (Blk.at_ (BlkO.evo (by decide) hE b27_g21).2 0 rfl))
    refine steps_cons (fun own a wx hf hsl hE => ?_) ?_
    · obtain ⟨s_5, -⟩ := hsl
      exact sg_plain rfl rfl (or_field fo49_1 (s_5.trans e27_5) (by rfl))
    refine steps_cons (fun own a wx hf hsl hE => ?_) ?_
    · obtain ⟨(f_38 : a.eval (.tmp 38) = .pointer (some ⟨g25, 1, none⟩)), -⟩ := hf
      exact sg_plain rfl rfl (or_load1 to3 f_38 (Blk.at_ (BlkO.evo (by decide) hE b27_g25).2 1 rfl))
    refine steps_cons (fun own a wx hf hsl hE => ?_) ?_
    · obtain ⟨(f_37 : a.eval (.tmp 37) = .int .i64 x1.1), (f_39 : a.eval (.tmp 39) = .int .i64 c3.2), -⟩ := hf
      exact sg_plain rfl rfl (or_mul f_37 f_39 rfl)
    refine steps_cons (fun own a wx hf hsl hE => ?_) ?_
    · obtain ⟨(f_35 : a.eval (.tmp 35) = .int .i64 x29), (f_40 : a.eval (.tmp 40) = .int .i64 (ml x1.1 c3.2)), -⟩ := hf
      exact sg_plain rfl rfl (or_sub f_35 f_40 rfl)
    refine steps_cons (fun own a wx hf hsl hE => ?_) ?_
    · obtain ⟨(f_41 : a.eval (.tmp 41) = .int .i64 (sb x29 (ml x1.1 c3.2))), -⟩ := hf
      exact sg_plain rfl rfl (or_assign f_41)
    exact steps_nil
  intro own30 a30 w30 hd30 hz30 hk30 hf30 hE30
  obtain ⟨(f_6 : a30.eval (.tmp 6) = .int .i64 (sb x29 (ml x1.1 c3.2))), -⟩ := hf30 [35] rfl
  have e30_6 := f_6
  have hX30 := Evo.step hX27 (fun _ => Nat.le_refl 0) hE30 rfl
  refine fl_ret ?_
  obtain rfl := osome hs
  exact hret _ _ _ _ (.inl rfl) hd30 (results1_ rfl (RVal.tmp_ e30_6)) ⟨own30, rfl, hX30⟩

theorem ref01_On_w (w : World) (x1 : Int × Int) (b2 : Int × Int) (p3 : Int × Int) (r : Bool) (hs : ref01_On x1 b2 p3 = some r) :
    Calls Try.prog 57 #[.agg #[.int .i64 x1.1, .int .i64 x1.2], .agg #[.int .i64 b2.1, .int .i64 b2.2], .agg #[.int .i64 p3.1, .int .i64 p3.2]] w fun e w' => ∃ own' : Own, e = .returned (.bool r) ∧ Evo [] (fun _ => 0) own' w w' := by
  refine fl_enter (n := 75) rfl rfl rfl (Nat.le_of_ble_eq_true rfl) ?_
  intro a0 Q hd0 hz0 harg hret
  have ha0 := harg 0 _ rfl
  have ha1 := harg 1 _ rfl
  have ha2 := harg 2 _ rfl
  clear harg
  have hE0 : Evo [] (fun _ => 0) (fun _ => 0) w w := Evo.refl _ _ _
  refine rg_plain_seq (n := 75) (rs := []) (own0 := (fun _ => 0)) (K := [])
      (bs := [0, 0, 0, 0])
      (ds := [⟨[], [0], [], Fct.blk 30 3 (fun g => .pointer (some ⟨g, 0, none⟩)) 49 #[.int .i64 x1.1, .int .i64 x1.2]⟩,
      ⟨[], [1], [], Fct.blk 32 4 (fun g => .pointer (some ⟨g, 0, none⟩)) 49 #[.int .i64 b2.1, .int .i64 b2.2]⟩,
      ⟨[], [2], [], Fct.blk 34 5 (fun g => .pointer (some ⟨g, 0, none⟩)) 49 #[.int .i64 p3.1, .int .i64 p3.2]⟩,
      ⟨[], [], [], Fct.val 6 (.bool false)⟩]) (by kernel_rfl) hz0 hd0 (fun _ h => nomatch h) ?_ ?_
  · refine steps_cons (fun own a wx hf hsl hE => ?_) ?_
    · obtain ⟨s_0, -⟩ := hsl
      exact sg_plain rfl rfl (or_new [(0, .agg #[.int .i64 x1.1, .int .i64 x1.2])] rfl rfl ⟨(s_0.trans ha0), trivial⟩ (by kernel_rfl))
    refine steps_cons (fun own a wx hf hsl hE => ?_) ?_
    · obtain ⟨s_1, -⟩ := hsl
      exact sg_plain rfl rfl (or_new [(1, .agg #[.int .i64 b2.1, .int .i64 b2.2])] rfl rfl ⟨(s_1.trans ha1), trivial⟩ (by kernel_rfl))
    refine steps_cons (fun own a wx hf hsl hE => ?_) ?_
    · obtain ⟨s_2, -⟩ := hsl
      exact sg_plain rfl rfl (or_new [(2, .agg #[.int .i64 p3.1, .int .i64 p3.2])] rfl rfl ⟨(s_2.trans ha2), trivial⟩ (by kernel_rfl))
    refine steps_cons (fun own a wx hf hsl hE => ?_) ?_
    · exact sg_plain rfl rfl (or_assign rfl)
    exact steps_nil
  intro own35 a35 w35 hd35 hz35 hk35 hf35 hE35
  obtain ⟨⟨g29, (f_3 : a35.eval (.tmp 3) = .pointer (some ⟨g29, 0, none⟩)), (b_g29 : BlkO own35 30 w35 g29 49 #[.int .i64 x1.1, .int .i64 x1.2])⟩, ⟨g31, (f_4 : a35.eval (.tmp 4) = .pointer (some ⟨g31, 0, none⟩)), (b_g31 : BlkO own35 32 w35 g31 49 #[.int .i64 b2.1, .int .i64 b2.2])⟩, ⟨g33, (f_5 : a35.eval (.tmp 5) = .pointer (some ⟨g33, 0, none⟩)), (b_g33 : BlkO own35 34 w35 g33 49 #[.int .i64 p3.1, .int .i64 p3.2])⟩, -⟩ := hf35 [0, 1, 2] rfl
  have e35_3 := f_3
  have e35_4 := f_4
  have e35_5 := f_5
  have hX35 := Evo.step hE0 (fun _ => Nat.le_refl 0) hE35 rfl
  have b35_g29 := b_g29
  have b35_g31 := b_g31
  have b35_g33 := b_g33
  refine fl_seq (fun Q36 hn36 hp36 => ?_)
  refine rg_plain_seq (n := 75) (rs := []) (own0 := own35) (K := [])
      (bs := [0, 0, 3])
      (ds := [⟨[], [3], [], Fct.val 9 (.agg #[.int .i64 x1.1, .int .i64 x1.2])⟩,
      ⟨[], [4], [], Fct.val 10 (.agg #[.int .i64 b2.1, .int .i64 b2.2])⟩,
      ⟨[0, 1], [], [], Fct.val 11 (.bool (decide (x1 = b2)))⟩]) (by kernel_rfl) hz35 hd35 (fun _ h => nomatch h) ?_ ?_
  · refine steps_cons (fun own a wx hf hsl hE => ?_) ?_
    · obtain ⟨s_3, -⟩ := hsl
      exact sg_plain rfl rfl (or_load (l := [.int .i64 x1.1, .int .i64 x1.2]) ta49 (s_3.trans e35_3) (Blk.cellsFrom (BlkO.evo (by decide) hE b35_g29).2 0 rfl) rfl)
    refine steps_cons (fun own a wx hf hsl hE => ?_) ?_
    · obtain ⟨s_4, -⟩ := hsl
      exact sg_plain rfl rfl (or_load (l := [.int .i64 b2.1, .int .i64 b2.2]) ta49 (s_4.trans e35_4) (Blk.cellsFrom (BlkO.evo (by decide) hE b35_g31).2 0 rfl) rfl)
    refine steps_cons (fun own a wx hf hsl hE => ?_) ?_
    · obtain ⟨(f_9 : a.eval (.tmp 9) = .agg #[.int .i64 x1.1, .int .i64 x1.2]), (f_10 : a.eval (.tmp 10) = .agg #[.int .i64 b2.1, .int .i64 b2.2]), -⟩ := hf
      exact sg_plain rfl rfl (or_eqlA sg49 f_9 f_10 (se49 x1.1 x1.2 b2.1 b2.2 _) rfl)
    exact steps_nil
  intro own37 a37 w37 hd37 hz37 hk37 hf37 hE37
  have e37_3 : a37.eval (.tmp 3) = .pointer (some ⟨g29, 0, none⟩) := (hk37 3 rfl).trans e35_3
  have e37_4 : a37.eval (.tmp 4) = .pointer (some ⟨g31, 0, none⟩) := (hk37 4 rfl).trans e35_4
  have e37_5 : a37.eval (.tmp 5) = .pointer (some ⟨g33, 0, none⟩) := (hk37 5 rfl).trans e35_5
  obtain ⟨(f_11 : a37.eval (.tmp 11) = .bool (decide (x1 = b2))), -⟩ := hf37 [2] rfl
  have e37_11 := f_11
  have hX37 := Evo.step hX35 (fun _ => Nat.le_refl 0) hE37 rfl
  have b37_g29 := BlkO.evo (by decide) hE37 b35_g29
  have b37_g31 := BlkO.evo (by decide) hE37 b35_g31
  have b37_g33 := BlkO.evo (by decide) hE37 b35_g33
  refine fl_cond e37_11 hs (fun c38 hs => ?_) (fun c38 hs => ?_)
  · refine rg_plain_seq (n := 75) (rs := []) (own0 := own37) (K := [])
        (bs := [0, 0, 3, 7])
        (ds := [⟨[], [5], [], Fct.val 12 (.agg #[.int .i64 p3.1, .int .i64 p3.2])⟩,
        ⟨[], [3], [], Fct.val 13 (.agg #[.int .i64 x1.1, .int .i64 x1.2])⟩,
        ⟨[0, 1], [], [], Fct.val 14 (.bool (decide (p3 = x1)))⟩,
        ⟨[2], [], [], Fct.val 6 (.bool (decide (p3 = x1)))⟩]) (by kernel_rfl) hz37 hd37 (fun _ h => nomatch h) ?_ ?_
    · refine steps_cons (fun own a wx hf hsl hE => ?_) ?_
      · obtain ⟨s_5, -⟩ := hsl
        exact sg_plain rfl rfl (or_load (l := [.int .i64 p3.1, .int .i64 p3.2]) ta49 (s_5.trans e37_5) (Blk.cellsFrom (BlkO.evo (by decide) hE b37_g33).2 0 rfl) rfl)
      refine steps_cons (fun own a wx hf hsl hE => ?_) ?_
      · obtain ⟨s_3, -⟩ := hsl
        exact sg_plain rfl rfl (or_load (l := [.int .i64 x1.1, .int .i64 x1.2]) ta49 (s_3.trans e37_3) (Blk.cellsFrom (BlkO.evo (by decide) hE b37_g29).2 0 rfl) rfl)
      refine steps_cons (fun own a wx hf hsl hE => ?_) ?_
      · obtain ⟨(f_12 : a.eval (.tmp 12) = .agg #[.int .i64 p3.1, .int .i64 p3.2]), (f_13 : a.eval (.tmp 13) = .agg #[.int .i64 x1.1, .int .i64 x1.2]), -⟩ := hf
        exact sg_plain rfl rfl (or_eqlA sg49 f_12 f_13 (se49 p3.1 p3.2 x1.1 x1.2 _) rfl)
      refine steps_cons (fun own a wx hf hsl hE => ?_) ?_
      · obtain ⟨(f_14 : a.eval (.tmp 14) = .bool (decide (p3 = x1))), -⟩ := hf
        exact sg_plain rfl rfl (or_assign f_14)
      exact steps_nil
    intro own39 a39 w39 hd39 hz39 hk39 hf39 hE39
    obtain ⟨(f_6 : a39.eval (.tmp 6) = .bool (decide (p3 = x1))), -⟩ := hf39 [3] rfl
    have e39_6 := f_6
    have hX39 := Evo.step hX37 (fun _ => Nat.le_refl 0) hE39 rfl
    refine fl_ret ?_
    refine hp36 _ _ _ rfl ?_
    obtain rfl := osome hs
    exact hret _ _ _ _ (.inl rfl) hd39 (results1_ rfl (RVal.tmp_ e39_6)) ⟨own39, rfl, hX39⟩
  refine fl_skip ?_
  refine hn36 _ _ ?_
  obtain ⟨x40, hx40, hs⟩ := obind hs
  refine rg_plain_seq (n := 75) (rs := []) (own0 := own37) (K := [])
      (bs := [0, 1, 0, 4, 15, 0, 32, 0, 128, 480, 1023, 0, 2048, 0, 8192, 30720, 0, 65536, 0, 262144, 983040, 2095104, 4194303, 8388607])
      (ds := [⟨[], [5], [], Fct.val 15 (.pointer (some ⟨g33, 0, none⟩))⟩,
      ⟨[0], [], [], Fct.val 16 (.int .i64 p3.1)⟩,
      ⟨[], [3], [], Fct.val 17 (.pointer (some ⟨g29, 0, none⟩))⟩,
      ⟨[2], [], [], Fct.val 18 (.int .i64 x1.1)⟩,
      ⟨[1, 3], [], [], Fct.val 19 (.int .i64 (sb p3.1 x1.1))⟩,
      ⟨[], [4], [], Fct.val 20 (.pointer (some ⟨g31, 0, none⟩))⟩,
      ⟨[5], [], [], Fct.val 21 (.int .i64 b2.1)⟩,
      ⟨[], [3], [], Fct.val 22 (.pointer (some ⟨g29, 0, none⟩))⟩,
      ⟨[7], [], [], Fct.val 23 (.int .i64 x1.1)⟩,
      ⟨[6, 8], [], [], Fct.val 24 (.int .i64 (sb b2.1 x1.1))⟩,
      ⟨[4, 9], [], [], Fct.val 25 (.int .i64 (ml (sb p3.1 x1.1) (sb b2.1 x1.1)))⟩,
      ⟨[], [5], [], Fct.val 26 (.pointer (some ⟨g33, 1, none⟩))⟩,
      ⟨[11], [], [], Fct.val 27 (.int .i64 p3.2)⟩,
      ⟨[], [3], [], Fct.val 28 (.pointer (some ⟨g29, 1, none⟩))⟩,
      ⟨[13], [], [], Fct.val 29 (.int .i64 x1.2)⟩,
      ⟨[12, 14], [], [], Fct.val 30 (.int .i64 (sb p3.2 x1.2))⟩,
      ⟨[], [4], [], Fct.val 31 (.pointer (some ⟨g31, 1, none⟩))⟩,
      ⟨[16], [], [], Fct.val 32 (.int .i64 b2.2)⟩,
      ⟨[], [3], [], Fct.val 33 (.pointer (some ⟨g29, 1, none⟩))⟩,
      ⟨[18], [], [], Fct.val 34 (.int .i64 x1.2)⟩,
      ⟨[17, 19], [], [], Fct.val 35 (.int .i64 (sb b2.2 x1.2))⟩,
      ⟨[15, 20], [], [], Fct.val 36 (.int .i64 (ml (sb p3.2 x1.2) (sb b2.2 x1.2)))⟩,
      ⟨[10, 21], [], [], Fct.val 37 (.int .i64 x40)⟩,
      ⟨[22], [], [], Fct.val 7 (.int .i64 x40)⟩]) (by kernel_rfl) hz37 hd37 (fun _ h => nomatch h) ?_ ?_
  · refine steps_cons (fun own a wx hf hsl hE => ?_) ?_
    · obtain ⟨s_5, -⟩ := hsl
      exact sg_plain rfl rfl (or_field fo49_0 (s_5.trans e37_5) (by rfl))
    refine steps_cons (fun own a wx hf hsl hE => ?_) ?_
    · obtain ⟨(f_15 : a.eval (.tmp 15) = .pointer (some ⟨g33, 0, none⟩)), -⟩ := hf
      exact sg_plain rfl rfl (or_load1 to3 f_15 (Blk.at_ (BlkO.evo (by decide) hE b37_g33).2 0 rfl))
    refine steps_cons (fun own a wx hf hsl hE => ?_) ?_
    · obtain ⟨s_3, -⟩ := hsl
      exact sg_plain rfl rfl (or_field fo49_0 (s_3.trans e37_3) (by rfl))
    refine steps_cons (fun own a wx hf hsl hE => ?_) ?_
    · obtain ⟨(f_17 : a.eval (.tmp 17) = .pointer (some ⟨g29, 0, none⟩)), -⟩ := hf
      exact sg_plain rfl rfl (or_load1 to3 f_17 (Blk.at_ (BlkO.evo (by decide) hE b37_g29).2 0 rfl))
    refine steps_cons (fun own a wx hf hsl hE => ?_) ?_
    · obtain ⟨(f_16 : a.eval (.tmp 16) = .int .i64 p3.1), (f_18 : a.eval (.tmp 18) = .int .i64 x1.1), -⟩ := hf
      exact sg_plain rfl rfl (or_sub f_16 f_18 rfl)
    refine steps_cons (fun own a wx hf hsl hE => ?_) ?_
    · obtain ⟨s_4, -⟩ := hsl
      exact sg_plain rfl rfl (or_field fo49_0 (s_4.trans e37_4) (by rfl))
    refine steps_cons (fun own a wx hf hsl hE => ?_) ?_
    · obtain ⟨(f_20 : a.eval (.tmp 20) = .pointer (some ⟨g31, 0, none⟩)), -⟩ := hf
      exact sg_plain rfl rfl (or_load1 to3 f_20 (Blk.at_ (BlkO.evo (by decide) hE b37_g31).2 0 rfl))
    refine steps_cons (fun own a wx hf hsl hE => ?_) ?_
    · obtain ⟨s_3, -⟩ := hsl
      exact sg_plain rfl rfl (or_field fo49_0 (s_3.trans e37_3) (by rfl))
    refine steps_cons (fun own a wx hf hsl hE => ?_) ?_
    · obtain ⟨(f_22 : a.eval (.tmp 22) = .pointer (some ⟨g29, 0, none⟩)), -⟩ := hf
      exact sg_plain rfl rfl (or_load1 to3 f_22 (Blk.at_ (BlkO.evo (by decide) hE b37_g29).2 0 rfl))
    refine steps_cons (fun own a wx hf hsl hE => ?_) ?_
    · obtain ⟨(f_21 : a.eval (.tmp 21) = .int .i64 b2.1), (f_23 : a.eval (.tmp 23) = .int .i64 x1.1), -⟩ := hf
      exact sg_plain rfl rfl (or_sub f_21 f_23 rfl)
    refine steps_cons (fun own a wx hf hsl hE => ?_) ?_
    · obtain ⟨(f_19 : a.eval (.tmp 19) = .int .i64 (sb p3.1 x1.1)), (f_24 : a.eval (.tmp 24) = .int .i64 (sb b2.1 x1.1)), -⟩ := hf
      exact sg_plain rfl rfl (or_mul f_19 f_24 rfl)
    refine steps_cons (fun own a wx hf hsl hE => ?_) ?_
    · obtain ⟨s_5, -⟩ := hsl
      exact sg_plain rfl rfl (or_field fo49_1 (s_5.trans e37_5) (by rfl))
    refine steps_cons (fun own a wx hf hsl hE => ?_) ?_
    · obtain ⟨(f_26 : a.eval (.tmp 26) = .pointer (some ⟨g33, 1, none⟩)), -⟩ := hf
      exact sg_plain rfl rfl (or_load1 to3 f_26 (Blk.at_ (BlkO.evo (by decide) hE b37_g33).2 1 rfl))
    refine steps_cons (fun own a wx hf hsl hE => ?_) ?_
    · obtain ⟨s_3, -⟩ := hsl
      exact sg_plain rfl rfl (or_field fo49_1 (s_3.trans e37_3) (by rfl))
    refine steps_cons (fun own a wx hf hsl hE => ?_) ?_
    · obtain ⟨(f_28 : a.eval (.tmp 28) = .pointer (some ⟨g29, 1, none⟩)), -⟩ := hf
      exact sg_plain rfl rfl (or_load1 to3 f_28 (Blk.at_ (BlkO.evo (by decide) hE b37_g29).2 1 rfl))
    refine steps_cons (fun own a wx hf hsl hE => ?_) ?_
    · obtain ⟨(f_27 : a.eval (.tmp 27) = .int .i64 p3.2), (f_29 : a.eval (.tmp 29) = .int .i64 x1.2), -⟩ := hf
      exact sg_plain rfl rfl (or_sub f_27 f_29 rfl)
    refine steps_cons (fun own a wx hf hsl hE => ?_) ?_
    · obtain ⟨s_4, -⟩ := hsl
      exact sg_plain rfl rfl (or_field fo49_1 (s_4.trans e37_4) (by rfl))
    refine steps_cons (fun own a wx hf hsl hE => ?_) ?_
    · obtain ⟨(f_31 : a.eval (.tmp 31) = .pointer (some ⟨g31, 1, none⟩)), -⟩ := hf
      exact sg_plain rfl rfl (or_load1 to3 f_31 (Blk.at_ (BlkO.evo (by decide) hE b37_g31).2 1 rfl))
    refine steps_cons (fun own a wx hf hsl hE => ?_) ?_
    · obtain ⟨s_3, -⟩ := hsl
      exact sg_plain rfl rfl (or_field fo49_1 (s_3.trans e37_3) (by rfl))
    refine steps_cons (fun own a wx hf hsl hE => ?_) ?_
    · obtain ⟨(f_33 : a.eval (.tmp 33) = .pointer (some ⟨g29, 1, none⟩)), -⟩ := hf
      exact sg_plain rfl rfl (or_load1 to3 f_33 (Blk.at_ (BlkO.evo (by decide) hE b37_g29).2 1 rfl))
    refine steps_cons (fun own a wx hf hsl hE => ?_) ?_
    · obtain ⟨(f_32 : a.eval (.tmp 32) = .int .i64 b2.2), (f_34 : a.eval (.tmp 34) = .int .i64 x1.2), -⟩ := hf
      exact sg_plain rfl rfl (or_sub f_32 f_34 rfl)
    refine steps_cons (fun own a wx hf hsl hE => ?_) ?_
    · obtain ⟨(f_30 : a.eval (.tmp 30) = .int .i64 (sb p3.2 x1.2)), (f_35 : a.eval (.tmp 35) = .int .i64 (sb b2.2 x1.2)), -⟩ := hf
      exact sg_plain rfl rfl (or_mul f_30 f_35 rfl)
    refine steps_cons (fun own a wx hf hsl hE => ?_) ?_
    · obtain ⟨(f_25 : a.eval (.tmp 25) = .int .i64 (ml (sb p3.1 x1.1) (sb b2.1 x1.1))), (f_36 : a.eval (.tmp 36) = .int .i64 (ml (sb p3.2 x1.2) (sb b2.2 x1.2))), -⟩ := hf
      exact sg_plain rfl rfl (or_add f_25 f_36 (osome hx40).symm)
    refine steps_cons (fun own a wx hf hsl hE => ?_) ?_
    · obtain ⟨(f_37 : a.eval (.tmp 37) = .int .i64 x40), -⟩ := hf
      exact sg_plain rfl rfl (or_assign f_37)
    exact steps_nil
  intro own41 a41 w41 hd41 hz41 hk41 hf41 hE41
  have e41_3 : a41.eval (.tmp 3) = .pointer (some ⟨g29, 0, none⟩) := (hk41 3 rfl).trans e37_3
  have e41_4 : a41.eval (.tmp 4) = .pointer (some ⟨g31, 0, none⟩) := (hk41 4 rfl).trans e37_4
  have e41_5 : a41.eval (.tmp 5) = .pointer (some ⟨g33, 0, none⟩) := (hk41 5 rfl).trans e37_5
  obtain ⟨(f_7 : a41.eval (.tmp 7) = .int .i64 x40), -⟩ := hf41 [23] rfl
  have e41_7 := f_7
  have hX41 := Evo.step hX37 (fun _ => Nat.le_refl 0) hE41 rfl
  have b41_g29 := BlkO.evo (by decide) hE41 b37_g29
  have b41_g31 := BlkO.evo (by decide) hE41 b37_g31
  have b41_g33 := BlkO.evo (by decide) hE41 b37_g33
  obtain ⟨x42, hx42, hs⟩ := obind hs
  refine rg_plain_seq (n := 75) (rs := []) (own0 := own41) (K := [])
      (bs := [0, 1, 0, 4, 15, 0, 32, 0, 128, 480, 1023, 0, 2048, 0, 8192, 30720, 0, 65536, 0, 262144, 983040, 2095104, 4194303, 8388607])
      (ds := [⟨[], [4], [], Fct.val 38 (.pointer (some ⟨g31, 0, none⟩))⟩,
      ⟨[0], [], [], Fct.val 39 (.int .i64 b2.1)⟩,
      ⟨[], [3], [], Fct.val 40 (.pointer (some ⟨g29, 0, none⟩))⟩,
      ⟨[2], [], [], Fct.val 41 (.int .i64 x1.1)⟩,
      ⟨[1, 3], [], [], Fct.val 42 (.int .i64 (sb b2.1 x1.1))⟩,
      ⟨[], [4], [], Fct.val 43 (.pointer (some ⟨g31, 0, none⟩))⟩,
      ⟨[5], [], [], Fct.val 44 (.int .i64 b2.1)⟩,
      ⟨[], [3], [], Fct.val 45 (.pointer (some ⟨g29, 0, none⟩))⟩,
      ⟨[7], [], [], Fct.val 46 (.int .i64 x1.1)⟩,
      ⟨[6, 8], [], [], Fct.val 47 (.int .i64 (sb b2.1 x1.1))⟩,
      ⟨[4, 9], [], [], Fct.val 48 (.int .i64 (ml (sb b2.1 x1.1) (sb b2.1 x1.1)))⟩,
      ⟨[], [4], [], Fct.val 49 (.pointer (some ⟨g31, 1, none⟩))⟩,
      ⟨[11], [], [], Fct.val 50 (.int .i64 b2.2)⟩,
      ⟨[], [3], [], Fct.val 51 (.pointer (some ⟨g29, 1, none⟩))⟩,
      ⟨[13], [], [], Fct.val 52 (.int .i64 x1.2)⟩,
      ⟨[12, 14], [], [], Fct.val 53 (.int .i64 (sb b2.2 x1.2))⟩,
      ⟨[], [4], [], Fct.val 54 (.pointer (some ⟨g31, 1, none⟩))⟩,
      ⟨[16], [], [], Fct.val 55 (.int .i64 b2.2)⟩,
      ⟨[], [3], [], Fct.val 56 (.pointer (some ⟨g29, 1, none⟩))⟩,
      ⟨[18], [], [], Fct.val 57 (.int .i64 x1.2)⟩,
      ⟨[17, 19], [], [], Fct.val 58 (.int .i64 (sb b2.2 x1.2))⟩,
      ⟨[15, 20], [], [], Fct.val 59 (.int .i64 (ml (sb b2.2 x1.2) (sb b2.2 x1.2)))⟩,
      ⟨[10, 21], [], [], Fct.val 60 (.int .i64 x42)⟩,
      ⟨[22], [], [], Fct.val 8 (.int .i64 x42)⟩]) (by kernel_rfl) hz41 hd41 (fun _ h => nomatch h) ?_ ?_
  · refine steps_cons (fun own a wx hf hsl hE => ?_) ?_
    · obtain ⟨s_4, -⟩ := hsl
      exact sg_plain rfl rfl (or_field fo49_0 (s_4.trans e41_4) (by rfl))
    refine steps_cons (fun own a wx hf hsl hE => ?_) ?_
    · obtain ⟨(f_38 : a.eval (.tmp 38) = .pointer (some ⟨g31, 0, none⟩)), -⟩ := hf
      exact sg_plain rfl rfl (or_load1 to3 f_38 (Blk.at_ (BlkO.evo (by decide) hE b41_g31).2 0 rfl))
    refine steps_cons (fun own a wx hf hsl hE => ?_) ?_
    · obtain ⟨s_3, -⟩ := hsl
      exact sg_plain rfl rfl (or_field fo49_0 (s_3.trans e41_3) (by rfl))
    refine steps_cons (fun own a wx hf hsl hE => ?_) ?_
    · obtain ⟨(f_40 : a.eval (.tmp 40) = .pointer (some ⟨g29, 0, none⟩)), -⟩ := hf
      exact sg_plain rfl rfl (or_load1 to3 f_40 (Blk.at_ (BlkO.evo (by decide) hE b41_g29).2 0 rfl))
    refine steps_cons (fun own a wx hf hsl hE => ?_) ?_
    · obtain ⟨(f_39 : a.eval (.tmp 39) = .int .i64 b2.1), (f_41 : a.eval (.tmp 41) = .int .i64 x1.1), -⟩ := hf
      exact sg_plain rfl rfl (or_sub f_39 f_41 rfl)
    refine steps_cons (fun own a wx hf hsl hE => ?_) ?_
    · obtain ⟨s_4, -⟩ := hsl
      exact sg_plain rfl rfl (or_field fo49_0 (s_4.trans e41_4) (by rfl))
    refine steps_cons (fun own a wx hf hsl hE => ?_) ?_
    · obtain ⟨(f_43 : a.eval (.tmp 43) = .pointer (some ⟨g31, 0, none⟩)), -⟩ := hf
      exact sg_plain rfl rfl (or_load1 to3 f_43 (Blk.at_ (BlkO.evo (by decide) hE b41_g31).2 0 rfl))
    refine steps_cons (fun own a wx hf hsl hE => ?_) ?_
    · obtain ⟨s_3, -⟩ := hsl
      exact sg_plain rfl rfl (or_field fo49_0 (s_3.trans e41_3) (by rfl))
    refine steps_cons (fun own a wx hf hsl hE => ?_) ?_
    · obtain ⟨(f_45 : a.eval (.tmp 45) = .pointer (some ⟨g29, 0, none⟩)), -⟩ := hf
      exact sg_plain rfl rfl (or_load1 to3 f_45 (Blk.at_ (BlkO.evo (by decide) hE b41_g29).2 0 rfl))
    refine steps_cons (fun own a wx hf hsl hE => ?_) ?_
    · obtain ⟨(f_44 : a.eval (.tmp 44) = .int .i64 b2.1), (f_46 : a.eval (.tmp 46) = .int .i64 x1.1), -⟩ := hf
      exact sg_plain rfl rfl (or_sub f_44 f_46 rfl)
    refine steps_cons (fun own a wx hf hsl hE => ?_) ?_
    · obtain ⟨(f_42 : a.eval (.tmp 42) = .int .i64 (sb b2.1 x1.1)), (f_47 : a.eval (.tmp 47) = .int .i64 (sb b2.1 x1.1)), -⟩ := hf
      exact sg_plain rfl rfl (or_mul f_42 f_47 rfl)
    refine steps_cons (fun own a wx hf hsl hE => ?_) ?_
    · obtain ⟨s_4, -⟩ := hsl
      exact sg_plain rfl rfl (or_field fo49_1 (s_4.trans e41_4) (by rfl))
    refine steps_cons (fun own a wx hf hsl hE => ?_) ?_
    · obtain ⟨(f_49 : a.eval (.tmp 49) = .pointer (some ⟨g31, 1, none⟩)), -⟩ := hf
      exact sg_plain rfl rfl (or_load1 to3 f_49 (Blk.at_ (BlkO.evo (by decide) hE b41_g31).2 1 rfl))
    refine steps_cons (fun own a wx hf hsl hE => ?_) ?_
    · obtain ⟨s_3, -⟩ := hsl
      exact sg_plain rfl rfl (or_field fo49_1 (s_3.trans e41_3) (by rfl))
    refine steps_cons (fun own a wx hf hsl hE => ?_) ?_
    · obtain ⟨(f_51 : a.eval (.tmp 51) = .pointer (some ⟨g29, 1, none⟩)), -⟩ := hf
      exact sg_plain rfl rfl (or_load1 to3 f_51 (Blk.at_ (BlkO.evo (by decide) hE b41_g29).2 1 rfl))
    refine steps_cons (fun own a wx hf hsl hE => ?_) ?_
    · obtain ⟨(f_50 : a.eval (.tmp 50) = .int .i64 b2.2), (f_52 : a.eval (.tmp 52) = .int .i64 x1.2), -⟩ := hf
      exact sg_plain rfl rfl (or_sub f_50 f_52 rfl)
    refine steps_cons (fun own a wx hf hsl hE => ?_) ?_
    · obtain ⟨s_4, -⟩ := hsl
      exact sg_plain rfl rfl (or_field fo49_1 (s_4.trans e41_4) (by rfl))
    refine steps_cons (fun own a wx hf hsl hE => ?_) ?_
    · obtain ⟨(f_54 : a.eval (.tmp 54) = .pointer (some ⟨g31, 1, none⟩)), -⟩ := hf
      exact sg_plain rfl rfl (or_load1 to3 f_54 (Blk.at_ (BlkO.evo (by decide) hE b41_g31).2 1 rfl))
    refine steps_cons (fun own a wx hf hsl hE => ?_) ?_
    · obtain ⟨s_3, -⟩ := hsl
      exact sg_plain rfl rfl (or_field fo49_1 (s_3.trans e41_3) (by rfl))
    refine steps_cons (fun own a wx hf hsl hE => ?_) ?_
    · obtain ⟨(f_56 : a.eval (.tmp 56) = .pointer (some ⟨g29, 1, none⟩)), -⟩ := hf
      exact sg_plain rfl rfl (or_load1 to3 f_56 (Blk.at_ (BlkO.evo (by decide) hE b41_g29).2 1 rfl))
    refine steps_cons (fun own a wx hf hsl hE => ?_) ?_
    · obtain ⟨(f_55 : a.eval (.tmp 55) = .int .i64 b2.2), (f_57 : a.eval (.tmp 57) = .int .i64 x1.2), -⟩ := hf
      exact sg_plain rfl rfl (or_sub f_55 f_57 rfl)
    refine steps_cons (fun own a wx hf hsl hE => ?_) ?_
    · obtain ⟨(f_53 : a.eval (.tmp 53) = .int .i64 (sb b2.2 x1.2)), (f_58 : a.eval (.tmp 58) = .int .i64 (sb b2.2 x1.2)), -⟩ := hf
      exact sg_plain rfl rfl (or_mul f_53 f_58 rfl)
    refine steps_cons (fun own a wx hf hsl hE => ?_) ?_
    · obtain ⟨(f_48 : a.eval (.tmp 48) = .int .i64 (ml (sb b2.1 x1.1) (sb b2.1 x1.1))), (f_59 : a.eval (.tmp 59) = .int .i64 (ml (sb b2.2 x1.2) (sb b2.2 x1.2))), -⟩ := hf
      exact sg_plain rfl rfl (or_add f_48 f_59 (osome hx42).symm)
    refine steps_cons (fun own a wx hf hsl hE => ?_) ?_
    · obtain ⟨(f_60 : a.eval (.tmp 60) = .int .i64 x42), -⟩ := hf
      exact sg_plain rfl rfl (or_assign f_60)
    exact steps_nil
  intro own43 a43 w43 hd43 hz43 hk43 hf43 hE43
  have e43_3 : a43.eval (.tmp 3) = .pointer (some ⟨g29, 0, none⟩) := (hk43 3 rfl).trans e41_3
  have e43_4 : a43.eval (.tmp 4) = .pointer (some ⟨g31, 0, none⟩) := (hk43 4 rfl).trans e41_4
  have e43_5 : a43.eval (.tmp 5) = .pointer (some ⟨g33, 0, none⟩) := (hk43 5 rfl).trans e41_5
  have e43_7 : a43.eval (.tmp 7) = .int .i64 x40 := (hk43 7 rfl).trans e41_7
  obtain ⟨(f_8 : a43.eval (.tmp 8) = .int .i64 x42), -⟩ := hf43 [23] rfl
  have e43_8 := f_8
  have hX43 := Evo.step hX41 (fun _ => Nat.le_refl 0) hE43 rfl
  have b43_g29 := BlkO.evo (by decide) hE43 b41_g29
  have b43_g31 := BlkO.evo (by decide) hE43 b41_g31
  have b43_g33 := BlkO.evo (by decide) hE43 b41_g33
  obtain ⟨r44, hr44, hs⟩ := obind hs
  obtain ⟨x45, hx45, hs⟩ := obind hs
  refine rg_plain_seq (n := 75) (rs := []) (own0 := own43) (K := [])
      (bs := [0, 0, 0, 7, 15, 31, 63, 127, 255, 511, 1023, 1023, 4095, 8191, 16383])
      (ds := [⟨[], [3], [], Fct.val 61 (.agg #[.int .i64 x1.1, .int .i64 x1.2])⟩,
      ⟨[], [4], [], Fct.val 62 (.agg #[.int .i64 b2.1, .int .i64 b2.2])⟩,
      ⟨[], [5], [], Fct.val 63 (.agg #[.int .i64 p3.1, .int .i64 p3.2])⟩,
      ⟨[0, 1, 2], [], [], Fct.val 64 (.int .i64 r44)⟩,
      ⟨[3], [], [], Fct.val 65 (.bool (decide (r44 = 0)))⟩,
      ⟨[4], [], [], Fct.val 66 (.bool (decide (r44 = 0)))⟩,
      ⟨[5], [7], [], Fct.cond (decide (r44 = 0)) (some 67) (Fct.val 67 (.int .i64 x40))⟩,
      ⟨[5, 6], [], [], Fct.cond (decide (r44 = 0)) (some 68) (Fct.val 68 (.bool (decide (0 ≤ x40))))⟩,
      ⟨[5, 7], [], [], Fct.val 69 (.bool x45)⟩,
      ⟨[8], [], [], Fct.val 70 (.bool x45)⟩,
      ⟨[9], [7], [], Fct.cond x45 (some 71) (Fct.val 71 (.int .i64 x40))⟩,
      ⟨[9], [8], [], Fct.cond x45 (some 72) (Fct.val 72 (.int .i64 x42))⟩,
      ⟨[9, 10, 11], [], [], Fct.cond x45 (some 73) (Fct.val 73 (.bool (decide (x40 ≤ x42))))⟩,
      ⟨[9, 12], [], [], Fct.val 74 (.bool (x45 && (decide (x40 ≤ x42))))⟩,
      ⟨[13], [], [], Fct.val 6 (.bool (x45 && (decide (x40 ≤ x42))))⟩]) (by kernel_rfl) hz43 hd43 (fun _ h => nomatch h) ?_ ?_
  · refine steps_cons (fun own a wx hf hsl hE => ?_) ?_
    · obtain ⟨s_3, -⟩ := hsl
      exact sg_plain rfl rfl (or_load (l := [.int .i64 x1.1, .int .i64 x1.2]) ta49 (s_3.trans e43_3) (Blk.cellsFrom (BlkO.evo (by decide) hE b43_g29).2 0 rfl) rfl)
    refine steps_cons (fun own a wx hf hsl hE => ?_) ?_
    · obtain ⟨s_4, -⟩ := hsl
      exact sg_plain rfl rfl (or_load (l := [.int .i64 b2.1, .int .i64 b2.2]) ta49 (s_4.trans e43_4) (Blk.cellsFrom (BlkO.evo (by decide) hE b43_g31).2 0 rfl) rfl)
    refine steps_cons (fun own a wx hf hsl hE => ?_) ?_
    · obtain ⟨s_5, -⟩ := hsl
      exact sg_plain rfl rfl (or_load (l := [.int .i64 p3.1, .int .i64 p3.2]) ta49 (s_5.trans e43_5) (Blk.cellsFrom (BlkO.evo (by decide) hE b43_g33).2 0 rfl) rfl)
    refine steps_cons (fun own a wx hf hsl hE => ?_) ?_
    · obtain ⟨(f_61 : a.eval (.tmp 61) = .agg #[.int .i64 x1.1, .int .i64 x1.2]), (f_62 : a.eval (.tmp 62) = .agg #[.int .i64 b2.1, .int .i64 b2.2]), (f_63 : a.eval (.tmp 63) = .agg #[.int .i64 p3.1, .int .i64 p3.2]), -⟩ := hf
      exact sg_plain rfl rfl (or_call cf59 (args3 f_61 f_62 f_63) (ref01_Cross_w _ x1 b2 p3  r44 hr44) post_val)
    refine steps_cons (fun own a wx hf hsl hE => ?_) ?_
    · obtain ⟨(f_64 : a.eval (.tmp 64) = .int .i64 r44), -⟩ := hf
      exact sg_plain rfl rfl (or_eql f_64 rfl rfl)
    refine steps_cons (fun own a wx hf hsl hE => ?_) ?_
    · obtain ⟨(f_65 : a.eval (.tmp 65) = .bool (decide (r44 = 0))), -⟩ := hf
      exact sg_plain rfl rfl (or_move f_65)
    refine steps_cons (fun own a wx hf hsl hE => ?_) ?_
    · obtain ⟨(f_66 : a.eval (.tmp 66) = .bool (decide (r44 = 0))), -⟩ := hf
      obtain ⟨s_7, -⟩ := hsl
      refine sg_t rfl rfl rfl f_66 (fun hg => ?_)
      exact or_move (s_7.trans e43_7)
    refine steps_cons (fun own a wx hf hsl hE => ?_) ?_
    · obtain ⟨(f_66 : a.eval (.tmp 66) = .bool (decide (r44 = 0))), c_67, -⟩ := hf
      refine sg_t rfl rfl rfl f_66 (fun hg => ?_)
      have f_67 : a.eval (.tmp 67) = .int .i64 x40 := c_67.1 hg
      exact or_geq f_67 rfl rfl
    refine steps_cons (fun own a wx hf hsl hE => ?_) ?_
    · obtain ⟨(f_66 : a.eval (.tmp 66) = .bool (decide (r44 = 0))), c_68, -⟩ := hf
      exact sg_plain rfl rfl (or_and f_66 (fun hx => c_68.1 hx) rfl (osome hx45).symm)
    refine steps_cons (fun own a wx hf hsl hE => ?_) ?_
    · obtain ⟨(f_69 : a.eval (.tmp 69) = .bool x45), -⟩ := hf
      exact sg_plain rfl rfl (or_move f_69)
    refine steps_cons (fun own a wx hf hsl hE => ?_) ?_
    · obtain ⟨(f_70 : a.eval (.tmp 70) = .bool x45), -⟩ := hf
      obtain ⟨s_7, -⟩ := hsl
      refine sg_t rfl rfl rfl f_70 (fun hg => ?_)
      exact or_move (s_7.trans e43_7)
    refine steps_cons (fun own a wx hf hsl hE => ?_) ?_
    · obtain ⟨(f_70 : a.eval (.tmp 70) = .bool x45), -⟩ := hf
      obtain ⟨s_8, -⟩ := hsl
      refine sg_t rfl rfl rfl f_70 (fun hg => ?_)
      exact or_move (s_8.trans e43_8)
    refine steps_cons (fun own a wx hf hsl hE => ?_) ?_
    · obtain ⟨(f_70 : a.eval (.tmp 70) = .bool x45), c_71, c_72, -⟩ := hf
      refine sg_t rfl rfl rfl f_70 (fun hg => ?_)
      have f_71 : a.eval (.tmp 71) = .int .i64 x40 := c_71.1 hg
      have f_72 : a.eval (.tmp 72) = .int .i64 x42 := c_72.1 hg
      exact or_leq f_71 f_72 rfl
    refine steps_cons (fun own a wx hf hsl hE => ?_) ?_
    · obtain ⟨(f_70 : a.eval (.tmp 70) = .bool x45), c_73, -⟩ := hf
      exact sg_plain rfl rfl (or_and f_70 (fun hx => c_73.1 hx) rfl rfl)
    refine steps_cons (fun own a wx hf hsl hE => ?_) ?_
    · obtain ⟨(f_74 : a.eval (.tmp 74) = .bool (x45 && (decide (x40 ≤ x42)))), -⟩ := hf
      exact sg_plain rfl rfl (or_assign f_74)
    exact steps_nil
  intro own46 a46 w46 hd46 hz46 hk46 hf46 hE46
  obtain ⟨(f_6 : a46.eval (.tmp 6) = .bool (x45 && (decide (x40 ≤ x42)))), -⟩ := hf46 [14] rfl
  have e46_6 := f_6
  have hX46 := Evo.step hX43 (fun _ => Nat.le_refl 0) hE46 rfl
  refine fl_ret ?_
  obtain rfl := osome hs
  exact hret _ _ _ _ (.inl rfl) hd46 (results1_ rfl (RVal.tmp_ e46_6)) ⟨own46, rfl, hX46⟩

theorem ref01_Sign_w (w : World) (n1 : Int) (r : Int) (hs : ref01_Sign n1 = some r) :
    Calls Try.prog 58 #[.int .i64 n1] w fun e w' => ∃ own' : Own, e = .returned (.int .i64 r) ∧ Evo [] (fun _ => 0) own' w w' := by
  refine fl_enter (n := 7) rfl rfl rfl (Nat.le_of_ble_eq_true rfl) ?_
  intro a0 Q hd0 hz0 harg hret
  have ha0 := harg 0 _ rfl
  clear harg
  have hE0 : Evo [] (fun _ => 0) (fun _ => 0) w w := Evo.refl _ _ _
  refine rg_plain_seq (n := 7) (rs := []) (own0 := (fun _ => 0)) (K := [])
      (bs := [0])
      (ds := [⟨[], [], [], Fct.val 2 (.int .i64 0)⟩]) (by kernel_rfl) hz0 hd0 (fun _ h => nomatch h) ?_ ?_
  · refine steps_cons (fun own a wx hf hsl hE => ?_) ?_
    · exact sg_plain rfl rfl (or_assign rfl)
    exact steps_nil
  intro own21 a21 w21 hd21 hz21 hk21 hf21 hE21
  have e21_0 : a21.eval (.tmp 0) = .int .i64 n1 := (hk21 0 rfl).trans ha0
  have hX21 := Evo.step hE0 (fun _ => Nat.le_refl 0) hE21 rfl
  refine fl_seq (fun Q22 hn22 hp22 => ?_)
  refine rg_plain_seq (n := 7) (rs := []) (own0 := own21) (K := [])
      (bs := [0, 1])
      (ds := [⟨[], [0], [], Fct.val 3 (.int .i64 n1)⟩,
      ⟨[0], [], [], Fct.val 4 (.bool (decide (0 < n1)))⟩]) (by kernel_rfl) hz21 hd21 (fun _ h => nomatch h) ?_ ?_
  · refine steps_cons (fun own a wx hf hsl hE => ?_) ?_
    · obtain ⟨s_0, -⟩ := hsl
      exact sg_plain rfl rfl (or_move (s_0.trans e21_0))
    refine steps_cons (fun own a wx hf hsl hE => ?_) ?_
    · obtain ⟨(f_3 : a.eval (.tmp 3) = .int .i64 n1), -⟩ := hf
      exact sg_plain rfl rfl (or_gtr f_3 rfl rfl)
    exact steps_nil
  intro own23 a23 w23 hd23 hz23 hk23 hf23 hE23
  have e23_0 : a23.eval (.tmp 0) = .int .i64 n1 := (hk23 0 rfl).trans e21_0
  obtain ⟨(f_4 : a23.eval (.tmp 4) = .bool (decide (0 < n1))), -⟩ := hf23 [1] rfl
  have e23_4 := f_4
  have hX23 := Evo.step hX21 (fun _ => Nat.le_refl 0) hE23 rfl
  refine fl_cond e23_4 hs (fun c24 hs => ?_) (fun c24 hs => ?_)
  · refine rg_plain_seq (n := 7) (rs := []) (own0 := own23) (K := [])
        (bs := [0])
        (ds := [⟨[], [], [], Fct.val 2 (.int .i64 1)⟩]) (by kernel_rfl) hz23 hd23 (fun _ h => nomatch h) ?_ ?_
    · refine steps_cons (fun own a wx hf hsl hE => ?_) ?_
      · exact sg_plain rfl rfl (or_assign rfl)
      exact steps_nil
    intro own25 a25 w25 hd25 hz25 hk25 hf25 hE25
    obtain ⟨(f_2 : a25.eval (.tmp 2) = .int .i64 1), -⟩ := hf25 [0] rfl
    have e25_2 := f_2
    have hX25 := Evo.step hX23 (fun _ => Nat.le_refl 0) hE25 rfl
    refine fl_ret ?_
    refine hp22 _ _ _ rfl ?_
    obtain rfl := osome hs
    exact hret _ _ _ _ (.inl rfl) hd25 (results1_ rfl (RVal.tmp_ e25_2)) ⟨own25, rfl, hX25⟩
  refine fl_skip ?_
  refine hn22 _ _ ?_
  refine fl_seq (fun Q26 hn26 hp26 => ?_)
  refine rg_plain_seq (n := 7) (rs := []) (own0 := own23) (K := [])
      (bs := [0, 1])
      (ds := [⟨[], [0], [], Fct.val 5 (.int .i64 n1)⟩,
      ⟨[0], [], [], Fct.val 6 (.bool (decide (n1 < 0)))⟩]) (by kernel_rfl) hz23 hd23 (fun _ h => nomatch h) ?_ ?_
  · refine steps_cons (fun own a wx hf hsl hE => ?_) ?_
    · obtain ⟨s_0, -⟩ := hsl
      exact sg_plain rfl rfl (or_move (s_0.trans e23_0))
    refine steps_cons (fun own a wx hf hsl hE => ?_) ?_
    · obtain ⟨(f_5 : a.eval (.tmp 5) = .int .i64 n1), -⟩ := hf
      exact sg_plain rfl rfl (or_lss f_5 rfl rfl)
    exact steps_nil
  intro own27 a27 w27 hd27 hz27 hk27 hf27 hE27
  obtain ⟨(f_6 : a27.eval (.tmp 6) = .bool (decide (n1 < 0))), -⟩ := hf27 [1] rfl
  have e27_6 := f_6
  have hX27 := Evo.step hX23 (fun _ => Nat.le_refl 0) hE27 rfl
  refine fl_cond e27_6 hs (fun c28 hs => ?_) (fun c28 hs => ?_)
  · refine rg_plain_seq (n := 7) (rs := []) (own0 := own27) (K := [])
        (bs := [0])
        (ds := [⟨[], [], [], Fct.val 2 (.int .i64 (-1))⟩]) (by kernel_rfl) hz27 hd27 (fun _ h => nomatch h) ?_ ?_
    · refine steps_cons (fun own a wx hf hsl hE => ?_) ?_
      · exact sg_plain rfl rfl (or_assign rfl)
      exact steps_nil
    intro own29 a29 w29 hd29 hz29 hk29 hf29 hE29
    obtain ⟨(f_2 : a29.eval (.tmp 2) = .int .i64 (-1)), -⟩ := hf29 [0] rfl
    have e29_2 := f_2
    have hX29 := Evo.step hX27 (fun _ => Nat.le_refl 0) hE29 rfl
    refine fl_ret ?_
    refine hp26 _ _ _ rfl ?_
    obtain rfl := osome hs
    exact hret _ _ _ _ (.inl rfl) hd29 (results1_ rfl (RVal.tmp_ e29_2)) ⟨own29, rfl, hX29⟩
  refine fl_skip ?_
  refine hn26 _ _ ?_
  refine rg_plain_seq (n := 7) (rs := []) (own0 := own27) (K := [])
      (bs := [0])
      (ds := [⟨[], [], [], Fct.val 2 (.int .i64 0)⟩]) (by kernel_rfl) hz27 hd27 (fun _ h => nomatch h) ?_ ?_
  · refine steps_cons (fun own a wx hf hsl hE => ?_) ?_
    · exact sg_plain rfl rfl (or_assign rfl)
    exact steps_nil
  intro own30 a30 w30 hd30 hz30 hk30 hf30 hE30
  obtain ⟨(f_2 : a30.eval (.tmp 2) = .int .i64 0), -⟩ := hf30 [0] rfl
  have e30_2 := f_2
  have hX30 := Evo.step hX27 (fun _ => Nat.le_refl 0) hE30 rfl
  refine fl_ret ?_
  obtain rfl := osome hs
  exact hret _ _ _ _ (.inl rfl) hd30 (results1_ rfl (RVal.tmp_ e30_2)) ⟨own30, rfl, hX30⟩

set_option maxHeartbeats 2000000 in
theorem ref02_Class_w (w : World) (x1 : Int × Int) (b2 : Int × Int) (c3 : Int × Int) (d4 : Int × Int) (r : Int) (hs : ref02_Class x1 b2 c3 d4 = some r) :
    Calls Try.prog 37 #[.agg #[.int .i64 x1.1, .int .i64 x1.2], .agg #[.int .i64 b2.1, .int .i64 b2.2], .agg #[.int .i64 c3.1, .int .i64 c3.2], .agg #[.int .i64 d4.1, .int .i64 d4.2]] w fun e w' => ∃ own' : Own, e = .returned (.int .i64 r) ∧ Evo [] (fun _ => 0) own' w w' := by
  refine fl_enter (n := 125) rfl rfl rfl (Nat.le_of_ble_eq_true rfl) ?_
  intro a0 Q hd0 hz0 harg hret
  have ha0 := harg 0 _ rfl
  have ha1 := harg 1 _ rfl
  have ha2 := harg 2 _ rfl
  have ha3 := harg 3 _ rfl
  clear harg
  have hE0 : Evo [] (fun _ => 0) (fun _ => 0) w w := Evo.refl _ _ _
  refine rg_plain_seq (n := 125) (rs := []) (own0 := (fun _ => 0)) (K := [])
      (bs := [0, 0, 0, 0, 0])
      (ds := [⟨[], [0], [], Fct.blk 357 4 (fun g => .pointer (some ⟨g, 0, none⟩)) 49 #[.int .i64 x1.1, .int .i64 x1.2]⟩,
      ⟨[], [1], [], Fct.blk 359 5 (fun g => .pointer (some ⟨g, 0, none⟩)) 49 #[.int .i64 b2.1, .int .i64 b2.2]⟩,
      ⟨[], [2], [], Fct.blk 361 6 (fun g => .pointer (some ⟨g, 0, none⟩)) 49 #[.int .i64 c3.1, .int .i64 c3.2]⟩,
      ⟨[], [3], [], Fct.blk 363 7 (fun g => .pointer (some ⟨g, 0, none⟩)) 49 #[.int .i64 d4.1, .int .i64 d4.2]⟩,
      ⟨[], [], [], Fct.val 8 (.int .i64 0)⟩]) (by kernel_rfl) hz0 hd0 (fun _ h => nomatch h) ?_ ?_
  · refine steps_cons (fun own a wx hf hsl hE => ?_) ?_
    · obtain ⟨s_0, -⟩ := hsl
      exact sg_plain rfl rfl (or_new [(0, .agg #[.int .i64 x1.1, .int .i64 x1.2])] rfl rfl ⟨(s_0.trans ha0), trivial⟩ (by kernel_rfl))
    refine steps_cons (fun own a wx hf hsl hE => ?_) ?_
    · obtain ⟨s_1, -⟩ := hsl
      exact sg_plain rfl rfl (or_new [(1, .agg #[.int .i64 b2.1, .int .i64 b2.2])] rfl rfl ⟨(s_1.trans ha1), trivial⟩ (by kernel_rfl))
    refine steps_cons (fun own a wx hf hsl hE => ?_) ?_
    · obtain ⟨s_2, -⟩ := hsl
      exact sg_plain rfl rfl (or_new [(2, .agg #[.int .i64 c3.1, .int .i64 c3.2])] rfl rfl ⟨(s_2.trans ha2), trivial⟩ (by kernel_rfl))
    refine steps_cons (fun own a wx hf hsl hE => ?_) ?_
    · obtain ⟨s_3, -⟩ := hsl
      exact sg_plain rfl rfl (or_new [(3, .agg #[.int .i64 d4.1, .int .i64 d4.2])] rfl rfl ⟨(s_3.trans ha3), trivial⟩ (by kernel_rfl))
    refine steps_cons (fun own a wx hf hsl hE => ?_) ?_
    · exact sg_plain rfl rfl (or_assign rfl)
    exact steps_nil
  intro own364 a364 w364 hd364 hz364 hk364 hf364 hE364
  obtain ⟨⟨g356, (f_4 : a364.eval (.tmp 4) = .pointer (some ⟨g356, 0, none⟩)), (b_g356 : BlkO own364 357 w364 g356 49 #[.int .i64 x1.1, .int .i64 x1.2])⟩, ⟨g358, (f_5 : a364.eval (.tmp 5) = .pointer (some ⟨g358, 0, none⟩)), (b_g358 : BlkO own364 359 w364 g358 49 #[.int .i64 b2.1, .int .i64 b2.2])⟩, ⟨g360, (f_6 : a364.eval (.tmp 6) = .pointer (some ⟨g360, 0, none⟩)), (b_g360 : BlkO own364 361 w364 g360 49 #[.int .i64 c3.1, .int .i64 c3.2])⟩, ⟨g362, (f_7 : a364.eval (.tmp 7) = .pointer (some ⟨g362, 0, none⟩)), (b_g362 : BlkO own364 363 w364 g362 49 #[.int .i64 d4.1, .int .i64 d4.2])⟩, -⟩ := hf364 [0, 1, 2, 3] rfl
  have e364_4 := f_4
  have e364_5 := f_5
  have e364_6 := f_6
  have e364_7 := f_7
  have hX364 := Evo.step hE0 (fun _ => Nat.le_refl 0) hE364 rfl
  have b364_g356 := b_g356
  have b364_g358 := b_g358
  have b364_g360 := b_g360
  have b364_g362 := b_g362
  refine fl_seq (fun Q365 hn365 hp365 => ?_)
  obtain ⟨x366, hx366, hs⟩ := obind hs
  obtain ⟨x367, hx367, hs⟩ := obind hs
  refine rg_plain_seq (n := 125) (rs := []) (own0 := own364) (K := [])
      (bs := [0, 0, 3, 7, 15, 15, 63, 127, 255, 511, 511, 2047, 4095, 8191, 8191, 32767, 65535, 131071])
      (ds := [⟨[], [4], [], Fct.val 20 (.agg #[.int .i64 x1.1, .int .i64 x1.2])⟩,
      ⟨[], [6], [], Fct.val 21 (.agg #[.int .i64 c3.1, .int .i64 c3.2])⟩,
      ⟨[0, 1], [], [], Fct.val 22 (.bool (decide (x1 = c3)))⟩,
      ⟨[2], [], [], Fct.val 23 (.bool (decide (x1 = c3)))⟩,
      ⟨[3], [5], [], Fct.cond (decide (x1 = c3)) (some 24) (Fct.val 24 (.agg #[.int .i64 b2.1, .int .i64 b2.2]))⟩,
      ⟨[3], [7], [], Fct.cond (decide (x1 = c3)) (some 25) (Fct.val 25 (.agg #[.int .i64 d4.1, .int .i64 d4.2]))⟩,
      ⟨[3, 4, 5], [], [], Fct.cond (decide (x1 = c3)) (some 26) (Fct.val 26 (.bool (decide (b2 = d4))))⟩,
      ⟨[3, 6], [], [], Fct.val 27 (.bool x366)⟩,
      ⟨[7], [], [], Fct.val 28 (.bool x366)⟩,
      ⟨[8], [4], [], Fct.cond (!x366) (some 29) (Fct.val 29 (.agg #[.int .i64 x1.1, .int .i64 x1.2]))⟩,
      ⟨[8], [7], [], Fct.cond (!x366) (some 30) (Fct.val 30 (.agg #[.int .i64 d4.1, .int .i64 d4.2]))⟩,
      ⟨[8, 9, 10], [], [], Fct.cond (!x366) (some 31) (Fct.val 31 (.bool (decide (x1 = d4))))⟩,
      ⟨[8, 11], [], [], Fct.cond (!x366) (some 32) (Fct.val 32 (.bool (decide (x1 = d4))))⟩,
      ⟨[12], [5], [], Fct.cond ((!x366) && (decide (x1 = d4))) (some 33) (Fct.val 33 (.agg #[.int .i64 b2.1, .int .i64 b2.2]))⟩,
      ⟨[12], [6], [], Fct.cond ((!x366) && (decide (x1 = d4))) (some 34) (Fct.val 34 (.agg #[.int .i64 c3.1, .int .i64 c3.2]))⟩,
      ⟨[12, 13, 14], [], [], Fct.cond ((!x366) && (decide (x1 = d4))) (some 35) (Fct.val 35 (.bool (decide (b2 = c3))))⟩,
      ⟨[8, 12, 15], [], [], Fct.cond (!x366) (some 36) (Fct.val 36 (.bool x367))⟩,
      ⟨[8, 16], [], [], Fct.val 37 (.bool (x366 || x367))⟩]) (by kernel_rfl) hz364 hd364 (fun _ h => nomatch h) ?_ ?_
  · refine steps_cons (fun own a wx hf hsl hE => ?_) ?_
    · obtain ⟨s_4, -⟩ := hsl
      exact sg_plain rfl rfl (or_load (l := [.int .i64 x1.1, .int .i64 x1.2]) ta49 (s_4.trans e364_4) (Blk.cellsFrom (BlkO.evo (by decide) hE b364_g356).2 0 rfl) rfl)
    refine steps_cons (fun own a wx hf hsl hE => ?_) ?_
    · obtain ⟨s_6, -⟩ := hsl
      exact sg_plain rfl rfl (or_load (l := [.int .i64 c3.1, .int .i64 c3.2]) ta49 (s_6.trans e364_6) (Blk.cellsFrom (BlkO.evo (by decide) hE b364_g360).2 0 rfl) rfl)
    refine steps_cons (fun own a wx hf hsl hE => ?_) ?_
    · obtain ⟨(f_20 : a.eval (.tmp 20) = .agg #[.int .i64 x1.1, .int .i64 x1.2]), (f_21 : a.eval (.tmp 21) = .agg #[.int .i64 c3.1, .int .i64 c3.2]), -⟩ := hf
      exact sg_plain rfl rfl (or_eqlA sg49 f_20 f_21 (se49 x1.1 x1.2 c3.1 c3.2 _) rfl)
    refine steps_cons (fun own a wx hf hsl hE => ?_) ?_
    · obtain ⟨(f_22 : a.eval (.tmp 22) = .bool (decide (x1 = c3))), -⟩ := hf
      exact sg_plain rfl rfl (or_move f_22)
    refine steps_cons (fun own a wx hf hsl hE => ?_) ?_
    · obtain ⟨(f_23 : a.eval (.tmp 23) = .bool (decide (x1 = c3))), -⟩ := hf
      obtain ⟨s_5, -⟩ := hsl
      refine sg_t rfl rfl rfl f_23 (fun hg => ?_)
      exact or_load (l := [.int .i64 b2.1, .int .i64 b2.2]) ta49 (s_5.trans e364_5) (Blk.cellsFrom (BlkO.evo (by decide) hE b364_g358).2 0 rfl) rfl
    refine steps_cons (fun own a wx hf hsl hE => ?_) ?_
    · obtain ⟨(f_23 : a.eval (.tmp 23) = .bool (decide (x1 = c3))), -⟩ := hf
      obtain ⟨s_7, -⟩ := hsl
      refine sg_t rfl rfl rfl f_23 (fun hg => ?_)
      exact or_load (l := [.int .i64 d4.1, .int .i64 d4.2]) ta49 (s_7.trans e364_7) (Blk.cellsFrom (BlkO.evo (by decide) hE b364_g362).2 0 rfl) rfl
    refine steps_cons (fun own a wx hf hsl hE => ?_) ?_
    · obtain ⟨(f_23 : a.eval (.tmp 23) = .bool (decide (x1 = c3))), c_24, c_25, -⟩ := hf
      refine sg_t rfl rfl rfl f_23 (fun hg => ?_)
      have f_24 : a.eval (.tmp 24) = .agg #[.int .i64 b2.1, .int .i64 b2.2] := c_24.1 hg
      have f_25 : a.eval (.tmp 25) = .agg #[.int .i64 d4.1, .int .i64 d4.2] := c_25.1 hg
      exact or_eqlA sg49 f_24 f_25 (se49 b2.1 b2.2 d4.1 d4.2 _) rfl
    refine steps_cons (fun own a wx hf hsl hE => ?_) ?_
    · obtain ⟨(f_23 : a.eval (.tmp 23) = .bool (decide (x1 = c3))), c_26, -⟩ := hf
      exact sg_plain rfl rfl (or_and f_23 (fun hx => c_26.1 hx) rfl (osome hx366).symm)
    refine steps_cons (fun own a wx hf hsl hE => ?_) ?_
    · obtain ⟨(f_27 : a.eval (.tmp 27) = .bool x366), -⟩ := hf
      exact sg_plain rfl rfl (or_move f_27)
    refine steps_cons (fun own a wx hf hsl hE => ?_) ?_
    · obtain ⟨(f_28 : a.eval (.tmp 28) = .bool x366), -⟩ := hf
      obtain ⟨s_4, -⟩ := hsl
      refine sg_f rfl rfl rfl f_28 (fun hg => ?_)
      exact or_load (l := [.int .i64 x1.1, .int .i64 x1.2]) ta49 (s_4.trans e364_4) (Blk.cellsFrom (BlkO.evo (by decide) hE b364_g356).2 0 rfl) rfl
    refine steps_cons (fun own a wx hf hsl hE => ?_) ?_
    · obtain ⟨(f_28 : a.eval (.tmp 28) = .bool x366), -⟩ := hf
      obtain ⟨s_7, -⟩ := hsl
      refine sg_f rfl rfl rfl f_28 (fun hg => ?_)
      exact or_load (l := [.int .i64 d4.1, .int .i64 d4.2]) ta49 (s_7.trans e364_7) (Blk.cellsFrom (BlkO.evo (by decide) hE b364_g362).2 0 rfl) rfl
    refine steps_cons (fun own a wx hf hsl hE => ?_) ?_
    · obtain ⟨(f_28 : a.eval (.tmp 28) = .bool x366), c_29, c_30, -⟩ := hf
      refine sg_f rfl rfl rfl f_28 (fun hg => ?_)
      have f_29 : a.eval (.tmp 29) = .agg #[.int .i64 x1.1, .int .i64 x1.2] := c_29.1 hg
      have f_30 : a.eval (.tmp 30) = .agg #[.int .i64 d4.1, .int .i64 d4.2] := c_30.1 hg
      exact or_eqlA sg49 f_29 f_30 (se49 x1.1 x1.2 d4.1 d4.2 _) rfl
    refine steps_cons (fun own a wx hf hsl hE => ?_) ?_
    · obtain ⟨(f_28 : a.eval (.tmp 28) = .bool x366), c_31, -⟩ := hf
      refine sg_f rfl rfl rfl f_28 (fun hg => ?_)
      have f_31 : a.eval (.tmp 31) = .bool (decide (x1 = d4)) := c_31.1 hg
      exact or_move f_31
    refine steps_cons (fun own a wx hf hsl hE => ?_) ?_
    · obtain ⟨c_32, -⟩ := hf
      obtain ⟨s_5, -⟩ := hsl
      refine sg_tc rfl rfl rfl c_32 (fun hg => ?_)
      have f_32 : a.eval (.tmp 32) = .bool (decide (x1 = d4)) := c_32.1 (gL hg)
      exact or_load (l := [.int .i64 b2.1, .int .i64 b2.2]) ta49 (s_5.trans e364_5) (Blk.cellsFrom (BlkO.evo (by decide) hE b364_g358).2 0 rfl) rfl
    refine steps_cons (fun own a wx hf hsl hE => ?_) ?_
    · obtain ⟨c_32, -⟩ := hf
      obtain ⟨s_6, -⟩ := hsl
      refine sg_tc rfl rfl rfl c_32 (fun hg => ?_)
      have f_32 : a.eval (.tmp 32) = .bool (decide (x1 = d4)) := c_32.1 (gL hg)
      exact or_load (l := [.int .i64 c3.1, .int .i64 c3.2]) ta49 (s_6.trans e364_6) (Blk.cellsFrom (BlkO.evo (by decide) hE b364_g360).2 0 rfl) rfl
    refine steps_cons (fun own a wx hf hsl hE => ?_) ?_
    · obtain ⟨c_32, c_33, c_34, -⟩ := hf
      refine sg_tc rfl rfl rfl c_32 (fun hg => ?_)
      have f_32 : a.eval (.tmp 32) = .bool (decide (x1 = d4)) := c_32.1 (gL hg)
      have f_33 : a.eval (.tmp 33) = .agg #[.int .i64 b2.1, .int .i64 b2.2] := c_33.1 hg
      have f_34 : a.eval (.tmp 34) = .agg #[.int .i64 c3.1, .int .i64 c3.2] := c_34.1 hg
      exact or_eqlA sg49 f_33 f_34 (se49 b2.1 b2.2 c3.1 c3.2 _) rfl
    refine steps_cons (fun own a wx hf hsl hE => ?_) ?_
    · obtain ⟨(f_28 : a.eval (.tmp 28) = .bool x366), c_32, c_35, -⟩ := hf
      refine sg_f rfl rfl rfl f_28 (fun hg => ?_)
      have f_32 : a.eval (.tmp 32) = .bool (decide (x1 = d4)) := c_32.1 hg
      exact or_and f_32 (fun hx => c_35.1 (gI hg hx)) rfl (osome hx367).symm
    refine steps_cons (fun own a wx hf hsl hE => ?_) ?_
    · obtain ⟨(f_28 : a.eval (.tmp 28) = .bool x366), c_36, -⟩ := hf
      exact sg_plain rfl rfl (or_or f_28 rfl (fun hx => c_36.1 hx) rfl)
    exact steps_nil
  intro own368 a368 w368 hd368 hz368 hk368 hf368 hE368
  have e368_4 : a368.eval (.tmp 4) = .pointer (some ⟨g356, 0, none⟩) := (hk368 4 rfl).trans e364_4
  have e368_5 : a368.eval (.tmp 5) = .pointer (some ⟨g358, 0, none⟩) := (hk368 5 rfl).trans e364_5
  have e368_6 : a368.eval (.tmp 6) = .pointer (some ⟨g360, 0, none⟩) := (hk368 6 rfl).trans e364_6
  have e368_7 : a368.eval (.tmp 7) = .pointer (some ⟨g362, 0, none⟩) := (hk368 7 rfl).trans e364_7
  obtain ⟨(f_37 : a368.eval (.tmp 37) = .bool (x366 || x367)), -⟩ := hf368 [17] rfl
  have e368_37 := f_37
  have hX368 := Evo.step hX364 (fun _ => Nat.le_refl 0) hE368 rfl
  have b368_g356 := BlkO.evo (by decide) hE368 b364_g356
  have b368_g358 := BlkO.evo (by decide) hE368 b364_g358
  have b368_g360 := BlkO.evo (by decide) hE368 b364_g360
  have b368_g362 := BlkO.evo (by decide) hE368 b364_g362
  refine fl_cond e368_37 hs (fun c369 hs => ?_) (fun c369 hs => ?_)
  · refine rg_plain_seq (n := 125) (rs := []) (own0 := own368) (K := [])
        (bs := [0])
        (ds := [⟨[], [], [], Fct.val 8 (.int .i64 5)⟩]) (by kernel_rfl) hz368 hd368 (fun _ h => nomatch h) ?_ ?_
    · refine steps_cons (fun own a wx hf hsl hE => ?_) ?_
      · exact sg_plain rfl rfl (or_assign rfl)
      exact steps_nil
    intro own370 a370 w370 hd370 hz370 hk370 hf370 hE370
    obtain ⟨(f_8 : a370.eval (.tmp 8) = .int .i64 5), -⟩ := hf370 [0] rfl
    have e370_8 := f_8
    have hX370 := Evo.step hX368 (fun _ => Nat.le_refl 0) hE370 rfl
    refine fl_ret ?_
    refine hp365 _ _ _ rfl ?_
    obtain rfl := osome hs
    exact hret _ _ _ _ (.inl rfl) hd370 (results1_ rfl (RVal.tmp_ e370_8)) ⟨own370, rfl, hX370⟩
  refine fl_skip ?_
  refine hn365 _ _ ?_
  refine rg_plain_seq (n := 125) (rs := []) (own0 := own368) (K := [])
      (bs := [0, 1])
      (ds := [⟨[], [], [], Fct.val 9 (.int .i64 0)⟩,
      ⟨[], [], [], Fct.val 10 (.int .i64 0)⟩]) (by kernel_rfl) hz368 hd368 (fun _ h => nomatch h) ?_ ?_
  · refine steps_cons (fun own a wx hf hsl hE => ?_) ?_
    · exact sg_plain rfl rfl (or_assign rfl)
    refine steps_cons (fun own a wx hf hsl hE => ?_) ?_
    · exact sg_plain rfl rfl (or_assign rfl)
    exact steps_nil
  intro own371 a371 w371 hd371 hz371 hk371 hf371 hE371
  have e371_4 : a371.eval (.tmp 4) = .pointer (some ⟨g356, 0, none⟩) := (hk371 4 rfl).trans e368_4
  have e371_5 : a371.eval (.tmp 5) = .pointer (some ⟨g358, 0, none⟩) := (hk371 5 rfl).trans e368_5
  have e371_6 : a371.eval (.tmp 6) = .pointer (some ⟨g360, 0, none⟩) := (hk371 6 rfl).trans e368_6
  have e371_7 : a371.eval (.tmp 7) = .pointer (some ⟨g362, 0, none⟩) := (hk371 7 rfl).trans e368_7
  obtain ⟨(f_9 : a371.eval (.tmp 9) = .int .i64 0), (f_10 : a371.eval (.tmp 10) = .int .i64 0), -⟩ := hf371 [0, 1] rfl
  have e371_9 := f_9
  have e371_10 := f_10
  have hX371 := Evo.step hX368 (fun _ => Nat.le_refl 0) hE371 rfl
  have b371_g356 := BlkO.evo (by decide) hE371 b368_g356
  have b371_g358 := BlkO.evo (by decide) hE371 b368_g358
  have b371_g360 := BlkO.evo (by decide) hE371 b368_g360
  have b371_g362 := BlkO.evo (by decide) hE371 b368_g362
  refine rg_plain_seq (n := 125) (rs := []) (own0 := own371) (K := [])
      (bs := [0, 0, 3, 7])
      (ds := [⟨[], [4], [], Fct.val 38 (.agg #[.int .i64 x1.1, .int .i64 x1.2])⟩,
      ⟨[], [5], [], Fct.val 39 (.agg #[.int .i64 b2.1, .int .i64 b2.2])⟩,
      ⟨[0, 1], [], [], Fct.row 373 [] 40 49 R49 [x1, b2]⟩,
      ⟨[2], [], [], Fct.rel [11, 40] (fun l => ∀ (A372 : Option Addr) (cA372 : Nat), l.getD 1 undef = .slice A372 [x1, b2].length cA372 → l.getD 0 undef = .slice A372 [x1, b2].length cA372)⟩]) (by kernel_rfl) hz371 hd371 (fun _ h => nomatch h) ?_ ?_
  · refine steps_cons (fun own a wx hf hsl hE => ?_) ?_
    · obtain ⟨s_4, -⟩ := hsl
      exact sg_plain rfl rfl (or_load (l := [.int .i64 x1.1, .int .i64 x1.2]) ta49 (s_4.trans e371_4) (Blk.cellsFrom (BlkO.evo (by decide) hE b371_g356).2 0 rfl) rfl)
    refine steps_cons (fun own a wx hf hsl hE => ?_) ?_
    · obtain ⟨s_5, -⟩ := hsl
      exact sg_plain rfl rfl (or_load (l := [.int .i64 b2.1, .int .i64 b2.2]) ta49 (s_5.trans e371_5) (Blk.cellsFrom (BlkO.evo (by decide) hE b371_g358).2 0 rfl) rfl)
    refine steps_cons (fun own a wx hf hsl hE => ?_) ?_
    · obtain ⟨(f_38 : a.eval (.tmp 38) = .agg #[.int .i64 x1.1, .int .i64 x1.2]), (f_39 : a.eval (.tmp 39) = .agg #[.int .i64 b2.1, .int .i64 b2.2]), -⟩ := hf
      exact sg_plain rfl rfl (or_lit (lab := 373) (e := 49) (cs := #[.int .i64 x1.1, .int .i64 x1.2, .int .i64 b2.1, .int .i64 b2.2]) (F := E49) (or_new [(38, .agg #[.int .i64 x1.1, .int .i64 x1.2]), (39, .agg #[.int .i64 b2.1, .int .i64 b2.2])] rfl rfl ⟨f_38, f_39, trivial⟩ (by kernel_rfl)) rfl rfl (show 2 ≤ maxLen by decide))
    refine steps_cons (fun own a wx hf hsl hE => ?_) ?_
    · obtain ⟨⟨⟨A372, cA372⟩, (f_40 : a.eval (.tmp 40) = .slice A372 [x1, b2].length cA372), (b_A372 : RwO own 373 [] wx 49 R49 A372 cA372 [x1, b2])⟩, -⟩ := hf
      exact sg_plain rfl rfl (or_mono (f := Fct.val 11 (.slice A372 [x1, b2].length cA372)) (or_assign f_40) (fun own' a' w' v' hp h => fun _ _ h0' => by cases (f_40.symm.trans ((hp.2 40 (by decide)).symm.trans h0')); exact h))
    exact steps_nil
  intro own374 a374 w374 hd374 hz374 hk374 hf374 hE374
  have e374_4 : a374.eval (.tmp 4) = .pointer (some ⟨g356, 0, none⟩) := (hk374 4 rfl).trans e371_4
  have e374_5 : a374.eval (.tmp 5) = .pointer (some ⟨g358, 0, none⟩) := (hk374 5 rfl).trans e371_5
  have e374_6 : a374.eval (.tmp 6) = .pointer (some ⟨g360, 0, none⟩) := (hk374 6 rfl).trans e371_6
  have e374_7 : a374.eval (.tmp 7) = .pointer (some ⟨g362, 0, none⟩) := (hk374 7 rfl).trans e371_7
  have e374_9 : a374.eval (.tmp 9) = .int .i64 0 := (hk374 9 rfl).trans e371_9
  have e374_10 : a374.eval (.tmp 10) = .int .i64 0 := (hk374 10 rfl).trans e371_10
  obtain ⟨⟨⟨A372, cA372⟩, (f_40 : a374.eval (.tmp 40) = .slice A372 [x1, b2].length cA372), (b_A372 : RwO own374 373 [] w374 49 R49 A372 cA372 [x1, b2])⟩, (q_11 : ∀ (A372 : Option Addr) (cA372 : Nat), a374.eval (.tmp 40) = .slice A372 [x1, b2].length cA372 → a374.eval (.tmp 11) = .slice A372 [x1, b2].length cA372), -⟩ := hf374 [2, 3] rfl
  have f_11 := q_11 _ _ f_40
  have e374_11 := f_11
  have hX374 := Evo.step hX371 (fun _ => Nat.le_refl 0) hE374 rfl
  have b374_g356 := BlkO.evo (by decide) hE374 b371_g356
  have b374_g358 := BlkO.evo (by decide) hE374 b371_g358
  have b374_g360 := BlkO.evo (by decide) hE374 b371_g360
  have b374_g362 := BlkO.evo (by decide) hE374 b371_g362
  have b374_A372 := b_A372
  refine fl_seq (fun Q375 hn375 hp375 => ?_)
  refine rg_plain_seq (n := 125) (rs := []) (own0 := own374) (K := [])
      (bs := [0])
      (ds := [⟨[], [], [], Fct.val 12 (.int .i64 0)⟩]) (by kernel_rfl) hz374 hd374 (fun _ h => nomatch h) ?_ ?_
  · refine steps_cons (fun own a wx hf hsl hE => ?_) ?_
    · exact sg_plain rfl rfl (or_assign rfl)
    exact steps_nil
  intro own376 a376 w376 hd376 hz376 hk376 hf376 hE376
  have e376_4 : a376.eval (.tmp 4) = .pointer (some ⟨g356, 0, none⟩) := (hk376 4 rfl).trans e374_4
  have e376_5 : a376.eval (.tmp 5) = .pointer (some ⟨g358, 0, none⟩) := (hk376 5 rfl).trans e374_5
  have e376_6 : a376.eval (.tmp 6) = .pointer (some ⟨g360, 0, none⟩) := (hk376 6 rfl).trans e374_6
  have e376_7 : a376.eval (.tmp 7) = .pointer (some ⟨g362, 0, none⟩) := (hk376 7 rfl).trans e374_7
  have e376_9 : a376.eval (.tmp 9) = .int .i64 0 := (hk376 9 rfl).trans e374_9
  have e376_10 : a376.eval (.tmp 10) = .int .i64 0 := (hk376 10 rfl).trans e374_10
  have e376_11 : a376.eval (.tmp 11) = .slice A372 [x1, b2].length cA372 := (hk376 11 rfl).trans e374_11
  obtain ⟨(f_12 : a376.eval (.tmp 12) = .int .i64 0), -⟩ := hf376 [0] rfl
  have e376_12 := f_12
  have hX376 := Evo.step hX374 (fun _ => Nat.le_refl 0) hE376 rfl
  have b376_g356 := BlkO.evo (by decide) hE376 b374_g356
  have b376_g358 := BlkO.evo (by decide) hE376 b374_g358
  have b376_g360 := BlkO.evo (by decide) hE376 b374_g360
  have b376_g362 := BlkO.evo (by decide) hE376 b374_g362
  have b376_A372 := RwO.evo rfl hE376 b374_A372
  refine fl_block (fun Q377 hn377 hx377 hp377 => ?_)
  refine fl_loop (body := (fun s => ref02_Class_b1 x1 b2 c3 d4 s.1 s.2.1 s.2.2)) (z := r) (show loopO _ _ = _ from hs) (fun (s : Int × Int × Int) a wx => match s with | (n437, both438, i439) => ∃ (ox : Own), a.defers = [] ∧ a.tmps.size = 125 ∧ a.eval (.tmp 4) = .pointer (some ⟨g356, 0, none⟩) ∧ a.eval (.tmp 5) = .pointer (some ⟨g358, 0, none⟩) ∧ a.eval (.tmp 6) = .pointer (some ⟨g360, 0, none⟩) ∧ a.eval (.tmp 7) = .pointer (some ⟨g362, 0, none⟩) ∧ a.eval (.tmp 9) = .int .i64 n437 ∧ a.eval (.tmp 10) = .int .i64 both438 ∧ a.eval (.tmp 11) = .slice A372 [x1, b2].length cA372 ∧ a.eval (.tmp 12) = .int .i64 i439 ∧ Evo [] (fun _ => 0) ox w wx ∧ BlkO ox 357 wx g356 49 #[.int .i64 x1.1, .int .i64 x1.2] ∧ BlkO ox 359 wx g358 49 #[.int .i64 b2.1, .int .i64 b2.2] ∧ BlkO ox 361 wx g360 49 #[.int .i64 c3.1, .int .i64 c3.2] ∧ BlkO ox 363 wx g362 49 #[.int .i64 d4.1, .int .i64 d4.2] ∧ RwO ox 373 [] wx 49 R49 A372 cA372 [x1, b2]) ?_ ?_
  · exact ⟨own376, hd376, hz376, e376_4, e376_5, e376_6, e376_7, e376_9, e376_10, e376_11, e376_12, hX376, b376_g356, b376_g358, b376_g360, b376_g362, b376_A372⟩
  · rintro ⟨n437, both438, i439⟩ zz500 a500 w500 ⟨own500, hd501, hz501, e501_4, e501_5, e501_6, e501_7, e501_9, e501_10, e501_11, e501_12, hE501, b501_g356, b501_g358, b501_g360, b501_g362, b501_A372⟩ hs Q500 hn500 hp500 hz500
    have hs : ref02_Class_b1 x1 b2 c3 d4 n437 both438 i439 = some zz500 := hs
    refine fl_seq (fun Q502 hn502 hp502 => ?_)
    refine rg_plain_seq (n := 125) (rs := []) (own0 := own500) (K := [])
        (bs := [0, 1])
        (ds := [⟨[], [12], [], Fct.val 41 (.int .i64 i439)⟩,
        ⟨[0], [], [], Fct.val 42 (.bool (decide (i439 < 2)))⟩]) (by kernel_rfl) hz501 hd501 (fun _ h => nomatch h) ?_ ?_
    · refine steps_cons (fun own a wx hf hsl hE => ?_) ?_
      · obtain ⟨s_12, -⟩ := hsl
        exact sg_plain rfl rfl (or_move (s_12.trans e501_12))
      refine steps_cons (fun own a wx hf hsl hE => ?_) ?_
      · obtain ⟨(f_41 : a.eval (.tmp 41) = .int .i64 i439), -⟩ := hf
        exact sg_plain rfl rfl (or_lss f_41 rfl rfl)
      exact steps_nil
    intro own503 a503 w503 hd503 hz503 hk503 hf503 hE503
    have e503_4 : a503.eval (.tmp 4) = .pointer (some ⟨g356, 0, none⟩) := (hk503 4 rfl).trans e501_4
    have e503_5 : a503.eval (.tmp 5) = .pointer (some ⟨g358, 0, none⟩) := (hk503 5 rfl).trans e501_5
    have e503_6 : a503.eval (.tmp 6) = .pointer (some ⟨g360, 0, none⟩) := (hk503 6 rfl).trans e501_6
    have e503_7 : a503.eval (.tmp 7) = .pointer (some ⟨g362, 0, none⟩) := (hk503 7 rfl).trans e501_7
    have e503_9 : a503.eval (.tmp 9) = .int .i64 n437 := (hk503 9 rfl).trans e501_9
    have e503_10 : a503.eval (.tmp 10) = .int .i64 both438 := (hk503 10 rfl).trans e501_10
    have e503_11 : a503.eval (.tmp 11) = .slice A372 [x1, b2].length cA372 := (hk503 11 rfl).trans e501_11
    have e503_12 : a503.eval (.tmp 12) = .int .i64 i439 := (hk503 12 rfl).trans e501_12
    obtain ⟨(f_42 : a503.eval (.tmp 42) = .bool (decide (i439 < 2))), -⟩ := hf503 [1] rfl
    have e503_42 := f_42
    have hX503 := Evo.step hE501 (fun _ => Nat.le_refl 0) hE503 rfl
    have b503_g356 := BlkO.evo (by decide) hE503 b501_g356
    have b503_g358 := BlkO.evo (by decide) hE503 b501_g358
    have b503_g360 := BlkO.evo (by decide) hE503 b501_g360
    have b503_g362 := BlkO.evo (by decide) hE503 b501_g362
    have b503_A372 := RwO.evo rfl hE503 b501_A372
    refine fl_cond e503_42 hs (fun c504 hs => ?_) (fun c504 hs => ?_)
    · refine fl_skip ?_
      refine hn502 _ _ ?_
      refine fl_seq (fun Q505 hn505 hp505 => ?_)
      refine fl_block (fun Q533 hn533 hx533 hp533 => ?_)
      have K547 : ∀ (a547 : Act) (w547 : World) (own547 : Own) (n545 : Int) (both546 : Int), a547.defers = [] → a547.tmps.size = 125 → a547.eval (.tmp 4) = .pointer (some ⟨g356, 0, none⟩) → a547.eval (.tmp 5) = .pointer (some ⟨g358, 0, none⟩) → a547.eval (.tmp 6) = .pointer (some ⟨g360, 0, none⟩) → a547.eval (.tmp 7) = .pointer (some ⟨g362, 0, none⟩) → a547.eval (.tmp 9) = .int .i64 n545 → a547.eval (.tmp 10) = .int .i64 both546 → a547.eval (.tmp 11) = .slice A372 [x1, b2].length cA372 → a547.eval (.tmp 12) = .int .i64 i439 → Evo [] (fun _ => 0) own547 w w547 → BlkO own547 357 w547 g356 49 #[.int .i64 x1.1, .int .i64 x1.2] → BlkO own547 359 w547 g358 49 #[.int .i64 b2.1, .int .i64 b2.2] → BlkO own547 361 w547 g360 49 #[.int .i64 c3.1, .int .i64 c3.2] → BlkO own547 363 w547 g362 49 #[.int .i64 d4.1, .int .i64 d4.2] → RwO own547 373 [] w547 49 R49 A372 cA372 [x1, b2] → ref02_Class_k2 i439 n545 both546 = some zz500 → (Q533 .normal a547 w547 ∧ Q533 (.exit 1) a547 w547) := by
        intro a547 w547 own547 n545 both546 hd548 hz548 e548_4 e548_5 e548_6 e548_7 e548_9 e548_10 e548_11 e548_12 hE548 b548_g356 b548_g358 b548_g360 b548_g362 b548_A372 hs
        refine and_both (hn533 _ _) (hx533 _ _) ?_
        refine hn505 _ _ ?_
        refine rg_plain (n := 125) (rs := []) (own0 := own547) (K := [])
            (bs := [0, 1, 3])
            (ds := [⟨[], [12], [], Fct.val 43 (.int .i64 i439)⟩,
            ⟨[0], [], [], Fct.val 44 (.int .i64 (ad i439 1))⟩,
            ⟨[1], [], [], Fct.val 12 (.int .i64 (ad i439 1))⟩]) (by kernel_rfl) hz548 hd548 (fun _ h => nomatch h) ?_ ?_
        · refine steps_cons (fun own a wx hf hsl hE => ?_) ?_
          · obtain ⟨s_12, -⟩ := hsl
            exact sg_plain rfl rfl (or_move (s_12.trans e548_12))
          refine steps_cons (fun own a wx hf hsl hE => ?_) ?_
          · obtain ⟨(f_43 : a.eval (.tmp 43) = .int .i64 i439), -⟩ := hf
            exact sg_plain rfl rfl (or_add f_43 rfl rfl)
          refine steps_cons (fun own a wx hf hsl hE => ?_) ?_
          · obtain ⟨(f_44 : a.eval (.tmp 44) = .int .i64 (ad i439 1)), -⟩ := hf
            exact sg_plain rfl rfl (or_assign f_44)
          exact steps_nil
        intro own549 a549 w549 hd549 hz549 hk549 hf549 hE549
        have e549_4 : a549.eval (.tmp 4) = .pointer (some ⟨g356, 0, none⟩) := (hk549 4 rfl).trans e548_4
        have e549_5 : a549.eval (.tmp 5) = .pointer (some ⟨g358, 0, none⟩) := (hk549 5 rfl).trans e548_5
        have e549_6 : a549.eval (.tmp 6) = .pointer (some ⟨g360, 0, none⟩) := (hk549 6 rfl).trans e548_6
        have e549_7 : a549.eval (.tmp 7) = .pointer (some ⟨g362, 0, none⟩) := (hk549 7 rfl).trans e548_7
        have e549_9 : a549.eval (.tmp 9) = .int .i64 n545 := (hk549 9 rfl).trans e548_9
        have e549_10 : a549.eval (.tmp 10) = .int .i64 both546 := (hk549 10 rfl).trans e548_10
        have e549_11 : a549.eval (.tmp 11) = .slice A372 [x1, b2].length cA372 := (hk549 11 rfl).trans e548_11
        obtain ⟨(f_12 : a549.eval (.tmp 12) = .int .i64 (ad i439 1)), -⟩ := hf549 [2] rfl
        have e549_12 := f_12
        have hX549 := Evo.step hE548 (fun _ => Nat.le_refl 0) hE549 rfl
        have b549_g356 := BlkO.evo (by decide) hE549 b548_g356
        have b549_g358 := BlkO.evo (by decide) hE549 b548_g358
        have b549_g360 := BlkO.evo (by decide) hE549 b548_g360
        have b549_g362 := BlkO.evo (by decide) hE549 b548_g362
        have b549_A372 := RwO.evo rfl hE549 b548_A372
        exact hn500 _ _ _ hs ⟨own549, hd549, hz549, e549_4, e549_5, e549_6, e549_7, e549_9, e549_10, e549_11, e549_12, hX549, b549_g356, b549_g358, b549_g360, b549_g362, b549_A372⟩
      obtain ⟨x550, hx550, hs⟩ := obind hs
      obtain ⟨r551, hr551, hs⟩ := obind hs
      refine rg_draw_seq g_mixed (n := 125) (rs := []) (own0 := own503) (K := [])
          (bs := [0, 0, 0, 0, 12, 28, 63])
          (ds := [⟨[], [6], [], Fct.val 45 (.agg #[.int .i64 c3.1, .int .i64 c3.2])⟩,
          ⟨[], [7], [], Fct.val 46 (.agg #[.int .i64 d4.1, .int .i64 d4.2])⟩,
          ⟨[], [11], [], Fct.val 47 (.slice A372 [x1, b2].length cA372)⟩,
          ⟨[], [12], [], Fct.val 48 (.int .i64 i439)⟩,
          ⟨[2, 3], [], [], Fct.val 49 (.pointer (some ((adr A372).add ((i439 : Int).toNat * R49.s))))⟩,
          ⟨[4], [], [], Fct.val 50 (.agg #[.int .i64 x550.1, .int .i64 x550.2])⟩,
          ⟨[0, 1, 5], [], [], Fct.val 51 (.bool r551)⟩]) (by kernel_rfl) hz503 hd503 (fun _ h => nomatch h) ?_ ?_
      · refine steps_cons (fun own a wx hf hsl hE => ?_) ?_
        · obtain ⟨s_6, -⟩ := hsl
          exact sg_plain rfl rfl (or_load (l := [.int .i64 c3.1, .int .i64 c3.2]) ta49 (s_6.trans e503_6) (Blk.cellsFrom (BlkO.evo (by decide) hE b503_g360).2 0 rfl) rfl)
        refine steps_cons (fun own a wx hf hsl hE => ?_) ?_
        · obtain ⟨s_7, -⟩ := hsl
          exact sg_plain rfl rfl (or_load (l := [.int .i64 d4.1, .int .i64 d4.2]) ta49 (s_7.trans e503_7) (Blk.cellsFrom (BlkO.evo (by decide) hE b503_g362).2 0 rfl) rfl)
        refine steps_cons (fun own a wx hf hsl hE => ?_) ?_
        · obtain ⟨s_11, -⟩ := hsl
          exact sg_plain rfl rfl (or_move (s_11.trans e503_11))
        refine steps_cons (fun own a wx hf hsl hE => ?_) ?_
        · obtain ⟨s_12, -⟩ := hsl
          exact sg_plain rfl rfl (or_move (s_12.trans e503_12))
        refine steps_cons (fun own a wx hf hsl hE => ?_) ?_
        · obtain ⟨(f_47 : a.eval (.tmp 47) = .slice A372 [x1, b2].length cA372), (f_48 : a.eval (.tmp 48) = .int .i64 i439), -⟩ := hf
          exact sg_plain rfl rfl (or_index (R := R49) (l := [x1, b2]) tl24 f_47 f_48 (RdO.some_ (RwO.rd b503_A372) hx550) hx550)
        refine steps_cons (fun own a wx hf hsl hE => ?_) ?_
        · obtain ⟨(f_49 : a.eval (.tmp 49) = .pointer (some ((adr A372).add ((i439 : Int).toNat * R49.s)))), -⟩ := hf
          exact sg_plain rfl rfl (or_load (l := E49.f x550) ta49 f_49 (RdO.cells (F := E49) (RwO.rd (RwO.evo rfl hE b503_A372)) hx550) rfl)
        refine steps_cons (fun own a wx hf hsl hE => ?_) ?_
        · obtain ⟨(f_45 : a.eval (.tmp 45) = .agg #[.int .i64 c3.1, .int .i64 c3.2]), (f_46 : a.eval (.tmp 46) = .agg #[.int .i64 d4.1, .int .i64 d4.2]), (f_50 : a.eval (.tmp 50) = .agg #[.int .i64 x550.1, .int .i64 x550.2]), -⟩ := hf
          exact sg_plain rfl rfl (or_call cf57 (args3 f_45 f_46 f_50) (ref01_On_w _ c3 d4 x550  r551 hr551) post_val)
        exact steps_nil
      intro own552 a552 w552 hd552 hz552 hk552 hf552 hE552
      have e552_4 : a552.eval (.tmp 4) = .pointer (some ⟨g356, 0, none⟩) := (hk552 4 rfl).trans e503_4
      have e552_5 : a552.eval (.tmp 5) = .pointer (some ⟨g358, 0, none⟩) := (hk552 5 rfl).trans e503_5
      have e552_6 : a552.eval (.tmp 6) = .pointer (some ⟨g360, 0, none⟩) := (hk552 6 rfl).trans e503_6
      have e552_7 : a552.eval (.tmp 7) = .pointer (some ⟨g362, 0, none⟩) := (hk552 7 rfl).trans e503_7
      have e552_9 : a552.eval (.tmp 9) = .int .i64 n437 := (hk552 9 rfl).trans e503_9
      have e552_10 : a552.eval (.tmp 10) = .int .i64 both438 := (hk552 10 rfl).trans e503_10
      have e552_11 : a552.eval (.tmp 11) = .slice A372 [x1, b2].length cA372 := (hk552 11 rfl).trans e503_11
      have e552_12 : a552.eval (.tmp 12) = .int .i64 i439 := (hk552 12 rfl).trans e503_12
      obtain ⟨(f_51 : a552.eval (.tmp 51) = .bool r551), -⟩ := hf552 [6] rfl
      have e552_51 := f_51
      have hX552 := Evo.step hX503 (fun _ => Nat.le_refl 0) hE552 rfl
      have b552_g356 := BlkO.evo (by decide) hE552 b503_g356
      have b552_g358 := BlkO.evo (by decide) hE552 b503_g358
      have b552_g360 := BlkO.evo (by decide) hE552 b503_g360
      have b552_g362 := BlkO.evo (by decide) hE552 b503_g362
      have b552_A372 := RwO.evo rfl hE552 b503_A372
      refine fl_cond e552_51 hs (fun c553 hs => ?_) (fun c553 hs => ?_)
      · refine rg_plain_seq (n := 125) (rs := []) (own0 := own552) (K := [])
            (bs := [0, 1, 3])
            (ds := [⟨[], [9], [], Fct.val 52 (.int .i64 n437)⟩,
            ⟨[0], [], [], Fct.val 53 (.int .i64 (ad n437 1))⟩,
            ⟨[1], [], [], Fct.val 9 (.int .i64 (ad n437 1))⟩]) (by kernel_rfl) hz552 hd552 (fun _ h => nomatch h) ?_ ?_
        · refine steps_cons (fun own a wx hf hsl hE => ?_) ?_
          · obtain ⟨s_9, -⟩ := hsl
            exact sg_plain rfl rfl (or_move (s_9.trans e552_9))
          refine steps_cons (fun own a wx hf hsl hE => ?_) ?_
          · obtain ⟨(f_52 : a.eval (.tmp 52) = .int .i64 n437), -⟩ := hf
            exact sg_plain rfl rfl (or_add f_52 rfl rfl)
          refine steps_cons (fun own a wx hf hsl hE => ?_) ?_
          · obtain ⟨(f_53 : a.eval (.tmp 53) = .int .i64 (ad n437 1)), -⟩ := hf
            exact sg_plain rfl rfl (or_assign f_53)
          exact steps_nil
        intro own554 a554 w554 hd554 hz554 hk554 hf554 hE554
        have e554_4 : a554.eval (.tmp 4) = .pointer (some ⟨g356, 0, none⟩) := (hk554 4 rfl).trans e552_4
        have e554_5 : a554.eval (.tmp 5) = .pointer (some ⟨g358, 0, none⟩) := (hk554 5 rfl).trans e552_5
        have e554_6 : a554.eval (.tmp 6) = .pointer (some ⟨g360, 0, none⟩) := (hk554 6 rfl).trans e552_6
        have e554_7 : a554.eval (.tmp 7) = .pointer (some ⟨g362, 0, none⟩) := (hk554 7 rfl).trans e552_7
        have e554_10 : a554.eval (.tmp 10) = .int .i64 both438 := (hk554 10 rfl).trans e552_10
        have e554_11 : a554.eval (.tmp 11) = .slice A372 [x1, b2].length cA372 := (hk554 11 rfl).trans e552_11
        have e554_12 : a554.eval (.tmp 12) = .int .i64 i439 := (hk554 12 rfl).trans e552_12
        obtain ⟨(f_9 : a554.eval (.tmp 9) = .int .i64 (ad n437 1)), -⟩ := hf554 [2] rfl
        have e554_9 := f_9
        have hX554 := Evo.step hX552 (fun _ => Nat.le_refl 0) hE554 rfl
        have b554_g356 := BlkO.evo (by decide) hE554 b552_g356
        have b554_g358 := BlkO.evo (by decide) hE554 b552_g358
        have b554_g360 := BlkO.evo (by decide) hE554 b552_g360
        have b554_g362 := BlkO.evo (by decide) hE554 b552_g362
        have b554_A372 := RwO.evo rfl hE554 b552_A372
        obtain ⟨x555, hx555, hs⟩ := obind hs
        obtain ⟨x556, hx556, hs⟩ := obind hs
        obtain ⟨x557, hx557, hs⟩ := obind hs
        refine rg_draw_seq g_mixed (n := 125) (rs := []) (own0 := own554) (K := [])
            (bs := [0, 0, 3, 7, 0, 31, 63, 127, 127, 511, 1023, 127, 4095, 8191])
            (ds := [⟨[], [11], [], Fct.val 54 (.slice A372 [x1, b2].length cA372)⟩,
            ⟨[], [12], [], Fct.val 55 (.int .i64 i439)⟩,
            ⟨[0, 1], [], [], Fct.val 56 (.pointer (some ((adr A372).add ((i439 : Int).toNat * R49.s))))⟩,
            ⟨[2], [], [], Fct.val 57 (.agg #[.int .i64 x555.1, .int .i64 x555.2])⟩,
            ⟨[], [6], [], Fct.val 58 (.agg #[.int .i64 c3.1, .int .i64 c3.2])⟩,
            ⟨[3, 4], [], [], Fct.val 59 (.bool (decide (x555 = c3)))⟩,
            ⟨[5], [], [], Fct.val 60 (.bool (decide (x555 = c3)))⟩,
            ⟨[6], [11], [], Fct.cond (!(decide (x555 = c3))) (some 61) (Fct.val 61 (.slice A372 [x1, b2].length cA372))⟩,
            ⟨[6], [12], [], Fct.cond (!(decide (x555 = c3))) (some 62) (Fct.val 62 (.int .i64 i439))⟩,
            ⟨[6, 7, 8], [], [], Fct.cond (!(decide (x555 = c3))) (some 63) (Fct.val 63 (.pointer (some ((adr A372).add ((i439 : Int).toNat * R49.s)))))⟩,
            ⟨[6, 9], [], [], Fct.cond (!(decide (x555 = c3))) (some 64) (Fct.val 64 (.agg #[.int .i64 x556.1, .int .i64 x556.2]))⟩,
            ⟨[6], [7], [], Fct.cond (!(decide (x555 = c3))) (some 65) (Fct.val 65 (.agg #[.int .i64 d4.1, .int .i64 d4.2]))⟩,
            ⟨[6, 10, 11], [], [], Fct.cond (!(decide (x555 = c3))) (some 66) (Fct.val 66 (.bool (decide (x556 = d4))))⟩,
            ⟨[6, 12], [], [], Fct.val 67 (.bool x557)⟩]) (by kernel_rfl) hz554 hd554 (fun _ h => nomatch h) ?_ ?_
        · refine steps_cons (fun own a wx hf hsl hE => ?_) ?_
          · obtain ⟨s_11, -⟩ := hsl
            exact sg_plain rfl rfl (or_move (s_11.trans e554_11))
          refine steps_cons (fun own a wx hf hsl hE => ?_) ?_
          · obtain ⟨s_12, -⟩ := hsl
            exact sg_plain rfl rfl (or_move (s_12.trans e554_12))
          refine steps_cons (fun own a wx hf hsl hE => ?_) ?_
          · obtain ⟨(f_54 : a.eval (.tmp 54) = .slice A372 [x1, b2].length cA372), (f_55 : a.eval (.tmp 55) = .int .i64 i439), -⟩ := hf
            exact sg_plain rfl rfl (or_index (R := R49) (l := [x1, b2]) tl24 f_54 f_55 (RdO.some_ (RwO.rd b554_A372) hx555) hx555)
          refine steps_cons (fun own a wx hf hsl hE => ?_) ?_
          · obtain ⟨(f_56 : a.eval (.tmp 56) = .pointer (some ((adr A372).add ((i439 : Int).toNat * R49.s)))), -⟩ := hf
            exact sg_plain rfl rfl (or_load (l := E49.f x555) ta49 f_56 (RdO.cells (F := E49) (RwO.rd (RwO.evo rfl hE b554_A372)) hx555) rfl)
          refine steps_cons (fun own a wx hf hsl hE => ?_) ?_
          · obtain ⟨s_6, -⟩ := hsl
            exact sg_plain rfl rfl (or_load (l := [.int .i64 c3.1, .int .i64 c3.2]) ta49 (s_6.trans e554_6) (Blk.cellsFrom (BlkO.evo (by decide) hE b554_g360).2 0 rfl) rfl)
          refine steps_cons (fun own a wx hf hsl hE => ?_) ?_
          · obtain ⟨(f_57 : a.eval (.tmp 57) = .agg #[.int .i64 x555.1, .int .i64 x555.2]), (f_58 : a.eval (.tmp 58) = .agg #[.int .i64 c3.1, .int .i64 c3.2]), -⟩ := hf
            exact sg_plain rfl rfl (or_eqlA sg49 f_57 f_58 (se49 x555.1 x555.2 c3.1 c3.2 _) rfl)
          refine steps_cons (fun own a wx hf hsl hE => ?_) ?_
          · obtain ⟨(f_59 : a.eval (.tmp 59) = .bool (decide (x555 = c3))), -⟩ := hf
            exact sg_plain rfl rfl (or_move f_59)
          refine steps_cons (fun own a wx hf hsl hE => ?_) ?_
          · obtain ⟨(f_60 : a.eval (.tmp 60) = .bool (decide (x555 = c3))), -⟩ := hf
            obtain ⟨s_11, -⟩ := hsl
            refine sg_f rfl rfl rfl f_60 (fun hg => ?_)
            exact or_move (s_11.trans e554_11)
          refine steps_cons (fun own a wx hf hsl hE => ?_) ?_
          · obtain ⟨(f_60 : a.eval (.tmp 60) = .bool (decide (x555 = c3))), -⟩ := hf
            obtain ⟨s_12, -⟩ := hsl
            refine sg_f rfl rfl rfl f_60 (fun hg => ?_)
            exact or_move (s_12.trans e554_12)
          refine steps_cons (fun own a wx hf hsl hE => ?_) ?_
          · obtain ⟨(f_60 : a.eval (.tmp 60) = .bool (decide (x555 = c3))), c_61, c_62, -⟩ := hf
            refine sg_f rfl rfl rfl f_60 (fun hg => ?_)
            have f_61 : a.eval (.tmp 61) = .slice A372 [x1, b2].length cA372 := c_61.1 hg
            have f_62 : a.eval (.tmp 62) = .int .i64 i439 := c_62.1 hg
            exact or_index (R := R49) (l := [x1, b2]) tl24 f_61 f_62 (RdO.some_ (RwO.rd b554_A372) (gd_t hx556 hg)) (gd_t hx556 hg)
          refine steps_cons (fun own a wx hf hsl hE => ?_) ?_
          · obtain ⟨(f_60 : a.eval (.tmp 60) = .bool (decide (x555 = c3))), c_63, -⟩ := hf
            refine sg_f rfl rfl rfl f_60 (fun hg => ?_)
            have f_63 : a.eval (.tmp 63) = .pointer (some ((adr A372).add ((i439 : Int).toNat * R49.s))) := c_63.1 hg
            exact or_load (l := E49.f x556) ta49 f_63 (RdO.cells (F := E49) (RwO.rd (RwO.evo rfl hE b554_A372)) (gd_t hx556 hg)) rfl
          refine steps_cons (fun own a wx hf hsl hE => ?_) ?_
          · obtain ⟨(f_60 : a.eval (.tmp 60) = .bool (decide (x555 = c3))), -⟩ := hf
            obtain ⟨s_7, -⟩ := hsl
            refine sg_f rfl rfl rfl f_60 (fun hg => ?_)
            exact or_load (l := [.int .i64 d4.1, .int .i64 d4.2]) ta49 (s_7.trans e554_7) (Blk.cellsFrom (BlkO.evo (by decide) hE b554_g362).2 0 rfl) rfl
          refine steps_cons (fun own a wx hf hsl hE => ?_) ?_
          · obtain ⟨(f_60 : a.eval (.tmp 60) = .bool (decide (x555 = c3))), c_64, c_65, -⟩ := hf
            refine sg_f rfl rfl rfl f_60 (fun hg => ?_)
            have f_64 : a.eval (.tmp 64) = .agg #[.int .i64 x556.1, .int .i64 x556.2] := c_64.1 hg
            have f_65 : a.eval (.tmp 65) = .agg #[.int .i64 d4.1, .int .i64 d4.2] := c_65.1 hg
            exact or_eqlA sg49 f_64 f_65 (se49 x556.1 x556.2 d4.1 d4.2 _) rfl
          refine steps_cons (fun own a wx hf hsl hE => ?_) ?_
          · obtain ⟨(f_60 : a.eval (.tmp 60) = .bool (decide (x555 = c3))), c_66, -⟩ := hf
            exact sg_plain rfl rfl (or_or f_60 rfl (fun hx => c_66.1 hx) (osome hx557).symm)
          exact steps_nil
        intro own558 a558 w558 hd558 hz558 hk558 hf558 hE558
        have e558_4 : a558.eval (.tmp 4) = .pointer (some ⟨g356, 0, none⟩) := (hk558 4 rfl).trans e554_4
        have e558_5 : a558.eval (.tmp 5) = .pointer (some ⟨g358, 0, none⟩) := (hk558 5 rfl).trans e554_5
        have e558_6 : a558.eval (.tmp 6) = .pointer (some ⟨g360, 0, none⟩) := (hk558 6 rfl).trans e554_6
        have e558_7 : a558.eval (.tmp 7) = .pointer (some ⟨g362, 0, none⟩) := (hk558 7 rfl).trans e554_7
        have e558_9 : a558.eval (.tmp 9) = .int .i64 (ad n437 1) := (hk558 9 rfl).trans e554_9
        have e558_10 : a558.eval (.tmp 10) = .int .i64 both438 := (hk558 10 rfl).trans e554_10
        have e558_11 : a558.eval (.tmp 11) = .slice A372 [x1, b2].length cA372 := (hk558 11 rfl).trans e554_11
        have e558_12 : a558.eval (.tmp 12) = .int .i64 i439 := (hk558 12 rfl).trans e554_12
        obtain ⟨(f_67 : a558.eval (.tmp 67) = .bool x557), -⟩ := hf558 [13] rfl
        have e558_67 := f_67
        have hX558 := Evo.step hX554 (fun _ => Nat.le_refl 0) hE558 rfl
        have b558_g356 := BlkO.evo (by decide) hE558 b554_g356
        have b558_g358 := BlkO.evo (by decide) hE558 b554_g358
        have b558_g360 := BlkO.evo (by decide) hE558 b554_g360
        have b558_g362 := BlkO.evo (by decide) hE558 b554_g362
        have b558_A372 := RwO.evo rfl hE558 b554_A372
        refine fl_cond e558_67 hs (fun c559 hs => ?_) (fun c559 hs => ?_)
        · refine rg_plain (n := 125) (rs := []) (own0 := own558) (K := [])
              (bs := [0, 1, 3])
              (ds := [⟨[], [10], [], Fct.val 68 (.int .i64 both438)⟩,
              ⟨[0], [], [], Fct.val 69 (.int .i64 (ad both438 1))⟩,
              ⟨[1], [], [], Fct.val 10 (.int .i64 (ad both438 1))⟩]) (by kernel_rfl) hz558 hd558 (fun _ h => nomatch h) ?_ ?_
          · refine steps_cons (fun own a wx hf hsl hE => ?_) ?_
            · obtain ⟨s_10, -⟩ := hsl
              exact sg_plain rfl rfl (or_move (s_10.trans e558_10))
            refine steps_cons (fun own a wx hf hsl hE => ?_) ?_
            · obtain ⟨(f_68 : a.eval (.tmp 68) = .int .i64 both438), -⟩ := hf
              exact sg_plain rfl rfl (or_add f_68 rfl rfl)
            refine steps_cons (fun own a wx hf hsl hE => ?_) ?_
            · obtain ⟨(f_69 : a.eval (.tmp 69) = .int .i64 (ad both438 1)), -⟩ := hf
              exact sg_plain rfl rfl (or_assign f_69)
            exact steps_nil
          intro own560 a560 w560 hd560 hz560 hk560 hf560 hE560
          have e560_4 : a560.eval (.tmp 4) = .pointer (some ⟨g356, 0, none⟩) := (hk560 4 rfl).trans e558_4
          have e560_5 : a560.eval (.tmp 5) = .pointer (some ⟨g358, 0, none⟩) := (hk560 5 rfl).trans e558_5
          have e560_6 : a560.eval (.tmp 6) = .pointer (some ⟨g360, 0, none⟩) := (hk560 6 rfl).trans e558_6
          have e560_7 : a560.eval (.tmp 7) = .pointer (some ⟨g362, 0, none⟩) := (hk560 7 rfl).trans e558_7
          have e560_9 : a560.eval (.tmp 9) = .int .i64 (ad n437 1) := (hk560 9 rfl).trans e558_9
          have e560_11 : a560.eval (.tmp 11) = .slice A372 [x1, b2].length cA372 := (hk560 11 rfl).trans e558_11
          have e560_12 : a560.eval (.tmp 12) = .int .i64 i439 := (hk560 12 rfl).trans e558_12
          obtain ⟨(f_10 : a560.eval (.tmp 10) = .int .i64 (ad both438 1)), -⟩ := hf560 [2] rfl
          have e560_10 := f_10
          have hX560 := Evo.step hX558 (fun _ => Nat.le_refl 0) hE560 rfl
          have b560_g356 := BlkO.evo (by decide) hE560 b558_g356
          have b560_g358 := BlkO.evo (by decide) hE560 b558_g358
          have b560_g360 := BlkO.evo (by decide) hE560 b558_g360
          have b560_g362 := BlkO.evo (by decide) hE560 b558_g362
          have b560_A372 := RwO.evo rfl hE560 b558_A372
          exact (K547 _ _ own560 _ _ hd560 hz560 e560_4 e560_5 e560_6 e560_7 e560_9 e560_10 e560_11 e560_12 hX560 b560_g356 b560_g358 b560_g360 b560_g362 b560_A372 hs).1
        refine fl_skip ?_
        exact (K547 _ _ own558 _ _ hd558 hz558 e558_4 e558_5 e558_6 e558_7 e558_9 e558_10 e558_11 e558_12 hX558 b558_g356 b558_g358 b558_g360 b558_g362 b558_A372 hs).1
      refine fl_skip ?_
      exact (K547 _ _ own552 _ _ hd552 hz552 e552_4 e552_5 e552_6 e552_7 e552_9 e552_10 e552_11 e552_12 hX552 b552_g356 b552_g358 b552_g360 b552_g362 b552_A372 hs).1
    refine fl_exit ?_
    refine hp502 _ _ _ rfl ?_
    replace hs := hz500 _ hs
    refine hp500 _ _ _ rfl ?_
    refine hx377 _ _ ?_
    refine hn375 _ _ ?_
    refine rg_plain_seq (n := 125) (rs := []) (own0 := own503) (K := [])
        (bs := [0])
        (ds := [⟨[], [], [], Fct.val 13 (.int .i64 0)⟩]) (by kernel_rfl) hz503 hd503 (fun _ h => nomatch h) ?_ ?_
    · refine steps_cons (fun own a wx hf hsl hE => ?_) ?_
      · exact sg_plain rfl rfl (or_assign rfl)
      exact steps_nil
    intro own561 a561 w561 hd561 hz561 hk561 hf561 hE561
    have e561_4 : a561.eval (.tmp 4) = .pointer (some ⟨g356, 0, none⟩) := (hk561 4 rfl).trans e503_4
    have e561_5 : a561.eval (.tmp 5) = .pointer (some ⟨g358, 0, none⟩) := (hk561 5 rfl).trans e503_5
    have e561_6 : a561.eval (.tmp 6) = .pointer (some ⟨g360, 0, none⟩) := (hk561 6 rfl).trans e503_6
    have e561_7 : a561.eval (.tmp 7) = .pointer (some ⟨g362, 0, none⟩) := (hk561 7 rfl).trans e503_7
    have e561_9 : a561.eval (.tmp 9) = .int .i64 n437 := (hk561 9 rfl).trans e503_9
    have e561_10 : a561.eval (.tmp 10) = .int .i64 both438 := (hk561 10 rfl).trans e503_10
    obtain ⟨(f_13 : a561.eval (.tmp 13) = .int .i64 0), -⟩ := hf561 [0] rfl
    have e561_13 := f_13
    have hX561 := Evo.step hX503 (fun _ => Nat.le_refl 0) hE561 rfl
    have b561_g356 := BlkO.evo (by decide) hE561 b503_g356
    have b561_g358 := BlkO.evo (by decide) hE561 b503_g358
    have b561_g360 := BlkO.evo (by decide) hE561 b503_g360
    have b561_g362 := BlkO.evo (by decide) hE561 b503_g362
    refine rg_plain_seq (n := 125) (rs := []) (own0 := own561) (K := [])
        (bs := [0, 0, 3, 7])
        (ds := [⟨[], [6], [], Fct.val 70 (.agg #[.int .i64 c3.1, .int .i64 c3.2])⟩,
        ⟨[], [7], [], Fct.val 71 (.agg #[.int .i64 d4.1, .int .i64 d4.2])⟩,
        ⟨[0, 1], [], [], Fct.row 563 [] 72 49 R49 [c3, d4]⟩,
        ⟨[2], [], [], Fct.rel [11, 72] (fun l => ∀ (A562 : Option Addr) (cA562 : Nat), l.getD 1 undef = .slice A562 [c3, d4].length cA562 → l.getD 0 undef = .slice A562 [c3, d4].length cA562)⟩]) (by kernel_rfl) hz561 hd561 (fun _ h => nomatch h) ?_ ?_
    · refine steps_cons (fun own a wx hf hsl hE => ?_) ?_
      · obtain ⟨s_6, -⟩ := hsl
        exact sg_plain rfl rfl (or_load (l := [.int .i64 c3.1, .int .i64 c3.2]) ta49 (s_6.trans e561_6) (Blk.cellsFrom (BlkO.evo (by decide) hE b561_g360).2 0 rfl) rfl)
      refine steps_cons (fun own a wx hf hsl hE => ?_) ?_
      · obtain ⟨s_7, -⟩ := hsl
        exact sg_plain rfl rfl (or_load (l := [.int .i64 d4.1, .int .i64 d4.2]) ta49 (s_7.trans e561_7) (Blk.cellsFrom (BlkO.evo (by decide) hE b561_g362).2 0 rfl) rfl)
      refine steps_cons (fun own a wx hf hsl hE => ?_) ?_
      · obtain ⟨(f_70 : a.eval (.tmp 70) = .agg #[.int .i64 c3.1, .int .i64 c3.2]), (f_71 : a.eval (.tmp 71) = .agg #[.int .i64 d4.1, .int .i64 d4.2]), -⟩ := hf
        exact sg_plain rfl rfl (or_lit (lab := 563) (e := 49) (cs := #[.int .i64 c3.1, .int .i64 c3.2, .int .i64 d4.1, .int .i64 d4.2]) (F := E49) (or_new [(70, .agg #[.int .i64 c3.1, .int .i64 c3.2]), (71, .agg #[.int .i64 d4.1, .int .i64 d4.2])] rfl rfl ⟨f_70, f_71, trivial⟩ (by kernel_rfl)) rfl rfl (show 2 ≤ maxLen by decide))
      refine steps_cons (fun own a wx hf hsl hE => ?_) ?_
      · obtain ⟨⟨⟨A562, cA562⟩, (f_72 : a.eval (.tmp 72) = .slice A562 [c3, d4].length cA562), (b_A562 : RwO own 563 [] wx 49 R49 A562 cA562 [c3, d4])⟩, -⟩ := hf
        exact sg_plain rfl rfl (or_mono (f := Fct.val 11 (.slice A562 [c3, d4].length cA562)) (or_assign f_72) (fun own' a' w' v' hp h => fun _ _ h0' => by cases (f_72.symm.trans ((hp.2 72 (by decide)).symm.trans h0')); exact h))
      exact steps_nil
    intro own564 a564 w564 hd564 hz564 hk564 hf564 hE564
    have e564_4 : a564.eval (.tmp 4) = .pointer (some ⟨g356, 0, none⟩) := (hk564 4 rfl).trans e561_4
    have e564_5 : a564.eval (.tmp 5) = .pointer (some ⟨g358, 0, none⟩) := (hk564 5 rfl).trans e561_5
    have e564_6 : a564.eval (.tmp 6) = .pointer (some ⟨g360, 0, none⟩) := (hk564 6 rfl).trans e561_6
    have e564_7 : a564.eval (.tmp 7) = .pointer (some ⟨g362, 0, none⟩) := (hk564 7 rfl).trans e561_7
    have e564_9 : a564.eval (.tmp 9) = .int .i64 n437 := (hk564 9 rfl).trans e561_9
    have e564_10 : a564.eval (.tmp 10) = .int .i64 both438 := (hk564 10 rfl).trans e561_10
    have e564_13 : a564.eval (.tmp 13) = .int .i64 0 := (hk564 13 rfl).trans e561_13
    obtain ⟨⟨⟨A562, cA562⟩, (f_72 : a564.eval (.tmp 72) = .slice A562 [c3, d4].length cA562), (b_A562 : RwO own564 563 [] w564 49 R49 A562 cA562 [c3, d4])⟩, (q_11 : ∀ (A562 : Option Addr) (cA562 : Nat), a564.eval (.tmp 72) = .slice A562 [c3, d4].length cA562 → a564.eval (.tmp 11) = .slice A562 [c3, d4].length cA562), -⟩ := hf564 [2, 3] rfl
    have f_11 := q_11 _ _ f_72
    have e564_11 := f_11
    have hX564 := Evo.step hX561 (fun _ => Nat.le_refl 0) hE564 rfl
    have b564_g356 := BlkO.evo (by decide) hE564 b561_g356
    have b564_g358 := BlkO.evo (by decide) hE564 b561_g358
    have b564_g360 := BlkO.evo (by decide) hE564 b561_g360
    have b564_g362 := BlkO.evo (by decide) hE564 b561_g362
    have b564_A562 := b_A562
    refine fl_seq (fun Q565 hn565 hp565 => ?_)
    refine rg_plain_seq (n := 125) (rs := []) (own0 := own564) (K := [])
        (bs := [0])
        (ds := [⟨[], [], [], Fct.val 14 (.int .i64 0)⟩]) (by kernel_rfl) hz564 hd564 (fun _ h => nomatch h) ?_ ?_
    · refine steps_cons (fun own a wx hf hsl hE => ?_) ?_
      · exact sg_plain rfl rfl (or_assign rfl)
      exact steps_nil
    intro own566 a566 w566 hd566 hz566 hk566 hf566 hE566
    have e566_4 : a566.eval (.tmp 4) = .pointer (some ⟨g356, 0, none⟩) := (hk566 4 rfl).trans e564_4
    have e566_5 : a566.eval (.tmp 5) = .pointer (some ⟨g358, 0, none⟩) := (hk566 5 rfl).trans e564_5
    have e566_6 : a566.eval (.tmp 6) = .pointer (some ⟨g360, 0, none⟩) := (hk566 6 rfl).trans e564_6
    have e566_7 : a566.eval (.tmp 7) = .pointer (some ⟨g362, 0, none⟩) := (hk566 7 rfl).trans e564_7
    have e566_9 : a566.eval (.tmp 9) = .int .i64 n437 := (hk566 9 rfl).trans e564_9
    have e566_10 : a566.eval (.tmp 10) = .int .i64 both438 := (hk566 10 rfl).trans e564_10
    have e566_11 : a566.eval (.tmp 11) = .slice A562 [c3, d4].length cA562 := (hk566 11 rfl).trans e564_11
    have e566_13 : a566.eval (.tmp 13) = .int .i64 0 := (hk566 13 rfl).trans e564_13
    obtain ⟨(f_14 : a566.eval (.tmp 14) = .int .i64 0), -⟩ := hf566 [0] rfl
    have e566_14 := f_14
    have hX566 := Evo.step hX564 (fun _ => Nat.le_refl 0) hE566 rfl
    have b566_g356 := BlkO.evo (by decide) hE566 b564_g356
    have b566_g358 := BlkO.evo (by decide) hE566 b564_g358
    have b566_g360 := BlkO.evo (by decide) hE566 b564_g360
    have b566_g362 := BlkO.evo (by decide) hE566 b564_g362
    have b566_A562 := RwO.evo rfl hE566 b564_A562
    refine fl_block (fun Q567 hn567 hx567 hp567 => ?_)
    refine fl_loop (body := (fun s => ref02_Class_b3 x1 b2 c3 d4 n437 both438 s.1 s.2)) (z := r) (show loopO _ _ = _ from hs) (fun (s : Int × Int) a wx => match s with | (m601, i602) => ∃ (ox : Own), a.defers = [] ∧ a.tmps.size = 125 ∧ a.eval (.tmp 4) = .pointer (some ⟨g356, 0, none⟩) ∧ a.eval (.tmp 5) = .pointer (some ⟨g358, 0, none⟩) ∧ a.eval (.tmp 6) = .pointer (some ⟨g360, 0, none⟩) ∧ a.eval (.tmp 7) = .pointer (some ⟨g362, 0, none⟩) ∧ a.eval (.tmp 9) = .int .i64 n437 ∧ a.eval (.tmp 10) = .int .i64 both438 ∧ a.eval (.tmp 11) = .slice A562 [c3, d4].length cA562 ∧ a.eval (.tmp 13) = .int .i64 m601 ∧ a.eval (.tmp 14) = .int .i64 i602 ∧ Evo [] (fun _ => 0) ox w wx ∧ BlkO ox 357 wx g356 49 #[.int .i64 x1.1, .int .i64 x1.2] ∧ BlkO ox 359 wx g358 49 #[.int .i64 b2.1, .int .i64 b2.2] ∧ BlkO ox 361 wx g360 49 #[.int .i64 c3.1, .int .i64 c3.2] ∧ BlkO ox 363 wx g362 49 #[.int .i64 d4.1, .int .i64 d4.2] ∧ RwO ox 563 [] wx 49 R49 A562 cA562 [c3, d4]) ?_ ?_
    · exact ⟨own566, hd566, hz566, e566_4, e566_5, e566_6, e566_7, e566_9, e566_10, e566_11, e566_13, e566_14, hX566, b566_g356, b566_g358, b566_g360, b566_g362, b566_A562⟩
    · rintro ⟨m601, i602⟩ zz637 a637 w637 ⟨own637, hd638, hz638, e638_4, e638_5, e638_6, e638_7, e638_9, e638_10, e638_11, e638_13, e638_14, hE638, b638_g356, b638_g358, b638_g360, b638_g362, b638_A562⟩ hs Q637 hn637 hp637 hz637
      have hs : ref02_Class_b3 x1 b2 c3 d4 n437 both438 m601 i602 = some zz637 := hs
      refine fl_seq (fun Q639 hn639 hp639 => ?_)
      refine rg_plain_seq (n := 125) (rs := []) (own0 := own637) (K := [])
          (bs := [0, 1])
          (ds := [⟨[], [14], [], Fct.val 73 (.int .i64 i602)⟩,
          ⟨[0], [], [], Fct.val 74 (.bool (decide (i602 < 2)))⟩]) (by kernel_rfl) hz638 hd638 (fun _ h => nomatch h) ?_ ?_
      · refine steps_cons (fun own a wx hf hsl hE => ?_) ?_
        · obtain ⟨s_14, -⟩ := hsl
          exact sg_plain rfl rfl (or_move (s_14.trans e638_14))
        refine steps_cons (fun own a wx hf hsl hE => ?_) ?_
        · obtain ⟨(f_73 : a.eval (.tmp 73) = .int .i64 i602), -⟩ := hf
          exact sg_plain rfl rfl (or_lss f_73 rfl rfl)
        exact steps_nil
      intro own640 a640 w640 hd640 hz640 hk640 hf640 hE640
      have e640_4 : a640.eval (.tmp 4) = .pointer (some ⟨g356, 0, none⟩) := (hk640 4 rfl).trans e638_4
      have e640_5 : a640.eval (.tmp 5) = .pointer (some ⟨g358, 0, none⟩) := (hk640 5 rfl).trans e638_5
      have e640_6 : a640.eval (.tmp 6) = .pointer (some ⟨g360, 0, none⟩) := (hk640 6 rfl).trans e638_6
      have e640_7 : a640.eval (.tmp 7) = .pointer (some ⟨g362, 0, none⟩) := (hk640 7 rfl).trans e638_7
      have e640_9 : a640.eval (.tmp 9) = .int .i64 n437 := (hk640 9 rfl).trans e638_9
      have e640_10 : a640.eval (.tmp 10) = .int .i64 both438 := (hk640 10 rfl).trans e638_10
      have e640_11 : a640.eval (.tmp 11) = .slice A562 [c3, d4].length cA562 := (hk640 11 rfl).trans e638_11
      have e640_13 : a640.eval (.tmp 13) = .int .i64 m601 := (hk640 13 rfl).trans e638_13
      have e640_14 : a640.eval (.tmp 14) = .int .i64 i602 := (hk640 14 rfl).trans e638_14
      obtain ⟨(f_74 : a640.eval (.tmp 74) = .bool (decide (i602 < 2))), -⟩ := hf640 [1] rfl
      have e640_74 := f_74
      have hX640 := Evo.step hE638 (fun _ => Nat.le_refl 0) hE640 rfl
      have b640_g356 := BlkO.evo (by decide) hE640 b638_g356
      have b640_g358 := BlkO.evo (by decide) hE640 b638_g358
      have b640_g360 := BlkO.evo (by decide) hE640 b638_g360
      have b640_g362 := BlkO.evo (by decide) hE640 b638_g362
      have b640_A562 := RwO.evo rfl hE640 b638_A562
      refine fl_cond e640_74 hs (fun c641 hs => ?_) (fun c641 hs => ?_)
      · refine fl_skip ?_
        refine hn639 _ _ ?_
        refine fl_seq (fun Q642 hn642 hp642 => ?_)
        refine fl_block (fun Q657 hn657 hx657 hp657 => ?_)
        have K664 : ∀ (a664 : Act) (w664 : World) (own664 : Own) (m663 : Int), a664.defers = [] → a664.tmps.size = 125 → a664.eval (.tmp 4) = .pointer (some ⟨g356, 0, none⟩) → a664.eval (.tmp 5) = .pointer (some ⟨g358, 0, none⟩) → a664.eval (.tmp 6) = .pointer (some ⟨g360, 0, none⟩) → a664.eval (.tmp 7) = .pointer (some ⟨g362, 0, none⟩) → a664.eval (.tmp 9) = .int .i64 n437 → a664.eval (.tmp 10) = .int .i64 both438 → a664.eval (.tmp 11) = .slice A562 [c3, d4].length cA562 → a664.eval (.tmp 13) = .int .i64 m663 → a664.eval (.tmp 14) = .int .i64 i602 → Evo [] (fun _ => 0) own664 w w664 → BlkO own664 357 w664 g356 49 #[.int .i64 x1.1, .int .i64 x1.2] → BlkO own664 359 w664 g358 49 #[.int .i64 b2.1, .int .i64 b2.2] → BlkO own664 361 w664 g360 49 #[.int .i64 c3.1, .int .i64 c3.2] → BlkO own664 363 w664 g362 49 #[.int .i64 d4.1, .int .i64 d4.2] → RwO own664 563 [] w664 49 R49 A562 cA562 [c3, d4] → ref02_Class_k4 i602 m663 = some zz637 → (Q657 .normal a664 w664 ∧ Q657 (.exit 3) a664 w664) := by
          intro a664 w664 own664 m663 hd665 hz665 e665_4 e665_5 e665_6 e665_7 e665_9 e665_10 e665_11 e665_13 e665_14 hE665 b665_g356 b665_g358 b665_g360 b665_g362 b665_A562 hs
          refine and_both (hn657 _ _) (hx657 _ _) ?_
          refine hn642 _ _ ?_
          refine rg_plain (n := 125) (rs := []) (own0 := own664) (K := [])
              (bs := [0, 1, 3])
              (ds := [⟨[], [14], [], Fct.val 75 (.int .i64 i602)⟩,
              ⟨[0], [], [], Fct.val 76 (.int .i64 (ad i602 1))⟩,
              ⟨[1], [], [], Fct.val 14 (.int .i64 (ad i602 1))⟩]) (by kernel_rfl) hz665 hd665 (fun _ h => nomatch h) ?_ ?_
          · refine steps_cons (fun own a wx hf hsl hE => ?_) ?_
            · obtain ⟨s_14, -⟩ := hsl
              exact sg_plain rfl rfl (or_move (s_14.trans e665_14))
            refine steps_cons (fun own a wx hf hsl hE => ?_) ?_
            · obtain ⟨(f_75 : a.eval (.tmp 75) = .int .i64 i602), -⟩ := hf
              exact sg_plain rfl rfl (or_add f_75 rfl rfl)
            refine steps_cons (fun own a wx hf hsl hE => ?_) ?_
            · obtain ⟨(f_76 : a.eval (.tmp 76) = .int .i64 (ad i602 1)), -⟩ := hf
              exact sg_plain rfl rfl (or_assign f_76)
            exact steps_nil
          intro own666 a666 w666 hd666 hz666 hk666 hf666 hE666
          have e666_4 : a666.eval (.tmp 4) = .pointer (some ⟨g356, 0, none⟩) := (hk666 4 rfl).trans e665_4
          have e666_5 : a666.eval (.tmp 5) = .pointer (some ⟨g358, 0, none⟩) := (hk666 5 rfl).trans e665_5
          have e666_6 : a666.eval (.tmp 6) = .pointer (some ⟨g360, 0, none⟩) := (hk666 6 rfl).trans e665_6
          have e666_7 : a666.eval (.tmp 7) = .pointer (some ⟨g362, 0, none⟩) := (hk666 7 rfl).trans e665_7
          have e666_9 : a666.eval (.tmp 9) = .int .i64 n437 := (hk666 9 rfl).trans e665_9
          have e666_10 : a666.eval (.tmp 10) = .int .i64 both438 := (hk666 10 rfl).trans e665_10
          have e666_11 : a666.eval (.tmp 11) = .slice A562 [c3, d4].length cA562 := (hk666 11 rfl).trans e665_11
          have e666_13 : a666.eval (.tmp 13) = .int .i64 m663 := (hk666 13 rfl).trans e665_13
          obtain ⟨(f_14 : a666.eval (.tmp 14) = .int .i64 (ad i602 1)), -⟩ := hf666 [2] rfl
          have e666_14 := f_14
          have hX666 := Evo.step hE665 (fun _ => Nat.le_refl 0) hE666 rfl
          have b666_g356 := BlkO.evo (by decide) hE666 b665_g356
          have b666_g358 := BlkO.evo (by decide) hE666 b665_g358
          have b666_g360 := BlkO.evo (by decide) hE666 b665_g360
          have b666_g362 := BlkO.evo (by decide) hE666 b665_g362
          have b666_A562 := RwO.evo rfl hE666 b665_A562
          exact hn637 _ _ _ hs ⟨own666, hd666, hz666, e666_4, e666_5, e666_6, e666_7, e666_9, e666_10, e666_11, e666_13, e666_14, hX666, b666_g356, b666_g358, b666_g360, b666_g362, b666_A562⟩
        obtain ⟨x667, hx667, hs⟩ := obind hs
        obtain ⟨r668, hr668, hs⟩ := obind hs
        refine rg_draw_seq g_mixed (n := 125) (rs := []) (own0 := own640) (K := [])
            (bs := [0, 0, 0, 0, 12, 28, 63])
            (ds := [⟨[], [4], [], Fct.val 77 (.agg #[.int .i64 x1.1, .int .i64 x1.2])⟩,
            ⟨[], [5], [], Fct.val 78 (.agg #[.int .i64 b2.1, .int .i64 b2.2])⟩,
            ⟨[], [11], [], Fct.val 79 (.slice A562 [c3, d4].length cA562)⟩,
            ⟨[], [14], [], Fct.val 80 (.int .i64 i602)⟩,
            ⟨[2, 3], [], [], Fct.val 81 (.pointer (some ((adr A562).add ((i602 : Int).toNat * R49.s))))⟩,
            ⟨[4], [], [], Fct.val 82 (.agg #[.int .i64 x667.1, .int .i64 x667.2])⟩,
            ⟨[0, 1, 5], [], [], Fct.val 83 (.bool r668)⟩]) (by kernel_rfl) hz640 hd640 (fun _ h => nomatch h) ?_ ?_
        · refine steps_cons (fun own a wx hf hsl hE => ?_) ?_
          · obtain ⟨s_4, -⟩ := hsl
            exact sg_plain rfl rfl (or_load (l := [.int .i64 x1.1, .int .i64 x1.2]) ta49 (s_4.trans e640_4) (Blk.cellsFrom (BlkO.evo (by decide) hE b640_g356).2 0 rfl) rfl)
          refine steps_cons (fun own a wx hf hsl hE => ?_) ?_
          · obtain ⟨s_5, -⟩ := hsl
            exact sg_plain rfl rfl (or_load (l := [.int .i64 b2.1, .int .i64 b2.2]) ta49 (s_5.trans e640_5) (Blk.cellsFrom (BlkO.evo (by decide) hE b640_g358).2 0 rfl) rfl)
          refine steps_cons (fun own a wx hf hsl hE => ?_) ?_
          · obtain ⟨s_11, -⟩ := hsl
            exact sg_plain rfl rfl (or_move (s_11.trans e640_11))
          refine steps_cons (fun own a wx hf hsl hE => ?_) ?_
          · obtain ⟨s_14, -⟩ := hsl
            exact sg_plain rfl rfl (or_move (s_14.trans e640_14))
          refine steps_cons (fun own a wx hf hsl hE => ?_) ?_
          · obtain ⟨(f_79 : a.eval (.tmp 79) = .slice A562 [c3, d4].length cA562), (f_80 : a.eval (.tmp 80) = .int .i64 i602), -⟩ := hf
            exact sg_plain rfl rfl (or_index (R := R49) (l := [c3, d4]) tl24 f_79 f_80 (RdO.some_ (RwO.rd b640_A562) hx667) hx667)
          refine steps_cons (fun own a wx hf hsl hE => ?_) ?_
          · obtain ⟨(f_81 : a.eval (.tmp 81) = .pointer (some ((adr A562).add ((i602 : Int).toNat * R49.s)))), -⟩ := hf
            exact sg_plain rfl rfl (or_load (l := E49.f x667) ta49 f_81 (RdO.cells (F := E49) (RwO.rd (RwO.evo rfl hE b640_A562)) hx667) rfl)
          refine steps_cons (fun own a wx hf hsl hE => ?_) ?_
          · obtain ⟨(f_77 : a.eval (.tmp 77) = .agg #[.int .i64 x1.1, .int .i64 x1.2]), (f_78 : a.eval (.tmp 78) = .agg #[.int .i64 b2.1, .int .i64 b2.2]), (f_82 : a.eval (.tmp 82) = .agg #[.int .i64 x667.1, .int .i64 x667.2]), -⟩ := hf
            exact sg_plain rfl rfl (or_call cf57 (args3 f_77 f_78 f_82) (ref01_On_w _ x1 b2 x667  r668 hr668) post_val)
          exact steps_nil
        intro own669 a669 w669 hd669 hz669 hk669 hf669 hE669
        have e669_4 : a669.eval (.tmp 4) = .pointer (some ⟨g356, 0, none⟩) := (hk669 4 rfl).trans e640_4
        have e669_5 : a669.eval (.tmp 5) = .pointer (some ⟨g358, 0, none⟩) := (hk669 5 rfl).trans e640_5
        have e669_6 : a669.eval (.tmp 6) = .pointer (some ⟨g360, 0, none⟩) := (hk669 6 rfl).trans e640_6
        have e669_7 : a669.eval (.tmp 7) = .pointer (some ⟨g362, 0, none⟩) := (hk669 7 rfl).trans e640_7
        have e669_9 : a669.eval (.tmp 9) = .int .i64 n437 := (hk669 9 rfl).trans e640_9
        have e669_10 : a669.eval (.tmp 10) = .int .i64 both438 := (hk669 10 rfl).trans e640_10
        have e669_11 : a669.eval (.tmp 11) = .slice A562 [c3, d4].length cA562 := (hk669 11 rfl).trans e640_11
        have e669_13 : a669.eval (.tmp 13) = .int .i64 m601 := (hk669 13 rfl).trans e640_13
        have e669_14 : a669.eval (.tmp 14) = .int .i64 i602 := (hk669 14 rfl).trans e640_14
        obtain ⟨(f_83 : a669.eval (.tmp 83) = .bool r668), -⟩ := hf669 [6] rfl
        have e669_83 := f_83
        have hX669 := Evo.step hX640 (fun _ => Nat.le_refl 0) hE669 rfl
        have b669_g356 := BlkO.evo (by decide) hE669 b640_g356
        have b669_g358 := BlkO.evo (by decide) hE669 b640_g358
        have b669_g360 := BlkO.evo (by decide) hE669 b640_g360
        have b669_g362 := BlkO.evo (by decide) hE669 b640_g362
        have b669_A562 := RwO.evo rfl hE669 b640_A562
        refine fl_cond e669_83 hs (fun c670 hs => ?_) (fun c670 hs => ?_)
        · refine rg_plain (n := 125) (rs := []) (own0 := own669) (K := [])
              (bs := [0, 1, 3])
              (ds := [⟨[], [13], [], Fct.val 84 (.int .i64 m601)⟩,
              ⟨[0], [], [], Fct.val 85 (.int .i64 (ad m601 1))⟩,
              ⟨[1], [], [], Fct.val 13 (.int .i64 (ad m601 1))⟩]) (by kernel_rfl) hz669 hd669 (fun _ h => nomatch h) ?_ ?_
          · refine steps_cons (fun own a wx hf hsl hE => ?_) ?_
            · obtain ⟨s_13, -⟩ := hsl
              exact sg_plain rfl rfl (or_move (s_13.trans e669_13))
            refine steps_cons (fun own a wx hf hsl hE => ?_) ?_
            · obtain ⟨(f_84 : a.eval (.tmp 84) = .int .i64 m601), -⟩ := hf
              exact sg_plain rfl rfl (or_add f_84 rfl rfl)
            refine steps_cons (fun own a wx hf hsl hE => ?_) ?_
            · obtain ⟨(f_85 : a.eval (.tmp 85) = .int .i64 (ad m601 1)), -⟩ := hf
              exact sg_plain rfl rfl (or_assign f_85)
            exact steps_nil
          intro own671 a671 w671 hd671 hz671 hk671 hf671 hE671
          have e671_4 : a671.eval (.tmp 4) = .pointer (some ⟨g356, 0, none⟩) := (hk671 4 rfl).trans e669_4
          have e671_5 : a671.eval (.tmp 5) = .pointer (some ⟨g358, 0, none⟩) := (hk671 5 rfl).trans e669_5
          have e671_6 : a671.eval (.tmp 6) = .pointer (some ⟨g360, 0, none⟩) := (hk671 6 rfl).trans e669_6
          have e671_7 : a671.eval (.tmp 7) = .pointer (some ⟨g362, 0, none⟩) := (hk671 7 rfl).trans e669_7
          have e671_9 : a671.eval (.tmp 9) = .int .i64 n437 := (hk671 9 rfl).trans e669_9
          have e671_10 : a671.eval (.tmp 10) = .int .i64 both438 := (hk671 10 rfl).trans e669_10
          have e671_11 : a671.eval (.tmp 11) = .slice A562 [c3, d4].length cA562 := (hk671 11 rfl).trans e669_11
          have e671_14 : a671.eval (.tmp 14) = .int .i64 i602 := (hk671 14 rfl).trans e669_14
          obtain ⟨(f_13 : a671.eval (.tmp 13) = .int .i64 (ad m601 1)), -⟩ := hf671 [2] rfl
          have e671_13 := f_13
          have hX671 := Evo.step hX669 (fun _ => Nat.le_refl 0) hE671 rfl
          have b671_g356 := BlkO.evo (by decide) hE671 b669_g356
          have b671_g358 := BlkO.evo (by decide) hE671 b669_g358
          have b671_g360 := BlkO.evo (by decide) hE671 b669_g360
          have b671_g362 := BlkO.evo (by decide) hE671 b669_g362
          have b671_A562 := RwO.evo rfl hE671 b669_A562
          exact (K664 _ _ own671 _ hd671 hz671 e671_4 e671_5 e671_6 e671_7 e671_9 e671_10 e671_11 e671_13 e671_14 hX671 b671_g356 b671_g358 b671_g360 b671_g362 b671_A562 hs).1
        refine fl_skip ?_
        exact (K664 _ _ own669 _ hd669 hz669 e669_4 e669_5 e669_6 e669_7 e669_9 e669_10 e669_11 e669_13 e669_14 hX669 b669_g356 b669_g358 b669_g360 b669_g362 b669_A562 hs).1
      refine fl_exit ?_
      refine hp639 _ _ _ rfl ?_
      replace hs := hz637 _ hs
      refine hp637 _ _ _ rfl ?_
      refine hx567 _ _ ?_
      refine hn565 _ _ ?_
      refine rg_plain_seq (n := 125) (rs := []) (own0 := own640) (K := [])
          (bs := [0, 0, 3, 0, 15, 31])
          (ds := [⟨[], [9], [], Fct.val 86 (.int .i64 n437)⟩,
          ⟨[], [13], [], Fct.val 87 (.int .i64 m601)⟩,
          ⟨[0, 1], [], [], Fct.val 88 (.int .i64 (ad n437 m601))⟩,
          ⟨[], [10], [], Fct.val 89 (.int .i64 both438)⟩,
          ⟨[2, 3], [], [], Fct.val 90 (.int .i64 (sb (ad n437 m601) both438))⟩,
          ⟨[4], [], [], Fct.val 15 (.int .i64 (sb (ad n437 m601) both438))⟩]) (by kernel_rfl) hz640 hd640 (fun _ h => nomatch h) ?_ ?_
      · refine steps_cons (fun own a wx hf hsl hE => ?_) ?_
        · obtain ⟨s_9, -⟩ := hsl
          exact sg_plain rfl rfl (or_move (s_9.trans e640_9))
        refine steps_cons (fun own a wx hf hsl hE => ?_) ?_
        · obtain ⟨s_13, -⟩ := hsl
          exact sg_plain rfl rfl (or_move (s_13.trans e640_13))
        refine steps_cons (fun own a wx hf hsl hE => ?_) ?_
        · obtain ⟨(f_86 : a.eval (.tmp 86) = .int .i64 n437), (f_87 : a.eval (.tmp 87) = .int .i64 m601), -⟩ := hf
          exact sg_plain rfl rfl (or_add f_86 f_87 rfl)
        refine steps_cons (fun own a wx hf hsl hE => ?_) ?_
        · obtain ⟨s_10, -⟩ := hsl
          exact sg_plain rfl rfl (or_move (s_10.trans e640_10))
        refine steps_cons (fun own a wx hf hsl hE => ?_) ?_
        · obtain ⟨(f_88 : a.eval (.tmp 88) = .int .i64 (ad n437 m601)), (f_89 : a.eval (.tmp 89) = .int .i64 both438), -⟩ := hf
          exact sg_plain rfl rfl (or_sub f_88 f_89 rfl)
        refine steps_cons (fun own a wx hf hsl hE => ?_) ?_
        · obtain ⟨(f_90 : a.eval (.tmp 90) = .int .i64 (sb (ad n437 m601) both438)), -⟩ := hf
          exact sg_plain rfl rfl (or_assign f_90)
        exact steps_nil
      intro own672 a672 w672 hd672 hz672 hk672 hf672 hE672
      have e672_4 : a672.eval (.tmp 4) = .pointer (some ⟨g356, 0, none⟩) := (hk672 4 rfl).trans e640_4
      have e672_5 : a672.eval (.tmp 5) = .pointer (some ⟨g358, 0, none⟩) := (hk672 5 rfl).trans e640_5
      have e672_6 : a672.eval (.tmp 6) = .pointer (some ⟨g360, 0, none⟩) := (hk672 6 rfl).trans e640_6
      have e672_7 : a672.eval (.tmp 7) = .pointer (some ⟨g362, 0, none⟩) := (hk672 7 rfl).trans e640_7
      have e672_10 : a672.eval (.tmp 10) = .int .i64 both438 := (hk672 10 rfl).trans e640_10
      obtain ⟨(f_15 : a672.eval (.tmp 15) = .int .i64 (sb (ad n437 m601) both438)), -⟩ := hf672 [5] rfl
      have e672_15 := f_15
      have hX672 := Evo.step hX640 (fun _ => Nat.le_refl 0) hE672 rfl
      have b672_g356 := BlkO.evo (by decide) hE672 b640_g356
      have b672_g358 := BlkO.evo (by decide) hE672 b640_g358
      have b672_g360 := BlkO.evo (by decide) hE672 b640_g360
      have b672_g362 := BlkO.evo (by decide) hE672 b640_g362
      refine fl_seq (fun Q673 hn673 hp673 => ?_)
      refine rg_plain_seq (n := 125) (rs := []) (own0 := own672) (K := [])
          (bs := [0, 1])
          (ds := [⟨[], [15], [], Fct.val 91 (.int .i64 (sb (ad n437 m601) both438))⟩,
          ⟨[0], [], [], Fct.val 92 (.bool (decide (1 < (sb (ad n437 m601) both438))))⟩]) (by kernel_rfl) hz672 hd672 (fun _ h => nomatch h) ?_ ?_
      · refine steps_cons (fun own a wx hf hsl hE => ?_) ?_
        · obtain ⟨s_15, -⟩ := hsl
          exact sg_plain rfl rfl (or_move (s_15.trans e672_15))
        refine steps_cons (fun own a wx hf hsl hE => ?_) ?_
        · obtain ⟨(f_91 : a.eval (.tmp 91) = .int .i64 (sb (ad n437 m601) both438)), -⟩ := hf
          exact sg_plain rfl rfl (or_gtr f_91 rfl rfl)
        exact steps_nil
      intro own674 a674 w674 hd674 hz674 hk674 hf674 hE674
      have e674_4 : a674.eval (.tmp 4) = .pointer (some ⟨g356, 0, none⟩) := (hk674 4 rfl).trans e672_4
      have e674_5 : a674.eval (.tmp 5) = .pointer (some ⟨g358, 0, none⟩) := (hk674 5 rfl).trans e672_5
      have e674_6 : a674.eval (.tmp 6) = .pointer (some ⟨g360, 0, none⟩) := (hk674 6 rfl).trans e672_6
      have e674_7 : a674.eval (.tmp 7) = .pointer (some ⟨g362, 0, none⟩) := (hk674 7 rfl).trans e672_7
      have e674_10 : a674.eval (.tmp 10) = .int .i64 both438 := (hk674 10 rfl).trans e672_10
      have e674_15 : a674.eval (.tmp 15) = .int .i64 (sb (ad n437 m601) both438) := (hk674 15 rfl).trans e672_15
      obtain ⟨(f_92 : a674.eval (.tmp 92) = .bool (decide (1 < (sb (ad n437 m601) both438)))), -⟩ := hf674 [1] rfl
      have e674_92 := f_92
      have hX674 := Evo.step hX672 (fun _ => Nat.le_refl 0) hE674 rfl
      have b674_g356 := BlkO.evo (by decide) hE674 b672_g356
      have b674_g358 := BlkO.evo (by decide) hE674 b672_g358
      have b674_g360 := BlkO.evo (by decide) hE674 b672_g360
      have b674_g362 := BlkO.evo (by decide) hE674 b672_g362
      refine fl_cond e674_92 hs (fun c675 hs => ?_) (fun c675 hs => ?_)
      · refine rg_plain_seq (n := 125) (rs := []) (own0 := own674) (K := [])
            (bs := [0])
            (ds := [⟨[], [], [], Fct.val 8 (.int .i64 4)⟩]) (by kernel_rfl) hz674 hd674 (fun _ h => nomatch h) ?_ ?_
        · refine steps_cons (fun own a wx hf hsl hE => ?_) ?_
          · exact sg_plain rfl rfl (or_assign rfl)
          exact steps_nil
        intro own676 a676 w676 hd676 hz676 hk676 hf676 hE676
        obtain ⟨(f_8 : a676.eval (.tmp 8) = .int .i64 4), -⟩ := hf676 [0] rfl
        have e676_8 := f_8
        have hX676 := Evo.step hX674 (fun _ => Nat.le_refl 0) hE676 rfl
        refine fl_ret ?_
        refine hp673 _ _ _ rfl ?_
        obtain rfl := osome hs
        exact hret _ _ _ _ (.inl rfl) hd676 (results1_ rfl (RVal.tmp_ e676_8)) ⟨own676, rfl, hX676⟩
      refine fl_skip ?_
      refine hn673 _ _ ?_
      refine fl_seq (fun Q677 hn677 hp677 => ?_)
      refine rg_plain_seq (n := 125) (rs := []) (own0 := own674) (K := [])
          (bs := [0, 1])
          (ds := [⟨[], [15], [], Fct.val 93 (.int .i64 (sb (ad n437 m601) both438))⟩,
          ⟨[0], [], [], Fct.val 94 (.bool (decide ((sb (ad n437 m601) both438) = 1)))⟩]) (by kernel_rfl) hz674 hd674 (fun _ h => nomatch h) ?_ ?_
      · refine steps_cons (fun own a wx hf hsl hE => ?_) ?_
        · obtain ⟨s_15, -⟩ := hsl
          exact sg_plain rfl rfl (or_move (s_15.trans e674_15))
        refine steps_cons (fun own a wx hf hsl hE => ?_) ?_
        · obtain ⟨(f_93 : a.eval (.tmp 93) = .int .i64 (sb (ad n437 m601) both438)), -⟩ := hf
          exact sg_plain rfl rfl (or_eql f_93 rfl rfl)
        exact steps_nil
      intro own678 a678 w678 hd678 hz678 hk678 hf678 hE678
      have e678_4 : a678.eval (.tmp 4) = .pointer (some ⟨g356, 0, none⟩) := (hk678 4 rfl).trans e674_4
      have e678_5 : a678.eval (.tmp 5) = .pointer (some ⟨g358, 0, none⟩) := (hk678 5 rfl).trans e674_5
      have e678_6 : a678.eval (.tmp 6) = .pointer (some ⟨g360, 0, none⟩) := (hk678 6 rfl).trans e674_6
      have e678_7 : a678.eval (.tmp 7) = .pointer (some ⟨g362, 0, none⟩) := (hk678 7 rfl).trans e674_7
      have e678_10 : a678.eval (.tmp 10) = .int .i64 both438 := (hk678 10 rfl).trans e674_10
      obtain ⟨(f_94 : a678.eval (.tmp 94) = .bool (decide ((sb (ad n437 m601) both438) = 1))), -⟩ := hf678 [1] rfl
      have e678_94 := f_94
      have hX678 := Evo.step hX674 (fun _ => Nat.le_refl 0) hE678 rfl
      have b678_g356 := BlkO.evo (by decide) hE678 b674_g356
      have b678_g358 := BlkO.evo (by decide) hE678 b674_g358
      have b678_g360 := BlkO.evo (by decide) hE678 b674_g360
      have b678_g362 := BlkO.evo (by decide) hE678 b674_g362
      refine fl_cond e678_94 hs (fun c679 hs => ?_) (fun c679 hs => ?_)
      · refine fl_seq (fun Q680 hn680 hp680 => ?_)
        refine rg_plain_seq (n := 125) (rs := []) (own0 := own678) (K := [])
            (bs := [0, 1])
            (ds := [⟨[], [10], [], Fct.val 95 (.int .i64 both438)⟩,
            ⟨[0], [], [], Fct.val 96 (.bool (decide (both438 = 1)))⟩]) (by kernel_rfl) hz678 hd678 (fun _ h => nomatch h) ?_ ?_
        · refine steps_cons (fun own a wx hf hsl hE => ?_) ?_
          · obtain ⟨s_10, -⟩ := hsl
            exact sg_plain rfl rfl (or_move (s_10.trans e678_10))
          refine steps_cons (fun own a wx hf hsl hE => ?_) ?_
          · obtain ⟨(f_95 : a.eval (.tmp 95) = .int .i64 both438), -⟩ := hf
            exact sg_plain rfl rfl (or_eql f_95 rfl rfl)
          exact steps_nil
        intro own681 a681 w681 hd681 hz681 hk681 hf681 hE681
        obtain ⟨(f_96 : a681.eval (.tmp 96) = .bool (decide (both438 = 1))), -⟩ := hf681 [1] rfl
        have e681_96 := f_96
        have hX681 := Evo.step hX678 (fun _ => Nat.le_refl 0) hE681 rfl
        refine fl_cond e681_96 hs (fun c682 hs => ?_) (fun c682 hs => ?_)
        · refine rg_plain_seq (n := 125) (rs := []) (own0 := own681) (K := [])
              (bs := [0])
              (ds := [⟨[], [], [], Fct.val 8 (.int .i64 1)⟩]) (by kernel_rfl) hz681 hd681 (fun _ h => nomatch h) ?_ ?_
          · refine steps_cons (fun own a wx hf hsl hE => ?_) ?_
            · exact sg_plain rfl rfl (or_assign rfl)
            exact steps_nil
          intro own683 a683 w683 hd683 hz683 hk683 hf683 hE683
          obtain ⟨(f_8 : a683.eval (.tmp 8) = .int .i64 1), -⟩ := hf683 [0] rfl
          have e683_8 := f_8
          have hX683 := Evo.step hX681 (fun _ => Nat.le_refl 0) hE683 rfl
          refine fl_ret ?_
          refine hp680 _ _ _ rfl ?_
          refine hp677 _ _ _ rfl ?_
          obtain rfl := osome hs
          exact hret _ _ _ _ (.inl rfl) hd683 (results1_ rfl (RVal.tmp_ e683_8)) ⟨own683, rfl, hX683⟩
        refine fl_skip ?_
        refine hn680 _ _ ?_
        refine rg_plain_seq (n := 125) (rs := []) (own0 := own681) (K := [])
            (bs := [0])
            (ds := [⟨[], [], [], Fct.val 8 (.int .i64 2)⟩]) (by kernel_rfl) hz681 hd681 (fun _ h => nomatch h) ?_ ?_
        · refine steps_cons (fun own a wx hf hsl hE => ?_) ?_
          · exact sg_plain rfl rfl (or_assign rfl)
          exact steps_nil
        intro own684 a684 w684 hd684 hz684 hk684 hf684 hE684
        obtain ⟨(f_8 : a684.eval (.tmp 8) = .int .i64 2), -⟩ := hf684 [0] rfl
        have e684_8 := f_8
        have hX684 := Evo.step hX681 (fun _ => Nat.le_refl 0) hE684 rfl
        refine fl_ret ?_
        refine hp677 _ _ _ rfl ?_
        obtain rfl := osome hs
        exact hret _ _ _ _ (.inl rfl) hd684 (results1_ rfl (RVal.tmp_ e684_8)) ⟨own684, rfl, hX684⟩
      refine fl_skip ?_
      refine hn677 _ _ ?_
      obtain ⟨r685, hr685, hs⟩ := obind hs
      obtain ⟨r686, hr686, hs⟩ := obind hs
      obtain ⟨r687, hr687, hs⟩ := obind hs
      obtain ⟨r688, hr688, hs⟩ := obind hs
      refine rg_draw_seq g_mixed (n := 125) (rs := []) (own0 := own678) (K := [])
          (bs := [0, 0, 0, 7, 15, 0, 0, 0, 255, 511, 1023, 2047])
          (ds := [⟨[], [4], [], Fct.val 97 (.agg #[.int .i64 x1.1, .int .i64 x1.2])⟩,
          ⟨[], [5], [], Fct.val 98 (.agg #[.int .i64 b2.1, .int .i64 b2.2])⟩,
          ⟨[], [6], [], Fct.val 99 (.agg #[.int .i64 c3.1, .int .i64 c3.2])⟩,
          ⟨[0, 1, 2], [], [], Fct.val 100 (.int .i64 r685)⟩,
          ⟨[3], [], [], Fct.val 101 (.int .i64 r686)⟩,
          ⟨[], [4], [], Fct.val 102 (.agg #[.int .i64 x1.1, .int .i64 x1.2])⟩,
          ⟨[], [5], [], Fct.val 103 (.agg #[.int .i64 b2.1, .int .i64 b2.2])⟩,
          ⟨[], [7], [], Fct.val 104 (.agg #[.int .i64 d4.1, .int .i64 d4.2])⟩,
          ⟨[5, 6, 7], [], [], Fct.val 105 (.int .i64 r687)⟩,
          ⟨[8], [], [], Fct.val 106 (.int .i64 r688)⟩,
          ⟨[4], [], [], Fct.val 16 (.int .i64 r686)⟩,
          ⟨[9], [], [], Fct.val 17 (.int .i64 r688)⟩]) (by kernel_rfl) hz678 hd678 (fun _ h => nomatch h) ?_ ?_
      · refine steps_cons (fun own a wx hf hsl hE => ?_) ?_
        · obtain ⟨s_4, -⟩ := hsl
          exact sg_plain rfl rfl (or_load (l := [.int .i64 x1.1, .int .i64 x1.2]) ta49 (s_4.trans e678_4) (Blk.cellsFrom (BlkO.evo (by decide) hE b678_g356).2 0 rfl) rfl)
        refine steps_cons (fun own a wx hf hsl hE => ?_) ?_
        · obtain ⟨s_5, -⟩ := hsl
          exact sg_plain rfl rfl (or_load (l := [.int .i64 b2.1, .int .i64 b2.2]) ta49 (s_5.trans e678_5) (Blk.cellsFrom (BlkO.evo (by decide) hE b678_g358).2 0 rfl) rfl)
        refine steps_cons (fun own a wx hf hsl hE => ?_) ?_
        · obtain ⟨s_6, -⟩ := hsl
          exact sg_plain rfl rfl (or_load (l := [.int .i64 c3.1, .int .i64 c3.2]) ta49 (s_6.trans e678_6) (Blk.cellsFrom (BlkO.evo (by decide) hE b678_g360).2 0 rfl) rfl)
        refine steps_cons (fun own a wx hf hsl hE => ?_) ?_
        · obtain ⟨(f_97 : a.eval (.tmp 97) = .agg #[.int .i64 x1.1, .int .i64 x1.2]), (f_98 : a.eval (.tmp 98) = .agg #[.int .i64 b2.1, .int .i64 b2.2]), (f_99 : a.eval (.tmp 99) = .agg #[.int .i64 c3.1, .int .i64 c3.2]), -⟩ := hf
          exact sg_plain rfl rfl (or_call cf59 (args3 f_97 f_98 f_99) (ref01_Cross_w _ x1 b2 c3  r685 hr685) post_val)
        refine steps_cons (fun own a wx hf hsl hE => ?_) ?_
        · obtain ⟨(f_100 : a.eval (.tmp 100) = .int .i64 r685), -⟩ := hf
          exact sg_plain rfl rfl (or_call cf58 (args1 f_100) (ref01_Sign_w _ r685  r686 hr686) post_val)
        refine steps_cons (fun own a wx hf hsl hE => ?_) ?_
        · obtain ⟨s_4, -⟩ := hsl
          exact sg_plain rfl rfl (or_load (l := [.int .i64 x1.1, .int .i64 x1.2]) ta49 (s_4.trans e678_4) (Blk.cellsFrom (BlkO.evo (by decide) hE b678_g356).2 0 rfl) rfl)
        refine steps_cons (fun own a wx hf hsl hE => ?_) ?_
        · obtain ⟨s_5, -⟩ := hsl
          exact sg_plain rfl rfl (or_load (l := [.int .i64 b2.1, .int .i64 b2.2]) ta49 (s_5.trans e678_5) (Blk.cellsFrom (BlkO.evo (by decide) hE b678_g358).2 0 rfl) rfl)
        refine steps_cons (fun own a wx hf hsl hE => ?_) ?_
        · obtain ⟨s_7, -⟩ := hsl
          exact sg_plain rfl rfl (or_load (l := [.int .i64 d4.1, .int .i64 d4.2]) ta49 (s_7.trans e678_7) (Blk.cellsFrom (BlkO.evo (by decide) hE b678_g362).2 0 rfl) rfl)
        refine steps_cons (fun own a wx hf hsl hE => ?_) ?_
        · obtain ⟨(f_102 : a.eval (.tmp 102) = .agg #[.int .i64 x1.1, .int .i64 x1.2]), (f_103 : a.eval (.tmp 103) = .agg #[.int .i64 b2.1, .int .i64 b2.2]), (f_104 : a.eval (.tmp 104) = .agg #[.int .i64 d4.1, .int .i64 d4.2]), -⟩ := hf
          exact sg_plain rfl rfl (or_call cf59 (args3 f_102 f_103 f_104) (ref01_Cross_w _ x1 b2 d4  r687 hr687) post_val)
        refine steps_cons (fun own a wx hf hsl hE => ?_) ?_
        · obtain ⟨(f_105 : a.eval (.tmp 105) = .int .i64 r687), -⟩ := hf
          exact sg_plain rfl rfl (or_call cf58 (args1 f_105) (ref01_Sign_w _ r687  r688 hr688) post_val)
        refine steps_cons (fun own a wx hf hsl hE => ?_) ?_
        · obtain ⟨(f_101 : a.eval (.tmp 101) = .int .i64 r686), -⟩ := hf
          exact sg_plain rfl rfl (or_assign f_101)
        refine steps_cons (fun own a wx hf hsl hE => ?_) ?_
        · obtain ⟨(f_106 : a.eval (.tmp 106) = .int .i64 r688), -⟩ := hf
          exact sg_plain rfl rfl (or_assign f_106)
        exact steps_nil
      intro own689 a689 w689 hd689 hz689 hk689 hf689 hE689
      have e689_4 : a689.eval (.tmp 4) = .pointer (some ⟨g356, 0, none⟩) := (hk689 4 rfl).trans e678_4
      have e689_5 : a689.eval (.tmp 5) = .pointer (some ⟨g358, 0, none⟩) := (hk689 5 rfl).trans e678_5
      have e689_6 : a689.eval (.tmp 6) = .pointer (some ⟨g360, 0, none⟩) := (hk689 6 rfl).trans e678_6
      have e689_7 : a689.eval (.tmp 7) = .pointer (some ⟨g362, 0, none⟩) := (hk689 7 rfl).trans e678_7
      obtain ⟨(f_16 : a689.eval (.tmp 16) = .int .i64 r686), (f_17 : a689.eval (.tmp 17) = .int .i64 r688), -⟩ := hf689 [10, 11] rfl
      have e689_16 := f_16
      have e689_17 := f_17
      have hX689 := Evo.step hX678 (fun _ => Nat.le_refl 0) hE689 rfl
      have b689_g356 := BlkO.evo (by decide) hE689 b678_g356
      have b689_g358 := BlkO.evo (by decide) hE689 b678_g358
      have b689_g360 := BlkO.evo (by decide) hE689 b678_g360
      have b689_g362 := BlkO.evo (by decide) hE689 b678_g362
      obtain ⟨r690, hr690, hs⟩ := obind hs
      obtain ⟨r691, hr691, hs⟩ := obind hs
      obtain ⟨r692, hr692, hs⟩ := obind hs
      obtain ⟨r693, hr693, hs⟩ := obind hs
      refine rg_draw_seq g_mixed (n := 125) (rs := []) (own0 := own689) (K := [])
          (bs := [0, 0, 0, 7, 15, 0, 0, 0, 255, 511, 1023, 2047])
          (ds := [⟨[], [6], [], Fct.val 107 (.agg #[.int .i64 c3.1, .int .i64 c3.2])⟩,
          ⟨[], [7], [], Fct.val 108 (.agg #[.int .i64 d4.1, .int .i64 d4.2])⟩,
          ⟨[], [4], [], Fct.val 109 (.agg #[.int .i64 x1.1, .int .i64 x1.2])⟩,
          ⟨[0, 1, 2], [], [], Fct.val 110 (.int .i64 r690)⟩,
          ⟨[3], [], [], Fct.val 111 (.int .i64 r691)⟩,
          ⟨[], [6], [], Fct.val 112 (.agg #[.int .i64 c3.1, .int .i64 c3.2])⟩,
          ⟨[], [7], [], Fct.val 113 (.agg #[.int .i64 d4.1, .int .i64 d4.2])⟩,
          ⟨[], [5], [], Fct.val 114 (.agg #[.int .i64 b2.1, .int .i64 b2.2])⟩,
          ⟨[5, 6, 7], [], [], Fct.val 115 (.int .i64 r692)⟩,
          ⟨[8], [], [], Fct.val 116 (.int .i64 r693)⟩,
          ⟨[4], [], [], Fct.val 18 (.int .i64 r691)⟩,
          ⟨[9], [], [], Fct.val 19 (.int .i64 r693)⟩]) (by kernel_rfl) hz689 hd689 (fun _ h => nomatch h) ?_ ?_
      · refine steps_cons (fun own a wx hf hsl hE => ?_) ?_
        · obtain ⟨s_6, -⟩ := hsl
          exact sg_plain rfl rfl (or_load (l := [.int .i64 c3.1, .int .i64 c3.2]) ta49 (s_6.trans e689_6) (Blk.cellsFrom (BlkO.evo (by decide) hE b689_g360).2 0 rfl) rfl)
        refine steps_cons (fun own a wx hf hsl hE => ?_) ?_
        · obtain ⟨s_7, -⟩ := hsl
          exact sg_plain rfl rfl (or_load (l := [.int .i64 d4.1, .int .i64 d4.2]) ta49 (s_7.trans e689_7) (Blk.cellsFrom (BlkO.evo (by decide) hE b689_g362).2 0 rfl) rfl)
        refine steps_cons (fun own a wx hf hsl hE => ?_) ?_
        · obtain ⟨s_4, -⟩ := hsl
          exact sg_plain rfl rfl (or_load (l := [.int .i64 x1.1, .int .i64 x1.2]) ta49 (s_4.trans e689_4) (Blk.cellsFrom (BlkO.evo (by decide) hE b689_g356).2 0 rfl) rfl)
        refine steps_cons (fun own a wx hf hsl hE => ?_) ?_
        · obtain ⟨(f_107 : a.eval (.tmp 107) = .agg #[.int .i64 c3.1, .int .i64 c3.2]), (f_108 : a.eval (.tmp 108) = .agg #[.int .i64 d4.1, .int .i64 d4.2]), (f_109 : a.eval (.tmp 109) = .agg #[.int .i64 x1.1, .int .i64 x1.2]), -⟩ := hf
          exact sg_plain rfl rfl (or_call cf59 (args3 f_107 f_108 f_109) (ref01_Cross_w _ c3 d4 x1  r690 hr690) post_val)
        refine steps_cons (fun own a wx hf hsl hE => ?_) ?_
        · obtain ⟨(f_110 : a.eval (.tmp 110) = .int .i64 r690), -⟩ := hf
          exact sg_plain rfl rfl (or_call cf58 (args1 f_110) (ref01_Sign_w _ r690  r691 hr691) post_val)
        refine steps_cons (fun own a wx hf hsl hE => ?_) ?_
        · obtain ⟨s_6, -⟩ := hsl
          exact sg_plain rfl rfl (or_load (l := [.int .i64 c3.1, .int .i64 c3.2]) ta49 (s_6.trans e689_6) (Blk.cellsFrom (BlkO.evo (by decide) hE b689_g360).2 0 rfl) rfl)
        refine steps_cons (fun own a wx hf hsl hE => ?_) ?_
        · obtain ⟨s_7, -⟩ := hsl
          exact sg_plain rfl rfl (or_load (l := [.int .i64 d4.1, .int .i64 d4.2]) ta49 (s_7.trans e689_7) (Blk.cellsFrom (BlkO.evo (by decide) hE b689_g362).2 0 rfl) rfl)
        refine steps_cons (fun own a wx hf hsl hE => ?_) ?_
        · obtain ⟨s_5, -⟩ := hsl
          exact sg_plain rfl rfl (or_load (l := [.int .i64 b2.1, .int .i64 b2.2]) ta49 (s_5.trans e689_5) (Blk.cellsFrom (BlkO.evo (by decide) hE b689_g358).2 0 rfl) rfl)
        refine steps_cons (fun own a wx hf hsl hE => ?_) ?_
        · obtain ⟨(f_112 : a.eval (.tmp 112) = .agg #[.int .i64 c3.1, .int .i64 c3.2]), (f_113 : a.eval (.tmp 113) = .agg #[.int .i64 d4.1, .int .i64 d4.2]), (f_114 : a.eval (.tmp 114) = .agg #[.int .i64 b2.1, .int .i64 b2.2]), -⟩ := hf
          exact sg_plain rfl rfl (or_call cf59 (args3 f_112 f_113 f_114) (ref01_Cross_w _ c3 d4 b2  r692 hr692) post_val)
        refine steps_cons (fun own a wx hf hsl hE => ?_) ?_
        · obtain ⟨(f_115 : a.eval (.tmp 115) = .int .i64 r692), -⟩ := hf
          exact sg_plain rfl rfl (or_call cf58 (args1 f_115) (ref01_Sign_w _ r692  r693 hr693) post_val)
        refine steps_cons (fun own a wx hf hsl hE => ?_) ?_
        · obtain ⟨(f_111 : a.eval (.tmp 111) = .int .i64 r691), -⟩ := hf
          exact sg_plain rfl rfl (or_assign f_111)
        refine steps_cons (fun own a wx hf hsl hE => ?_) ?_
        · obtain ⟨(f_116 : a.eval (.tmp 116) = .int .i64 r693), -⟩ := hf
          exact sg_plain rfl rfl (or_assign f_116)
        exact steps_nil
      intro own694 a694 w694 hd694 hz694 hk694 hf694 hE694
      have e694_16 : a694.eval (.tmp 16) = .int .i64 r686 := (hk694 16 rfl).trans e689_16
      have e694_17 : a694.eval (.tmp 17) = .int .i64 r688 := (hk694 17 rfl).trans e689_17
      obtain ⟨(f_18 : a694.eval (.tmp 18) = .int .i64 r691), (f_19 : a694.eval (.tmp 19) = .int .i64 r693), -⟩ := hf694 [10, 11] rfl
      have e694_18 := f_18
      have e694_19 := f_19
      have hX694 := Evo.step hX689 (fun _ => Nat.le_refl 0) hE694 rfl
      refine fl_seq (fun Q695 hn695 hp695 => ?_)
      obtain ⟨x696, hx696, hs⟩ := obind hs
      refine rg_plain_seq (n := 125) (rs := []) (own0 := own694) (K := [])
          (bs := [0, 0, 3, 7, 15, 15, 63, 127])
          (ds := [⟨[], [16], [], Fct.val 117 (.int .i64 r686)⟩,
          ⟨[], [17], [], Fct.val 118 (.int .i64 r688)⟩,
          ⟨[0, 1], [], [], Fct.val 119 (.bool (!decide (r686 = r688)))⟩,
          ⟨[2], [], [], Fct.val 120 (.bool (!decide (r686 = r688)))⟩,
          ⟨[3], [18], [], Fct.cond (!decide (r686 = r688)) (some 121) (Fct.val 121 (.int .i64 r691))⟩,
          ⟨[3], [19], [], Fct.cond (!decide (r686 = r688)) (some 122) (Fct.val 122 (.int .i64 r693))⟩,
          ⟨[3, 4, 5], [], [], Fct.cond (!decide (r686 = r688)) (some 123) (Fct.val 123 (.bool (!decide (r691 = r693))))⟩,
          ⟨[3, 6], [], [], Fct.val 124 (.bool x696)⟩]) (by kernel_rfl) hz694 hd694 (fun _ h => nomatch h) ?_ ?_
      · refine steps_cons (fun own a wx hf hsl hE => ?_) ?_
        · obtain ⟨s_16, -⟩ := hsl
          exact sg_plain rfl rfl (or_move (s_16.trans e694_16))
        refine steps_cons (fun own a wx hf hsl hE => ?_) ?_
        · obtain ⟨s_17, -⟩ := hsl
          exact sg_plain rfl rfl (or_move (s_17.trans e694_17))
        refine steps_cons (fun own a wx hf hsl hE => ?_) ?_
        · obtain ⟨(f_117 : a.eval (.tmp 117) = .int .i64 r686), (f_118 : a.eval (.tmp 118) = .int .i64 r688), -⟩ := hf
          exact sg_plain rfl rfl (or_neq f_117 f_118 rfl)
        refine steps_cons (fun own a wx hf hsl hE => ?_) ?_
        · obtain ⟨(f_119 : a.eval (.tmp 119) = .bool (!decide (r686 = r688))), -⟩ := hf
          exact sg_plain rfl rfl (or_move f_119)
        refine steps_cons (fun own a wx hf hsl hE => ?_) ?_
        · obtain ⟨(f_120 : a.eval (.tmp 120) = .bool (!decide (r686 = r688))), -⟩ := hf
          obtain ⟨s_18, -⟩ := hsl
          refine sg_t rfl rfl rfl f_120 (fun hg => ?_)
          exact or_move (s_18.trans e694_18)
        refine steps_cons (fun own a wx hf hsl hE => ?_) ?_
        · obtain ⟨(f_120 : a.eval (.tmp 120) = .bool (!decide (r686 = r688))), -⟩ := hf
          obtain ⟨s_19, -⟩ := hsl
          refine sg_t rfl rfl rfl f_120 (fun hg => ?_)
          exact or_move (s_19.trans e694_19)
        refine steps_cons (fun own a wx hf hsl hE => ?_) ?_
        · obtain ⟨(f_120 : a.eval (.tmp 120) = .bool (!decide (r686 = r688))), c_121, c_122, -⟩ := hf
          refine sg_t rfl rfl rfl f_120 (fun hg => ?_)
          have f_121 : a.eval (.tmp 121) = .int .i64 r691 := c_121.1 hg
          have f_122 : a.eval (.tmp 122) = .int .i64 r693 := c_122.1 hg
          exact or_neq f_121 f_122 rfl
        refine steps_cons (fun own a wx hf hsl hE => ?_) ?_
        · obtain ⟨(f_120 : a.eval (.tmp 120) = .bool (!decide (r686 = r688))), c_123, -⟩ := hf
          exact sg_plain rfl rfl (or_and f_120 (fun hx => c_123.1 hx) rfl (osome hx696).symm)
        exact steps_nil
      intro own697 a697 w697 hd697 hz697 hk697 hf697 hE697
      obtain ⟨(f_124 : a697.eval (.tmp 124) = .bool x696), -⟩ := hf697 [7] rfl
      have e697_124 := f_124
      have hX697 := Evo.step hX694 (fun _ => Nat.le_refl 0) hE697 rfl
      refine fl_cond e697_124 hs (fun c698 hs => ?_) (fun c698 hs => ?_)
      · refine rg_plain_seq (n := 125) (rs := []) (own0 := own697) (K := [])
            (bs := [0])
            (ds := [⟨[], [], [], Fct.val 8 (.int .i64 3)⟩]) (by kernel_rfl) hz697 hd697 (fun _ h => nomatch h) ?_ ?_
        · refine steps_cons (fun own a wx hf hsl hE => ?_) ?_
          · exact sg_plain rfl rfl (or_assign rfl)
          exact steps_nil
        intro own699 a699 w699 hd699 hz699 hk699 hf699 hE699
        obtain ⟨(f_8 : a699.eval (.tmp 8) = .int .i64 3), -⟩ := hf699 [0] rfl
        have e699_8 := f_8
        have hX699 := Evo.step hX697 (fun _ => Nat.le_refl 0) hE699 rfl
        refine fl_ret ?_
        refine hp695 _ _ _ rfl ?_
        obtain rfl := osome hs
        exact hret _ _ _ _ (.inl rfl) hd699 (results1_ rfl (RVal.tmp_ e699_8)) ⟨own699, rfl, hX699⟩
      refine fl_skip ?_
      refine hn695 _ _ ?_
      refine rg_plain_seq (n := 125) (rs := []) (own0 := own697) (K := [])
          (bs := [0])
          (ds := [⟨[], [], [], Fct.val 8 (.int .i64 0)⟩]) (by kernel_rfl) hz697 hd697 (fun _ h => nomatch h) ?_ ?_
      · refine steps_cons (fun own a wx hf hsl hE => ?_) ?_
        · exact sg_plain rfl rfl (or_assign rfl)
        exact steps_nil
      intro own700 a700 w700 hd700 hz700 hk700 hf700 hE700
      obtain ⟨(f_8 : a700.eval (.tmp 8) = .int .i64 0), -⟩ := hf700 [0] rfl
      have e700_8 := f_8
      have hX700 := Evo.step hX697 (fun _ => Nat.le_refl 0) hE700 rfl
      refine fl_ret ?_
      obtain rfl := osome hs
      exact hret _ _ _ _ (.inl rfl) hd700 (results1_ rfl (RVal.tmp_ e700_8)) ⟨own700, rfl, hX700⟩

end Go.Proofs.Ythkmkmkcnljmaaa
