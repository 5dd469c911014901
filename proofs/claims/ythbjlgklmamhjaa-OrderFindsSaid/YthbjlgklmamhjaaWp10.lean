/-
  Chapter 04. The walks.
-/
import Derived.Test.YthbjlgklmamhjaaWp2
import Derived.Test.YthbjlgklmamhjaaWp3
import Derived.Test.YthbjlgklmamhjaaWp4
import Derived.Test.YthbjlgklmamhjaaWp5
import Derived.Test.YthbjlgklmamhjaaWp6
import Derived.Test.YthbjlgklmamhjaaSp10
namespace Go.Proofs.Ythbjlgklmamhjaa
open Go.RowKit
set_option linter.unusedVariables false
theorem ref04_Apart_w (w : World) (l1 : List Int) (Al1 : Option Addr) (cl1 : Nat) (x2 : Int) (b3 : Int) (hl1 : RdO (fun _ => 0) [0] w R3 Al1 cl1 l1) (r : Bool) (hs : ref04_Apart l1 x2 b3 = some r) :
    Calls Try.prog 15 #[.slice Al1 l1.length cl1, .int .i64 x2, .int .i64 b3] w fun e w' => ∃ own' : Own, e = .returned (.bool r) ∧ Evo [] (fun _ => 0) own' w w' := by
  refine fl_enter (n := 44) rfl rfl rfl (Nat.le_of_ble_eq_true rfl) ?_
  intro a0 Q hd0 hz0 harg hret
  have ha0 := harg 0 _ rfl
  have ha1 := harg 1 _ rfl
  have ha2 := harg 2 _ rfl
  clear harg
  have hE0 : Evo [] (fun _ => 0) (fun _ => 0) w w := Evo.refl _ _ _
  refine rg_plain_seq (n := 44) (rs := []) (own0 := (fun _ => 0)) (K := [])
      (bs := [0])
      (ds := [⟨[], [], [], Fct.val 6 (.bool false)⟩]) (by kernel_rfl) hz0 hd0 (fun _ h => nomatch h) ?_ ?_
  · refine steps_cons (fun own a wx hf hsl hE => ?_) ?_
    · exact sg_plain rfl rfl (or_assign rfl)
    exact steps_nil
  intro own66 a66 w66 hd66 hz66 hk66 hf66 hE66
  have e66_0 : a66.eval (.tmp 0) = .slice Al1 l1.length cl1 := (hk66 0 rfl).trans ha0
  have e66_1 : a66.eval (.tmp 1) = .int .i64 x2 := (hk66 1 rfl).trans ha1
  have e66_2 : a66.eval (.tmp 2) = .int .i64 b3 := (hk66 2 rfl).trans ha2
  have hX66 := Evo.step hE0 (fun _ => Nat.le_refl 0) hE66 rfl
  have b66_Al1 := RdO.evo rfl hE66 hl1
  refine fl_seq (fun Q67 hn67 hp67 => ?_)
  refine rg_plain_seq (n := 44) (rs := []) (own0 := own66) (K := [])
      (bs := [0])
      (ds := [⟨[], [], [], Fct.val 7 (.int .i64 0)⟩]) (by kernel_rfl) hz66 hd66 (fun _ h => nomatch h) ?_ ?_
  · refine steps_cons (fun own a wx hf hsl hE => ?_) ?_
    · exact sg_plain rfl rfl (or_assign rfl)
    exact steps_nil
  intro own68 a68 w68 hd68 hz68 hk68 hf68 hE68
  have e68_0 : a68.eval (.tmp 0) = .slice Al1 l1.length cl1 := (hk68 0 rfl).trans e66_0
  have e68_1 : a68.eval (.tmp 1) = .int .i64 x2 := (hk68 1 rfl).trans e66_1
  have e68_2 : a68.eval (.tmp 2) = .int .i64 b3 := (hk68 2 rfl).trans e66_2
  obtain ⟨(f_7 : a68.eval (.tmp 7) = .int .i64 0), -⟩ := hf68 [0] rfl
  have e68_7 := f_7
  have hX68 := Evo.step hX66 (fun _ => Nat.le_refl 0) hE68 rfl
  have b68_Al1 := RdO.evo rfl hE68 b66_Al1
  refine fl_block (fun Q69 hn69 hx69 hp69 => ?_)
  refine fl_loop (body := (fun s => ref04_Apart_b1 l1 x2 b3 s)) (z := r) (show loopO _ _ = _ from hs) (fun (i86 : Int) a wx => ∃ (ox : Own), a.defers = [] ∧ a.tmps.size = 44 ∧ a.eval (.tmp 0) = .slice Al1 l1.length cl1 ∧ a.eval (.tmp 1) = .int .i64 x2 ∧ a.eval (.tmp 2) = .int .i64 b3 ∧ a.eval (.tmp 7) = .int .i64 i86 ∧ Evo [] (fun _ => 0) ox w wx ∧ RdO ox [0] wx R3 Al1 cl1 l1) ?_ ?_
  · exact ⟨own68, hd68, hz68, e68_0, e68_1, e68_2, e68_7, hX68, b68_Al1⟩
  · rintro i86 zz103 a103 w103 ⟨own103, hd104, hz104, e104_0, e104_1, e104_2, e104_7, hE104, b104_Al1⟩ hs Q103 hn103 hp103 hz103
    have hs : ref04_Apart_b1 l1 x2 b3 i86 = some zz103 := hs
    refine fl_seq (fun Q105 hn105 hp105 => ?_)
    refine rg_plain_seq (n := 44) (rs := []) (own0 := own103) (K := [])
        (bs := [0, 0, 2, 7])
        (ds := [⟨[], [7], [], Fct.val 8 (.int .i64 i86)⟩,
        ⟨[], [0], [], Fct.val 9 (.slice Al1 l1.length cl1)⟩,
        ⟨[1], [], [], Fct.val 10 (.int .i64 (l1.length : Int))⟩,
        ⟨[0, 2], [], [], Fct.val 11 (.bool (decide (i86 < (l1.length : Int))))⟩]) (by kernel_rfl) hz104 hd104 (fun _ h => nomatch h) ?_ ?_
    · refine steps_cons (fun own a wx hf hsl hE => ?_) ?_
      · obtain ⟨s_7, -⟩ := hsl
        exact sg_plain rfl rfl (or_move (s_7.trans e104_7))
      refine steps_cons (fun own a wx hf hsl hE => ?_) ?_
      · obtain ⟨s_0, -⟩ := hsl
        exact sg_plain rfl rfl (or_move (s_0.trans e104_0))
      refine steps_cons (fun own a wx hf hsl hE => ?_) ?_
      · obtain ⟨(f_9 : a.eval (.tmp 9) = .slice Al1 l1.length cl1), -⟩ := hf
        exact sg_plain rfl rfl (or_len tu22 f_9 rfl)
      refine steps_cons (fun own a wx hf hsl hE => ?_) ?_
      · obtain ⟨(f_8 : a.eval (.tmp 8) = .int .i64 i86), (f_10 : a.eval (.tmp 10) = .int .i64 (l1.length : Int)), -⟩ := hf
        exact sg_plain rfl rfl (or_lss f_8 f_10 rfl)
      exact steps_nil
    intro own106 a106 w106 hd106 hz106 hk106 hf106 hE106
    have e106_0 : a106.eval (.tmp 0) = .slice Al1 l1.length cl1 := (hk106 0 rfl).trans e104_0
    have e106_1 : a106.eval (.tmp 1) = .int .i64 x2 := (hk106 1 rfl).trans e104_1
    have e106_2 : a106.eval (.tmp 2) = .int .i64 b3 := (hk106 2 rfl).trans e104_2
    have e106_7 : a106.eval (.tmp 7) = .int .i64 i86 := (hk106 7 rfl).trans e104_7
    obtain ⟨(f_11 : a106.eval (.tmp 11) = .bool (decide (i86 < (l1.length : Int)))), -⟩ := hf106 [3] rfl
    have e106_11 := f_11
    have hX106 := Evo.step hE104 (fun _ => Nat.le_refl 0) hE106 rfl
    have b106_Al1 := RdO.evo rfl hE106 b104_Al1
    refine fl_cond e106_11 hs (fun c107 hs => ?_) (fun c107 hs => ?_)
    · refine fl_skip ?_
      refine hn105 _ _ ?_
      refine fl_seq (fun Q108 hn108 hp108 => ?_)
      refine fl_block (fun Q109 hn109 hx109 hp109 => ?_)
      obtain ⟨x110, hx110, hs⟩ := obind hs
      obtain ⟨x111, hx111, hs⟩ := obind hs
      obtain ⟨x112, hx112, hs⟩ := obind hs
      obtain ⟨x113, hx113, hs⟩ := obind hs
      obtain ⟨x114, hx114, hs⟩ := obind hs
      obtain ⟨x115, hx115, hs⟩ := obind hs
      refine rg_plain_seq (n := 44) (rs := []) (own0 := own106) (K := [])
          (bs := [0, 0, 0, 6, 14, 31, 63, 127, 127, 511, 1023, 127, 4095, 8191, 16383, 32767, 32767, 32767, 229375, 491519, 1048575, 2097151, 4194303, 4194303, 16777215, 33554431, 4194303, 134217727, 268435455, 536870911])
          (ds := [⟨[], [1], [], Fct.val 14 (.int .i64 x2)⟩,
          ⟨[], [0], [], Fct.val 15 (.slice Al1 l1.length cl1)⟩,
          ⟨[], [7], [], Fct.val 16 (.int .i64 i86)⟩,
          ⟨[1, 2], [], [], Fct.val 17 (.pointer (some ((adr Al1).add ((i86 : Int).toNat * R3.s))))⟩,
          ⟨[3], [], [], Fct.val 18 (.int .i64 x110)⟩,
          ⟨[0, 4], [], [], Fct.val 19 (.bool (decide (x2 < x110)))⟩,
          ⟨[5], [], [], Fct.val 20 (.bool (decide (x2 < x110)))⟩,
          ⟨[6], [0], [], Fct.cond (decide (x2 < x110)) (some 21) (Fct.val 21 (.slice Al1 l1.length cl1))⟩,
          ⟨[6], [7], [], Fct.cond (decide (x2 < x110)) (some 22) (Fct.val 22 (.int .i64 i86))⟩,
          ⟨[6, 7, 8], [], [], Fct.cond (decide (x2 < x110)) (some 23) (Fct.val 23 (.pointer (some ((adr Al1).add ((i86 : Int).toNat * R3.s)))))⟩,
          ⟨[6, 9], [], [], Fct.cond (decide (x2 < x110)) (some 24) (Fct.val 24 (.int .i64 x111))⟩,
          ⟨[6], [2], [], Fct.cond (decide (x2 < x110)) (some 25) (Fct.val 25 (.int .i64 b3))⟩,
          ⟨[6, 10, 11], [], [], Fct.cond (decide (x2 < x110)) (some 26) (Fct.val 26 (.bool (decide (x111 < b3))))⟩,
          ⟨[6, 12], [], [], Fct.val 27 (.bool x112)⟩,
          ⟨[13], [], [], Fct.val 28 (.bool x112)⟩,
          ⟨[14], [2], [], Fct.cond (!x112) (some 29) (Fct.val 29 (.int .i64 b3))⟩,
          ⟨[14], [0], [], Fct.cond (!x112) (some 30) (Fct.val 30 (.slice Al1 l1.length cl1))⟩,
          ⟨[14], [7], [], Fct.cond (!x112) (some 31) (Fct.val 31 (.int .i64 i86))⟩,
          ⟨[14, 16, 17], [], [], Fct.cond (!x112) (some 32) (Fct.val 32 (.pointer (some ((adr Al1).add ((i86 : Int).toNat * R3.s)))))⟩,
          ⟨[14, 18], [], [], Fct.cond (!x112) (some 33) (Fct.val 33 (.int .i64 x113))⟩,
          ⟨[14, 15, 19], [], [], Fct.cond (!x112) (some 34) (Fct.val 34 (.bool (decide (b3 < x113))))⟩,
          ⟨[14, 20], [], [], Fct.cond (!x112) (some 35) (Fct.val 35 (.bool (decide (b3 < x113))))⟩,
          ⟨[21], [0], [], Fct.cond ((!x112) && (decide (b3 < x113))) (some 36) (Fct.val 36 (.slice Al1 l1.length cl1))⟩,
          ⟨[21], [7], [], Fct.cond ((!x112) && (decide (b3 < x113))) (some 37) (Fct.val 37 (.int .i64 i86))⟩,
          ⟨[21, 22, 23], [], [], Fct.cond ((!x112) && (decide (b3 < x113))) (some 38) (Fct.val 38 (.pointer (some ((adr Al1).add ((i86 : Int).toNat * R3.s)))))⟩,
          ⟨[21, 24], [], [], Fct.cond ((!x112) && (decide (b3 < x113))) (some 39) (Fct.val 39 (.int .i64 x114))⟩,
          ⟨[21], [1], [], Fct.cond ((!x112) && (decide (b3 < x113))) (some 40) (Fct.val 40 (.int .i64 x2))⟩,
          ⟨[21, 25, 26], [], [], Fct.cond ((!x112) && (decide (b3 < x113))) (some 41) (Fct.val 41 (.bool (decide (x114 < x2))))⟩,
          ⟨[14, 21, 27], [], [], Fct.cond (!x112) (some 42) (Fct.val 42 (.bool x115))⟩,
          ⟨[14, 28], [], [], Fct.val 43 (.bool (x112 || x115))⟩]) (by kernel_rfl) hz106 hd106 (fun _ h => nomatch h) ?_ ?_
      · refine steps_cons (fun own a wx hf hsl hE => ?_) ?_
        · obtain ⟨s_1, -⟩ := hsl
          exact sg_plain rfl rfl (or_move (s_1.trans e106_1))
        refine steps_cons (fun own a wx hf hsl hE => ?_) ?_
        · obtain ⟨s_0, -⟩ := hsl
          exact sg_plain rfl rfl (or_move (s_0.trans e106_0))
        refine steps_cons (fun own a wx hf hsl hE => ?_) ?_
        · obtain ⟨s_7, -⟩ := hsl
          exact sg_plain rfl rfl (or_move (s_7.trans e106_7))
        refine steps_cons (fun own a wx hf hsl hE => ?_) ?_
        · obtain ⟨(f_15 : a.eval (.tmp 15) = .slice Al1 l1.length cl1), (f_16 : a.eval (.tmp 16) = .int .i64 i86), -⟩ := hf
          exact sg_plain rfl rfl (or_index (R := R3) (l := l1) tl22 f_15 f_16 (RdO.some_ b106_Al1 hx110) hx110)
        refine steps_cons (fun own a wx hf hsl hE => ?_) ?_
        · obtain ⟨(f_17 : a.eval (.tmp 17) = .pointer (some ((adr Al1).add ((i86 : Int).toNat * R3.s)))), -⟩ := hf
          exact sg_plain rfl rfl (or_load1 to3 f_17 (CellsAt.zero (RdO.cells (F := E3) (RdO.evo rfl hE b106_Al1) hx110) rfl))
        refine steps_cons (fun own a wx hf hsl hE => ?_) ?_
        · obtain ⟨(f_14 : a.eval (.tmp 14) = .int .i64 x2), (f_18 : a.eval (.tmp 18) = .int .i64 x110), -⟩ := hf
          exact sg_plain rfl rfl (or_lss f_14 f_18 rfl)
        refine steps_cons (fun own a wx hf hsl hE => ?_) ?_
        · obtain ⟨(f_19 : a.eval (.tmp 19) = .bool (decide (x2 < x110))), -⟩ := hf
          exact sg_plain rfl rfl (or_move f_19)
        refine steps_cons (fun own a wx hf hsl hE => ?_) ?_
        · obtain ⟨(f_20 : a.eval (.tmp 20) = .bool (decide (x2 < x110))), -⟩ := hf
          obtain ⟨s_0, -⟩ := hsl
          refine sg_t rfl rfl rfl f_20 (fun hg => ?_)
          exact or_move (s_0.trans e106_0)
        refine steps_cons (fun own a wx hf hsl hE => ?_) ?_
        · obtain ⟨(f_20 : a.eval (.tmp 20) = .bool (decide (x2 < x110))), -⟩ := hf
          obtain ⟨s_7, -⟩ := hsl
          refine sg_t rfl rfl rfl f_20 (fun hg => ?_)
          exact or_move (s_7.trans e106_7)
        refine steps_cons (fun own a wx hf hsl hE => ?_) ?_
        · obtain ⟨(f_20 : a.eval (.tmp 20) = .bool (decide (x2 < x110))), c_21, c_22, -⟩ := hf
          refine sg_t rfl rfl rfl f_20 (fun hg => ?_)
          have f_21 : a.eval (.tmp 21) = .slice Al1 l1.length cl1 := c_21.1 hg
          have f_22 : a.eval (.tmp 22) = .int .i64 i86 := c_22.1 hg
          exact or_index (R := R3) (l := l1) tl22 f_21 f_22 (RdO.some_ b106_Al1 (gd_t hx111 hg)) (gd_t hx111 hg)
        refine steps_cons (fun own a wx hf hsl hE => ?_) ?_
        · obtain ⟨(f_20 : a.eval (.tmp 20) = .bool (decide (x2 < x110))), c_23, -⟩ := hf
          refine sg_t rfl rfl rfl f_20 (fun hg => ?_)
          have f_23 : a.eval (.tmp 23) = .pointer (some ((adr Al1).add ((i86 : Int).toNat * R3.s))) := c_23.1 hg
          exact or_load1 to3 f_23 (CellsAt.zero (RdO.cells (F := E3) (RdO.evo rfl hE b106_Al1) (gd_t hx111 hg)) rfl)
        refine steps_cons (fun own a wx hf hsl hE => ?_) ?_
        · obtain ⟨(f_20 : a.eval (.tmp 20) = .bool (decide (x2 < x110))), -⟩ := hf
          obtain ⟨s_2, -⟩ := hsl
          refine sg_t rfl rfl rfl f_20 (fun hg => ?_)
          exact or_move (s_2.trans e106_2)
        refine steps_cons (fun own a wx hf hsl hE => ?_) ?_
        · obtain ⟨(f_20 : a.eval (.tmp 20) = .bool (decide (x2 < x110))), c_24, c_25, -⟩ := hf
          refine sg_t rfl rfl rfl f_20 (fun hg => ?_)
          have f_24 : a.eval (.tmp 24) = .int .i64 x111 := c_24.1 hg
          have f_25 : a.eval (.tmp 25) = .int .i64 b3 := c_25.1 hg
          exact or_lss f_24 f_25 rfl
        refine steps_cons (fun own a wx hf hsl hE => ?_) ?_
        · obtain ⟨(f_20 : a.eval (.tmp 20) = .bool (decide (x2 < x110))), c_26, -⟩ := hf
          exact sg_plain rfl rfl (or_and f_20 (fun hx => c_26.1 hx) rfl (osome hx112).symm)
        refine steps_cons (fun own a wx hf hsl hE => ?_) ?_
        · obtain ⟨(f_27 : a.eval (.tmp 27) = .bool x112), -⟩ := hf
          exact sg_plain rfl rfl (or_move f_27)
        refine steps_cons (fun own a wx hf hsl hE => ?_) ?_
        · obtain ⟨(f_28 : a.eval (.tmp 28) = .bool x112), -⟩ := hf
          obtain ⟨s_2, -⟩ := hsl
          refine sg_f rfl rfl rfl f_28 (fun hg => ?_)
          exact or_move (s_2.trans e106_2)
        refine steps_cons (fun own a wx hf hsl hE => ?_) ?_
        · obtain ⟨(f_28 : a.eval (.tmp 28) = .bool x112), -⟩ := hf
          obtain ⟨s_0, -⟩ := hsl
          refine sg_f rfl rfl rfl f_28 (fun hg => ?_)
          exact or_move (s_0.trans e106_0)
        refine steps_cons (fun own a wx hf hsl hE => ?_) ?_
        · obtain ⟨(f_28 : a.eval (.tmp 28) = .bool x112), -⟩ := hf
          obtain ⟨s_7, -⟩ := hsl
          refine sg_f rfl rfl rfl f_28 (fun hg => ?_)
          exact or_move (s_7.trans e106_7)
        refine steps_cons (fun own a wx hf hsl hE => ?_) ?_
        · obtain ⟨(f_28 : a.eval (.tmp 28) = .bool x112), c_30, c_31, -⟩ := hf
          refine sg_f rfl rfl rfl f_28 (fun hg => ?_)
          have f_30 : a.eval (.tmp 30) = .slice Al1 l1.length cl1 := c_30.1 hg
          have f_31 : a.eval (.tmp 31) = .int .i64 i86 := c_31.1 hg
          exact or_index (R := R3) (l := l1) tl22 f_30 f_31 (RdO.some_ b106_Al1 (gd_t hx113 hg)) (gd_t hx113 hg)
        refine steps_cons (fun own a wx hf hsl hE => ?_) ?_
        · obtain ⟨(f_28 : a.eval (.tmp 28) = .bool x112), c_32, -⟩ := hf
          refine sg_f rfl rfl rfl f_28 (fun hg => ?_)
          have f_32 : a.eval (.tmp 32) = .pointer (some ((adr Al1).add ((i86 : Int).toNat * R3.s))) := c_32.1 hg
          exact or_load1 to3 f_32 (CellsAt.zero (RdO.cells (F := E3) (RdO.evo rfl hE b106_Al1) (gd_t hx113 hg)) rfl)
        refine steps_cons (fun own a wx hf hsl hE => ?_) ?_
        · obtain ⟨(f_28 : a.eval (.tmp 28) = .bool x112), c_29, c_33, -⟩ := hf
          refine sg_f rfl rfl rfl f_28 (fun hg => ?_)
          have f_29 : a.eval (.tmp 29) = .int .i64 b3 := c_29.1 hg
          have f_33 : a.eval (.tmp 33) = .int .i64 x113 := c_33.1 hg
          exact or_lss f_29 f_33 rfl
        refine steps_cons (fun own a wx hf hsl hE => ?_) ?_
        · obtain ⟨(f_28 : a.eval (.tmp 28) = .bool x112), c_34, -⟩ := hf
          refine sg_f rfl rfl rfl f_28 (fun hg => ?_)
          have f_34 : a.eval (.tmp 34) = .bool (decide (b3 < x113)) := c_34.1 hg
          exact or_move f_34
        refine steps_cons (fun own a wx hf hsl hE => ?_) ?_
        · obtain ⟨c_35, -⟩ := hf
          obtain ⟨s_0, -⟩ := hsl
          refine sg_tc rfl rfl rfl c_35 (fun hg => ?_)
          have f_35 : a.eval (.tmp 35) = .bool (decide (b3 < x113)) := c_35.1 (gL hg)
          exact or_move (s_0.trans e106_0)
        refine steps_cons (fun own a wx hf hsl hE => ?_) ?_
        · obtain ⟨c_35, -⟩ := hf
          obtain ⟨s_7, -⟩ := hsl
          refine sg_tc rfl rfl rfl c_35 (fun hg => ?_)
          have f_35 : a.eval (.tmp 35) = .bool (decide (b3 < x113)) := c_35.1 (gL hg)
          exact or_move (s_7.trans e106_7)
        refine steps_cons (fun own a wx hf hsl hE => ?_) ?_
        · obtain ⟨c_35, c_36, c_37, -⟩ := hf
          refine sg_tc rfl rfl rfl c_35 (fun hg => ?_)
          have f_35 : a.eval (.tmp 35) = .bool (decide (b3 < x113)) := c_35.1 (gL hg)
          have f_36 : a.eval (.tmp 36) = .slice Al1 l1.length cl1 := c_36.1 hg
          have f_37 : a.eval (.tmp 37) = .int .i64 i86 := c_37.1 hg
          exact or_index (R := R3) (l := l1) tl22 f_36 f_37 (RdO.some_ b106_Al1 (gd_t hx114 hg)) (gd_t hx114 hg)
        refine steps_cons (fun own a wx hf hsl hE => ?_) ?_
        · obtain ⟨c_35, c_38, -⟩ := hf
          refine sg_tc rfl rfl rfl c_35 (fun hg => ?_)
          have f_35 : a.eval (.tmp 35) = .bool (decide (b3 < x113)) := c_35.1 (gL hg)
          have f_38 : a.eval (.tmp 38) = .pointer (some ((adr Al1).add ((i86 : Int).toNat * R3.s))) := c_38.1 hg
          exact or_load1 to3 f_38 (CellsAt.zero (RdO.cells (F := E3) (RdO.evo rfl hE b106_Al1) (gd_t hx114 hg)) rfl)
        refine steps_cons (fun own a wx hf hsl hE => ?_) ?_
        · obtain ⟨c_35, -⟩ := hf
          obtain ⟨s_1, -⟩ := hsl
          refine sg_tc rfl rfl rfl c_35 (fun hg => ?_)
          have f_35 : a.eval (.tmp 35) = .bool (decide (b3 < x113)) := c_35.1 (gL hg)
          exact or_move (s_1.trans e106_1)
        refine steps_cons (fun own a wx hf hsl hE => ?_) ?_
        · obtain ⟨c_35, c_39, c_40, -⟩ := hf
          refine sg_tc rfl rfl rfl c_35 (fun hg => ?_)
          have f_35 : a.eval (.tmp 35) = .bool (decide (b3 < x113)) := c_35.1 (gL hg)
          have f_39 : a.eval (.tmp 39) = .int .i64 x114 := c_39.1 hg
          have f_40 : a.eval (.tmp 40) = .int .i64 x2 := c_40.1 hg
          exact or_lss f_39 f_40 rfl
        refine steps_cons (fun own a wx hf hsl hE => ?_) ?_
        · obtain ⟨(f_28 : a.eval (.tmp 28) = .bool x112), c_35, c_41, -⟩ := hf
          refine sg_f rfl rfl rfl f_28 (fun hg => ?_)
          have f_35 : a.eval (.tmp 35) = .bool (decide (b3 < x113)) := c_35.1 hg
          exact or_and f_35 (fun hx => c_41.1 (gI hg hx)) rfl (osome hx115).symm
        refine steps_cons (fun own a wx hf hsl hE => ?_) ?_
        · obtain ⟨(f_28 : a.eval (.tmp 28) = .bool x112), c_42, -⟩ := hf
          exact sg_plain rfl rfl (or_or f_28 rfl (fun hx => c_42.1 hx) rfl)
        exact steps_nil
      intro own116 a116 w116 hd116 hz116 hk116 hf116 hE116
      have e116_0 : a116.eval (.tmp 0) = .slice Al1 l1.length cl1 := (hk116 0 rfl).trans e106_0
      have e116_1 : a116.eval (.tmp 1) = .int .i64 x2 := (hk116 1 rfl).trans e106_1
      have e116_2 : a116.eval (.tmp 2) = .int .i64 b3 := (hk116 2 rfl).trans e106_2
      have e116_7 : a116.eval (.tmp 7) = .int .i64 i86 := (hk116 7 rfl).trans e106_7
      obtain ⟨(f_43 : a116.eval (.tmp 43) = .bool (x112 || x115)), -⟩ := hf116 [29] rfl
      have e116_43 := f_43
      have hX116 := Evo.step hX106 (fun _ => Nat.le_refl 0) hE116 rfl
      have b116_Al1 := RdO.evo rfl hE116 b106_Al1
      refine fl_cond e116_43 hs (fun c117 hs => ?_) (fun c117 hs => ?_)
      · refine rg_plain_seq (n := 44) (rs := []) (own0 := own116) (K := [])
            (bs := [0])
            (ds := [⟨[], [], [], Fct.val 6 (.bool true)⟩]) (by kernel_rfl) hz116 hd116 (fun _ h => nomatch h) ?_ ?_
        · refine steps_cons (fun own a wx hf hsl hE => ?_) ?_
          · exact sg_plain rfl rfl (or_assign rfl)
          exact steps_nil
        intro own118 a118 w118 hd118 hz118 hk118 hf118 hE118
        obtain ⟨(f_6 : a118.eval (.tmp 6) = .bool true), -⟩ := hf118 [0] rfl
        have e118_6 := f_6
        have hX118 := Evo.step hX116 (fun _ => Nat.le_refl 0) hE118 rfl
        refine fl_ret ?_
        refine hp109 _ _ _ rfl ?_
        refine hp108 _ _ _ rfl ?_
        replace hs := hz103 _ hs
        refine hp103 _ _ _ rfl ?_
        refine hp69 _ _ _ rfl ?_
        refine hp67 _ _ _ rfl ?_
        obtain rfl := osome hs
        exact hret _ _ _ _ (.inl rfl) hd118 (results1_ rfl (RVal.tmp_ e118_6)) ⟨own118, rfl, hX118⟩
      refine fl_skip ?_
      refine hn109 _ _ ?_
      refine hn108 _ _ ?_
      refine rg_plain (n := 44) (rs := []) (own0 := own116) (K := [])
          (bs := [0, 1, 3])
          (ds := [⟨[], [7], [], Fct.val 12 (.int .i64 i86)⟩,
          ⟨[0], [], [], Fct.val 13 (.int .i64 (ad i86 1))⟩,
          ⟨[1], [], [], Fct.val 7 (.int .i64 (ad i86 1))⟩]) (by kernel_rfl) hz116 hd116 (fun _ h => nomatch h) ?_ ?_
      · refine steps_cons (fun own a wx hf hsl hE => ?_) ?_
        · obtain ⟨s_7, -⟩ := hsl
          exact sg_plain rfl rfl (or_move (s_7.trans e116_7))
        refine steps_cons (fun own a wx hf hsl hE => ?_) ?_
        · obtain ⟨(f_12 : a.eval (.tmp 12) = .int .i64 i86), -⟩ := hf
          exact sg_plain rfl rfl (or_add f_12 rfl rfl)
        refine steps_cons (fun own a wx hf hsl hE => ?_) ?_
        · obtain ⟨(f_13 : a.eval (.tmp 13) = .int .i64 (ad i86 1)), -⟩ := hf
          exact sg_plain rfl rfl (or_assign f_13)
        exact steps_nil
      intro own119 a119 w119 hd119 hz119 hk119 hf119 hE119
      have e119_0 : a119.eval (.tmp 0) = .slice Al1 l1.length cl1 := (hk119 0 rfl).trans e116_0
      have e119_1 : a119.eval (.tmp 1) = .int .i64 x2 := (hk119 1 rfl).trans e116_1
      have e119_2 : a119.eval (.tmp 2) = .int .i64 b3 := (hk119 2 rfl).trans e116_2
      obtain ⟨(f_7 : a119.eval (.tmp 7) = .int .i64 (ad i86 1)), -⟩ := hf119 [2] rfl
      have e119_7 := f_7
      have hX119 := Evo.step hX116 (fun _ => Nat.le_refl 0) hE119 rfl
      have b119_Al1 := RdO.evo rfl hE119 b116_Al1
      exact hn103 _ _ _ hs ⟨own119, hd119, hz119, e119_0, e119_1, e119_2, e119_7, hX119, b119_Al1⟩
    refine fl_exit ?_
    refine hp105 _ _ _ rfl ?_
    replace hs := hz103 _ hs
    refine hp103 _ _ _ rfl ?_
    refine hx69 _ _ ?_
    refine hn67 _ _ ?_
    refine rg_plain_seq (n := 44) (rs := []) (own0 := own106) (K := [])
        (bs := [0])
        (ds := [⟨[], [], [], Fct.val 6 (.bool false)⟩]) (by kernel_rfl) hz106 hd106 (fun _ h => nomatch h) ?_ ?_
    · refine steps_cons (fun own a wx hf hsl hE => ?_) ?_
      · exact sg_plain rfl rfl (or_assign rfl)
      exact steps_nil
    intro own120 a120 w120 hd120 hz120 hk120 hf120 hE120
    obtain ⟨(f_6 : a120.eval (.tmp 6) = .bool false), -⟩ := hf120 [0] rfl
    have e120_6 := f_6
    have hX120 := Evo.step hX106 (fun _ => Nat.le_refl 0) hE120 rfl
    refine fl_ret ?_
    obtain rfl := osome hs
    exact hret _ _ _ _ (.inl rfl) hd120 (results1_ rfl (RVal.tmp_ e120_6)) ⟨own120, rfl, hX120⟩

set_option maxHeartbeats 2000000 in
theorem law04_OrderFinds_w (w : World) (x1 : List Int) (Ax1 : Option Addr) (cx1 : Nat) (b2 : List Int) (Ab2 : Option Addr) (cb2 : Nat) (n3 : Int) (m4 : Int) (hx1 : RdO (fun _ => 0) [0] w R3 Ax1 cx1 x1) (hb2 : RdO (fun _ => 0) [0] w R3 Ab2 cb2 b2) (r : Bool) (hs : law04_OrderFinds x1 b2 n3 m4 = some r) :
    Calls Try.prog 4 #[.slice Ax1 x1.length cx1, .slice Ab2 b2.length cb2, .int .i64 n3, .int .i64 m4] w fun e w' => ∃ own' : Own, e = .returned (.bool r) ∧ Evo [] (fun _ => 0) own' w w' := by
  refine fl_enter (n := 144) rfl rfl rfl (Nat.le_of_ble_eq_true rfl) ?_
  intro a0 Q hd0 hz0 harg hret
  have ha0 := harg 0 _ rfl
  have ha1 := harg 1 _ rfl
  have ha2 := harg 2 _ rfl
  have ha3 := harg 3 _ rfl
  clear harg
  have hE0 : Evo [] (fun _ => 0) (fun _ => 0) w w := Evo.refl _ _ _
  refine rg_plain_seq (n := 144) (rs := []) (own0 := (fun _ => 0)) (K := [])
      (bs := [0])
      (ds := [⟨[], [], [], Fct.val 8 (.bool false)⟩]) (by kernel_rfl) hz0 hd0 (fun _ h => nomatch h) ?_ ?_
  · refine steps_cons (fun own a wx hf hsl hE => ?_) ?_
    · exact sg_plain rfl rfl (or_assign rfl)
    exact steps_nil
  intro own274 a274 w274 hd274 hz274 hk274 hf274 hE274
  have e274_0 : a274.eval (.tmp 0) = .slice Ax1 x1.length cx1 := (hk274 0 rfl).trans ha0
  have e274_1 : a274.eval (.tmp 1) = .slice Ab2 b2.length cb2 := (hk274 1 rfl).trans ha1
  have e274_2 : a274.eval (.tmp 2) = .int .i64 n3 := (hk274 2 rfl).trans ha2
  have e274_3 : a274.eval (.tmp 3) = .int .i64 m4 := (hk274 3 rfl).trans ha3
  have hX274 := Evo.step hE0 (fun _ => Nat.le_refl 0) hE274 rfl
  have b274_Ax1 := RdO.evo rfl hE274 hx1
  have b274_Ab2 := RdO.evo rfl hE274 hb2
  refine rg_plain_seq (n := 144) (rs := []) (own0 := own274) (K := [])
      (bs := [0, 1])
      (ds := [⟨[], [], [], Fct.val 9 (.slice none 0 0)⟩,
      ⟨[], [], [], Fct.val 10 (.slice none 0 0)⟩]) (by kernel_rfl) hz274 hd274 (fun _ h => nomatch h) ?_ ?_
  · refine steps_cons (fun own a wx hf hsl hE => ?_) ?_
    · exact sg_plain rfl rfl (or_assign rfl)
    refine steps_cons (fun own a wx hf hsl hE => ?_) ?_
    · exact sg_plain rfl rfl (or_assign rfl)
    exact steps_nil
  intro own275 a275 w275 hd275 hz275 hk275 hf275 hE275
  have e275_0 : a275.eval (.tmp 0) = .slice Ax1 x1.length cx1 := (hk275 0 rfl).trans e274_0
  have e275_1 : a275.eval (.tmp 1) = .slice Ab2 b2.length cb2 := (hk275 1 rfl).trans e274_1
  have e275_2 : a275.eval (.tmp 2) = .int .i64 n3 := (hk275 2 rfl).trans e274_2
  have e275_3 : a275.eval (.tmp 3) = .int .i64 m4 := (hk275 3 rfl).trans e274_3
  obtain ⟨(f_9 : a275.eval (.tmp 9) = .slice none 0 0), (f_10 : a275.eval (.tmp 10) = .slice none 0 0), -⟩ := hf275 [0, 1] rfl
  have e275_9 := f_9
  have e275_10 := f_10
  have hX275 := Evo.step hX274 (fun _ => Nat.le_refl 0) hE275 rfl
  have b275_Ax1 := RdO.evo rfl hE275 b274_Ax1
  have b275_Ab2 := RdO.evo rfl hE275 b274_Ab2
  refine fl_seq (fun Q276 hn276 hp276 => ?_)
  refine rg_plain_seq (n := 144) (rs := []) (own0 := own275) (K := [])
      (bs := [0])
      (ds := [⟨[], [], [], Fct.val 11 (.int .i64 0)⟩]) (by kernel_rfl) hz275 hd275 (fun _ h => nomatch h) ?_ ?_
  · refine steps_cons (fun own a wx hf hsl hE => ?_) ?_
    · exact sg_plain rfl rfl (or_assign rfl)
    exact steps_nil
  intro own277 a277 w277 hd277 hz277 hk277 hf277 hE277
  have e277_0 : a277.eval (.tmp 0) = .slice Ax1 x1.length cx1 := (hk277 0 rfl).trans e275_0
  have e277_1 : a277.eval (.tmp 1) = .slice Ab2 b2.length cb2 := (hk277 1 rfl).trans e275_1
  have e277_2 : a277.eval (.tmp 2) = .int .i64 n3 := (hk277 2 rfl).trans e275_2
  have e277_3 : a277.eval (.tmp 3) = .int .i64 m4 := (hk277 3 rfl).trans e275_3
  have e277_9 : a277.eval (.tmp 9) = .slice none 0 0 := (hk277 9 rfl).trans e275_9
  have e277_10 : a277.eval (.tmp 10) = .slice none 0 0 := (hk277 10 rfl).trans e275_10
  obtain ⟨(f_11 : a277.eval (.tmp 11) = .int .i64 0), -⟩ := hf277 [0] rfl
  have e277_11 := f_11
  have hX277 := Evo.step hX275 (fun _ => Nat.le_refl 0) hE277 rfl
  have b277_Ax1 := RdO.evo rfl hE277 b275_Ax1
  have b277_Ab2 := RdO.evo rfl hE277 b275_Ab2
  refine fl_block (fun Q278 hn278 hx278 hp278 => ?_)
  refine fl_loop (body := (fun s => law04_OrderFinds_b1 x1 b2 n3 m4 s.1 s.2)) (z := r) (show loopO _ _ = _ from hs) (fun (s : (List Int) × Int) a wx => match s with | (x294, i296) => ∃ (ox : Own) (A292 : Option Addr) (c293 : Nat), a.defers = [] ∧ a.tmps.size = 144 ∧ a.eval (.tmp 0) = .slice Ax1 x1.length cx1 ∧ a.eval (.tmp 1) = .slice Ab2 b2.length cb2 ∧ a.eval (.tmp 2) = .int .i64 n3 ∧ a.eval (.tmp 3) = .int .i64 m4 ∧ a.eval (.tmp 9) = .slice A292 x294.length c293 ∧ a.eval (.tmp 10) = .slice none 0 0 ∧ a.eval (.tmp 11) = .int .i64 i296 ∧ Evo [] (fun _ => 0) ox w wx ∧ RdO ox [0] wx R3 Ax1 cx1 x1 ∧ RdO ox [0] wx R3 Ab2 cb2 b2 ∧ RwO ox 295 [] wx 3 R3 A292 c293 x294) ?_ ?_
  · exact ⟨own277, none, 0, hd277, hz277, e277_0, e277_1, e277_2, e277_3, e277_9, e277_10, e277_11, hX277, b277_Ax1, b277_Ab2, RwO.nil_⟩
  · rintro ⟨x294, i296⟩ zz310 a310 w310 ⟨own310, A292, c293, hd311, hz311, e311_0, e311_1, e311_2, e311_3, e311_9, e311_10, e311_11, hE311, b311_Ax1, b311_Ab2, b311_A292⟩ hs Q310 hn310 hp310 hz310
    have hs : law04_OrderFinds_b1 x1 b2 n3 m4 x294 i296 = some zz310 := hs
    refine fl_seq (fun Q312 hn312 hp312 => ?_)
    obtain ⟨x313, hx313, hs⟩ := obind hs
    refine rg_plain_seq (n := 144) (rs := []) (own0 := own310) (K := [])
        (bs := [0, 0, 2, 7, 15, 31, 63, 127])
        (ds := [⟨[], [11], [], Fct.val 23 (.int .i64 i296)⟩,
        ⟨[], [0], [], Fct.val 24 (.slice Ax1 x1.length cx1)⟩,
        ⟨[1], [], [], Fct.val 25 (.int .i64 (x1.length : Int))⟩,
        ⟨[0, 2], [], [], Fct.val 26 (.bool (decide (i296 < (x1.length : Int))))⟩,
        ⟨[3], [], [], Fct.val 27 (.bool (decide (i296 < (x1.length : Int))))⟩,
        ⟨[4], [11], [], Fct.cond (decide (i296 < (x1.length : Int))) (some 28) (Fct.val 28 (.int .i64 i296))⟩,
        ⟨[4, 5], [], [], Fct.cond (decide (i296 < (x1.length : Int))) (some 29) (Fct.val 29 (.bool (decide (i296 < 60))))⟩,
        ⟨[4, 6], [], [], Fct.val 30 (.bool x313)⟩]) (by kernel_rfl) hz311 hd311 (fun _ h => nomatch h) ?_ ?_
    · refine steps_cons (fun own a wx hf hsl hE => ?_) ?_
      · obtain ⟨s_11, -⟩ := hsl
        exact sg_plain rfl rfl (or_move (s_11.trans e311_11))
      refine steps_cons (fun own a wx hf hsl hE => ?_) ?_
      · obtain ⟨s_0, -⟩ := hsl
        exact sg_plain rfl rfl (or_move (s_0.trans e311_0))
      refine steps_cons (fun own a wx hf hsl hE => ?_) ?_
      · obtain ⟨(f_24 : a.eval (.tmp 24) = .slice Ax1 x1.length cx1), -⟩ := hf
        exact sg_plain rfl rfl (or_len tu22 f_24 rfl)
      refine steps_cons (fun own a wx hf hsl hE => ?_) ?_
      · obtain ⟨(f_23 : a.eval (.tmp 23) = .int .i64 i296), (f_25 : a.eval (.tmp 25) = .int .i64 (x1.length : Int)), -⟩ := hf
        exact sg_plain rfl rfl (or_lss f_23 f_25 rfl)
      refine steps_cons (fun own a wx hf hsl hE => ?_) ?_
      · obtain ⟨(f_26 : a.eval (.tmp 26) = .bool (decide (i296 < (x1.length : Int)))), -⟩ := hf
        exact sg_plain rfl rfl (or_move f_26)
      refine steps_cons (fun own a wx hf hsl hE => ?_) ?_
      · obtain ⟨(f_27 : a.eval (.tmp 27) = .bool (decide (i296 < (x1.length : Int)))), -⟩ := hf
        obtain ⟨s_11, -⟩ := hsl
        refine sg_t rfl rfl rfl f_27 (fun hg => ?_)
        exact or_move (s_11.trans e311_11)
      refine steps_cons (fun own a wx hf hsl hE => ?_) ?_
      · obtain ⟨(f_27 : a.eval (.tmp 27) = .bool (decide (i296 < (x1.length : Int)))), c_28, -⟩ := hf
        refine sg_t rfl rfl rfl f_27 (fun hg => ?_)
        have f_28 : a.eval (.tmp 28) = .int .i64 i296 := c_28.1 hg
        exact or_lss f_28 rfl rfl
      refine steps_cons (fun own a wx hf hsl hE => ?_) ?_
      · obtain ⟨(f_27 : a.eval (.tmp 27) = .bool (decide (i296 < (x1.length : Int)))), c_29, -⟩ := hf
        exact sg_plain rfl rfl (or_and f_27 (fun hx => c_29.1 hx) rfl (osome hx313).symm)
      exact steps_nil
    intro own314 a314 w314 hd314 hz314 hk314 hf314 hE314
    have e314_0 : a314.eval (.tmp 0) = .slice Ax1 x1.length cx1 := (hk314 0 rfl).trans e311_0
    have e314_1 : a314.eval (.tmp 1) = .slice Ab2 b2.length cb2 := (hk314 1 rfl).trans e311_1
    have e314_2 : a314.eval (.tmp 2) = .int .i64 n3 := (hk314 2 rfl).trans e311_2
    have e314_3 : a314.eval (.tmp 3) = .int .i64 m4 := (hk314 3 rfl).trans e311_3
    have e314_9 : a314.eval (.tmp 9) = .slice A292 x294.length c293 := (hk314 9 rfl).trans e311_9
    have e314_10 : a314.eval (.tmp 10) = .slice none 0 0 := (hk314 10 rfl).trans e311_10
    have e314_11 : a314.eval (.tmp 11) = .int .i64 i296 := (hk314 11 rfl).trans e311_11
    obtain ⟨(f_30 : a314.eval (.tmp 30) = .bool x313), -⟩ := hf314 [7] rfl
    have e314_30 := f_30
    have hX314 := Evo.step hE311 (fun _ => Nat.le_refl 0) hE314 rfl
    have b314_Ax1 := RdO.evo rfl hE314 b311_Ax1
    have b314_Ab2 := RdO.evo rfl hE314 b311_Ab2
    have b314_A292 := RwO.evo rfl hE314 b311_A292
    refine fl_cond e314_30 hs (fun c315 hs => ?_) (fun c315 hs => ?_)
    · refine fl_skip ?_
      refine hn312 _ _ ?_
      refine fl_seq (fun Q316 hn316 hp316 => ?_)
      refine fl_block (fun Q317 hn317 hx317 hp317 => ?_)
      obtain ⟨x318, hx318, hs⟩ := obind hs
      obtain ⟨r319, hr319, hs⟩ := obind hs
      refine rg_plain (n := 144) (rs := []) (own0 := own314) (K := [])
          (bs := [0, 0, 0, 6, 14, 31, 63])
          (ds := [⟨[], [9], [], Fct.val 33 (.slice A292 x294.length c293)⟩,
          ⟨[], [0], [], Fct.val 34 (.slice Ax1 x1.length cx1)⟩,
          ⟨[], [11], [], Fct.val 35 (.int .i64 i296)⟩,
          ⟨[1, 2], [], [], Fct.val 36 (.pointer (some ((adr Ax1).add ((i296 : Int).toNat * R3.s))))⟩,
          ⟨[3], [], [], Fct.val 37 (.int .i64 x318)⟩,
          ⟨[0, 4], [], [], Fct.row 321 [] 38 3 R3 r319⟩,
          ⟨[5], [], [], Fct.rel [9, 38] (fun l => ∀ (A320 : Option Addr) (cA320 : Nat), l.getD 1 undef = .slice A320 r319.length cA320 → l.getD 0 undef = .slice A320 r319.length cA320)⟩]) (by kernel_rfl) hz314 hd314 (fun _ h => nomatch h) ?_ ?_
      · refine steps_cons (fun own a wx hf hsl hE => ?_) ?_
        · obtain ⟨s_9, -⟩ := hsl
          exact sg_plain rfl rfl (or_move (s_9.trans e314_9))
        refine steps_cons (fun own a wx hf hsl hE => ?_) ?_
        · obtain ⟨s_0, -⟩ := hsl
          exact sg_plain rfl rfl (or_move (s_0.trans e314_0))
        refine steps_cons (fun own a wx hf hsl hE => ?_) ?_
        · obtain ⟨s_11, -⟩ := hsl
          exact sg_plain rfl rfl (or_move (s_11.trans e314_11))
        refine steps_cons (fun own a wx hf hsl hE => ?_) ?_
        · obtain ⟨(f_34 : a.eval (.tmp 34) = .slice Ax1 x1.length cx1), (f_35 : a.eval (.tmp 35) = .int .i64 i296), -⟩ := hf
          exact sg_plain rfl rfl (or_index (R := R3) (l := x1) tl22 f_34 f_35 (RdO.some_ b314_Ax1 hx318) hx318)
        refine steps_cons (fun own a wx hf hsl hE => ?_) ?_
        · obtain ⟨(f_36 : a.eval (.tmp 36) = .pointer (some ((adr Ax1).add ((i296 : Int).toNat * R3.s)))), -⟩ := hf
          exact sg_plain rfl rfl (or_load1 to3 f_36 (CellsAt.zero (RdO.cells (F := E3) (RdO.evo rfl hE b314_Ax1) hx318) rfl))
        refine steps_cons (fun own a wx hf hsl hE => ?_) ?_
        · obtain ⟨(f_33 : a.eval (.tmp 33) = .slice A292 x294.length c293), (f_37 : a.eval (.tmp 37) = .int .i64 x318), -⟩ := hf
          exact sg_plain rfl rfl (or_call cf7 (args2 f_33 f_37) (ref04_Put_w _ x294 A292 c293 x318 (RdO.zero (RwO.rd (RwO.evo rfl hE b314_A292))) r319 hr319) (post_row (m' := (look0 [(1, 321)])) (.inl (Rep.fl_flat _)) rfl rfl (fun _ => rfl)))
        refine steps_cons (fun own a wx hf hsl hE => ?_) ?_
        · obtain ⟨⟨⟨A320, cA320⟩, (f_38 : a.eval (.tmp 38) = .slice A320 r319.length cA320), (b_A320 : RwO own 321 [] wx 3 R3 A320 cA320 r319)⟩, -⟩ := hf
          exact sg_plain rfl rfl (or_mono (f := Fct.val 9 (.slice A320 r319.length cA320)) (or_assign f_38) (fun own' a' w' v' hp h => fun _ _ h0' => by cases (f_38.symm.trans ((hp.2 38 (by decide)).symm.trans h0')); exact h))
        exact steps_nil
      intro own322 a322 w322 hd322 hz322 hk322 hf322 hE322
      have e322_0 : a322.eval (.tmp 0) = .slice Ax1 x1.length cx1 := (hk322 0 rfl).trans e314_0
      have e322_1 : a322.eval (.tmp 1) = .slice Ab2 b2.length cb2 := (hk322 1 rfl).trans e314_1
      have e322_2 : a322.eval (.tmp 2) = .int .i64 n3 := (hk322 2 rfl).trans e314_2
      have e322_3 : a322.eval (.tmp 3) = .int .i64 m4 := (hk322 3 rfl).trans e314_3
      have e322_10 : a322.eval (.tmp 10) = .slice none 0 0 := (hk322 10 rfl).trans e314_10
      have e322_11 : a322.eval (.tmp 11) = .int .i64 i296 := (hk322 11 rfl).trans e314_11
      obtain ⟨⟨⟨A320, cA320⟩, (f_38 : a322.eval (.tmp 38) = .slice A320 r319.length cA320), (b_A320 : RwO own322 321 [] w322 3 R3 A320 cA320 r319)⟩, (q_9 : ∀ (A320 : Option Addr) (cA320 : Nat), a322.eval (.tmp 38) = .slice A320 r319.length cA320 → a322.eval (.tmp 9) = .slice A320 r319.length cA320), -⟩ := hf322 [5, 6] rfl
      have f_9 := q_9 _ _ f_38
      have e322_9 := f_9
      have hX322 := Evo.step hX314 (fun _ => Nat.le_refl 0) hE322 rfl
      have b322_Ax1 := RdO.evo rfl hE322 b314_Ax1
      have b322_Ab2 := RdO.evo rfl hE322 b314_Ab2
      have b322_A320 := b_A320
      refine hn317 _ _ ?_
      refine hn316 _ _ ?_
      refine rg_plain (n := 144) (rs := []) (own0 := own322) (K := [])
          (bs := [0, 1, 3])
          (ds := [⟨[], [11], [], Fct.val 31 (.int .i64 i296)⟩,
          ⟨[0], [], [], Fct.val 32 (.int .i64 (ad i296 1))⟩,
          ⟨[1], [], [], Fct.val 11 (.int .i64 (ad i296 1))⟩]) (by kernel_rfl) hz322 hd322 (fun _ h => nomatch h) ?_ ?_
      · refine steps_cons (fun own a wx hf hsl hE => ?_) ?_
        · obtain ⟨s_11, -⟩ := hsl
          exact sg_plain rfl rfl (or_move (s_11.trans e322_11))
        refine steps_cons (fun own a wx hf hsl hE => ?_) ?_
        · obtain ⟨(f_31 : a.eval (.tmp 31) = .int .i64 i296), -⟩ := hf
          exact sg_plain rfl rfl (or_add f_31 rfl rfl)
        refine steps_cons (fun own a wx hf hsl hE => ?_) ?_
        · obtain ⟨(f_32 : a.eval (.tmp 32) = .int .i64 (ad i296 1)), -⟩ := hf
          exact sg_plain rfl rfl (or_assign f_32)
        exact steps_nil
      intro own323 a323 w323 hd323 hz323 hk323 hf323 hE323
      have e323_0 : a323.eval (.tmp 0) = .slice Ax1 x1.length cx1 := (hk323 0 rfl).trans e322_0
      have e323_1 : a323.eval (.tmp 1) = .slice Ab2 b2.length cb2 := (hk323 1 rfl).trans e322_1
      have e323_2 : a323.eval (.tmp 2) = .int .i64 n3 := (hk323 2 rfl).trans e322_2
      have e323_3 : a323.eval (.tmp 3) = .int .i64 m4 := (hk323 3 rfl).trans e322_3
      have e323_9 : a323.eval (.tmp 9) = .slice A320 r319.length cA320 := (hk323 9 rfl).trans e322_9
      have e323_10 : a323.eval (.tmp 10) = .slice none 0 0 := (hk323 10 rfl).trans e322_10
      obtain ⟨(f_11 : a323.eval (.tmp 11) = .int .i64 (ad i296 1)), -⟩ := hf323 [2] rfl
      have e323_11 := f_11
      have hX323 := Evo.step hX322 (fun _ => Nat.le_refl 0) hE323 rfl
      have b323_Ax1 := RdO.evo rfl hE323 b322_Ax1
      have b323_Ab2 := RdO.evo rfl hE323 b322_Ab2
      have b323_A320 := RwO.evo rfl hE323 b322_A320
      exact hn310 _ _ _ hs ⟨(rl [(321, 295)] own323), A320, cA320, hd323, hz323, e323_0, e323_1, e323_2, e323_3, e323_9, e323_10, e323_11, (Evo.rl_ hX323 (fun _ => Nat.le_refl 0) rfl), (RdO.rl_ (mm := [(321, 295)]) b323_Ax1), (RdO.rl_ (mm := [(321, 295)]) b323_Ab2), (RwO.rl_ (mm := [(321, 295)]) b323_A320)⟩
    refine fl_exit ?_
    refine hp312 _ _ _ rfl ?_
    replace hs := hz310 _ hs
    refine hp310 _ _ _ rfl ?_
    refine hx278 _ _ ?_
    refine hn276 _ _ ?_
    refine fl_seq (fun Q324 hn324 hp324 => ?_)
    refine rg_plain_seq (n := 144) (rs := []) (own0 := own314) (K := [])
        (bs := [0])
        (ds := [⟨[], [], [], Fct.val 12 (.int .i64 0)⟩]) (by kernel_rfl) hz314 hd314 (fun _ h => nomatch h) ?_ ?_
    · refine steps_cons (fun own a wx hf hsl hE => ?_) ?_
      · exact sg_plain rfl rfl (or_assign rfl)
      exact steps_nil
    intro own325 a325 w325 hd325 hz325 hk325 hf325 hE325
    have e325_1 : a325.eval (.tmp 1) = .slice Ab2 b2.length cb2 := (hk325 1 rfl).trans e314_1
    have e325_2 : a325.eval (.tmp 2) = .int .i64 n3 := (hk325 2 rfl).trans e314_2
    have e325_3 : a325.eval (.tmp 3) = .int .i64 m4 := (hk325 3 rfl).trans e314_3
    have e325_9 : a325.eval (.tmp 9) = .slice A292 x294.length c293 := (hk325 9 rfl).trans e314_9
    have e325_10 : a325.eval (.tmp 10) = .slice none 0 0 := (hk325 10 rfl).trans e314_10
    obtain ⟨(f_12 : a325.eval (.tmp 12) = .int .i64 0), -⟩ := hf325 [0] rfl
    have e325_12 := f_12
    have hX325 := Evo.step hX314 (fun _ => Nat.le_refl 0) hE325 rfl
    have b325_Ab2 := RdO.evo rfl hE325 b314_Ab2
    have b325_A292 := RwO.evo rfl hE325 b314_A292
    refine fl_block (fun Q326 hn326 hx326 hp326 => ?_)
    refine fl_loop (body := (fun s => law04_OrderFinds_b2 b2 n3 m4 x294 s.1 s.2)) (z := r) (show loopO _ _ = _ from hs) (fun (s : (List Int) × Int) a wx => match s with | (y342, i344) => ∃ (ox : Own) (A340 : Option Addr) (c341 : Nat), a.defers = [] ∧ a.tmps.size = 144 ∧ a.eval (.tmp 1) = .slice Ab2 b2.length cb2 ∧ a.eval (.tmp 2) = .int .i64 n3 ∧ a.eval (.tmp 3) = .int .i64 m4 ∧ a.eval (.tmp 9) = .slice A292 x294.length c293 ∧ a.eval (.tmp 10) = .slice A340 y342.length c341 ∧ a.eval (.tmp 12) = .int .i64 i344 ∧ Evo [] (fun _ => 0) ox w wx ∧ RdO ox [0] wx R3 Ab2 cb2 b2 ∧ RwO ox 295 [] wx 3 R3 A292 c293 x294 ∧ RwO ox 343 [] wx 3 R3 A340 c341 y342) ?_ ?_
    · exact ⟨own325, none, 0, hd325, hz325, e325_1, e325_2, e325_3, e325_9, e325_10, e325_12, hX325, b325_Ab2, b325_A292, RwO.nil_⟩
    · rintro ⟨y342, i344⟩ zz358 a358 w358 ⟨own358, A340, c341, hd359, hz359, e359_1, e359_2, e359_3, e359_9, e359_10, e359_12, hE359, b359_Ab2, b359_A292, b359_A340⟩ hs Q358 hn358 hp358 hz358
      have hs : law04_OrderFinds_b2 b2 n3 m4 x294 y342 i344 = some zz358 := hs
      refine fl_seq (fun Q360 hn360 hp360 => ?_)
      obtain ⟨x361, hx361, hs⟩ := obind hs
      refine rg_plain_seq (n := 144) (rs := []) (own0 := own358) (K := [])
          (bs := [0, 0, 2, 7, 15, 31, 63, 127])
          (ds := [⟨[], [12], [], Fct.val 39 (.int .i64 i344)⟩,
          ⟨[], [1], [], Fct.val 40 (.slice Ab2 b2.length cb2)⟩,
          ⟨[1], [], [], Fct.val 41 (.int .i64 (b2.length : Int))⟩,
          ⟨[0, 2], [], [], Fct.val 42 (.bool (decide (i344 < (b2.length : Int))))⟩,
          ⟨[3], [], [], Fct.val 43 (.bool (decide (i344 < (b2.length : Int))))⟩,
          ⟨[4], [12], [], Fct.cond (decide (i344 < (b2.length : Int))) (some 44) (Fct.val 44 (.int .i64 i344))⟩,
          ⟨[4, 5], [], [], Fct.cond (decide (i344 < (b2.length : Int))) (some 45) (Fct.val 45 (.bool (decide (i344 < 60))))⟩,
          ⟨[4, 6], [], [], Fct.val 46 (.bool x361)⟩]) (by kernel_rfl) hz359 hd359 (fun _ h => nomatch h) ?_ ?_
      · refine steps_cons (fun own a wx hf hsl hE => ?_) ?_
        · obtain ⟨s_12, -⟩ := hsl
          exact sg_plain rfl rfl (or_move (s_12.trans e359_12))
        refine steps_cons (fun own a wx hf hsl hE => ?_) ?_
        · obtain ⟨s_1, -⟩ := hsl
          exact sg_plain rfl rfl (or_move (s_1.trans e359_1))
        refine steps_cons (fun own a wx hf hsl hE => ?_) ?_
        · obtain ⟨(f_40 : a.eval (.tmp 40) = .slice Ab2 b2.length cb2), -⟩ := hf
          exact sg_plain rfl rfl (or_len tu22 f_40 rfl)
        refine steps_cons (fun own a wx hf hsl hE => ?_) ?_
        · obtain ⟨(f_39 : a.eval (.tmp 39) = .int .i64 i344), (f_41 : a.eval (.tmp 41) = .int .i64 (b2.length : Int)), -⟩ := hf
          exact sg_plain rfl rfl (or_lss f_39 f_41 rfl)
        refine steps_cons (fun own a wx hf hsl hE => ?_) ?_
        · obtain ⟨(f_42 : a.eval (.tmp 42) = .bool (decide (i344 < (b2.length : Int)))), -⟩ := hf
          exact sg_plain rfl rfl (or_move f_42)
        refine steps_cons (fun own a wx hf hsl hE => ?_) ?_
        · obtain ⟨(f_43 : a.eval (.tmp 43) = .bool (decide (i344 < (b2.length : Int)))), -⟩ := hf
          obtain ⟨s_12, -⟩ := hsl
          refine sg_t rfl rfl rfl f_43 (fun hg => ?_)
          exact or_move (s_12.trans e359_12)
        refine steps_cons (fun own a wx hf hsl hE => ?_) ?_
        · obtain ⟨(f_43 : a.eval (.tmp 43) = .bool (decide (i344 < (b2.length : Int)))), c_44, -⟩ := hf
          refine sg_t rfl rfl rfl f_43 (fun hg => ?_)
          have f_44 : a.eval (.tmp 44) = .int .i64 i344 := c_44.1 hg
          exact or_lss f_44 rfl rfl
        refine steps_cons (fun own a wx hf hsl hE => ?_) ?_
        · obtain ⟨(f_43 : a.eval (.tmp 43) = .bool (decide (i344 < (b2.length : Int)))), c_45, -⟩ := hf
          exact sg_plain rfl rfl (or_and f_43 (fun hx => c_45.1 hx) rfl (osome hx361).symm)
        exact steps_nil
      intro own362 a362 w362 hd362 hz362 hk362 hf362 hE362
      have e362_1 : a362.eval (.tmp 1) = .slice Ab2 b2.length cb2 := (hk362 1 rfl).trans e359_1
      have e362_2 : a362.eval (.tmp 2) = .int .i64 n3 := (hk362 2 rfl).trans e359_2
      have e362_3 : a362.eval (.tmp 3) = .int .i64 m4 := (hk362 3 rfl).trans e359_3
      have e362_9 : a362.eval (.tmp 9) = .slice A292 x294.length c293 := (hk362 9 rfl).trans e359_9
      have e362_10 : a362.eval (.tmp 10) = .slice A340 y342.length c341 := (hk362 10 rfl).trans e359_10
      have e362_12 : a362.eval (.tmp 12) = .int .i64 i344 := (hk362 12 rfl).trans e359_12
      obtain ⟨(f_46 : a362.eval (.tmp 46) = .bool x361), -⟩ := hf362 [7] rfl
      have e362_46 := f_46
      have hX362 := Evo.step hE359 (fun _ => Nat.le_refl 0) hE362 rfl
      have b362_Ab2 := RdO.evo rfl hE362 b359_Ab2
      have b362_A292 := RwO.evo rfl hE362 b359_A292
      have b362_A340 := RwO.evo rfl hE362 b359_A340
      refine fl_cond e362_46 hs (fun c363 hs => ?_) (fun c363 hs => ?_)
      · refine fl_skip ?_
        refine hn360 _ _ ?_
        refine fl_seq (fun Q364 hn364 hp364 => ?_)
        refine fl_block (fun Q365 hn365 hx365 hp365 => ?_)
        obtain ⟨x366, hx366, hs⟩ := obind hs
        obtain ⟨r367, hr367, hs⟩ := obind hs
        refine rg_plain (n := 144) (rs := []) (own0 := own362) (K := [])
            (bs := [0, 0, 0, 6, 14, 31, 63])
            (ds := [⟨[], [10], [], Fct.val 49 (.slice A340 y342.length c341)⟩,
            ⟨[], [1], [], Fct.val 50 (.slice Ab2 b2.length cb2)⟩,
            ⟨[], [12], [], Fct.val 51 (.int .i64 i344)⟩,
            ⟨[1, 2], [], [], Fct.val 52 (.pointer (some ((adr Ab2).add ((i344 : Int).toNat * R3.s))))⟩,
            ⟨[3], [], [], Fct.val 53 (.int .i64 x366)⟩,
            ⟨[0, 4], [], [], Fct.row 369 [] 54 3 R3 r367⟩,
            ⟨[5], [], [], Fct.rel [10, 54] (fun l => ∀ (A368 : Option Addr) (cA368 : Nat), l.getD 1 undef = .slice A368 r367.length cA368 → l.getD 0 undef = .slice A368 r367.length cA368)⟩]) (by kernel_rfl) hz362 hd362 (fun _ h => nomatch h) ?_ ?_
        · refine steps_cons (fun own a wx hf hsl hE => ?_) ?_
          · obtain ⟨s_10, -⟩ := hsl
            exact sg_plain rfl rfl (or_move (s_10.trans e362_10))
          refine steps_cons (fun own a wx hf hsl hE => ?_) ?_
          · obtain ⟨s_1, -⟩ := hsl
            exact sg_plain rfl rfl (or_move (s_1.trans e362_1))
          refine steps_cons (fun own a wx hf hsl hE => ?_) ?_
          · obtain ⟨s_12, -⟩ := hsl
            exact sg_plain rfl rfl (or_move (s_12.trans e362_12))
          refine steps_cons (fun own a wx hf hsl hE => ?_) ?_
          · obtain ⟨(f_50 : a.eval (.tmp 50) = .slice Ab2 b2.length cb2), (f_51 : a.eval (.tmp 51) = .int .i64 i344), -⟩ := hf
            exact sg_plain rfl rfl (or_index (R := R3) (l := b2) tl22 f_50 f_51 (RdO.some_ b362_Ab2 hx366) hx366)
          refine steps_cons (fun own a wx hf hsl hE => ?_) ?_
          · obtain ⟨(f_52 : a.eval (.tmp 52) = .pointer (some ((adr Ab2).add ((i344 : Int).toNat * R3.s)))), -⟩ := hf
            exact sg_plain rfl rfl (or_load1 to3 f_52 (CellsAt.zero (RdO.cells (F := E3) (RdO.evo rfl hE b362_Ab2) hx366) rfl))
          refine steps_cons (fun own a wx hf hsl hE => ?_) ?_
          · obtain ⟨(f_49 : a.eval (.tmp 49) = .slice A340 y342.length c341), (f_53 : a.eval (.tmp 53) = .int .i64 x366), -⟩ := hf
            exact sg_plain rfl rfl (or_call cf7 (args2 f_49 f_53) (ref04_Put_w _ y342 A340 c341 x366 (RdO.zero (RwO.rd (RwO.evo rfl hE b362_A340))) r367 hr367) (post_row (m' := (look0 [(1, 369)])) (.inl (Rep.fl_flat _)) rfl rfl (fun _ => rfl)))
          refine steps_cons (fun own a wx hf hsl hE => ?_) ?_
          · obtain ⟨⟨⟨A368, cA368⟩, (f_54 : a.eval (.tmp 54) = .slice A368 r367.length cA368), (b_A368 : RwO own 369 [] wx 3 R3 A368 cA368 r367)⟩, -⟩ := hf
            exact sg_plain rfl rfl (or_mono (f := Fct.val 10 (.slice A368 r367.length cA368)) (or_assign f_54) (fun own' a' w' v' hp h => fun _ _ h0' => by cases (f_54.symm.trans ((hp.2 54 (by decide)).symm.trans h0')); exact h))
          exact steps_nil
        intro own370 a370 w370 hd370 hz370 hk370 hf370 hE370
        have e370_1 : a370.eval (.tmp 1) = .slice Ab2 b2.length cb2 := (hk370 1 rfl).trans e362_1
        have e370_2 : a370.eval (.tmp 2) = .int .i64 n3 := (hk370 2 rfl).trans e362_2
        have e370_3 : a370.eval (.tmp 3) = .int .i64 m4 := (hk370 3 rfl).trans e362_3
        have e370_9 : a370.eval (.tmp 9) = .slice A292 x294.length c293 := (hk370 9 rfl).trans e362_9
        have e370_12 : a370.eval (.tmp 12) = .int .i64 i344 := (hk370 12 rfl).trans e362_12
        obtain ⟨⟨⟨A368, cA368⟩, (f_54 : a370.eval (.tmp 54) = .slice A368 r367.length cA368), (b_A368 : RwO own370 369 [] w370 3 R3 A368 cA368 r367)⟩, (q_10 : ∀ (A368 : Option Addr) (cA368 : Nat), a370.eval (.tmp 54) = .slice A368 r367.length cA368 → a370.eval (.tmp 10) = .slice A368 r367.length cA368), -⟩ := hf370 [5, 6] rfl
        have f_10 := q_10 _ _ f_54
        have e370_10 := f_10
        have hX370 := Evo.step hX362 (fun _ => Nat.le_refl 0) hE370 rfl
        have b370_Ab2 := RdO.evo rfl hE370 b362_Ab2
        have b370_A292 := RwO.evo rfl hE370 b362_A292
        have b370_A368 := b_A368
        refine hn365 _ _ ?_
        refine hn364 _ _ ?_
        refine rg_plain (n := 144) (rs := []) (own0 := own370) (K := [])
            (bs := [0, 1, 3])
            (ds := [⟨[], [12], [], Fct.val 47 (.int .i64 i344)⟩,
            ⟨[0], [], [], Fct.val 48 (.int .i64 (ad i344 1))⟩,
            ⟨[1], [], [], Fct.val 12 (.int .i64 (ad i344 1))⟩]) (by kernel_rfl) hz370 hd370 (fun _ h => nomatch h) ?_ ?_
        · refine steps_cons (fun own a wx hf hsl hE => ?_) ?_
          · obtain ⟨s_12, -⟩ := hsl
            exact sg_plain rfl rfl (or_move (s_12.trans e370_12))
          refine steps_cons (fun own a wx hf hsl hE => ?_) ?_
          · obtain ⟨(f_47 : a.eval (.tmp 47) = .int .i64 i344), -⟩ := hf
            exact sg_plain rfl rfl (or_add f_47 rfl rfl)
          refine steps_cons (fun own a wx hf hsl hE => ?_) ?_
          · obtain ⟨(f_48 : a.eval (.tmp 48) = .int .i64 (ad i344 1)), -⟩ := hf
            exact sg_plain rfl rfl (or_assign f_48)
          exact steps_nil
        intro own371 a371 w371 hd371 hz371 hk371 hf371 hE371
        have e371_1 : a371.eval (.tmp 1) = .slice Ab2 b2.length cb2 := (hk371 1 rfl).trans e370_1
        have e371_2 : a371.eval (.tmp 2) = .int .i64 n3 := (hk371 2 rfl).trans e370_2
        have e371_3 : a371.eval (.tmp 3) = .int .i64 m4 := (hk371 3 rfl).trans e370_3
        have e371_9 : a371.eval (.tmp 9) = .slice A292 x294.length c293 := (hk371 9 rfl).trans e370_9
        have e371_10 : a371.eval (.tmp 10) = .slice A368 r367.length cA368 := (hk371 10 rfl).trans e370_10
        obtain ⟨(f_12 : a371.eval (.tmp 12) = .int .i64 (ad i344 1)), -⟩ := hf371 [2] rfl
        have e371_12 := f_12
        have hX371 := Evo.step hX370 (fun _ => Nat.le_refl 0) hE371 rfl
        have b371_Ab2 := RdO.evo rfl hE371 b370_Ab2
        have b371_A292 := RwO.evo rfl hE371 b370_A292
        have b371_A368 := RwO.evo rfl hE371 b370_A368
        exact hn358 _ _ _ hs ⟨(rl [(369, 343)] own371), A368, cA368, hd371, hz371, e371_1, e371_2, e371_3, e371_9, e371_10, e371_12, (Evo.rl_ hX371 (fun _ => Nat.le_refl 0) rfl), (RdO.rl_ (mm := [(369, 343)]) b371_Ab2), (RwO.rl_ (mm := [(369, 343)]) b371_A292), (RwO.rl_ (mm := [(369, 343)]) b371_A368)⟩
      refine fl_exit ?_
      refine hp360 _ _ _ rfl ?_
      replace hs := hz358 _ hs
      refine hp358 _ _ _ rfl ?_
      refine hx326 _ _ ?_
      refine hn324 _ _ ?_
      obtain ⟨x374, hx374, hs⟩ := obind hs
      refine rg_plain_seq (n := 144) (rs := []) (own0 := own362) (K := [373])
          (bs := [0, 0, 3, 7])
          (ds := [⟨[], [], [], Fct.row 373 [] 55 3 R3 ([] : List Int)⟩,
          ⟨[], [9], [], Fct.val 56 (.slice A292 x294.length c293)⟩,
          ⟨[0, 1], [], [373], Fct.row 375 [] 57 3 R3 x374⟩,
          ⟨[2], [], [], Fct.rel [13, 57] (fun l => ∀ (A376 : Option Addr) (cA376 : Nat), l.getD 1 undef = .slice A376 x374.length cA376 → l.getD 0 undef = .slice A376 x374.length cA376)⟩]) (by kernel_rfl) hz362 hd362 (fun _ h => nomatch h) ?_ ?_
      · refine steps_cons (fun own a wx hf hsl hE => ?_) ?_
        · exact sg_plain rfl rfl (or_lit (lab := 373) (e := 3) (cs := #[]) (F := E3) (or_new [] rfl rfl trivial (by kernel_rfl)) rfl rfl (show 0 ≤ maxLen by decide))
        refine steps_cons (fun own a wx hf hsl hE => ?_) ?_
        · obtain ⟨s_9, -⟩ := hsl
          exact sg_plain rfl rfl (or_move (s_9.trans e362_9))
        refine steps_cons (fun own a wx hf hsl hE => ?_) ?_
        · obtain ⟨⟨⟨A372, cA372⟩, (f_55 : a.eval (.tmp 55) = .slice A372 ([] : List Int).length cA372), (b_A372 : RwO own 373 [] wx 3 R3 A372 cA372 ([] : List Int))⟩, (f_56 : a.eval (.tmp 56) = .slice A292 x294.length c293), -⟩ := hf
          exact sg_plain rfl rfl (or_append (R := R3) (lab := 373) (lab2 := 375) (L := []) (L3 := []) tp22 f_55 b_A372 (by decide) f_56 (RwO.rd (RwO.evo rfl hE b362_A292)) hx374 (by decide) (by decide) (mem_of rfl) (.inl (Rep.fl_flat _)))
        refine steps_cons (fun own a wx hf hsl hE => ?_) ?_
        · obtain ⟨⟨⟨A376, cA376⟩, (f_57 : a.eval (.tmp 57) = .slice A376 x374.length cA376), (b_A376 : RwO own 375 [] wx 3 R3 A376 cA376 x374)⟩, -⟩ := hf
          exact sg_plain rfl rfl (or_mono (f := Fct.val 13 (.slice A376 x374.length cA376)) (or_assign f_57) (fun own' a' w' v' hp h => fun _ _ h0' => by cases (f_57.symm.trans ((hp.2 57 (by decide)).symm.trans h0')); exact h))
        exact steps_nil
      intro own377 a377 w377 hd377 hz377 hk377 hf377 hE377
      have e377_2 : a377.eval (.tmp 2) = .int .i64 n3 := (hk377 2 rfl).trans e362_2
      have e377_3 : a377.eval (.tmp 3) = .int .i64 m4 := (hk377 3 rfl).trans e362_3
      have e377_9 : a377.eval (.tmp 9) = .slice A292 x294.length c293 := (hk377 9 rfl).trans e362_9
      have e377_10 : a377.eval (.tmp 10) = .slice A340 y342.length c341 := (hk377 10 rfl).trans e362_10
      obtain ⟨⟨⟨A376, cA376⟩, (f_57 : a377.eval (.tmp 57) = .slice A376 x374.length cA376), (b_A376 : RwO own377 375 [] w377 3 R3 A376 cA376 x374)⟩, (q_13 : ∀ (A376 : Option Addr) (cA376 : Nat), a377.eval (.tmp 57) = .slice A376 x374.length cA376 → a377.eval (.tmp 13) = .slice A376 x374.length cA376), -⟩ := hf377 [2, 3] rfl
      have f_13 := q_13 _ _ f_57
      have e377_13 := f_13
      have hX377 := Evo.step hX362 (fun _ => Nat.le_refl 0) hE377 rfl
      have b377_A292 := RwO.evo rfl hE377 b362_A292
      have b377_A340 := RwO.evo rfl hE377 b362_A340
      have b377_A376 := b_A376
      refine fl_seq (fun Q378 hn378 hp378 => ?_)
      refine rg_plain_seq (n := 144) (rs := []) (own0 := own377) (K := [])
          (bs := [0])
          (ds := [⟨[], [], [], Fct.val 14 (.int .i64 0)⟩]) (by kernel_rfl) hz377 hd377 (fun _ h => nomatch h) ?_ ?_
      · refine steps_cons (fun own a wx hf hsl hE => ?_) ?_
        · exact sg_plain rfl rfl (or_assign rfl)
        exact steps_nil
      intro own379 a379 w379 hd379 hz379 hk379 hf379 hE379
      have e379_2 : a379.eval (.tmp 2) = .int .i64 n3 := (hk379 2 rfl).trans e377_2
      have e379_3 : a379.eval (.tmp 3) = .int .i64 m4 := (hk379 3 rfl).trans e377_3
      have e379_9 : a379.eval (.tmp 9) = .slice A292 x294.length c293 := (hk379 9 rfl).trans e377_9
      have e379_10 : a379.eval (.tmp 10) = .slice A340 y342.length c341 := (hk379 10 rfl).trans e377_10
      have e379_13 : a379.eval (.tmp 13) = .slice A376 x374.length cA376 := (hk379 13 rfl).trans e377_13
      obtain ⟨(f_14 : a379.eval (.tmp 14) = .int .i64 0), -⟩ := hf379 [0] rfl
      have e379_14 := f_14
      have hX379 := Evo.step hX377 (fun _ => Nat.le_refl 0) hE379 rfl
      have b379_A292 := RwO.evo rfl hE379 b377_A292
      have b379_A340 := RwO.evo rfl hE379 b377_A340
      have b379_A376 := RwO.evo rfl hE379 b377_A376
      refine fl_block (fun Q380 hn380 hx380 hp380 => ?_)
      refine fl_loop (body := (fun s => law04_OrderFinds_b3 n3 m4 x294 y342 s.1 s.2)) (z := r) (show loopO _ _ = _ from hs) (fun (s : (List Int) × Int) a wx => match s with | (all395, i397) => ∃ (ox : Own) (A393 : Option Addr) (c394 : Nat), a.defers = [] ∧ a.tmps.size = 144 ∧ a.eval (.tmp 2) = .int .i64 n3 ∧ a.eval (.tmp 3) = .int .i64 m4 ∧ a.eval (.tmp 9) = .slice A292 x294.length c293 ∧ a.eval (.tmp 10) = .slice A340 y342.length c341 ∧ a.eval (.tmp 13) = .slice A393 all395.length c394 ∧ a.eval (.tmp 14) = .int .i64 i397 ∧ Evo [] (fun _ => 0) ox w wx ∧ RwO ox 295 [] wx 3 R3 A292 c293 x294 ∧ RwO ox 343 [] wx 3 R3 A340 c341 y342 ∧ RwO ox 396 [] wx 3 R3 A393 c394 all395) ?_ ?_
      · exact ⟨(rl [(375, 396)] own379), A376, cA376, hd379, hz379, e379_2, e379_3, e379_9, e379_10, e379_13, e379_14, (Evo.rl_ hX379 (fun _ => Nat.le_refl 0) rfl), (RwO.rl_ (mm := [(375, 396)]) b379_A292), (RwO.rl_ (mm := [(375, 396)]) b379_A340), (RwO.rl_ (mm := [(375, 396)]) b379_A376)⟩
      · rintro ⟨all395, i397⟩ zz410 a410 w410 ⟨own410, A393, c394, hd411, hz411, e411_2, e411_3, e411_9, e411_10, e411_13, e411_14, hE411, b411_A292, b411_A340, b411_A393⟩ hs Q410 hn410 hp410 hz410
        have hs : law04_OrderFinds_b3 n3 m4 x294 y342 all395 i397 = some zz410 := hs
        refine fl_seq (fun Q412 hn412 hp412 => ?_)
        refine rg_plain_seq (n := 144) (rs := []) (own0 := own410) (K := [])
            (bs := [0, 0, 2, 7])
            (ds := [⟨[], [14], [], Fct.val 58 (.int .i64 i397)⟩,
            ⟨[], [10], [], Fct.val 59 (.slice A340 y342.length c341)⟩,
            ⟨[1], [], [], Fct.val 60 (.int .i64 (y342.length : Int))⟩,
            ⟨[0, 2], [], [], Fct.val 61 (.bool (decide (i397 < (y342.length : Int))))⟩]) (by kernel_rfl) hz411 hd411 (fun _ h => nomatch h) ?_ ?_
        · refine steps_cons (fun own a wx hf hsl hE => ?_) ?_
          · obtain ⟨s_14, -⟩ := hsl
            exact sg_plain rfl rfl (or_move (s_14.trans e411_14))
          refine steps_cons (fun own a wx hf hsl hE => ?_) ?_
          · obtain ⟨s_10, -⟩ := hsl
            exact sg_plain rfl rfl (or_move (s_10.trans e411_10))
          refine steps_cons (fun own a wx hf hsl hE => ?_) ?_
          · obtain ⟨(f_59 : a.eval (.tmp 59) = .slice A340 y342.length c341), -⟩ := hf
            exact sg_plain rfl rfl (or_len tu22 f_59 rfl)
          refine steps_cons (fun own a wx hf hsl hE => ?_) ?_
          · obtain ⟨(f_58 : a.eval (.tmp 58) = .int .i64 i397), (f_60 : a.eval (.tmp 60) = .int .i64 (y342.length : Int)), -⟩ := hf
            exact sg_plain rfl rfl (or_lss f_58 f_60 rfl)
          exact steps_nil
        intro own413 a413 w413 hd413 hz413 hk413 hf413 hE413
        have e413_2 : a413.eval (.tmp 2) = .int .i64 n3 := (hk413 2 rfl).trans e411_2
        have e413_3 : a413.eval (.tmp 3) = .int .i64 m4 := (hk413 3 rfl).trans e411_3
        have e413_9 : a413.eval (.tmp 9) = .slice A292 x294.length c293 := (hk413 9 rfl).trans e411_9
        have e413_10 : a413.eval (.tmp 10) = .slice A340 y342.length c341 := (hk413 10 rfl).trans e411_10
        have e413_13 : a413.eval (.tmp 13) = .slice A393 all395.length c394 := (hk413 13 rfl).trans e411_13
        have e413_14 : a413.eval (.tmp 14) = .int .i64 i397 := (hk413 14 rfl).trans e411_14
        obtain ⟨(f_61 : a413.eval (.tmp 61) = .bool (decide (i397 < (y342.length : Int)))), -⟩ := hf413 [3] rfl
        have e413_61 := f_61
        have hX413 := Evo.step hE411 (fun _ => Nat.le_refl 0) hE413 rfl
        have b413_A292 := RwO.evo rfl hE413 b411_A292
        have b413_A340 := RwO.evo rfl hE413 b411_A340
        have b413_A393 := RwO.evo rfl hE413 b411_A393
        refine fl_cond e413_61 hs (fun c414 hs => ?_) (fun c414 hs => ?_)
        · refine fl_skip ?_
          refine hn412 _ _ ?_
          refine fl_seq (fun Q415 hn415 hp415 => ?_)
          refine fl_block (fun Q416 hn416 hx416 hp416 => ?_)
          obtain ⟨x417, hx417, hs⟩ := obind hs
          obtain ⟨r418, hr418, hs⟩ := obind hs
          refine rg_plain (n := 144) (rs := []) (own0 := own413) (K := [])
              (bs := [0, 0, 0, 6, 14, 31, 63])
              (ds := [⟨[], [13], [], Fct.val 64 (.slice A393 all395.length c394)⟩,
              ⟨[], [10], [], Fct.val 65 (.slice A340 y342.length c341)⟩,
              ⟨[], [14], [], Fct.val 66 (.int .i64 i397)⟩,
              ⟨[1, 2], [], [], Fct.val 67 (.pointer (some ((adr A340).add ((i397 : Int).toNat * R3.s))))⟩,
              ⟨[3], [], [], Fct.val 68 (.int .i64 x417)⟩,
              ⟨[0, 4], [], [], Fct.row 420 [] 69 3 R3 r418⟩,
              ⟨[5], [], [], Fct.rel [13, 69] (fun l => ∀ (A419 : Option Addr) (cA419 : Nat), l.getD 1 undef = .slice A419 r418.length cA419 → l.getD 0 undef = .slice A419 r418.length cA419)⟩]) (by kernel_rfl) hz413 hd413 (fun _ h => nomatch h) ?_ ?_
          · refine steps_cons (fun own a wx hf hsl hE => ?_) ?_
            · obtain ⟨s_13, -⟩ := hsl
              exact sg_plain rfl rfl (or_move (s_13.trans e413_13))
            refine steps_cons (fun own a wx hf hsl hE => ?_) ?_
            · obtain ⟨s_10, -⟩ := hsl
              exact sg_plain rfl rfl (or_move (s_10.trans e413_10))
            refine steps_cons (fun own a wx hf hsl hE => ?_) ?_
            · obtain ⟨s_14, -⟩ := hsl
              exact sg_plain rfl rfl (or_move (s_14.trans e413_14))
            refine steps_cons (fun own a wx hf hsl hE => ?_) ?_
            · obtain ⟨(f_65 : a.eval (.tmp 65) = .slice A340 y342.length c341), (f_66 : a.eval (.tmp 66) = .int .i64 i397), -⟩ := hf
              exact sg_plain rfl rfl (or_index (R := R3) (l := y342) tl22 f_65 f_66 (RdO.some_ (RwO.rd b413_A340) hx417) hx417)
            refine steps_cons (fun own a wx hf hsl hE => ?_) ?_
            · obtain ⟨(f_67 : a.eval (.tmp 67) = .pointer (some ((adr A340).add ((i397 : Int).toNat * R3.s)))), -⟩ := hf
              exact sg_plain rfl rfl (or_load1 to3 f_67 (CellsAt.zero (RdO.cells (F := E3) (RwO.rd (RwO.evo rfl hE b413_A340)) hx417) rfl))
            refine steps_cons (fun own a wx hf hsl hE => ?_) ?_
            · obtain ⟨(f_64 : a.eval (.tmp 64) = .slice A393 all395.length c394), (f_68 : a.eval (.tmp 68) = .int .i64 x417), -⟩ := hf
              exact sg_plain rfl rfl (or_call cf7 (args2 f_64 f_68) (ref04_Put_w _ all395 A393 c394 x417 (RdO.zero (RwO.rd (RwO.evo rfl hE b413_A393))) r418 hr418) (post_row (m' := (look0 [(1, 420)])) (.inl (Rep.fl_flat _)) rfl rfl (fun _ => rfl)))
            refine steps_cons (fun own a wx hf hsl hE => ?_) ?_
            · obtain ⟨⟨⟨A419, cA419⟩, (f_69 : a.eval (.tmp 69) = .slice A419 r418.length cA419), (b_A419 : RwO own 420 [] wx 3 R3 A419 cA419 r418)⟩, -⟩ := hf
              exact sg_plain rfl rfl (or_mono (f := Fct.val 13 (.slice A419 r418.length cA419)) (or_assign f_69) (fun own' a' w' v' hp h => fun _ _ h0' => by cases (f_69.symm.trans ((hp.2 69 (by decide)).symm.trans h0')); exact h))
            exact steps_nil
          intro own421 a421 w421 hd421 hz421 hk421 hf421 hE421
          have e421_2 : a421.eval (.tmp 2) = .int .i64 n3 := (hk421 2 rfl).trans e413_2
          have e421_3 : a421.eval (.tmp 3) = .int .i64 m4 := (hk421 3 rfl).trans e413_3
          have e421_9 : a421.eval (.tmp 9) = .slice A292 x294.length c293 := (hk421 9 rfl).trans e413_9
          have e421_10 : a421.eval (.tmp 10) = .slice A340 y342.length c341 := (hk421 10 rfl).trans e413_10
          have e421_14 : a421.eval (.tmp 14) = .int .i64 i397 := (hk421 14 rfl).trans e413_14
          obtain ⟨⟨⟨A419, cA419⟩, (f_69 : a421.eval (.tmp 69) = .slice A419 r418.length cA419), (b_A419 : RwO own421 420 [] w421 3 R3 A419 cA419 r418)⟩, (q_13 : ∀ (A419 : Option Addr) (cA419 : Nat), a421.eval (.tmp 69) = .slice A419 r418.length cA419 → a421.eval (.tmp 13) = .slice A419 r418.length cA419), -⟩ := hf421 [5, 6] rfl
          have f_13 := q_13 _ _ f_69
          have e421_13 := f_13
          have hX421 := Evo.step hX413 (fun _ => Nat.le_refl 0) hE421 rfl
          have b421_A292 := RwO.evo rfl hE421 b413_A292
          have b421_A340 := RwO.evo rfl hE421 b413_A340
          have b421_A419 := b_A419
          refine hn416 _ _ ?_
          refine hn415 _ _ ?_
          refine rg_plain (n := 144) (rs := []) (own0 := own421) (K := [])
              (bs := [0, 1, 3])
              (ds := [⟨[], [14], [], Fct.val 62 (.int .i64 i397)⟩,
              ⟨[0], [], [], Fct.val 63 (.int .i64 (ad i397 1))⟩,
              ⟨[1], [], [], Fct.val 14 (.int .i64 (ad i397 1))⟩]) (by kernel_rfl) hz421 hd421 (fun _ h => nomatch h) ?_ ?_
          · refine steps_cons (fun own a wx hf hsl hE => ?_) ?_
            · obtain ⟨s_14, -⟩ := hsl
              exact sg_plain rfl rfl (or_move (s_14.trans e421_14))
            refine steps_cons (fun own a wx hf hsl hE => ?_) ?_
            · obtain ⟨(f_62 : a.eval (.tmp 62) = .int .i64 i397), -⟩ := hf
              exact sg_plain rfl rfl (or_add f_62 rfl rfl)
            refine steps_cons (fun own a wx hf hsl hE => ?_) ?_
            · obtain ⟨(f_63 : a.eval (.tmp 63) = .int .i64 (ad i397 1)), -⟩ := hf
              exact sg_plain rfl rfl (or_assign f_63)
            exact steps_nil
          intro own422 a422 w422 hd422 hz422 hk422 hf422 hE422
          have e422_2 : a422.eval (.tmp 2) = .int .i64 n3 := (hk422 2 rfl).trans e421_2
          have e422_3 : a422.eval (.tmp 3) = .int .i64 m4 := (hk422 3 rfl).trans e421_3
          have e422_9 : a422.eval (.tmp 9) = .slice A292 x294.length c293 := (hk422 9 rfl).trans e421_9
          have e422_10 : a422.eval (.tmp 10) = .slice A340 y342.length c341 := (hk422 10 rfl).trans e421_10
          have e422_13 : a422.eval (.tmp 13) = .slice A419 r418.length cA419 := (hk422 13 rfl).trans e421_13
          obtain ⟨(f_14 : a422.eval (.tmp 14) = .int .i64 (ad i397 1)), -⟩ := hf422 [2] rfl
          have e422_14 := f_14
          have hX422 := Evo.step hX421 (fun _ => Nat.le_refl 0) hE422 rfl
          have b422_A292 := RwO.evo rfl hE422 b421_A292
          have b422_A340 := RwO.evo rfl hE422 b421_A340
          have b422_A419 := RwO.evo rfl hE422 b421_A419
          exact hn410 _ _ _ hs ⟨(rl [(420, 396)] own422), A419, cA419, hd422, hz422, e422_2, e422_3, e422_9, e422_10, e422_13, e422_14, (Evo.rl_ hX422 (fun _ => Nat.le_refl 0) rfl), (RwO.rl_ (mm := [(420, 396)]) b422_A292), (RwO.rl_ (mm := [(420, 396)]) b422_A340), (RwO.rl_ (mm := [(420, 396)]) b422_A419)⟩
        refine fl_exit ?_
        refine hp412 _ _ _ rfl ?_
        replace hs := hz410 _ hs
        refine hp410 _ _ _ rfl ?_
        refine hx380 _ _ ?_
        refine hn378 _ _ ?_
        obtain ⟨r423, hr423, hs⟩ := obind hs
        refine rg_plain_seq (n := 144) (rs := []) (own0 := own413) (K := [])
            (bs := [0, 0, 3, 7, 15, 15, 31, 127])
            (ds := [⟨[], [9], [], Fct.val 71 (.slice A292 x294.length c293)⟩,
            ⟨[], [2], [], Fct.val 72 (.int .i64 n3)⟩,
            ⟨[0, 1], [], [], Fct.val 73 (.tuple #[.int .i64 r423.1, .bool r423.2])⟩,
            ⟨[2], [], [], Fct.val 70 (.tuple #[.int .i64 r423.1, .bool r423.2])⟩,
            ⟨[3], [], [], Fct.val 74 (.int .i64 r423.1)⟩,
            ⟨[3], [], [], Fct.val 75 (.bool r423.2)⟩,
            ⟨[4], [], [], Fct.val 15 (.int .i64 r423.1)⟩,
            ⟨[5], [], [], Fct.val 16 (.bool r423.2)⟩]) (by kernel_rfl) hz413 hd413 (fun _ h => nomatch h) ?_ ?_
        · refine steps_cons (fun own a wx hf hsl hE => ?_) ?_
          · obtain ⟨s_9, -⟩ := hsl
            exact sg_plain rfl rfl (or_move (s_9.trans e413_9))
          refine steps_cons (fun own a wx hf hsl hE => ?_) ?_
          · obtain ⟨s_2, -⟩ := hsl
            exact sg_plain rfl rfl (or_move (s_2.trans e413_2))
          refine steps_cons (fun own a wx hf hsl hE => ?_) ?_
          · obtain ⟨(f_71 : a.eval (.tmp 71) = .slice A292 x294.length c293), (f_72 : a.eval (.tmp 72) = .int .i64 n3), -⟩ := hf
            exact sg_plain rfl rfl (or_call cf9 (args2 f_71 f_72) (order_Find_w _ x294 A292 c293 n3 (RdO.zero (RwO.rd (RwO.evo rfl hE b413_A292))) r423 hr423) post_val)
          refine steps_cons (fun own a wx hf hsl hE => ?_) ?_
          · obtain ⟨(f_73 : a.eval (.tmp 73) = .tuple #[.int .i64 r423.1, .bool r423.2]), -⟩ := hf
            exact sg_plain rfl rfl (or_move f_73)
          refine steps_cons (fun own a wx hf hsl hE => ?_) ?_
          · obtain ⟨(f_70 : a.eval (.tmp 70) = .tuple #[.int .i64 r423.1, .bool r423.2]), -⟩ := hf
            exact sg_plain rfl rfl (or_k [(70, .tuple #[.int .i64 r423.1, .bool r423.2])] rfl rfl ⟨f_70, trivial⟩ (by kernel_rfl))
          refine steps_cons (fun own a wx hf hsl hE => ?_) ?_
          · obtain ⟨(f_70 : a.eval (.tmp 70) = .tuple #[.int .i64 r423.1, .bool r423.2]), -⟩ := hf
            exact sg_plain rfl rfl (or_k [(70, .tuple #[.int .i64 r423.1, .bool r423.2])] rfl rfl ⟨f_70, trivial⟩ (by kernel_rfl))
          refine steps_cons (fun own a wx hf hsl hE => ?_) ?_
          · obtain ⟨(f_74 : a.eval (.tmp 74) = .int .i64 r423.1), -⟩ := hf
            exact sg_plain rfl rfl (or_assign f_74)
          refine steps_cons (fun own a wx hf hsl hE => ?_) ?_
          · obtain ⟨(f_75 : a.eval (.tmp 75) = .bool r423.2), -⟩ := hf
            exact sg_plain rfl rfl (or_assign f_75)
          exact steps_nil
        intro own424 a424 w424 hd424 hz424 hk424 hf424 hE424
        have e424_2 : a424.eval (.tmp 2) = .int .i64 n3 := (hk424 2 rfl).trans e413_2
        have e424_3 : a424.eval (.tmp 3) = .int .i64 m4 := (hk424 3 rfl).trans e413_3
        have e424_9 : a424.eval (.tmp 9) = .slice A292 x294.length c293 := (hk424 9 rfl).trans e413_9
        have e424_10 : a424.eval (.tmp 10) = .slice A340 y342.length c341 := (hk424 10 rfl).trans e413_10
        have e424_13 : a424.eval (.tmp 13) = .slice A393 all395.length c394 := (hk424 13 rfl).trans e413_13
        obtain ⟨(f_15 : a424.eval (.tmp 15) = .int .i64 r423.1), (f_16 : a424.eval (.tmp 16) = .bool r423.2), -⟩ := hf424 [6, 7] rfl
        have e424_15 := f_15
        have e424_16 := f_16
        have hX424 := Evo.step hX413 (fun _ => Nat.le_refl 0) hE424 rfl
        have b424_A292 := RwO.evo rfl hE424 b413_A292
        have b424_A340 := RwO.evo rfl hE424 b413_A340
        have b424_A393 := RwO.evo rfl hE424 b413_A393
        obtain ⟨r425, hr425, hs⟩ := obind hs
        refine rg_plain_seq (n := 144) (rs := []) (own0 := own424) (K := [])
            (bs := [0, 0, 3, 7, 15, 15, 31, 127])
            (ds := [⟨[], [9], [], Fct.val 77 (.slice A292 x294.length c293)⟩,
            ⟨[], [2], [], Fct.val 78 (.int .i64 n3)⟩,
            ⟨[0, 1], [], [], Fct.val 79 (.tuple #[.int .i64 r425.1, .bool r425.2])⟩,
            ⟨[2], [], [], Fct.val 76 (.tuple #[.int .i64 r425.1, .bool r425.2])⟩,
            ⟨[3], [], [], Fct.val 80 (.int .i64 r425.1)⟩,
            ⟨[3], [], [], Fct.val 81 (.bool r425.2)⟩,
            ⟨[4], [], [], Fct.val 17 (.int .i64 r425.1)⟩,
            ⟨[5], [], [], Fct.val 18 (.bool r425.2)⟩]) (by kernel_rfl) hz424 hd424 (fun _ h => nomatch h) ?_ ?_
        · refine steps_cons (fun own a wx hf hsl hE => ?_) ?_
          · obtain ⟨s_9, -⟩ := hsl
            exact sg_plain rfl rfl (or_move (s_9.trans e424_9))
          refine steps_cons (fun own a wx hf hsl hE => ?_) ?_
          · obtain ⟨s_2, -⟩ := hsl
            exact sg_plain rfl rfl (or_move (s_2.trans e424_2))
          refine steps_cons (fun own a wx hf hsl hE => ?_) ?_
          · obtain ⟨(f_77 : a.eval (.tmp 77) = .slice A292 x294.length c293), (f_78 : a.eval (.tmp 78) = .int .i64 n3), -⟩ := hf
            exact sg_plain rfl rfl (or_call cf12 (args2 f_77 f_78) (ref04_Find_w _ x294 A292 c293 n3 (RdO.zero (RwO.rd (RwO.evo rfl hE b424_A292))) r425 hr425) post_val)
          refine steps_cons (fun own a wx hf hsl hE => ?_) ?_
          · obtain ⟨(f_79 : a.eval (.tmp 79) = .tuple #[.int .i64 r425.1, .bool r425.2]), -⟩ := hf
            exact sg_plain rfl rfl (or_move f_79)
          refine steps_cons (fun own a wx hf hsl hE => ?_) ?_
          · obtain ⟨(f_76 : a.eval (.tmp 76) = .tuple #[.int .i64 r425.1, .bool r425.2]), -⟩ := hf
            exact sg_plain rfl rfl (or_k [(76, .tuple #[.int .i64 r425.1, .bool r425.2])] rfl rfl ⟨f_76, trivial⟩ (by kernel_rfl))
          refine steps_cons (fun own a wx hf hsl hE => ?_) ?_
          · obtain ⟨(f_76 : a.eval (.tmp 76) = .tuple #[.int .i64 r425.1, .bool r425.2]), -⟩ := hf
            exact sg_plain rfl rfl (or_k [(76, .tuple #[.int .i64 r425.1, .bool r425.2])] rfl rfl ⟨f_76, trivial⟩ (by kernel_rfl))
          refine steps_cons (fun own a wx hf hsl hE => ?_) ?_
          · obtain ⟨(f_80 : a.eval (.tmp 80) = .int .i64 r425.1), -⟩ := hf
            exact sg_plain rfl rfl (or_assign f_80)
          refine steps_cons (fun own a wx hf hsl hE => ?_) ?_
          · obtain ⟨(f_81 : a.eval (.tmp 81) = .bool r425.2), -⟩ := hf
            exact sg_plain rfl rfl (or_assign f_81)
          exact steps_nil
        intro own426 a426 w426 hd426 hz426 hk426 hf426 hE426
        have e426_2 : a426.eval (.tmp 2) = .int .i64 n3 := (hk426 2 rfl).trans e424_2
        have e426_3 : a426.eval (.tmp 3) = .int .i64 m4 := (hk426 3 rfl).trans e424_3
        have e426_9 : a426.eval (.tmp 9) = .slice A292 x294.length c293 := (hk426 9 rfl).trans e424_9
        have e426_10 : a426.eval (.tmp 10) = .slice A340 y342.length c341 := (hk426 10 rfl).trans e424_10
        have e426_13 : a426.eval (.tmp 13) = .slice A393 all395.length c394 := (hk426 13 rfl).trans e424_13
        have e426_15 : a426.eval (.tmp 15) = .int .i64 r423.1 := (hk426 15 rfl).trans e424_15
        have e426_16 : a426.eval (.tmp 16) = .bool r423.2 := (hk426 16 rfl).trans e424_16
        obtain ⟨(f_17 : a426.eval (.tmp 17) = .int .i64 r425.1), (f_18 : a426.eval (.tmp 18) = .bool r425.2), -⟩ := hf426 [6, 7] rfl
        have e426_17 := f_17
        have e426_18 := f_18
        have hX426 := Evo.step hX424 (fun _ => Nat.le_refl 0) hE426 rfl
        have b426_A292 := RwO.evo rfl hE426 b424_A292
        have b426_A340 := RwO.evo rfl hE426 b424_A340
        have b426_A393 := RwO.evo rfl hE426 b424_A393
        obtain ⟨r427, hr427, hs⟩ := obind hs
        refine rg_plain_seq (n := 144) (rs := []) (own0 := own426) (K := [])
            (bs := [0, 0, 3, 7, 15, 15, 31, 127])
            (ds := [⟨[], [9], [], Fct.val 83 (.slice A292 x294.length c293)⟩,
            ⟨[], [2], [], Fct.val 84 (.int .i64 n3)⟩,
            ⟨[0, 1], [], [], Fct.val 85 (.tuple #[.int .i64 r427.1, .int .i64 r427.2])⟩,
            ⟨[2], [], [], Fct.val 82 (.tuple #[.int .i64 r427.1, .int .i64 r427.2])⟩,
            ⟨[3], [], [], Fct.val 86 (.int .i64 r427.1)⟩,
            ⟨[3], [], [], Fct.val 87 (.int .i64 r427.2)⟩,
            ⟨[4], [], [], Fct.val 19 (.int .i64 r427.1)⟩,
            ⟨[5], [], [], Fct.val 20 (.int .i64 r427.2)⟩]) (by kernel_rfl) hz426 hd426 (fun _ h => nomatch h) ?_ ?_
        · refine steps_cons (fun own a wx hf hsl hE => ?_) ?_
          · obtain ⟨s_9, -⟩ := hsl
            exact sg_plain rfl rfl (or_move (s_9.trans e426_9))
          refine steps_cons (fun own a wx hf hsl hE => ?_) ?_
          · obtain ⟨s_2, -⟩ := hsl
            exact sg_plain rfl rfl (or_move (s_2.trans e426_2))
          refine steps_cons (fun own a wx hf hsl hE => ?_) ?_
          · obtain ⟨(f_83 : a.eval (.tmp 83) = .slice A292 x294.length c293), (f_84 : a.eval (.tmp 84) = .int .i64 n3), -⟩ := hf
            exact sg_plain rfl rfl (or_call cf8 (args2 f_83 f_84) (order_Strips_w _ x294 A292 c293 n3 (RdO.zero (RwO.rd (RwO.evo rfl hE b426_A292))) r427 hr427) post_val)
          refine steps_cons (fun own a wx hf hsl hE => ?_) ?_
          · obtain ⟨(f_85 : a.eval (.tmp 85) = .tuple #[.int .i64 r427.1, .int .i64 r427.2]), -⟩ := hf
            exact sg_plain rfl rfl (or_move f_85)
          refine steps_cons (fun own a wx hf hsl hE => ?_) ?_
          · obtain ⟨(f_82 : a.eval (.tmp 82) = .tuple #[.int .i64 r427.1, .int .i64 r427.2]), -⟩ := hf
            exact sg_plain rfl rfl (or_k [(82, .tuple #[.int .i64 r427.1, .int .i64 r427.2])] rfl rfl ⟨f_82, trivial⟩ (by kernel_rfl))
          refine steps_cons (fun own a wx hf hsl hE => ?_) ?_
          · obtain ⟨(f_82 : a.eval (.tmp 82) = .tuple #[.int .i64 r427.1, .int .i64 r427.2]), -⟩ := hf
            exact sg_plain rfl rfl (or_k [(82, .tuple #[.int .i64 r427.1, .int .i64 r427.2])] rfl rfl ⟨f_82, trivial⟩ (by kernel_rfl))
          refine steps_cons (fun own a wx hf hsl hE => ?_) ?_
          · obtain ⟨(f_86 : a.eval (.tmp 86) = .int .i64 r427.1), -⟩ := hf
            exact sg_plain rfl rfl (or_assign f_86)
          refine steps_cons (fun own a wx hf hsl hE => ?_) ?_
          · obtain ⟨(f_87 : a.eval (.tmp 87) = .int .i64 r427.2), -⟩ := hf
            exact sg_plain rfl rfl (or_assign f_87)
          exact steps_nil
        intro own428 a428 w428 hd428 hz428 hk428 hf428 hE428
        have e428_2 : a428.eval (.tmp 2) = .int .i64 n3 := (hk428 2 rfl).trans e426_2
        have e428_3 : a428.eval (.tmp 3) = .int .i64 m4 := (hk428 3 rfl).trans e426_3
        have e428_9 : a428.eval (.tmp 9) = .slice A292 x294.length c293 := (hk428 9 rfl).trans e426_9
        have e428_10 : a428.eval (.tmp 10) = .slice A340 y342.length c341 := (hk428 10 rfl).trans e426_10
        have e428_13 : a428.eval (.tmp 13) = .slice A393 all395.length c394 := (hk428 13 rfl).trans e426_13
        have e428_15 : a428.eval (.tmp 15) = .int .i64 r423.1 := (hk428 15 rfl).trans e426_15
        have e428_16 : a428.eval (.tmp 16) = .bool r423.2 := (hk428 16 rfl).trans e426_16
        have e428_17 : a428.eval (.tmp 17) = .int .i64 r425.1 := (hk428 17 rfl).trans e426_17
        have e428_18 : a428.eval (.tmp 18) = .bool r425.2 := (hk428 18 rfl).trans e426_18
        obtain ⟨(f_19 : a428.eval (.tmp 19) = .int .i64 r427.1), (f_20 : a428.eval (.tmp 20) = .int .i64 r427.2), -⟩ := hf428 [6, 7] rfl
        have e428_19 := f_19
        have e428_20 := f_20
        have hX428 := Evo.step hX426 (fun _ => Nat.le_refl 0) hE428 rfl
        have b428_A292 := RwO.evo rfl hE428 b426_A292
        have b428_A340 := RwO.evo rfl hE428 b426_A340
        have b428_A393 := RwO.evo rfl hE428 b426_A393
        refine rg_plain_seq (n := 144) (rs := []) (own0 := own428) (K := [])
            (bs := [0])
            (ds := [⟨[], [], [], Fct.val 21 (.int .i64 0)⟩]) (by kernel_rfl) hz428 hd428 (fun _ h => nomatch h) ?_ ?_
        · refine steps_cons (fun own a wx hf hsl hE => ?_) ?_
          · exact sg_plain rfl rfl (or_assign rfl)
          exact steps_nil
        intro own429 a429 w429 hd429 hz429 hk429 hf429 hE429
        have e429_2 : a429.eval (.tmp 2) = .int .i64 n3 := (hk429 2 rfl).trans e428_2
        have e429_3 : a429.eval (.tmp 3) = .int .i64 m4 := (hk429 3 rfl).trans e428_3
        have e429_9 : a429.eval (.tmp 9) = .slice A292 x294.length c293 := (hk429 9 rfl).trans e428_9
        have e429_10 : a429.eval (.tmp 10) = .slice A340 y342.length c341 := (hk429 10 rfl).trans e428_10
        have e429_13 : a429.eval (.tmp 13) = .slice A393 all395.length c394 := (hk429 13 rfl).trans e428_13
        have e429_15 : a429.eval (.tmp 15) = .int .i64 r423.1 := (hk429 15 rfl).trans e428_15
        have e429_16 : a429.eval (.tmp 16) = .bool r423.2 := (hk429 16 rfl).trans e428_16
        have e429_17 : a429.eval (.tmp 17) = .int .i64 r425.1 := (hk429 17 rfl).trans e428_17
        have e429_18 : a429.eval (.tmp 18) = .bool r425.2 := (hk429 18 rfl).trans e428_18
        have e429_19 : a429.eval (.tmp 19) = .int .i64 r427.1 := (hk429 19 rfl).trans e428_19
        have e429_20 : a429.eval (.tmp 20) = .int .i64 r427.2 := (hk429 20 rfl).trans e428_20
        obtain ⟨(f_21 : a429.eval (.tmp 21) = .int .i64 0), -⟩ := hf429 [0] rfl
        have e429_21 := f_21
        have hX429 := Evo.step hX428 (fun _ => Nat.le_refl 0) hE429 rfl
        have b429_A292 := RwO.evo rfl hE429 b428_A292
        have b429_A340 := RwO.evo rfl hE429 b428_A340
        have b429_A393 := RwO.evo rfl hE429 b428_A393
        refine fl_seq (fun Q430 hn430 hp430 => ?_)
        refine rg_plain_seq (n := 144) (rs := []) (own0 := own429) (K := [])
            (bs := [0])
            (ds := [⟨[], [], [], Fct.val 22 (.int .i64 0)⟩]) (by kernel_rfl) hz429 hd429 (fun _ h => nomatch h) ?_ ?_
        · refine steps_cons (fun own a wx hf hsl hE => ?_) ?_
          · exact sg_plain rfl rfl (or_assign rfl)
          exact steps_nil
        intro own431 a431 w431 hd431 hz431 hk431 hf431 hE431
        have e431_2 : a431.eval (.tmp 2) = .int .i64 n3 := (hk431 2 rfl).trans e429_2
        have e431_3 : a431.eval (.tmp 3) = .int .i64 m4 := (hk431 3 rfl).trans e429_3
        have e431_9 : a431.eval (.tmp 9) = .slice A292 x294.length c293 := (hk431 9 rfl).trans e429_9
        have e431_10 : a431.eval (.tmp 10) = .slice A340 y342.length c341 := (hk431 10 rfl).trans e429_10
        have e431_13 : a431.eval (.tmp 13) = .slice A393 all395.length c394 := (hk431 13 rfl).trans e429_13
        have e431_15 : a431.eval (.tmp 15) = .int .i64 r423.1 := (hk431 15 rfl).trans e429_15
        have e431_16 : a431.eval (.tmp 16) = .bool r423.2 := (hk431 16 rfl).trans e429_16
        have e431_17 : a431.eval (.tmp 17) = .int .i64 r425.1 := (hk431 17 rfl).trans e429_17
        have e431_18 : a431.eval (.tmp 18) = .bool r425.2 := (hk431 18 rfl).trans e429_18
        have e431_19 : a431.eval (.tmp 19) = .int .i64 r427.1 := (hk431 19 rfl).trans e429_19
        have e431_20 : a431.eval (.tmp 20) = .int .i64 r427.2 := (hk431 20 rfl).trans e429_20
        have e431_21 : a431.eval (.tmp 21) = .int .i64 0 := (hk431 21 rfl).trans e429_21
        obtain ⟨(f_22 : a431.eval (.tmp 22) = .int .i64 0), -⟩ := hf431 [0] rfl
        have e431_22 := f_22
        have hX431 := Evo.step hX429 (fun _ => Nat.le_refl 0) hE431 rfl
        have b431_A292 := RwO.evo rfl hE431 b429_A292
        have b431_A340 := RwO.evo rfl hE431 b429_A340
        have b431_A393 := RwO.evo rfl hE431 b429_A393
        refine fl_block (fun Q432 hn432 hx432 hp432 => ?_)
        refine fl_loop (body := (fun s => law04_OrderFinds_b4 n3 m4 x294 y342 all395 r423 r425 r427 s.1 s.2)) (z := r) (show loopO _ _ = _ from hs) (fun (s : Int × Int) a wx => match s with | (equal463, i464) => ∃ (ox : Own), a.defers = [] ∧ a.tmps.size = 144 ∧ a.eval (.tmp 2) = .int .i64 n3 ∧ a.eval (.tmp 3) = .int .i64 m4 ∧ a.eval (.tmp 9) = .slice A292 x294.length c293 ∧ a.eval (.tmp 10) = .slice A340 y342.length c341 ∧ a.eval (.tmp 13) = .slice A393 all395.length c394 ∧ a.eval (.tmp 15) = .int .i64 r423.1 ∧ a.eval (.tmp 16) = .bool r423.2 ∧ a.eval (.tmp 17) = .int .i64 r425.1 ∧ a.eval (.tmp 18) = .bool r425.2 ∧ a.eval (.tmp 19) = .int .i64 r427.1 ∧ a.eval (.tmp 20) = .int .i64 r427.2 ∧ a.eval (.tmp 21) = .int .i64 equal463 ∧ a.eval (.tmp 22) = .int .i64 i464 ∧ Evo [] (fun _ => 0) ox w wx ∧ RwO ox 295 [] wx 3 R3 A292 c293 x294 ∧ RwO ox 343 [] wx 3 R3 A340 c341 y342 ∧ RwO ox 396 [] wx 3 R3 A393 c394 all395) ?_ ?_
        · exact ⟨own431, hd431, hz431, e431_2, e431_3, e431_9, e431_10, e431_13, e431_15, e431_16, e431_17, e431_18, e431_19, e431_20, e431_21, e431_22, hX431, b431_A292, b431_A340, b431_A393⟩
        · rintro ⟨equal463, i464⟩ zz495 a495 w495 ⟨own495, hd496, hz496, e496_2, e496_3, e496_9, e496_10, e496_13, e496_15, e496_16, e496_17, e496_18, e496_19, e496_20, e496_21, e496_22, hE496, b496_A292, b496_A340, b496_A393⟩ hs Q495 hn495 hp495 hz495
          have hs : law04_OrderFinds_b4 n3 m4 x294 y342 all395 r423 r425 r427 equal463 i464 = some zz495 := hs
          refine fl_seq (fun Q497 hn497 hp497 => ?_)
          refine rg_plain_seq (n := 144) (rs := []) (own0 := own495) (K := [])
              (bs := [0, 0, 2, 7])
              (ds := [⟨[], [22], [], Fct.val 88 (.int .i64 i464)⟩,
              ⟨[], [9], [], Fct.val 89 (.slice A292 x294.length c293)⟩,
              ⟨[1], [], [], Fct.val 90 (.int .i64 (x294.length : Int))⟩,
              ⟨[0, 2], [], [], Fct.val 91 (.bool (decide (i464 < (x294.length : Int))))⟩]) (by kernel_rfl) hz496 hd496 (fun _ h => nomatch h) ?_ ?_
          · refine steps_cons (fun own a wx hf hsl hE => ?_) ?_
            · obtain ⟨s_22, -⟩ := hsl
              exact sg_plain rfl rfl (or_move (s_22.trans e496_22))
            refine steps_cons (fun own a wx hf hsl hE => ?_) ?_
            · obtain ⟨s_9, -⟩ := hsl
              exact sg_plain rfl rfl (or_move (s_9.trans e496_9))
            refine steps_cons (fun own a wx hf hsl hE => ?_) ?_
            · obtain ⟨(f_89 : a.eval (.tmp 89) = .slice A292 x294.length c293), -⟩ := hf
              exact sg_plain rfl rfl (or_len tu22 f_89 rfl)
            refine steps_cons (fun own a wx hf hsl hE => ?_) ?_
            · obtain ⟨(f_88 : a.eval (.tmp 88) = .int .i64 i464), (f_90 : a.eval (.tmp 90) = .int .i64 (x294.length : Int)), -⟩ := hf
              exact sg_plain rfl rfl (or_lss f_88 f_90 rfl)
            exact steps_nil
          intro own498 a498 w498 hd498 hz498 hk498 hf498 hE498
          have e498_2 : a498.eval (.tmp 2) = .int .i64 n3 := (hk498 2 rfl).trans e496_2
          have e498_3 : a498.eval (.tmp 3) = .int .i64 m4 := (hk498 3 rfl).trans e496_3
          have e498_9 : a498.eval (.tmp 9) = .slice A292 x294.length c293 := (hk498 9 rfl).trans e496_9
          have e498_10 : a498.eval (.tmp 10) = .slice A340 y342.length c341 := (hk498 10 rfl).trans e496_10
          have e498_13 : a498.eval (.tmp 13) = .slice A393 all395.length c394 := (hk498 13 rfl).trans e496_13
          have e498_15 : a498.eval (.tmp 15) = .int .i64 r423.1 := (hk498 15 rfl).trans e496_15
          have e498_16 : a498.eval (.tmp 16) = .bool r423.2 := (hk498 16 rfl).trans e496_16
          have e498_17 : a498.eval (.tmp 17) = .int .i64 r425.1 := (hk498 17 rfl).trans e496_17
          have e498_18 : a498.eval (.tmp 18) = .bool r425.2 := (hk498 18 rfl).trans e496_18
          have e498_19 : a498.eval (.tmp 19) = .int .i64 r427.1 := (hk498 19 rfl).trans e496_19
          have e498_20 : a498.eval (.tmp 20) = .int .i64 r427.2 := (hk498 20 rfl).trans e496_20
          have e498_21 : a498.eval (.tmp 21) = .int .i64 equal463 := (hk498 21 rfl).trans e496_21
          have e498_22 : a498.eval (.tmp 22) = .int .i64 i464 := (hk498 22 rfl).trans e496_22
          obtain ⟨(f_91 : a498.eval (.tmp 91) = .bool (decide (i464 < (x294.length : Int)))), -⟩ := hf498 [3] rfl
          have e498_91 := f_91
          have hX498 := Evo.step hE496 (fun _ => Nat.le_refl 0) hE498 rfl
          have b498_A292 := RwO.evo rfl hE498 b496_A292
          have b498_A340 := RwO.evo rfl hE498 b496_A340
          have b498_A393 := RwO.evo rfl hE498 b496_A393
          refine fl_cond e498_91 hs (fun c499 hs => ?_) (fun c499 hs => ?_)
          · refine fl_skip ?_
            refine hn497 _ _ ?_
            refine fl_seq (fun Q500 hn500 hp500 => ?_)
            refine fl_block (fun Q513 hn513 hx513 hp513 => ?_)
            have K519 : ∀ (a519 : Act) (w519 : World) (own519 : Own) (equal518 : Int), a519.defers = [] → a519.tmps.size = 144 → a519.eval (.tmp 2) = .int .i64 n3 → a519.eval (.tmp 3) = .int .i64 m4 → a519.eval (.tmp 9) = .slice A292 x294.length c293 → a519.eval (.tmp 10) = .slice A340 y342.length c341 → a519.eval (.tmp 13) = .slice A393 all395.length c394 → a519.eval (.tmp 15) = .int .i64 r423.1 → a519.eval (.tmp 16) = .bool r423.2 → a519.eval (.tmp 17) = .int .i64 r425.1 → a519.eval (.tmp 18) = .bool r425.2 → a519.eval (.tmp 19) = .int .i64 r427.1 → a519.eval (.tmp 20) = .int .i64 r427.2 → a519.eval (.tmp 21) = .int .i64 equal518 → a519.eval (.tmp 22) = .int .i64 i464 → Evo [] (fun _ => 0) own519 w w519 → RwO own519 295 [] w519 3 R3 A292 c293 x294 → RwO own519 343 [] w519 3 R3 A340 c341 y342 → RwO own519 396 [] w519 3 R3 A393 c394 all395 → law04_OrderFinds_k5 i464 equal518 = some zz495 → (Q513 .normal a519 w519 ∧ Q513 (.exit 7) a519 w519) := by
              intro a519 w519 own519 equal518 hd520 hz520 e520_2 e520_3 e520_9 e520_10 e520_13 e520_15 e520_16 e520_17 e520_18 e520_19 e520_20 e520_21 e520_22 hE520 b520_A292 b520_A340 b520_A393 hs
              refine and_both (hn513 _ _) (hx513 _ _) ?_
              refine hn500 _ _ ?_
              refine rg_plain (n := 144) (rs := []) (own0 := own519) (K := [])
                  (bs := [0, 1, 3])
                  (ds := [⟨[], [22], [], Fct.val 92 (.int .i64 i464)⟩,
                  ⟨[0], [], [], Fct.val 93 (.int .i64 (ad i464 1))⟩,
                  ⟨[1], [], [], Fct.val 22 (.int .i64 (ad i464 1))⟩]) (by kernel_rfl) hz520 hd520 (fun _ h => nomatch h) ?_ ?_
              · refine steps_cons (fun own a wx hf hsl hE => ?_) ?_
                · obtain ⟨s_22, -⟩ := hsl
                  exact sg_plain rfl rfl (or_move (s_22.trans e520_22))
                refine steps_cons (fun own a wx hf hsl hE => ?_) ?_
                · obtain ⟨(f_92 : a.eval (.tmp 92) = .int .i64 i464), -⟩ := hf
                  exact sg_plain rfl rfl (or_add f_92 rfl rfl)
                refine steps_cons (fun own a wx hf hsl hE => ?_) ?_
                · obtain ⟨(f_93 : a.eval (.tmp 93) = .int .i64 (ad i464 1)), -⟩ := hf
                  exact sg_plain rfl rfl (or_assign f_93)
                exact steps_nil
              intro own521 a521 w521 hd521 hz521 hk521 hf521 hE521
              have e521_2 : a521.eval (.tmp 2) = .int .i64 n3 := (hk521 2 rfl).trans e520_2
              have e521_3 : a521.eval (.tmp 3) = .int .i64 m4 := (hk521 3 rfl).trans e520_3
              have e521_9 : a521.eval (.tmp 9) = .slice A292 x294.length c293 := (hk521 9 rfl).trans e520_9
              have e521_10 : a521.eval (.tmp 10) = .slice A340 y342.length c341 := (hk521 10 rfl).trans e520_10
              have e521_13 : a521.eval (.tmp 13) = .slice A393 all395.length c394 := (hk521 13 rfl).trans e520_13
              have e521_15 : a521.eval (.tmp 15) = .int .i64 r423.1 := (hk521 15 rfl).trans e520_15
              have e521_16 : a521.eval (.tmp 16) = .bool r423.2 := (hk521 16 rfl).trans e520_16
              have e521_17 : a521.eval (.tmp 17) = .int .i64 r425.1 := (hk521 17 rfl).trans e520_17
              have e521_18 : a521.eval (.tmp 18) = .bool r425.2 := (hk521 18 rfl).trans e520_18
              have e521_19 : a521.eval (.tmp 19) = .int .i64 r427.1 := (hk521 19 rfl).trans e520_19
              have e521_20 : a521.eval (.tmp 20) = .int .i64 r427.2 := (hk521 20 rfl).trans e520_20
              have e521_21 : a521.eval (.tmp 21) = .int .i64 equal518 := (hk521 21 rfl).trans e520_21
              obtain ⟨(f_22 : a521.eval (.tmp 22) = .int .i64 (ad i464 1)), -⟩ := hf521 [2] rfl
              have e521_22 := f_22
              have hX521 := Evo.step hE520 (fun _ => Nat.le_refl 0) hE521 rfl
              have b521_A292 := RwO.evo rfl hE521 b520_A292
              have b521_A340 := RwO.evo rfl hE521 b520_A340
              have b521_A393 := RwO.evo rfl hE521 b520_A393
              exact hn495 _ _ _ hs ⟨own521, hd521, hz521, e521_2, e521_3, e521_9, e521_10, e521_13, e521_15, e521_16, e521_17, e521_18, e521_19, e521_20, e521_21, e521_22, hX521, b521_A292, b521_A340, b521_A393⟩
            obtain ⟨x522, hx522, hs⟩ := obind hs
            refine rg_plain_seq (n := 144) (rs := []) (own0 := own498) (K := [])
                (bs := [0, 0, 3, 7, 0, 31])
                (ds := [⟨[], [9], [], Fct.val 94 (.slice A292 x294.length c293)⟩,
                ⟨[], [22], [], Fct.val 95 (.int .i64 i464)⟩,
                ⟨[0, 1], [], [], Fct.val 96 (.pointer (some ((adr A292).add ((i464 : Int).toNat * R3.s))))⟩,
                ⟨[2], [], [], Fct.val 97 (.int .i64 x522)⟩,
                ⟨[], [2], [], Fct.val 98 (.int .i64 n3)⟩,
                ⟨[3, 4], [], [], Fct.val 99 (.bool (decide (x522 = n3)))⟩]) (by kernel_rfl) hz498 hd498 (fun _ h => nomatch h) ?_ ?_
            · refine steps_cons (fun own a wx hf hsl hE => ?_) ?_
              · obtain ⟨s_9, -⟩ := hsl
                exact sg_plain rfl rfl (or_move (s_9.trans e498_9))
              refine steps_cons (fun own a wx hf hsl hE => ?_) ?_
              · obtain ⟨s_22, -⟩ := hsl
                exact sg_plain rfl rfl (or_move (s_22.trans e498_22))
              refine steps_cons (fun own a wx hf hsl hE => ?_) ?_
              · obtain ⟨(f_94 : a.eval (.tmp 94) = .slice A292 x294.length c293), (f_95 : a.eval (.tmp 95) = .int .i64 i464), -⟩ := hf
                exact sg_plain rfl rfl (or_index (R := R3) (l := x294) tl22 f_94 f_95 (RdO.some_ (RwO.rd b498_A292) hx522) hx522)
              refine steps_cons (fun own a wx hf hsl hE => ?_) ?_
              · obtain ⟨(f_96 : a.eval (.tmp 96) = .pointer (some ((adr A292).add ((i464 : Int).toNat * R3.s)))), -⟩ := hf
                exact sg_plain rfl rfl (or_load1 to3 f_96 (CellsAt.zero (RdO.cells (F := E3) (RwO.rd (RwO.evo rfl hE b498_A292)) hx522) rfl))
              refine steps_cons (fun own a wx hf hsl hE => ?_) ?_
              · obtain ⟨s_2, -⟩ := hsl
                exact sg_plain rfl rfl (or_move (s_2.trans e498_2))
              refine steps_cons (fun own a wx hf hsl hE => ?_) ?_
              · obtain ⟨(f_97 : a.eval (.tmp 97) = .int .i64 x522), (f_98 : a.eval (.tmp 98) = .int .i64 n3), -⟩ := hf
                exact sg_plain rfl rfl (or_eql f_97 f_98 rfl)
              exact steps_nil
            intro own523 a523 w523 hd523 hz523 hk523 hf523 hE523
            have e523_2 : a523.eval (.tmp 2) = .int .i64 n3 := (hk523 2 rfl).trans e498_2
            have e523_3 : a523.eval (.tmp 3) = .int .i64 m4 := (hk523 3 rfl).trans e498_3
            have e523_9 : a523.eval (.tmp 9) = .slice A292 x294.length c293 := (hk523 9 rfl).trans e498_9
            have e523_10 : a523.eval (.tmp 10) = .slice A340 y342.length c341 := (hk523 10 rfl).trans e498_10
            have e523_13 : a523.eval (.tmp 13) = .slice A393 all395.length c394 := (hk523 13 rfl).trans e498_13
            have e523_15 : a523.eval (.tmp 15) = .int .i64 r423.1 := (hk523 15 rfl).trans e498_15
            have e523_16 : a523.eval (.tmp 16) = .bool r423.2 := (hk523 16 rfl).trans e498_16
            have e523_17 : a523.eval (.tmp 17) = .int .i64 r425.1 := (hk523 17 rfl).trans e498_17
            have e523_18 : a523.eval (.tmp 18) = .bool r425.2 := (hk523 18 rfl).trans e498_18
            have e523_19 : a523.eval (.tmp 19) = .int .i64 r427.1 := (hk523 19 rfl).trans e498_19
            have e523_20 : a523.eval (.tmp 20) = .int .i64 r427.2 := (hk523 20 rfl).trans e498_20
            have e523_21 : a523.eval (.tmp 21) = .int .i64 equal463 := (hk523 21 rfl).trans e498_21
            have e523_22 : a523.eval (.tmp 22) = .int .i64 i464 := (hk523 22 rfl).trans e498_22
            obtain ⟨(f_99 : a523.eval (.tmp 99) = .bool (decide (x522 = n3))), -⟩ := hf523 [5] rfl
            have e523_99 := f_99
            have hX523 := Evo.step hX498 (fun _ => Nat.le_refl 0) hE523 rfl
            have b523_A292 := RwO.evo rfl hE523 b498_A292
            have b523_A340 := RwO.evo rfl hE523 b498_A340
            have b523_A393 := RwO.evo rfl hE523 b498_A393
            refine fl_cond e523_99 hs (fun c524 hs => ?_) (fun c524 hs => ?_)
            · refine rg_plain (n := 144) (rs := []) (own0 := own523) (K := [])
                  (bs := [0, 1, 3])
                  (ds := [⟨[], [21], [], Fct.val 100 (.int .i64 equal463)⟩,
                  ⟨[0], [], [], Fct.val 101 (.int .i64 (ad equal463 1))⟩,
                  ⟨[1], [], [], Fct.val 21 (.int .i64 (ad equal463 1))⟩]) (by kernel_rfl) hz523 hd523 (fun _ h => nomatch h) ?_ ?_
              · refine steps_cons (fun own a wx hf hsl hE => ?_) ?_
                · obtain ⟨s_21, -⟩ := hsl
                  exact sg_plain rfl rfl (or_move (s_21.trans e523_21))
                refine steps_cons (fun own a wx hf hsl hE => ?_) ?_
                · obtain ⟨(f_100 : a.eval (.tmp 100) = .int .i64 equal463), -⟩ := hf
                  exact sg_plain rfl rfl (or_add f_100 rfl rfl)
                refine steps_cons (fun own a wx hf hsl hE => ?_) ?_
                · obtain ⟨(f_101 : a.eval (.tmp 101) = .int .i64 (ad equal463 1)), -⟩ := hf
                  exact sg_plain rfl rfl (or_assign f_101)
                exact steps_nil
              intro own525 a525 w525 hd525 hz525 hk525 hf525 hE525
              have e525_2 : a525.eval (.tmp 2) = .int .i64 n3 := (hk525 2 rfl).trans e523_2
              have e525_3 : a525.eval (.tmp 3) = .int .i64 m4 := (hk525 3 rfl).trans e523_3
              have e525_9 : a525.eval (.tmp 9) = .slice A292 x294.length c293 := (hk525 9 rfl).trans e523_9
              have e525_10 : a525.eval (.tmp 10) = .slice A340 y342.length c341 := (hk525 10 rfl).trans e523_10
              have e525_13 : a525.eval (.tmp 13) = .slice A393 all395.length c394 := (hk525 13 rfl).trans e523_13
              have e525_15 : a525.eval (.tmp 15) = .int .i64 r423.1 := (hk525 15 rfl).trans e523_15
              have e525_16 : a525.eval (.tmp 16) = .bool r423.2 := (hk525 16 rfl).trans e523_16
              have e525_17 : a525.eval (.tmp 17) = .int .i64 r425.1 := (hk525 17 rfl).trans e523_17
              have e525_18 : a525.eval (.tmp 18) = .bool r425.2 := (hk525 18 rfl).trans e523_18
              have e525_19 : a525.eval (.tmp 19) = .int .i64 r427.1 := (hk525 19 rfl).trans e523_19
              have e525_20 : a525.eval (.tmp 20) = .int .i64 r427.2 := (hk525 20 rfl).trans e523_20
              have e525_22 : a525.eval (.tmp 22) = .int .i64 i464 := (hk525 22 rfl).trans e523_22
              obtain ⟨(f_21 : a525.eval (.tmp 21) = .int .i64 (ad equal463 1)), -⟩ := hf525 [2] rfl
              have e525_21 := f_21
              have hX525 := Evo.step hX523 (fun _ => Nat.le_refl 0) hE525 rfl
              have b525_A292 := RwO.evo rfl hE525 b523_A292
              have b525_A340 := RwO.evo rfl hE525 b523_A340
              have b525_A393 := RwO.evo rfl hE525 b523_A393
              exact (K519 _ _ own525 _ hd525 hz525 e525_2 e525_3 e525_9 e525_10 e525_13 e525_15 e525_16 e525_17 e525_18 e525_19 e525_20 e525_21 e525_22 hX525 b525_A292 b525_A340 b525_A393 hs).1
            refine fl_skip ?_
            exact (K519 _ _ own523 _ hd523 hz523 e523_2 e523_3 e523_9 e523_10 e523_13 e523_15 e523_16 e523_17 e523_18 e523_19 e523_20 e523_21 e523_22 hX523 b523_A292 b523_A340 b523_A393 hs).1
          refine fl_exit ?_
          refine hp497 _ _ _ rfl ?_
          replace hs := hz495 _ hs
          refine hp495 _ _ _ rfl ?_
          refine hx432 _ _ ?_
          refine hn430 _ _ ?_
          obtain ⟨r526, hr526, hs⟩ := obind hs
          obtain ⟨r527, hr527, hs⟩ := obind hs
          obtain ⟨r530, hr530, hs⟩ := obind hs
          obtain ⟨x531, hx531, hs⟩ := obind hs
          obtain ⟨x532, hx532, hs⟩ := obind hs
          obtain ⟨x533, hx533, hs⟩ := obind hs
          obtain ⟨r534, hr534, hs⟩ := obind hs
          obtain ⟨r535, hr535, hs⟩ := obind hs
          refine rg_plain_seq (n := 144) (rs := []) (own0 := own498) (K := [])
              (bs := [0, 1, 3, 3, 15, 3, 63, 127, 255, 511, 511, 2047, 4095, 8191, 16383, 16383, 65535, 131071, 262143, 524287, 524287, 2097151, 4194303, 8388607, 16777215, 16777215, 16777215, 117440511, 268435455, 536870911, 1073741823, 2147483647, 2147483647, 2147483647, 17179869183, 2147483647, 2147483647, 2147483647, 274877906943, 549755813887, 1099511627775, 2199023255551, 4398046511103])
              (ds := [⟨[], [], [], Fct.val 102 (.bool r526)⟩,
              ⟨[0], [], [], Fct.val 103 (.bool r526)⟩,
              ⟨[1], [9], [], Fct.cond r526 (some 104) (Fct.val 104 (.slice A292 x294.length c293))⟩,
              ⟨[1], [10], [], Fct.cond r526 (some 105) (Fct.val 105 (.slice A340 y342.length c341))⟩,
              ⟨[1, 2, 3], [], [], Fct.cond r526 (some 106) (Fct.row 529 [] 106 3 R3 r527)⟩,
              ⟨[1], [13], [], Fct.cond r526 (some 107) (Fct.val 107 (.slice A393 all395.length c394))⟩,
              ⟨[1, 4, 5], [], [], Fct.cond r526 (some 108) (Fct.val 108 (.bool r530))⟩,
              ⟨[1, 6], [], [], Fct.val 109 (.bool (r526 && r530))⟩,
              ⟨[7], [], [], Fct.val 110 (.bool (r526 && r530))⟩,
              ⟨[8], [15], [], Fct.cond (r526 && r530) (some 111) (Fct.val 111 (.int .i64 r423.1))⟩,
              ⟨[8], [17], [], Fct.cond (r526 && r530) (some 112) (Fct.val 112 (.int .i64 r425.1))⟩,
              ⟨[8, 9, 10], [], [], Fct.cond (r526 && r530) (some 113) (Fct.val 113 (.bool (decide (r423.1 = r425.1))))⟩,
              ⟨[8, 11], [], [], Fct.val 114 (.bool x531)⟩,
              ⟨[12], [], [], Fct.val 115 (.bool x531)⟩,
              ⟨[13], [16], [], Fct.cond x531 (some 116) (Fct.val 116 (.bool r423.2))⟩,
              ⟨[13], [18], [], Fct.cond x531 (some 117) (Fct.val 117 (.bool r425.2))⟩,
              ⟨[13, 14, 15], [], [], Fct.cond x531 (some 118) (Fct.val 118 (.bool (r423.2 == r425.2)))⟩,
              ⟨[13, 16], [], [], Fct.val 119 (.bool (x531 && (r423.2 == r425.2)))⟩,
              ⟨[17], [], [], Fct.val 120 (.bool (x531 && (r423.2 == r425.2)))⟩,
              ⟨[18], [19], [], Fct.cond (x531 && (r423.2 == r425.2)) (some 121) (Fct.val 121 (.int .i64 r427.1))⟩,
              ⟨[18], [17], [], Fct.cond (x531 && (r423.2 == r425.2)) (some 122) (Fct.val 122 (.int .i64 r425.1))⟩,
              ⟨[18, 19, 20], [], [], Fct.cond (x531 && (r423.2 == r425.2)) (some 123) (Fct.val 123 (.bool (decide (r427.1 = r425.1))))⟩,
              ⟨[18, 21], [], [], Fct.val 124 (.bool x532)⟩,
              ⟨[22], [], [], Fct.val 125 (.bool x532)⟩,
              ⟨[23], [20], [], Fct.cond x532 (some 126) (Fct.val 126 (.int .i64 r427.2))⟩,
              ⟨[23], [17], [], Fct.cond x532 (some 127) (Fct.val 127 (.int .i64 r425.1))⟩,
              ⟨[23], [21], [], Fct.cond x532 (some 128) (Fct.val 128 (.int .i64 equal463))⟩,
              ⟨[23, 25, 26], [], [], Fct.cond x532 (some 129) (Fct.val 129 (.int .i64 (ad r425.1 equal463)))⟩,
              ⟨[23, 24, 27], [], [], Fct.cond x532 (some 130) (Fct.val 130 (.bool (decide (r427.2 = (ad r425.1 equal463)))))⟩,
              ⟨[23, 28], [], [], Fct.val 131 (.bool x533)⟩,
              ⟨[29], [], [], Fct.val 132 (.bool x533)⟩,
              ⟨[30], [9], [], Fct.cond x533 (some 133) (Fct.val 133 (.slice A292 x294.length c293))⟩,
              ⟨[30], [2], [], Fct.cond x533 (some 134) (Fct.val 134 (.int .i64 n3))⟩,
              ⟨[30], [3], [], Fct.cond x533 (some 135) (Fct.val 135 (.int .i64 m4))⟩,
              ⟨[30, 31, 32, 33], [], [], Fct.cond x533 (some 136) (Fct.val 136 (.bool r534))⟩,
              ⟨[30], [9], [], Fct.cond x533 (some 137) (Fct.val 137 (.slice A292 x294.length c293))⟩,
              ⟨[30], [2], [], Fct.cond x533 (some 138) (Fct.val 138 (.int .i64 n3))⟩,
              ⟨[30], [3], [], Fct.cond x533 (some 139) (Fct.val 139 (.int .i64 m4))⟩,
              ⟨[30, 35, 36, 37], [], [], Fct.cond x533 (some 140) (Fct.val 140 (.bool r535))⟩,
              ⟨[30, 38], [], [], Fct.cond x533 (some 141) (Fct.val 141 (.bool (!r535)))⟩,
              ⟨[30, 34, 39], [], [], Fct.cond x533 (some 142) (Fct.val 142 (.bool (r534 == (!r535))))⟩,
              ⟨[30, 40], [], [], Fct.val 143 (.bool (x533 && (r534 == (!r535))))⟩,
              ⟨[41], [], [], Fct.val 8 (.bool (x533 && (r534 == (!r535))))⟩]) (by kernel_rfl) hz498 hd498 (fun _ h => nomatch h) ?_ ?_
          · refine steps_cons (fun own a wx hf hsl hE => ?_) ?_
            · exact sg_plain rfl rfl (or_call cf10 (args0) (law04_known_w _   r526 hr526) post_val)
            refine steps_cons (fun own a wx hf hsl hE => ?_) ?_
            · obtain ⟨(f_102 : a.eval (.tmp 102) = .bool r526), -⟩ := hf
              exact sg_plain rfl rfl (or_move f_102)
            refine steps_cons (fun own a wx hf hsl hE => ?_) ?_
            · obtain ⟨(f_103 : a.eval (.tmp 103) = .bool r526), -⟩ := hf
              obtain ⟨s_9, -⟩ := hsl
              refine sg_t rfl rfl rfl f_103 (fun hg => ?_)
              exact or_move (s_9.trans e498_9)
            refine steps_cons (fun own a wx hf hsl hE => ?_) ?_
            · obtain ⟨(f_103 : a.eval (.tmp 103) = .bool r526), -⟩ := hf
              obtain ⟨s_10, -⟩ := hsl
              refine sg_t rfl rfl rfl f_103 (fun hg => ?_)
              exact or_move (s_10.trans e498_10)
            refine steps_cons (fun own a wx hf hsl hE => ?_) ?_
            · obtain ⟨(f_103 : a.eval (.tmp 103) = .bool r526), c_104, c_105, -⟩ := hf
              refine sg_t rfl rfl rfl f_103 (fun hg => ?_)
              have f_104 : a.eval (.tmp 104) = .slice A292 x294.length c293 := c_104.1 hg
              have f_105 : a.eval (.tmp 105) = .slice A340 y342.length c341 := c_105.1 hg
              exact or_call cf14 (args2 f_104 f_105) (order_Merge_w _ x294 A292 c293 y342 A340 c341 (RdO.zero (RwO.rd (RwO.evo rfl hE b498_A292))) (RdO.zero (RwO.rd (RwO.evo rfl hE b498_A340))) r527 (gd_t hr527 hg)) (post_row (m' := (look0 [(1, 529)])) (.inl (Rep.fl_flat _)) rfl rfl (fun _ => rfl))
            refine steps_cons (fun own a wx hf hsl hE => ?_) ?_
            · obtain ⟨(f_103 : a.eval (.tmp 103) = .bool r526), -⟩ := hf
              obtain ⟨s_13, -⟩ := hsl
              refine sg_t rfl rfl rfl f_103 (fun hg => ?_)
              exact or_move (s_13.trans e498_13)
            refine steps_cons (fun own a wx hf hsl hE => ?_) ?_
            · obtain ⟨(f_103 : a.eval (.tmp 103) = .bool r526), c_106, c_107, -⟩ := hf
              refine sg_t rfl rfl rfl f_103 (fun hg => ?_)
              obtain ⟨⟨A528, cA528⟩, (f_106 : a.eval (.tmp 106) = .slice A528 r527.length cA528), (b_A528 : RwO own 529 [] wx 3 R3 A528 cA528 r527)⟩ := c_106.1 hg
              have f_107 : a.eval (.tmp 107) = .slice A393 all395.length c394 := c_107.1 hg
              exact or_call cf13 (args2 f_106 f_107) (law04_Ints_w _ r527 A528 cA528 all395 A393 c394 (RdO.zero (RwO.rd b_A528)) (RdO.zero (RwO.rd (RwO.evo rfl hE b498_A393))) r530 (gd_t hr530 hg)) post_val
            refine steps_cons (fun own a wx hf hsl hE => ?_) ?_
            · obtain ⟨(f_103 : a.eval (.tmp 103) = .bool r526), c_108, -⟩ := hf
              exact sg_plain rfl rfl (or_and f_103 (fun hx => c_108.1 hx) rfl rfl)
            refine steps_cons (fun own a wx hf hsl hE => ?_) ?_
            · obtain ⟨(f_109 : a.eval (.tmp 109) = .bool (r526 && r530)), -⟩ := hf
              exact sg_plain rfl rfl (or_move f_109)
            refine steps_cons (fun own a wx hf hsl hE => ?_) ?_
            · obtain ⟨(f_110 : a.eval (.tmp 110) = .bool (r526 && r530)), -⟩ := hf
              obtain ⟨s_15, -⟩ := hsl
              refine sg_t rfl rfl rfl f_110 (fun hg => ?_)
              exact or_move (s_15.trans e498_15)
            refine steps_cons (fun own a wx hf hsl hE => ?_) ?_
            · obtain ⟨(f_110 : a.eval (.tmp 110) = .bool (r526 && r530)), -⟩ := hf
              obtain ⟨s_17, -⟩ := hsl
              refine sg_t rfl rfl rfl f_110 (fun hg => ?_)
              exact or_move (s_17.trans e498_17)
            refine steps_cons (fun own a wx hf hsl hE => ?_) ?_
            · obtain ⟨(f_110 : a.eval (.tmp 110) = .bool (r526 && r530)), c_111, c_112, -⟩ := hf
              refine sg_t rfl rfl rfl f_110 (fun hg => ?_)
              have f_111 : a.eval (.tmp 111) = .int .i64 r423.1 := c_111.1 hg
              have f_112 : a.eval (.tmp 112) = .int .i64 r425.1 := c_112.1 hg
              exact or_eql f_111 f_112 rfl
            refine steps_cons (fun own a wx hf hsl hE => ?_) ?_
            · obtain ⟨(f_110 : a.eval (.tmp 110) = .bool (r526 && r530)), c_113, -⟩ := hf
              exact sg_plain rfl rfl (or_and f_110 (fun hx => c_113.1 hx) rfl (osome hx531).symm)
            refine steps_cons (fun own a wx hf hsl hE => ?_) ?_
            · obtain ⟨(f_114 : a.eval (.tmp 114) = .bool x531), -⟩ := hf
              exact sg_plain rfl rfl (or_move f_114)
            refine steps_cons (fun own a wx hf hsl hE => ?_) ?_
            · obtain ⟨(f_115 : a.eval (.tmp 115) = .bool x531), -⟩ := hf
              obtain ⟨s_16, -⟩ := hsl
              refine sg_t rfl rfl rfl f_115 (fun hg => ?_)
              exact or_move (s_16.trans e498_16)
            refine steps_cons (fun own a wx hf hsl hE => ?_) ?_
            · obtain ⟨(f_115 : a.eval (.tmp 115) = .bool x531), -⟩ := hf
              obtain ⟨s_18, -⟩ := hsl
              refine sg_t rfl rfl rfl f_115 (fun hg => ?_)
              exact or_move (s_18.trans e498_18)
            refine steps_cons (fun own a wx hf hsl hE => ?_) ?_
            · obtain ⟨(f_115 : a.eval (.tmp 115) = .bool x531), c_116, c_117, -⟩ := hf
              refine sg_t rfl rfl rfl f_115 (fun hg => ?_)
              have f_116 : a.eval (.tmp 116) = .bool r423.2 := c_116.1 hg
              have f_117 : a.eval (.tmp 117) = .bool r425.2 := c_117.1 hg
              exact or_eqlb tb4 f_116 f_117 rfl
            refine steps_cons (fun own a wx hf hsl hE => ?_) ?_
            · obtain ⟨(f_115 : a.eval (.tmp 115) = .bool x531), c_118, -⟩ := hf
              exact sg_plain rfl rfl (or_and f_115 (fun hx => c_118.1 hx) rfl rfl)
            refine steps_cons (fun own a wx hf hsl hE => ?_) ?_
            · obtain ⟨(f_119 : a.eval (.tmp 119) = .bool (x531 && (r423.2 == r425.2))), -⟩ := hf
              exact sg_plain rfl rfl (or_move f_119)
            refine steps_cons (fun own a wx hf hsl hE => ?_) ?_
            · obtain ⟨(f_120 : a.eval (.tmp 120) = .bool (x531 && (r423.2 == r425.2))), -⟩ := hf
              obtain ⟨s_19, -⟩ := hsl
              refine sg_t rfl rfl rfl f_120 (fun hg => ?_)
              exact or_move (s_19.trans e498_19)
            refine steps_cons (fun own a wx hf hsl hE => ?_) ?_
            · obtain ⟨(f_120 : a.eval (.tmp 120) = .bool (x531 && (r423.2 == r425.2))), -⟩ := hf
              obtain ⟨s_17, -⟩ := hsl
              refine sg_t rfl rfl rfl f_120 (fun hg => ?_)
              exact or_move (s_17.trans e498_17)
            refine steps_cons (fun own a wx hf hsl hE => ?_) ?_
            · obtain ⟨(f_120 : a.eval (.tmp 120) = .bool (x531 && (r423.2 == r425.2))), c_121, c_122, -⟩ := hf
              refine sg_t rfl rfl rfl f_120 (fun hg => ?_)
              have f_121 : a.eval (.tmp 121) = .int .i64 r427.1 := c_121.1 hg
              have f_122 : a.eval (.tmp 122) = .int .i64 r425.1 := c_122.1 hg
              exact or_eql f_121 f_122 rfl
            refine steps_cons (fun own a wx hf hsl hE => ?_) ?_
            · obtain ⟨(f_120 : a.eval (.tmp 120) = .bool (x531 && (r423.2 == r425.2))), c_123, -⟩ := hf
              exact sg_plain rfl rfl (or_and f_120 (fun hx => c_123.1 hx) rfl (osome hx532).symm)
            refine steps_cons (fun own a wx hf hsl hE => ?_) ?_
            · obtain ⟨(f_124 : a.eval (.tmp 124) = .bool x532), -⟩ := hf
              exact sg_plain rfl rfl (or_move f_124)
            refine steps_cons (fun own a wx hf hsl hE => ?_) ?_
            · obtain ⟨(f_125 : a.eval (.tmp 125) = .bool x532), -⟩ := hf
              obtain ⟨s_20, -⟩ := hsl
              refine sg_t rfl rfl rfl f_125 (fun hg => ?_)
              exact or_move (s_20.trans e498_20)
            refine steps_cons (fun own a wx hf hsl hE => ?_) ?_
            · obtain ⟨(f_125 : a.eval (.tmp 125) = .bool x532), -⟩ := hf
              obtain ⟨s_17, -⟩ := hsl
              refine sg_t rfl rfl rfl f_125 (fun hg => ?_)
              exact or_move (s_17.trans e498_17)
            refine steps_cons (fun own a wx hf hsl hE => ?_) ?_
            · obtain ⟨(f_125 : a.eval (.tmp 125) = .bool x532), -⟩ := hf
              obtain ⟨s_21, -⟩ := hsl
              refine sg_t rfl rfl rfl f_125 (fun hg => ?_)
              exact or_move (s_21.trans e498_21)
            refine steps_cons (fun own a wx hf hsl hE => ?_) ?_
            · obtain ⟨(f_125 : a.eval (.tmp 125) = .bool x532), c_127, c_128, -⟩ := hf
              refine sg_t rfl rfl rfl f_125 (fun hg => ?_)
              have f_127 : a.eval (.tmp 127) = .int .i64 r425.1 := c_127.1 hg
              have f_128 : a.eval (.tmp 128) = .int .i64 equal463 := c_128.1 hg
              exact or_add f_127 f_128 rfl
            refine steps_cons (fun own a wx hf hsl hE => ?_) ?_
            · obtain ⟨(f_125 : a.eval (.tmp 125) = .bool x532), c_126, c_129, -⟩ := hf
              refine sg_t rfl rfl rfl f_125 (fun hg => ?_)
              have f_126 : a.eval (.tmp 126) = .int .i64 r427.2 := c_126.1 hg
              have f_129 : a.eval (.tmp 129) = .int .i64 (ad r425.1 equal463) := c_129.1 hg
              exact or_eql f_126 f_129 rfl
            refine steps_cons (fun own a wx hf hsl hE => ?_) ?_
            · obtain ⟨(f_125 : a.eval (.tmp 125) = .bool x532), c_130, -⟩ := hf
              exact sg_plain rfl rfl (or_and f_125 (fun hx => c_130.1 hx) rfl (osome hx533).symm)
            refine steps_cons (fun own a wx hf hsl hE => ?_) ?_
            · obtain ⟨(f_131 : a.eval (.tmp 131) = .bool x533), -⟩ := hf
              exact sg_plain rfl rfl (or_move f_131)
            refine steps_cons (fun own a wx hf hsl hE => ?_) ?_
            · obtain ⟨(f_132 : a.eval (.tmp 132) = .bool x533), -⟩ := hf
              obtain ⟨s_9, -⟩ := hsl
              refine sg_t rfl rfl rfl f_132 (fun hg => ?_)
              exact or_move (s_9.trans e498_9)
            refine steps_cons (fun own a wx hf hsl hE => ?_) ?_
            · obtain ⟨(f_132 : a.eval (.tmp 132) = .bool x533), -⟩ := hf
              obtain ⟨s_2, -⟩ := hsl
              refine sg_t rfl rfl rfl f_132 (fun hg => ?_)
              exact or_move (s_2.trans e498_2)
            refine steps_cons (fun own a wx hf hsl hE => ?_) ?_
            · obtain ⟨(f_132 : a.eval (.tmp 132) = .bool x533), -⟩ := hf
              obtain ⟨s_3, -⟩ := hsl
              refine sg_t rfl rfl rfl f_132 (fun hg => ?_)
              exact or_move (s_3.trans e498_3)
            refine steps_cons (fun own a wx hf hsl hE => ?_) ?_
            · obtain ⟨(f_132 : a.eval (.tmp 132) = .bool x533), c_133, c_134, c_135, -⟩ := hf
              refine sg_t rfl rfl rfl f_132 (fun hg => ?_)
              have f_133 : a.eval (.tmp 133) = .slice A292 x294.length c293 := c_133.1 hg
              have f_134 : a.eval (.tmp 134) = .int .i64 n3 := c_134.1 hg
              have f_135 : a.eval (.tmp 135) = .int .i64 m4 := c_135.1 hg
              exact or_call cf11 (args3 f_133 f_134 f_135) (order_Common_w _ x294 A292 c293 n3 m4 (RdO.zero (RwO.rd (RwO.evo rfl hE b498_A292))) r534 (gd_t hr534 hg)) post_val
            refine steps_cons (fun own a wx hf hsl hE => ?_) ?_
            · obtain ⟨(f_132 : a.eval (.tmp 132) = .bool x533), -⟩ := hf
              obtain ⟨s_9, -⟩ := hsl
              refine sg_t rfl rfl rfl f_132 (fun hg => ?_)
              exact or_move (s_9.trans e498_9)
            refine steps_cons (fun own a wx hf hsl hE => ?_) ?_
            · obtain ⟨(f_132 : a.eval (.tmp 132) = .bool x533), -⟩ := hf
              obtain ⟨s_2, -⟩ := hsl
              refine sg_t rfl rfl rfl f_132 (fun hg => ?_)
              exact or_move (s_2.trans e498_2)
            refine steps_cons (fun own a wx hf hsl hE => ?_) ?_
            · obtain ⟨(f_132 : a.eval (.tmp 132) = .bool x533), -⟩ := hf
              obtain ⟨s_3, -⟩ := hsl
              refine sg_t rfl rfl rfl f_132 (fun hg => ?_)
              exact or_move (s_3.trans e498_3)
            refine steps_cons (fun own a wx hf hsl hE => ?_) ?_
            · obtain ⟨(f_132 : a.eval (.tmp 132) = .bool x533), c_137, c_138, c_139, -⟩ := hf
              refine sg_t rfl rfl rfl f_132 (fun hg => ?_)
              have f_137 : a.eval (.tmp 137) = .slice A292 x294.length c293 := c_137.1 hg
              have f_138 : a.eval (.tmp 138) = .int .i64 n3 := c_138.1 hg
              have f_139 : a.eval (.tmp 139) = .int .i64 m4 := c_139.1 hg
              exact or_call cf15 (args3 f_137 f_138 f_139) (ref04_Apart_w _ x294 A292 c293 n3 m4 (RdO.zero (RwO.rd (RwO.evo rfl hE b498_A292))) r535 (gd_t hr535 hg)) post_val
            refine steps_cons (fun own a wx hf hsl hE => ?_) ?_
            · obtain ⟨(f_132 : a.eval (.tmp 132) = .bool x533), c_140, -⟩ := hf
              refine sg_t rfl rfl rfl f_132 (fun hg => ?_)
              have f_140 : a.eval (.tmp 140) = .bool r535 := c_140.1 hg
              exact or_not f_140 rfl
            refine steps_cons (fun own a wx hf hsl hE => ?_) ?_
            · obtain ⟨(f_132 : a.eval (.tmp 132) = .bool x533), c_136, c_141, -⟩ := hf
              refine sg_t rfl rfl rfl f_132 (fun hg => ?_)
              have f_136 : a.eval (.tmp 136) = .bool r534 := c_136.1 hg
              have f_141 : a.eval (.tmp 141) = .bool (!r535) := c_141.1 hg
              exact or_eqlb tb4 f_136 f_141 rfl
            refine steps_cons (fun own a wx hf hsl hE => ?_) ?_
            · obtain ⟨(f_132 : a.eval (.tmp 132) = .bool x533), c_142, -⟩ := hf
              exact sg_plain rfl rfl (or_and f_132 (fun hx => c_142.1 hx) rfl rfl)
            refine steps_cons (fun own a wx hf hsl hE => ?_) ?_
            · obtain ⟨(f_143 : a.eval (.tmp 143) = .bool (x533 && (r534 == (!r535)))), -⟩ := hf
              exact sg_plain rfl rfl (or_assign f_143)
            exact steps_nil
          intro own536 a536 w536 hd536 hz536 hk536 hf536 hE536
          obtain ⟨(f_8 : a536.eval (.tmp 8) = .bool (x533 && (r534 == (!r535)))), -⟩ := hf536 [42] rfl
          have e536_8 := f_8
          have hX536 := Evo.step hX498 (fun _ => Nat.le_refl 0) hE536 rfl
          refine fl_ret ?_
          obtain rfl := osome hs
          exact hret _ _ _ _ (.inl rfl) hd536 (results1_ rfl (RVal.tmp_ e536_8)) ⟨own536, rfl, hX536⟩

end Go.Proofs.Ythbjlgklmamhjaa
