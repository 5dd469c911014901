/-
  Chapter 06. The walks.
-/
import Derived.Test.YtajbjhcnppiloaaWp3
import Derived.Test.YtajbjhcnppiloaaSp4
namespace Go.Proofs.Ytajbjhcnppiloaa
open Go.RowKit
set_option linter.unusedVariables false
theorem ref01_Sign_w (w : World) (n1 : Int) (r : Int) (hs : ref01_Sign n1 = some r) :
    Calls Try.prog 33 #[.int .i64 n1] w fun e w' => ∃ own' : Own, e = .returned (.int .i64 r) ∧ Evo [] (fun _ => 0) own' w w' := by
  refine fl_enter (n := 7) rfl rfl rfl (Nat.le_of_ble_eq_true rfl) ?_
  intro a0 Q hd0 hz0 harg hret
  have ha0 := harg 0 _ rfl
  clear harg
  have hE0 : Evo [] (fun _ => 0) (fun _ => 0) w w := Evo.refl _ _ _
  refine rg_plain_seq (n := 7) (rs := []) (own0 := (fun _ => 0)) (K := [])
      (bs := [0])
      (ds := [⟨[], [], [], Fct.val 2 (.int .i64 0)⟩]) (by kernel_rfl) hz0 hd0 (fun _ h => nomatch h) ?_ ?_
  · refine steps_cons (fun own a wx hf hsl hE => ?_) ?_
    · exact sg_plain rfl rfl (or_assign rfl)
    exact steps_nil
  intro own21 a21 w21 hd21 hz21 hk21 hf21 hE21
  have e21_0 : a21.eval (.tmp 0) = .int .i64 n1 := (hk21 0 rfl).trans ha0
  have hX21 := Evo.step hE0 (fun _ => Nat.le_refl 0) hE21 rfl
  refine fl_seq (fun Q22 hn22 hp22 => ?_)
  refine rg_plain_seq (n := 7) (rs := []) (own0 := own21) (K := [])
      (bs := [0, 1])
      (ds := [⟨[], [0], [], Fct.val 3 (.int .i64 n1)⟩,
      ⟨[0], [], [], Fct.val 4 (.bool (decide (0 < n1)))⟩]) (by kernel_rfl) hz21 hd21 (fun _ h => nomatch h) ?_ ?_
  · refine steps_cons (fun own a wx hf hsl hE => ?_) ?_
    · obtain ⟨s_0, -⟩ := hsl
      exact sg_plain rfl rfl (or_move (s_0.trans e21_0))
    refine steps_cons (fun own a wx hf hsl hE => ?_) ?_
    · obtain ⟨(f_3 : a.eval (.tmp 3) = .int .i64 n1), -⟩ := hf
      exact sg_plain rfl rfl (or_gtr f_3 rfl rfl)
    exact steps_nil
  intro own23 a23 w23 hd23 hz23 hk23 hf23 hE23
  have e23_0 : a23.eval (.tmp 0) = .int .i64 n1 := (hk23 0 rfl).trans e21_0
  obtain ⟨(f_4 : a23.eval (.tmp 4) = .bool (decide (0 < n1))), -⟩ := hf23 [1] rfl
  have e23_4 := f_4
  have hX23 := Evo.step hX21 (fun _ => Nat.le_refl 0) hE23 rfl
  refine fl_cond e23_4 hs (fun c24 hs => ?_) (fun c24 hs => ?_)
  · refine rg_plain_seq (n := 7) (rs := []) (own0 := own23) (K := [])
        (bs := [0])
        (ds := [⟨[], [], [], Fct.val 2 (.int .i64 1)⟩]) (by kernel_rfl) hz23 hd23 (fun _ h => nomatch h) ?_ ?_
    · refine steps_cons (fun own a wx hf hsl hE => ?_) ?_
      · exact sg_plain rfl rfl (or_assign rfl)
      exact steps_nil
    intro own25 a25 w25 hd25 hz25 hk25 hf25 hE25
    obtain ⟨(f_2 : a25.eval (.tmp 2) = .int .i64 1), -⟩ := hf25 [0] rfl
    have e25_2 := f_2
    have hX25 := Evo.step hX23 (fun _ => Nat.le_refl 0) hE25 rfl
    refine fl_ret ?_
    refine hp22 _ _ _ rfl ?_
    obtain rfl := osome hs
    exact hret _ _ _ _ (.inl rfl) hd25 (results1_ rfl (RVal.tmp_ e25_2)) ⟨own25, rfl, hX25⟩
  refine fl_skip ?_
  refine hn22 _ _ ?_
  refine fl_seq (fun Q26 hn26 hp26 => ?_)
  refine rg_plain_seq (n := 7) (rs := []) (own0 := own23) (K := [])
      (bs := [0, 1])
      (ds := [⟨[], [0], [], Fct.val 5 (.int .i64 n1)⟩,
      ⟨[0], [], [], Fct.val 6 (.bool (decide (n1 < 0)))⟩]) (by kernel_rfl) hz23 hd23 (fun _ h => nomatch h) ?_ ?_
  · refine steps_cons (fun own a wx hf hsl hE => ?_) ?_
    · obtain ⟨s_0, -⟩ := hsl
      exact sg_plain rfl rfl (or_move (s_0.trans e23_0))
    refine steps_cons (fun own a wx hf hsl hE => ?_) ?_
    · obtain ⟨(f_5 : a.eval (.tmp 5) = .int .i64 n1), -⟩ := hf
      exact sg_plain rfl rfl (or_lss f_5 rfl rfl)
    exact steps_nil
  intro own27 a27 w27 hd27 hz27 hk27 hf27 hE27
  obtain ⟨(f_6 : a27.eval (.tmp 6) = .bool (decide (n1 < 0))), -⟩ := hf27 [1] rfl
  have e27_6 := f_6
  have hX27 := Evo.step hX23 (fun _ => Nat.le_refl 0) hE27 rfl
  refine fl_cond e27_6 hs (fun c28 hs => ?_) (fun c28 hs => ?_)
  · refine rg_plain_seq (n := 7) (rs := []) (own0 := own27) (K := [])
        (bs := [0])
        (ds := [⟨[], [], [], Fct.val 2 (.int .i64 (-1))⟩]) (by kernel_rfl) hz27 hd27 (fun _ h => nomatch h) ?_ ?_
    · refine steps_cons (fun own a wx hf hsl hE => ?_) ?_
      · exact sg_plain rfl rfl (or_assign rfl)
      exact steps_nil
    intro own29 a29 w29 hd29 hz29 hk29 hf29 hE29
    obtain ⟨(f_2 : a29.eval (.tmp 2) = .int .i64 (-1)), -⟩ := hf29 [0] rfl
    have e29_2 := f_2
    have hX29 := Evo.step hX27 (fun _ => Nat.le_refl 0) hE29 rfl
    refine fl_ret ?_
    refine hp26 _ _ _ rfl ?_
    obtain rfl := osome hs
    exact hret _ _ _ _ (.inl rfl) hd29 (results1_ rfl (RVal.tmp_ e29_2)) ⟨own29, rfl, hX29⟩
  refine fl_skip ?_
  refine hn26 _ _ ?_
  refine rg_plain_seq (n := 7) (rs := []) (own0 := own27) (K := [])
      (bs := [0])
      (ds := [⟨[], [], [], Fct.val 2 (.int .i64 0)⟩]) (by kernel_rfl) hz27 hd27 (fun _ h => nomatch h) ?_ ?_
  · refine steps_cons (fun own a wx hf hsl hE => ?_) ?_
    · exact sg_plain rfl rfl (or_assign rfl)
    exact steps_nil
  intro own30 a30 w30 hd30 hz30 hk30 hf30 hE30
  obtain ⟨(f_2 : a30.eval (.tmp 2) = .int .i64 0), -⟩ := hf30 [0] rfl
  have e30_2 := f_2
  have hX30 := Evo.step hX27 (fun _ => Nat.le_refl 0) hE30 rfl
  refine fl_ret ?_
  obtain rfl := osome hs
  exact hret _ _ _ _ (.inl rfl) hd30 (results1_ rfl (RVal.tmp_ e30_2)) ⟨own30, rfl, hX30⟩

theorem ref04_Compare_w (w : World) (x1 : List Int) (Ax1 : Option Addr) (cx1 : Nat) (b2 : List Int) (Ab2 : Option Addr) (cb2 : Nat) (hx1 : RdO (fun _ => 0) [0] w R3 Ax1 cx1 x1) (hb2 : RdO (fun _ => 0) [0] w R3 Ab2 cb2 b2) (r : Int) (hs : ref04_Compare x1 b2 = some r) :
    Calls Try.prog 27 #[.slice Ax1 x1.length cx1, .slice Ab2 b2.length cb2] w fun e w' => ∃ own' : Own, e = .returned (.int .i64 r) ∧ Evo [] (fun _ => 0) own' w w' := by
  refine fl_enter (n := 42) rfl rfl rfl (Nat.le_of_ble_eq_true rfl) ?_
  intro a0 Q hd0 hz0 harg hret
  have ha0 := harg 0 _ rfl
  have ha1 := harg 1 _ rfl
  clear harg
  have hE0 : Evo [] (fun _ => 0) (fun _ => 0) w w := Evo.refl _ _ _
  refine rg_plain_seq (n := 42) (rs := []) (own0 := (fun _ => 0)) (K := [])
      (bs := [0])
      (ds := [⟨[], [], [], Fct.val 4 (.int .i64 0)⟩]) (by kernel_rfl) hz0 hd0 (fun _ h => nomatch h) ?_ ?_
  · refine steps_cons (fun own a wx hf hsl hE => ?_) ?_
    · exact sg_plain rfl rfl (or_assign rfl)
    exact steps_nil
  intro own77 a77 w77 hd77 hz77 hk77 hf77 hE77
  have e77_0 : a77.eval (.tmp 0) = .slice Ax1 x1.length cx1 := (hk77 0 rfl).trans ha0
  have e77_1 : a77.eval (.tmp 1) = .slice Ab2 b2.length cb2 := (hk77 1 rfl).trans ha1
  have hX77 := Evo.step hE0 (fun _ => Nat.le_refl 0) hE77 rfl
  have b77_Ax1 := RdO.evo rfl hE77 hx1
  have b77_Ab2 := RdO.evo rfl hE77 hb2
  refine fl_seq (fun Q78 hn78 hp78 => ?_)
  refine rg_plain_seq (n := 42) (rs := []) (own0 := own77) (K := [])
      (bs := [0])
      (ds := [⟨[], [], [], Fct.val 5 (.int .i64 0)⟩]) (by kernel_rfl) hz77 hd77 (fun _ h => nomatch h) ?_ ?_
  · refine steps_cons (fun own a wx hf hsl hE => ?_) ?_
    · exact sg_plain rfl rfl (or_assign rfl)
    exact steps_nil
  intro own79 a79 w79 hd79 hz79 hk79 hf79 hE79
  have e79_0 : a79.eval (.tmp 0) = .slice Ax1 x1.length cx1 := (hk79 0 rfl).trans e77_0
  have e79_1 : a79.eval (.tmp 1) = .slice Ab2 b2.length cb2 := (hk79 1 rfl).trans e77_1
  obtain ⟨(f_5 : a79.eval (.tmp 5) = .int .i64 0), -⟩ := hf79 [0] rfl
  have e79_5 := f_5
  have hX79 := Evo.step hX77 (fun _ => Nat.le_refl 0) hE79 rfl
  have b79_Ax1 := RdO.evo rfl hE79 b77_Ax1
  have b79_Ab2 := RdO.evo rfl hE79 b77_Ab2
  refine fl_block (fun Q80 hn80 hx80 hp80 => ?_)
  refine fl_loop (body := (fun s => ref04_Compare_b1 x1 b2 s)) (z := r) (show loopO _ _ = _ from hs) (fun (i100 : Int) a wx => ∃ (ox : Own), a.defers = [] ∧ a.tmps.size = 42 ∧ a.eval (.tmp 0) = .slice Ax1 x1.length cx1 ∧ a.eval (.tmp 1) = .slice Ab2 b2.length cb2 ∧ a.eval (.tmp 5) = .int .i64 i100 ∧ Evo [] (fun _ => 0) ox w wx ∧ RdO ox [0] wx R3 Ax1 cx1 x1 ∧ RdO ox [0] wx R3 Ab2 cb2 b2) ?_ ?_
  · exact ⟨own79, hd79, hz79, e79_0, e79_1, e79_5, hX79, b79_Ax1, b79_Ab2⟩
  · rintro i100 zz120 a120 w120 ⟨own120, hd121, hz121, e121_0, e121_1, e121_5, hE121, b121_Ax1, b121_Ab2⟩ hs Q120 hn120 hp120 hz120
    have hs : ref04_Compare_b1 x1 b2 i100 = some zz120 := hs
    refine fl_seq (fun Q122 hn122 hp122 => ?_)
    obtain ⟨x123, hx123, hs⟩ := obind hs
    refine rg_plain_seq (n := 42) (rs := []) (own0 := own120) (K := [])
        (bs := [0, 0, 2, 7, 15, 31, 31, 95, 255, 511])
        (ds := [⟨[], [5], [], Fct.val 6 (.int .i64 i100)⟩,
        ⟨[], [0], [], Fct.val 7 (.slice Ax1 x1.length cx1)⟩,
        ⟨[1], [], [], Fct.val 8 (.int .i64 (x1.length : Int))⟩,
        ⟨[0, 2], [], [], Fct.val 9 (.bool (decide (i100 < (x1.length : Int))))⟩,
        ⟨[3], [], [], Fct.val 10 (.bool (decide (i100 < (x1.length : Int))))⟩,
        ⟨[4], [5], [], Fct.cond (decide (i100 < (x1.length : Int))) (some 11) (Fct.val 11 (.int .i64 i100))⟩,
        ⟨[4], [1], [], Fct.cond (decide (i100 < (x1.length : Int))) (some 12) (Fct.val 12 (.slice Ab2 b2.length cb2))⟩,
        ⟨[4, 6], [], [], Fct.cond (decide (i100 < (x1.length : Int))) (some 13) (Fct.val 13 (.int .i64 (b2.length : Int)))⟩,
        ⟨[4, 5, 7], [], [], Fct.cond (decide (i100 < (x1.length : Int))) (some 14) (Fct.val 14 (.bool (decide (i100 < (b2.length : Int)))))⟩,
        ⟨[4, 8], [], [], Fct.val 15 (.bool x123)⟩]) (by kernel_rfl) hz121 hd121 (fun _ h => nomatch h) ?_ ?_
    · refine steps_cons (fun own a wx hf hsl hE => ?_) ?_
      · obtain ⟨s_5, -⟩ := hsl
        exact sg_plain rfl rfl (or_move (s_5.trans e121_5))
      refine steps_cons (fun own a wx hf hsl hE => ?_) ?_
      · obtain ⟨s_0, -⟩ := hsl
        exact sg_plain rfl rfl (or_move (s_0.trans e121_0))
      refine steps_cons (fun own a wx hf hsl hE => ?_) ?_
      · obtain ⟨(f_7 : a.eval (.tmp 7) = .slice Ax1 x1.length cx1), -⟩ := hf
        exact sg_plain rfl rfl (or_len tu33 f_7 rfl)
      refine steps_cons (fun own a wx hf hsl hE => ?_) ?_
      · obtain ⟨(f_6 : a.eval (.tmp 6) = .int .i64 i100), (f_8 : a.eval (.tmp 8) = .int .i64 (x1.length : Int)), -⟩ := hf
        exact sg_plain rfl rfl (or_lss f_6 f_8 rfl)
      refine steps_cons (fun own a wx hf hsl hE => ?_) ?_
      · obtain ⟨(f_9 : a.eval (.tmp 9) = .bool (decide (i100 < (x1.length : Int)))), -⟩ := hf
        exact sg_plain rfl rfl (or_move f_9)
      refine steps_cons (fun own a wx hf hsl hE => ?_) ?_
      · obtain ⟨(f_10 : a.eval (.tmp 10) = .bool (decide (i100 < (x1.length : Int)))), -⟩ := hf
        obtain ⟨s_5, -⟩ := hsl
        refine sg_t rfl rfl rfl f_10 (fun hg => ?_)
        exact or_move (s_5.trans e121_5)
      refine steps_cons (fun own a wx hf hsl hE => ?_) ?_
      · obtain ⟨(f_10 : a.eval (.tmp 10) = .bool (decide (i100 < (x1.length : Int)))), -⟩ := hf
        obtain ⟨s_1, -⟩ := hsl
        refine sg_t rfl rfl rfl f_10 (fun hg => ?_)
        exact or_move (s_1.trans e121_1)
      refine steps_cons (fun own a wx hf hsl hE => ?_) ?_
      · obtain ⟨(f_10 : a.eval (.tmp 10) = .bool (decide (i100 < (x1.length : Int)))), c_12, -⟩ := hf
        refine sg_t rfl rfl rfl f_10 (fun hg => ?_)
        have f_12 : a.eval (.tmp 12) = .slice Ab2 b2.length cb2 := c_12.1 hg
        exact or_len tu33 f_12 rfl
      refine steps_cons (fun own a wx hf hsl hE => ?_) ?_
      · obtain ⟨(f_10 : a.eval (.tmp 10) = .bool (decide (i100 < (x1.length : Int)))), c_11, c_13, -⟩ := hf
        refine sg_t rfl rfl rfl f_10 (fun hg => ?_)
        have f_11 : a.eval (.tmp 11) = .int .i64 i100 := c_11.1 hg
        have f_13 : a.eval (.tmp 13) = .int .i64 (b2.length : Int) := c_13.1 hg
        exact or_lss f_11 f_13 rfl
      refine steps_cons (fun own a wx hf hsl hE => ?_) ?_
      · obtain ⟨(f_10 : a.eval (.tmp 10) = .bool (decide (i100 < (x1.length : Int)))), c_14, -⟩ := hf
        exact sg_plain rfl rfl (or_and f_10 (fun hx => c_14.1 hx) rfl (osome hx123).symm)
      exact steps_nil
    intro own124 a124 w124 hd124 hz124 hk124 hf124 hE124
    have e124_0 : a124.eval (.tmp 0) = .slice Ax1 x1.length cx1 := (hk124 0 rfl).trans e121_0
    have e124_1 : a124.eval (.tmp 1) = .slice Ab2 b2.length cb2 := (hk124 1 rfl).trans e121_1
    have e124_5 : a124.eval (.tmp 5) = .int .i64 i100 := (hk124 5 rfl).trans e121_5
    obtain ⟨(f_15 : a124.eval (.tmp 15) = .bool x123), -⟩ := hf124 [9] rfl
    have e124_15 := f_15
    have hX124 := Evo.step hE121 (fun _ => Nat.le_refl 0) hE124 rfl
    have b124_Ax1 := RdO.evo rfl hE124 b121_Ax1
    have b124_Ab2 := RdO.evo rfl hE124 b121_Ab2
    refine fl_cond e124_15 hs (fun c125 hs => ?_) (fun c125 hs => ?_)
    · refine fl_skip ?_
      refine hn122 _ _ ?_
      refine fl_seq (fun Q126 hn126 hp126 => ?_)
      refine fl_block (fun Q127 hn127 hx127 hp127 => ?_)
      refine fl_seq (fun Q128 hn128 hp128 => ?_)
      obtain ⟨x129, hx129, hs⟩ := obind hs
      obtain ⟨x130, hx130, hs⟩ := obind hs
      refine rg_draw_seq g_mixed (n := 42) (rs := []) (own0 := own124) (K := [])
          (bs := [0, 0, 3, 7, 0, 0, 48, 112, 255])
          (ds := [⟨[], [0], [], Fct.val 18 (.slice Ax1 x1.length cx1)⟩,
          ⟨[], [5], [], Fct.val 19 (.int .i64 i100)⟩,
          ⟨[0, 1], [], [], Fct.val 20 (.pointer (some ((adr Ax1).add ((i100 : Int).toNat * R3.s))))⟩,
          ⟨[2], [], [], Fct.val 21 (.int .i64 x129)⟩,
          ⟨[], [1], [], Fct.val 22 (.slice Ab2 b2.length cb2)⟩,
          ⟨[], [5], [], Fct.val 23 (.int .i64 i100)⟩,
          ⟨[4, 5], [], [], Fct.val 24 (.pointer (some ((adr Ab2).add ((i100 : Int).toNat * R3.s))))⟩,
          ⟨[6], [], [], Fct.val 25 (.int .i64 x130)⟩,
          ⟨[3, 7], [], [], Fct.val 26 (.bool (decide (x129 < x130)))⟩]) (by kernel_rfl) hz124 hd124 (fun _ h => nomatch h) ?_ ?_
      · refine steps_cons (fun own a wx hf hsl hE => ?_) ?_
        · obtain ⟨s_0, -⟩ := hsl
          exact sg_plain rfl rfl (or_move (s_0.trans e124_0))
        refine steps_cons (fun own a wx hf hsl hE => ?_) ?_
        · obtain ⟨s_5, -⟩ := hsl
          exact sg_plain rfl rfl (or_move (s_5.trans e124_5))
        refine steps_cons (fun own a wx hf hsl hE => ?_) ?_
        · obtain ⟨(f_18 : a.eval (.tmp 18) = .slice Ax1 x1.length cx1), (f_19 : a.eval (.tmp 19) = .int .i64 i100), -⟩ := hf
          exact sg_plain rfl rfl (or_index (R := R3) (l := x1) tl33 f_18 f_19 (RdO.some_ b124_Ax1 hx129) hx129)
        refine steps_cons (fun own a wx hf hsl hE => ?_) ?_
        · obtain ⟨(f_20 : a.eval (.tmp 20) = .pointer (some ((adr Ax1).add ((i100 : Int).toNat * R3.s)))), -⟩ := hf
          exact sg_plain rfl rfl (or_load1 to3 f_20 (CellsAt.zero (RdO.cells (F := E3) (RdO.evo rfl hE b124_Ax1) hx129) rfl))
        refine steps_cons (fun own a wx hf hsl hE => ?_) ?_
        · obtain ⟨s_1, -⟩ := hsl
          exact sg_plain rfl rfl (or_move (s_1.trans e124_1))
        refine steps_cons (fun own a wx hf hsl hE => ?_) ?_
        · obtain ⟨s_5, -⟩ := hsl
          exact sg_plain rfl rfl (or_move (s_5.trans e124_5))
        refine steps_cons (fun own a wx hf hsl hE => ?_) ?_
        · obtain ⟨(f_22 : a.eval (.tmp 22) = .slice Ab2 b2.length cb2), (f_23 : a.eval (.tmp 23) = .int .i64 i100), -⟩ := hf
          exact sg_plain rfl rfl (or_index (R := R3) (l := b2) tl33 f_22 f_23 (RdO.some_ b124_Ab2 hx130) hx130)
        refine steps_cons (fun own a wx hf hsl hE => ?_) ?_
        · obtain ⟨(f_24 : a.eval (.tmp 24) = .pointer (some ((adr Ab2).add ((i100 : Int).toNat * R3.s)))), -⟩ := hf
          exact sg_plain rfl rfl (or_load1 to3 f_24 (CellsAt.zero (RdO.cells (F := E3) (RdO.evo rfl hE b124_Ab2) hx130) rfl))
        refine steps_cons (fun own a wx hf hsl hE => ?_) ?_
        · obtain ⟨(f_21 : a.eval (.tmp 21) = .int .i64 x129), (f_25 : a.eval (.tmp 25) = .int .i64 x130), -⟩ := hf
          exact sg_plain rfl rfl (or_lss f_21 f_25 rfl)
        exact steps_nil
      intro own131 a131 w131 hd131 hz131 hk131 hf131 hE131
      have e131_0 : a131.eval (.tmp 0) = .slice Ax1 x1.length cx1 := (hk131 0 rfl).trans e124_0
      have e131_1 : a131.eval (.tmp 1) = .slice Ab2 b2.length cb2 := (hk131 1 rfl).trans e124_1
      have e131_5 : a131.eval (.tmp 5) = .int .i64 i100 := (hk131 5 rfl).trans e124_5
      obtain ⟨(f_26 : a131.eval (.tmp 26) = .bool (decide (x129 < x130))), -⟩ := hf131 [8] rfl
      have e131_26 := f_26
      have hX131 := Evo.step hX124 (fun _ => Nat.le_refl 0) hE131 rfl
      have b131_Ax1 := RdO.evo rfl hE131 b124_Ax1
      have b131_Ab2 := RdO.evo rfl hE131 b124_Ab2
      refine fl_cond e131_26 hs (fun c132 hs => ?_) (fun c132 hs => ?_)
      · refine rg_plain_seq (n := 42) (rs := []) (own0 := own131) (K := [])
            (bs := [0])
            (ds := [⟨[], [], [], Fct.val 4 (.int .i64 (-1))⟩]) (by kernel_rfl) hz131 hd131 (fun _ h => nomatch h) ?_ ?_
        · refine steps_cons (fun own a wx hf hsl hE => ?_) ?_
          · exact sg_plain rfl rfl (or_assign rfl)
          exact steps_nil
        intro own133 a133 w133 hd133 hz133 hk133 hf133 hE133
        obtain ⟨(f_4 : a133.eval (.tmp 4) = .int .i64 (-1)), -⟩ := hf133 [0] rfl
        have e133_4 := f_4
        have hX133 := Evo.step hX131 (fun _ => Nat.le_refl 0) hE133 rfl
        refine fl_ret ?_
        refine hp128 _ _ _ rfl ?_
        refine hp127 _ _ _ rfl ?_
        refine hp126 _ _ _ rfl ?_
        replace hs := hz120 _ hs
        refine hp120 _ _ _ rfl ?_
        refine hp80 _ _ _ rfl ?_
        refine hp78 _ _ _ rfl ?_
        obtain rfl := osome hs
        exact hret _ _ _ _ (.inl rfl) hd133 (results1_ rfl (RVal.tmp_ e133_4)) ⟨own133, rfl, hX133⟩
      refine fl_skip ?_
      refine hn128 _ _ ?_
      obtain ⟨x134, hx134, hs⟩ := obind hs
      obtain ⟨x135, hx135, hs⟩ := obind hs
      refine rg_draw_seq g_mixed (n := 42) (rs := []) (own0 := own131) (K := [])
          (bs := [0, 0, 3, 7, 0, 0, 48, 112, 255])
          (ds := [⟨[], [0], [], Fct.val 27 (.slice Ax1 x1.length cx1)⟩,
          ⟨[], [5], [], Fct.val 28 (.int .i64 i100)⟩,
          ⟨[0, 1], [], [], Fct.val 29 (.pointer (some ((adr Ax1).add ((i100 : Int).toNat * R3.s))))⟩,
          ⟨[2], [], [], Fct.val 30 (.int .i64 x134)⟩,
          ⟨[], [1], [], Fct.val 31 (.slice Ab2 b2.length cb2)⟩,
          ⟨[], [5], [], Fct.val 32 (.int .i64 i100)⟩,
          ⟨[4, 5], [], [], Fct.val 33 (.pointer (some ((adr Ab2).add ((i100 : Int).toNat * R3.s))))⟩,
          ⟨[6], [], [], Fct.val 34 (.int .i64 x135)⟩,
          ⟨[3, 7], [], [], Fct.val 35 (.bool (decide (x135 < x134)))⟩]) (by kernel_rfl) hz131 hd131 (fun _ h => nomatch h) ?_ ?_
      · refine steps_cons (fun own a wx hf hsl hE => ?_) ?_
        · obtain ⟨s_0, -⟩ := hsl
          exact sg_plain rfl rfl (or_move (s_0.trans e131_0))
        refine steps_cons (fun own a wx hf hsl hE => ?_) ?_
        · obtain ⟨s_5, -⟩ := hsl
          exact sg_plain rfl rfl (or_move (s_5.trans e131_5))
        refine steps_cons (fun own a wx hf hsl hE => ?_) ?_
        · obtain ⟨(f_27 : a.eval (.tmp 27) = .slice Ax1 x1.length cx1), (f_28 : a.eval (.tmp 28) = .int .i64 i100), -⟩ := hf
          exact sg_plain rfl rfl (or_index (R := R3) (l := x1) tl33 f_27 f_28 (RdO.some_ b131_Ax1 hx134) hx134)
        refine steps_cons (fun own a wx hf hsl hE => ?_) ?_
        · obtain ⟨(f_29 : a.eval (.tmp 29) = .pointer (some ((adr Ax1).add ((i100 : Int).toNat * R3.s)))), -⟩ := hf
          exact sg_plain rfl rfl (or_load1 to3 f_29 (CellsAt.zero (RdO.cells (F := E3) (RdO.evo rfl hE b131_Ax1) hx134) rfl))
        refine steps_cons (fun own a wx hf hsl hE => ?_) ?_
        · obtain ⟨s_1, -⟩ := hsl
          exact sg_plain rfl rfl (or_move (s_1.trans e131_1))
        refine steps_cons (fun own a wx hf hsl hE => ?_) ?_
        · obtain ⟨s_5, -⟩ := hsl
          exact sg_plain rfl rfl (or_move (s_5.trans e131_5))
        refine steps_cons (fun own a wx hf hsl hE => ?_) ?_
        · obtain ⟨(f_31 : a.eval (.tmp 31) = .slice Ab2 b2.length cb2), (f_32 : a.eval (.tmp 32) = .int .i64 i100), -⟩ := hf
          exact sg_plain rfl rfl (or_index (R := R3) (l := b2) tl33 f_31 f_32 (RdO.some_ b131_Ab2 hx135) hx135)
        refine steps_cons (fun own a wx hf hsl hE => ?_) ?_
        · obtain ⟨(f_33 : a.eval (.tmp 33) = .pointer (some ((adr Ab2).add ((i100 : Int).toNat * R3.s)))), -⟩ := hf
          exact sg_plain rfl rfl (or_load1 to3 f_33 (CellsAt.zero (RdO.cells (F := E3) (RdO.evo rfl hE b131_Ab2) hx135) rfl))
        refine steps_cons (fun own a wx hf hsl hE => ?_) ?_
        · obtain ⟨(f_30 : a.eval (.tmp 30) = .int .i64 x134), (f_34 : a.eval (.tmp 34) = .int .i64 x135), -⟩ := hf
          exact sg_plain rfl rfl (or_gtr f_30 f_34 rfl)
        exact steps_nil
      intro own136 a136 w136 hd136 hz136 hk136 hf136 hE136
      have e136_0 : a136.eval (.tmp 0) = .slice Ax1 x1.length cx1 := (hk136 0 rfl).trans e131_0
      have e136_1 : a136.eval (.tmp 1) = .slice Ab2 b2.length cb2 := (hk136 1 rfl).trans e131_1
      have e136_5 : a136.eval (.tmp 5) = .int .i64 i100 := (hk136 5 rfl).trans e131_5
      obtain ⟨(f_35 : a136.eval (.tmp 35) = .bool (decide (x135 < x134))), -⟩ := hf136 [8] rfl
      have e136_35 := f_35
      have hX136 := Evo.step hX131 (fun _ => Nat.le_refl 0) hE136 rfl
      have b136_Ax1 := RdO.evo rfl hE136 b131_Ax1
      have b136_Ab2 := RdO.evo rfl hE136 b131_Ab2
      refine fl_cond e136_35 hs (fun c137 hs => ?_) (fun c137 hs => ?_)
      · refine rg_plain_seq (n := 42) (rs := []) (own0 := own136) (K := [])
            (bs := [0])
            (ds := [⟨[], [], [], Fct.val 4 (.int .i64 1)⟩]) (by kernel_rfl) hz136 hd136 (fun _ h => nomatch h) ?_ ?_
        · refine steps_cons (fun own a wx hf hsl hE => ?_) ?_
          · exact sg_plain rfl rfl (or_assign rfl)
          exact steps_nil
        intro own138 a138 w138 hd138 hz138 hk138 hf138 hE138
        obtain ⟨(f_4 : a138.eval (.tmp 4) = .int .i64 1), -⟩ := hf138 [0] rfl
        have e138_4 := f_4
        have hX138 := Evo.step hX136 (fun _ => Nat.le_refl 0) hE138 rfl
        refine fl_ret ?_
        refine hp127 _ _ _ rfl ?_
        refine hp126 _ _ _ rfl ?_
        replace hs := hz120 _ hs
        refine hp120 _ _ _ rfl ?_
        refine hp80 _ _ _ rfl ?_
        refine hp78 _ _ _ rfl ?_
        obtain rfl := osome hs
        exact hret _ _ _ _ (.inl rfl) hd138 (results1_ rfl (RVal.tmp_ e138_4)) ⟨own138, rfl, hX138⟩
      refine fl_skip ?_
      refine hn127 _ _ ?_
      refine hn126 _ _ ?_
      refine rg_plain (n := 42) (rs := []) (own0 := own136) (K := [])
          (bs := [0, 1, 3])
          (ds := [⟨[], [5], [], Fct.val 16 (.int .i64 i100)⟩,
          ⟨[0], [], [], Fct.val 17 (.int .i64 (ad i100 1))⟩,
          ⟨[1], [], [], Fct.val 5 (.int .i64 (ad i100 1))⟩]) (by kernel_rfl) hz136 hd136 (fun _ h => nomatch h) ?_ ?_
      · refine steps_cons (fun own a wx hf hsl hE => ?_) ?_
        · obtain ⟨s_5, -⟩ := hsl
          exact sg_plain rfl rfl (or_move (s_5.trans e136_5))
        refine steps_cons (fun own a wx hf hsl hE => ?_) ?_
        · obtain ⟨(f_16 : a.eval (.tmp 16) = .int .i64 i100), -⟩ := hf
          exact sg_plain rfl rfl (or_add f_16 rfl rfl)
        refine steps_cons (fun own a wx hf hsl hE => ?_) ?_
        · obtain ⟨(f_17 : a.eval (.tmp 17) = .int .i64 (ad i100 1)), -⟩ := hf
          exact sg_plain rfl rfl (or_assign f_17)
        exact steps_nil
      intro own139 a139 w139 hd139 hz139 hk139 hf139 hE139
      have e139_0 : a139.eval (.tmp 0) = .slice Ax1 x1.length cx1 := (hk139 0 rfl).trans e136_0
      have e139_1 : a139.eval (.tmp 1) = .slice Ab2 b2.length cb2 := (hk139 1 rfl).trans e136_1
      obtain ⟨(f_5 : a139.eval (.tmp 5) = .int .i64 (ad i100 1)), -⟩ := hf139 [2] rfl
      have e139_5 := f_5
      have hX139 := Evo.step hX136 (fun _ => Nat.le_refl 0) hE139 rfl
      have b139_Ax1 := RdO.evo rfl hE139 b136_Ax1
      have b139_Ab2 := RdO.evo rfl hE139 b136_Ab2
      exact hn120 _ _ _ hs ⟨own139, hd139, hz139, e139_0, e139_1, e139_5, hX139, b139_Ax1, b139_Ab2⟩
    refine fl_exit ?_
    refine hp122 _ _ _ rfl ?_
    replace hs := hz120 _ hs
    refine hp120 _ _ _ rfl ?_
    refine hx80 _ _ ?_
    refine hn78 _ _ ?_
    obtain ⟨x140, hx140, hs⟩ := obind hs
    obtain ⟨r141, hr141, hs⟩ := obind hs
    refine rg_plain_seq (n := 42) (rs := []) (own0 := own124) (K := [])
        (bs := [0, 1, 0, 4, 15, 31, 63])
        (ds := [⟨[], [0], [], Fct.val 36 (.slice Ax1 x1.length cx1)⟩,
        ⟨[0], [], [], Fct.val 37 (.int .i64 (x1.length : Int))⟩,
        ⟨[], [1], [], Fct.val 38 (.slice Ab2 b2.length cb2)⟩,
        ⟨[2], [], [], Fct.val 39 (.int .i64 (b2.length : Int))⟩,
        ⟨[1, 3], [], [], Fct.val 40 (.int .i64 x140)⟩,
        ⟨[4], [], [], Fct.val 41 (.int .i64 r141)⟩,
        ⟨[5], [], [], Fct.val 4 (.int .i64 r141)⟩]) (by kernel_rfl) hz124 hd124 (fun _ h => nomatch h) ?_ ?_
    · refine steps_cons (fun own a wx hf hsl hE => ?_) ?_
      · obtain ⟨s_0, -⟩ := hsl
        exact sg_plain rfl rfl (or_move (s_0.trans e124_0))
      refine steps_cons (fun own a wx hf hsl hE => ?_) ?_
      · obtain ⟨(f_36 : a.eval (.tmp 36) = .slice Ax1 x1.length cx1), -⟩ := hf
        exact sg_plain rfl rfl (or_len tu33 f_36 rfl)
      refine steps_cons (fun own a wx hf hsl hE => ?_) ?_
      · obtain ⟨s_1, -⟩ := hsl
        exact sg_plain rfl rfl (or_move (s_1.trans e124_1))
      refine steps_cons (fun own a wx hf hsl hE => ?_) ?_
      · obtain ⟨(f_38 : a.eval (.tmp 38) = .slice Ab2 b2.length cb2), -⟩ := hf
        exact sg_plain rfl rfl (or_len tu33 f_38 rfl)
      refine steps_cons (fun own a wx hf hsl hE => ?_) ?_
      · obtain ⟨(f_37 : a.eval (.tmp 37) = .int .i64 (x1.length : Int)), (f_39 : a.eval (.tmp 39) = .int .i64 (b2.length : Int)), -⟩ := hf
        exact sg_plain rfl rfl (or_sub f_37 f_39 (osome hx140).symm)
      refine steps_cons (fun own a wx hf hsl hE => ?_) ?_
      · obtain ⟨(f_40 : a.eval (.tmp 40) = .int .i64 x140), -⟩ := hf
        exact sg_plain rfl rfl (or_call cf33 (args1 f_40) (ref01_Sign_w _ x140  r141 hr141) post_val)
      refine steps_cons (fun own a wx hf hsl hE => ?_) ?_
      · obtain ⟨(f_41 : a.eval (.tmp 41) = .int .i64 r141), -⟩ := hf
        exact sg_plain rfl rfl (or_assign f_41)
      exact steps_nil
    intro own142 a142 w142 hd142 hz142 hk142 hf142 hE142
    obtain ⟨(f_4 : a142.eval (.tmp 4) = .int .i64 r141), -⟩ := hf142 [6] rfl
    have e142_4 := f_4
    have hX142 := Evo.step hX124 (fun _ => Nat.le_refl 0) hE142 rfl
    refine fl_ret ?_
    obtain rfl := (osome hs).symm
    exact hret _ _ _ _ (.inl rfl) hd142 (results1_ rfl (RVal.tmp_ e142_4)) ⟨own142, rfl, hX142⟩

theorem law04_Ints_w (w : World) (x1 : List Int) (Ax1 : Option Addr) (cx1 : Nat) (b2 : List Int) (Ab2 : Option Addr) (cb2 : Nat) (hx1 : RdO (fun _ => 0) [0] w R3 Ax1 cx1 x1) (hb2 : RdO (fun _ => 0) [0] w R3 Ab2 cb2 b2) (r : Bool) (hs : law04_Ints x1 b2 = some r) :
    Calls Try.prog 10 #[.slice Ax1 x1.length cx1, .slice Ab2 b2.length cb2] w fun e w' => ∃ own' : Own, e = .returned (.bool r) ∧ Evo [] (fun _ => 0) own' w w' := by
  refine fl_enter (n := 9) rfl rfl rfl (Nat.le_of_ble_eq_true rfl) ?_
  intro a0 Q hd0 hz0 harg hret
  have ha0 := harg 0 _ rfl
  have ha1 := harg 1 _ rfl
  clear harg
  have hE0 : Evo [] (fun _ => 0) (fun _ => 0) w w := Evo.refl _ _ _
  refine rg_plain_seq (n := 9) (rs := []) (own0 := (fun _ => 0)) (K := [])
      (bs := [0])
      (ds := [⟨[], [], [], Fct.val 4 (.bool false)⟩]) (by kernel_rfl) hz0 hd0 (fun _ h => nomatch h) ?_ ?_
  · refine steps_cons (fun own a wx hf hsl hE => ?_) ?_
    · exact sg_plain rfl rfl (or_assign rfl)
    exact steps_nil
  intro own14 a14 w14 hd14 hz14 hk14 hf14 hE14
  have e14_0 : a14.eval (.tmp 0) = .slice Ax1 x1.length cx1 := (hk14 0 rfl).trans ha0
  have e14_1 : a14.eval (.tmp 1) = .slice Ab2 b2.length cb2 := (hk14 1 rfl).trans ha1
  have hX14 := Evo.step hE0 (fun _ => Nat.le_refl 0) hE14 rfl
  have b14_Ax1 := RdO.evo rfl hE14 hx1
  have b14_Ab2 := RdO.evo rfl hE14 hb2
  obtain ⟨r15, hr15, hs⟩ := obind hs
  refine rg_plain_seq (n := 9) (rs := []) (own0 := own14) (K := [])
      (bs := [0, 0, 3, 7, 15])
      (ds := [⟨[], [0], [], Fct.val 5 (.slice Ax1 x1.length cx1)⟩,
      ⟨[], [1], [], Fct.val 6 (.slice Ab2 b2.length cb2)⟩,
      ⟨[0, 1], [], [], Fct.val 7 (.int .i64 r15)⟩,
      ⟨[2], [], [], Fct.val 8 (.bool (decide (r15 = 0)))⟩,
      ⟨[3], [], [], Fct.val 4 (.bool (decide (r15 = 0)))⟩]) (by kernel_rfl) hz14 hd14 (fun _ h => nomatch h) ?_ ?_
  · refine steps_cons (fun own a wx hf hsl hE => ?_) ?_
    · obtain ⟨s_0, -⟩ := hsl
      exact sg_plain rfl rfl (or_move (s_0.trans e14_0))
    refine steps_cons (fun own a wx hf hsl hE => ?_) ?_
    · obtain ⟨s_1, -⟩ := hsl
      exact sg_plain rfl rfl (or_move (s_1.trans e14_1))
    refine steps_cons (fun own a wx hf hsl hE => ?_) ?_
    · obtain ⟨(f_5 : a.eval (.tmp 5) = .slice Ax1 x1.length cx1), (f_6 : a.eval (.tmp 6) = .slice Ab2 b2.length cb2), -⟩ := hf
      exact sg_plain rfl rfl (or_call cf27 (args2 f_5 f_6) (ref04_Compare_w _ x1 Ax1 cx1 b2 Ab2 cb2 (RdO.zero (RdO.evo rfl hE b14_Ax1)) (RdO.zero (RdO.evo rfl hE b14_Ab2)) r15 hr15) post_val)
    refine steps_cons (fun own a wx hf hsl hE => ?_) ?_
    · obtain ⟨(f_7 : a.eval (.tmp 7) = .int .i64 r15), -⟩ := hf
      exact sg_plain rfl rfl (or_eql f_7 rfl rfl)
    refine steps_cons (fun own a wx hf hsl hE => ?_) ?_
    · obtain ⟨(f_8 : a.eval (.tmp 8) = .bool (decide (r15 = 0))), -⟩ := hf
      exact sg_plain rfl rfl (or_assign f_8)
    exact steps_nil
  intro own16 a16 w16 hd16 hz16 hk16 hf16 hE16
  obtain ⟨(f_4 : a16.eval (.tmp 4) = .bool (decide (r15 = 0))), -⟩ := hf16 [4] rfl
  have e16_4 := f_4
  have hX16 := Evo.step hX14 (fun _ => Nat.le_refl 0) hE16 rfl
  refine fl_ret ?_
  obtain rfl := osome hs
  exact hret _ _ _ _ (.inl rfl) hd16 (results1_ rfl (RVal.tmp_ e16_4)) ⟨own16, rfl, hX16⟩

end Go.Proofs.Ytajbjhcnppiloaa
