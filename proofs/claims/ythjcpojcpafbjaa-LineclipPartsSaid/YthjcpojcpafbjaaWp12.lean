/-
  Chapter 22. The walks.
-/
import Derived.Test.YthjcpojcpafbjaaWp11
import Derived.Test.YthjcpojcpafbjaaSp12
namespace Go.Proofs.Ythjcpojcpafbjaa
open Go.RowKit
set_option linter.unusedVariables false
theorem ref01_Sign_w (w : World) (n1 : Int) (r : Int) (hs : ref01_Sign n1 = some r) :
    Calls Try.prog 40 #[.int .i64 n1] w fun e w' => ∃ own' : Own, e = .returned (.int .i64 r) ∧ Evo [] (fun _ => 0) own' w w' := by
  refine fl_enter (n := 7) rfl rfl rfl (Nat.le_of_ble_eq_true rfl) ?_
  intro a0 Q hd0 hz0 harg hret
  have ha0 := harg 0 _ rfl
  clear harg
  have hE0 : Evo [] (fun _ => 0) (fun _ => 0) w w := Evo.refl _ _ _
  refine rg_plain_seq (n := 7) (rs := []) (own0 := (fun _ => 0)) (K := [])
      (bs := [0])
      (ds := [⟨[], [], [], Fct.val 2 (.int .i64 0)⟩]) (by kernel_rfl) hz0 hd0 (fun _ h => nomatch h) ?_ ?_
  · refine steps_cons (fun own a wx hf hsl hE => ?_) ?_
    · exact sg_plain rfl rfl (or_assign rfl)
    exact steps_nil
  intro own21 a21 w21 hd21 hz21 hk21 hf21 hE21
  have e21_0 : a21.eval (.tmp 0) = .int .i64 n1 := (hk21 0 rfl).trans ha0
  have hX21 := Evo.step hE0 (fun _ => Nat.le_refl 0) hE21 rfl
  refine fl_seq (fun Q22 hn22 hp22 => ?_)
  refine rg_plain_seq (n := 7) (rs := []) (own0 := own21) (K := [])
      (bs := [0, 1])
      (ds := [⟨[], [0], [], Fct.val 3 (.int .i64 n1)⟩,
      ⟨[0], [], [], Fct.val 4 (.bool (decide (0 < n1)))⟩]) (by kernel_rfl) hz21 hd21 (fun _ h => nomatch h) ?_ ?_
  · refine steps_cons (fun own a wx hf hsl hE => ?_) ?_
    · obtain ⟨s_0, -⟩ := hsl
      exact sg_plain rfl rfl (or_move (s_0.trans e21_0))
    refine steps_cons (fun own a wx hf hsl hE => ?_) ?_
    · obtain ⟨(f_3 : a.eval (.tmp 3) = .int .i64 n1), -⟩ := hf
      exact sg_plain rfl rfl (or_gtr f_3 rfl rfl)
    exact steps_nil
  intro own23 a23 w23 hd23 hz23 hk23 hf23 hE23
  have e23_0 : a23.eval (.tmp 0) = .int .i64 n1 := (hk23 0 rfl).trans e21_0
  obtain ⟨(f_4 : a23.eval (.tmp 4) = .bool (decide (0 < n1))), -⟩ := hf23 [1] rfl
  have e23_4 := f_4
  have hX23 := Evo.step hX21 (fun _ => Nat.le_refl 0) hE23 rfl
  refine fl_cond e23_4 hs (fun c24 hs => ?_) (fun c24 hs => ?_)
  · refine rg_plain_seq (n := 7) (rs := []) (own0 := own23) (K := [])
        (bs := [0])
        (ds := [⟨[], [], [], Fct.val 2 (.int .i64 1)⟩]) (by kernel_rfl) hz23 hd23 (fun _ h => nomatch h) ?_ ?_
    · refine steps_cons (fun own a wx hf hsl hE => ?_) ?_
      · exact sg_plain rfl rfl (or_assign rfl)
      exact steps_nil
    intro own25 a25 w25 hd25 hz25 hk25 hf25 hE25
    obtain ⟨(f_2 : a25.eval (.tmp 2) = .int .i64 1), -⟩ := hf25 [0] rfl
    have e25_2 := f_2
    have hX25 := Evo.step hX23 (fun _ => Nat.le_refl 0) hE25 rfl
    refine fl_ret ?_
    refine hp22 _ _ _ rfl ?_
    obtain rfl := osome hs
    exact hret _ _ _ _ (.inl rfl) hd25 (results1_ rfl (RVal.tmp_ e25_2)) ⟨own25, rfl, hX25⟩
  refine fl_skip ?_
  refine hn22 _ _ ?_
  refine fl_seq (fun Q26 hn26 hp26 => ?_)
  refine rg_plain_seq (n := 7) (rs := []) (own0 := own23) (K := [])
      (bs := [0, 1])
      (ds := [⟨[], [0], [], Fct.val 5 (.int .i64 n1)⟩,
      ⟨[0], [], [], Fct.val 6 (.bool (decide (n1 < 0)))⟩]) (by kernel_rfl) hz23 hd23 (fun _ h => nomatch h) ?_ ?_
  · refine steps_cons (fun own a wx hf hsl hE => ?_) ?_
    · obtain ⟨s_0, -⟩ := hsl
      exact sg_plain rfl rfl (or_move (s_0.trans e23_0))
    refine steps_cons (fun own a wx hf hsl hE => ?_) ?_
    · obtain ⟨(f_5 : a.eval (.tmp 5) = .int .i64 n1), -⟩ := hf
      exact sg_plain rfl rfl (or_lss f_5 rfl rfl)
    exact steps_nil
  intro own27 a27 w27 hd27 hz27 hk27 hf27 hE27
  obtain ⟨(f_6 : a27.eval (.tmp 6) = .bool (decide (n1 < 0))), -⟩ := hf27 [1] rfl
  have e27_6 := f_6
  have hX27 := Evo.step hX23 (fun _ => Nat.le_refl 0) hE27 rfl
  refine fl_cond e27_6 hs (fun c28 hs => ?_) (fun c28 hs => ?_)
  · refine rg_plain_seq (n := 7) (rs := []) (own0 := own27) (K := [])
        (bs := [0])
        (ds := [⟨[], [], [], Fct.val 2 (.int .i64 (-1))⟩]) (by kernel_rfl) hz27 hd27 (fun _ h => nomatch h) ?_ ?_
    · refine steps_cons (fun own a wx hf hsl hE => ?_) ?_
      · exact sg_plain rfl rfl (or_assign rfl)
      exact steps_nil
    intro own29 a29 w29 hd29 hz29 hk29 hf29 hE29
    obtain ⟨(f_2 : a29.eval (.tmp 2) = .int .i64 (-1)), -⟩ := hf29 [0] rfl
    have e29_2 := f_2
    have hX29 := Evo.step hX27 (fun _ => Nat.le_refl 0) hE29 rfl
    refine fl_ret ?_
    refine hp26 _ _ _ rfl ?_
    obtain rfl := osome hs
    exact hret _ _ _ _ (.inl rfl) hd29 (results1_ rfl (RVal.tmp_ e29_2)) ⟨own29, rfl, hX29⟩
  refine fl_skip ?_
  refine hn26 _ _ ?_
  refine rg_plain_seq (n := 7) (rs := []) (own0 := own27) (K := [])
      (bs := [0])
      (ds := [⟨[], [], [], Fct.val 2 (.int .i64 0)⟩]) (by kernel_rfl) hz27 hd27 (fun _ h => nomatch h) ?_ ?_
  · refine steps_cons (fun own a wx hf hsl hE => ?_) ?_
    · exact sg_plain rfl rfl (or_assign rfl)
    exact steps_nil
  intro own30 a30 w30 hd30 hz30 hk30 hf30 hE30
  obtain ⟨(f_2 : a30.eval (.tmp 2) = .int .i64 0), -⟩ := hf30 [0] rfl
  have e30_2 := f_2
  have hX30 := Evo.step hX27 (fun _ => Nat.le_refl 0) hE30 rfl
  refine fl_ret ?_
  obtain rfl := osome hs
  exact hret _ _ _ _ (.inl rfl) hd30 (results1_ rfl (RVal.tmp_ e30_2)) ⟨own30, rfl, hX30⟩

theorem ref01_Floor_w (w : World) (n1 : Int) (d2 : Int) (r : Int) (hs : ref01_Floor n1 d2 = some r) :
    Calls Try.prog 44 #[.int .i64 n1, .int .i64 d2] w fun e w' => ∃ own' : Own, e = .returned (.int .i64 r) ∧ Evo [] (fun _ => 0) own' w w' := by
  refine fl_enter (n := 19) rfl rfl rfl (Nat.le_of_ble_eq_true rfl) ?_
  intro a0 Q hd0 hz0 harg hret
  have ha0 := harg 0 _ rfl
  have ha1 := harg 1 _ rfl
  clear harg
  have hE0 : Evo [] (fun _ => 0) (fun _ => 0) w w := Evo.refl _ _ _
  refine rg_plain_seq (n := 19) (rs := []) (own0 := (fun _ => 0)) (K := [])
      (bs := [0])
      (ds := [⟨[], [], [], Fct.val 4 (.int .i64 0)⟩]) (by kernel_rfl) hz0 hd0 (fun _ h => nomatch h) ?_ ?_
  · refine steps_cons (fun own a wx hf hsl hE => ?_) ?_
    · exact sg_plain rfl rfl (or_assign rfl)
    exact steps_nil
  intro own26 a26 w26 hd26 hz26 hk26 hf26 hE26
  have e26_0 : a26.eval (.tmp 0) = .int .i64 n1 := (hk26 0 rfl).trans ha0
  have e26_1 : a26.eval (.tmp 1) = .int .i64 d2 := (hk26 1 rfl).trans ha1
  have hX26 := Evo.step hE0 (fun _ => Nat.le_refl 0) hE26 rfl
  obtain ⟨x27, hx27, hs⟩ := obind hs
  refine rg_plain_seq (n := 19) (rs := []) (own0 := own26) (K := [])
      (bs := [0, 0, 3, 7])
      (ds := [⟨[], [0], [], Fct.val 6 (.int .i64 n1)⟩,
      ⟨[], [1], [], Fct.val 7 (.int .i64 d2)⟩,
      ⟨[0, 1], [], [], Fct.val 8 (.int .i64 x27)⟩,
      ⟨[2], [], [], Fct.val 5 (.int .i64 x27)⟩]) (by kernel_rfl) hz26 hd26 (fun _ h => nomatch h) ?_ ?_
  · refine steps_cons (fun own a wx hf hsl hE => ?_) ?_
    · obtain ⟨s_0, -⟩ := hsl
      exact sg_plain rfl rfl (or_move (s_0.trans e26_0))
    refine steps_cons (fun own a wx hf hsl hE => ?_) ?_
    · obtain ⟨s_1, -⟩ := hsl
      exact sg_plain rfl rfl (or_move (s_1.trans e26_1))
    refine steps_cons (fun own a wx hf hsl hE => ?_) ?_
    · obtain ⟨(f_6 : a.eval (.tmp 6) = .int .i64 n1), (f_7 : a.eval (.tmp 7) = .int .i64 d2), -⟩ := hf
      exact sg_plain rfl rfl (or_rem f_6 f_7 hx27)
    refine steps_cons (fun own a wx hf hsl hE => ?_) ?_
    · obtain ⟨(f_8 : a.eval (.tmp 8) = .int .i64 x27), -⟩ := hf
      exact sg_plain rfl rfl (or_assign f_8)
    exact steps_nil
  intro own28 a28 w28 hd28 hz28 hk28 hf28 hE28
  have e28_0 : a28.eval (.tmp 0) = .int .i64 n1 := (hk28 0 rfl).trans e26_0
  have e28_1 : a28.eval (.tmp 1) = .int .i64 d2 := (hk28 1 rfl).trans e26_1
  obtain ⟨(f_5 : a28.eval (.tmp 5) = .int .i64 x27), -⟩ := hf28 [3] rfl
  have e28_5 := f_5
  have hX28 := Evo.step hX26 (fun _ => Nat.le_refl 0) hE28 rfl
  refine fl_seq (fun Q29 hn29 hp29 => ?_)
  have K34 : ∀ (a34 : Act) (w34 : World) (own34 : Own) (left33 : Int), a34.defers = [] → a34.tmps.size = 19 → a34.eval (.tmp 0) = .int .i64 n1 → a34.eval (.tmp 1) = .int .i64 d2 → a34.eval (.tmp 5) = .int .i64 left33 → Evo [] (fun _ => 0) own34 w w34 → ref01_Floor_k1 n1 d2 left33 = some r → Q29 .normal a34 w34 := by
    intro a34 w34 own34 left33 hd35 hz35 e35_0 e35_1 e35_5 hE35 hs
    refine hn29 _ _ ?_
    obtain ⟨x36, hx36, hs⟩ := obind hs
    refine rg_plain_seq (n := 19) (rs := []) (own0 := own34) (K := [])
        (bs := [0, 0, 3, 0, 15, 31])
        (ds := [⟨[], [0], [], Fct.val 14 (.int .i64 n1)⟩,
        ⟨[], [5], [], Fct.val 15 (.int .i64 left33)⟩,
        ⟨[0, 1], [], [], Fct.val 16 (.int .i64 (sb n1 left33))⟩,
        ⟨[], [1], [], Fct.val 17 (.int .i64 d2)⟩,
        ⟨[2, 3], [], [], Fct.val 18 (.int .i64 x36)⟩,
        ⟨[4], [], [], Fct.val 4 (.int .i64 x36)⟩]) (by kernel_rfl) hz35 hd35 (fun _ h => nomatch h) ?_ ?_
    · refine steps_cons (fun own a wx hf hsl hE => ?_) ?_
      · obtain ⟨s_0, -⟩ := hsl
        exact sg_plain rfl rfl (or_move (s_0.trans e35_0))
      refine steps_cons (fun own a wx hf hsl hE => ?_) ?_
      · obtain ⟨s_5, -⟩ := hsl
        exact sg_plain rfl rfl (or_move (s_5.trans e35_5))
      refine steps_cons (fun own a wx hf hsl hE => ?_) ?_
      · obtain ⟨(f_14 : a.eval (.tmp 14) = .int .i64 n1), (f_15 : a.eval (.tmp 15) = .int .i64 left33), -⟩ := hf
        exact sg_plain rfl rfl (or_sub f_14 f_15 rfl)
      refine steps_cons (fun own a wx hf hsl hE => ?_) ?_
      · obtain ⟨s_1, -⟩ := hsl
        exact sg_plain rfl rfl (or_move (s_1.trans e35_1))
      refine steps_cons (fun own a wx hf hsl hE => ?_) ?_
      · obtain ⟨(f_16 : a.eval (.tmp 16) = .int .i64 (sb n1 left33)), (f_17 : a.eval (.tmp 17) = .int .i64 d2), -⟩ := hf
        exact sg_plain rfl rfl (or_quo f_16 f_17 hx36)
      refine steps_cons (fun own a wx hf hsl hE => ?_) ?_
      · obtain ⟨(f_18 : a.eval (.tmp 18) = .int .i64 x36), -⟩ := hf
        exact sg_plain rfl rfl (or_assign f_18)
      exact steps_nil
    intro own37 a37 w37 hd37 hz37 hk37 hf37 hE37
    obtain ⟨(f_4 : a37.eval (.tmp 4) = .int .i64 x36), -⟩ := hf37 [5] rfl
    have e37_4 := f_4
    have hX37 := Evo.step hE35 (fun _ => Nat.le_refl 0) hE37 rfl
    refine fl_ret ?_
    obtain rfl := (osome hs).symm
    exact hret _ _ _ _ (.inl rfl) hd37 (results1_ rfl (RVal.tmp_ e37_4)) ⟨own37, rfl, hX37⟩
  refine rg_plain_seq (n := 19) (rs := []) (own0 := own28) (K := [])
      (bs := [0, 1])
      (ds := [⟨[], [5], [], Fct.val 9 (.int .i64 x27)⟩,
      ⟨[0], [], [], Fct.val 10 (.bool (decide (x27 < 0)))⟩]) (by kernel_rfl) hz28 hd28 (fun _ h => nomatch h) ?_ ?_
  · refine steps_cons (fun own a wx hf hsl hE => ?_) ?_
    · obtain ⟨s_5, -⟩ := hsl
      exact sg_plain rfl rfl (or_move (s_5.trans e28_5))
    refine steps_cons (fun own a wx hf hsl hE => ?_) ?_
    · obtain ⟨(f_9 : a.eval (.tmp 9) = .int .i64 x27), -⟩ := hf
      exact sg_plain rfl rfl (or_lss f_9 rfl rfl)
    exact steps_nil
  intro own38 a38 w38 hd38 hz38 hk38 hf38 hE38
  have e38_0 : a38.eval (.tmp 0) = .int .i64 n1 := (hk38 0 rfl).trans e28_0
  have e38_1 : a38.eval (.tmp 1) = .int .i64 d2 := (hk38 1 rfl).trans e28_1
  have e38_5 : a38.eval (.tmp 5) = .int .i64 x27 := (hk38 5 rfl).trans e28_5
  obtain ⟨(f_10 : a38.eval (.tmp 10) = .bool (decide (x27 < 0))), -⟩ := hf38 [1] rfl
  have e38_10 := f_10
  have hX38 := Evo.step hX28 (fun _ => Nat.le_refl 0) hE38 rfl
  refine fl_cond e38_10 hs (fun c39 hs => ?_) (fun c39 hs => ?_)
  · refine rg_plain (n := 19) (rs := []) (own0 := own38) (K := [])
        (bs := [0, 0, 3, 7])
        (ds := [⟨[], [5], [], Fct.val 11 (.int .i64 x27)⟩,
        ⟨[], [1], [], Fct.val 12 (.int .i64 d2)⟩,
        ⟨[0, 1], [], [], Fct.val 13 (.int .i64 (ad x27 d2))⟩,
        ⟨[2], [], [], Fct.val 5 (.int .i64 (ad x27 d2))⟩]) (by kernel_rfl) hz38 hd38 (fun _ h => nomatch h) ?_ ?_
    · refine steps_cons (fun own a wx hf hsl hE => ?_) ?_
      · obtain ⟨s_5, -⟩ := hsl
        exact sg_plain rfl rfl (or_move (s_5.trans e38_5))
      refine steps_cons (fun own a wx hf hsl hE => ?_) ?_
      · obtain ⟨s_1, -⟩ := hsl
        exact sg_plain rfl rfl (or_move (s_1.trans e38_1))
      refine steps_cons (fun own a wx hf hsl hE => ?_) ?_
      · obtain ⟨(f_11 : a.eval (.tmp 11) = .int .i64 x27), (f_12 : a.eval (.tmp 12) = .int .i64 d2), -⟩ := hf
        exact sg_plain rfl rfl (or_add f_11 f_12 rfl)
      refine steps_cons (fun own a wx hf hsl hE => ?_) ?_
      · obtain ⟨(f_13 : a.eval (.tmp 13) = .int .i64 (ad x27 d2)), -⟩ := hf
        exact sg_plain rfl rfl (or_assign f_13)
      exact steps_nil
    intro own40 a40 w40 hd40 hz40 hk40 hf40 hE40
    have e40_0 : a40.eval (.tmp 0) = .int .i64 n1 := (hk40 0 rfl).trans e38_0
    have e40_1 : a40.eval (.tmp 1) = .int .i64 d2 := (hk40 1 rfl).trans e38_1
    obtain ⟨(f_5 : a40.eval (.tmp 5) = .int .i64 (ad x27 d2)), -⟩ := hf40 [3] rfl
    have e40_5 := f_5
    have hX40 := Evo.step hX38 (fun _ => Nat.le_refl 0) hE40 rfl
    exact (K34 _ _ own40 _ hd40 hz40 e40_0 e40_1 e40_5 hX40 hs)
  refine fl_skip ?_
  exact (K34 _ _ own38 _ hd38 hz38 e38_0 e38_1 e38_5 hX38 hs)

theorem ref22_above_w (w : World) (x1 : Int) (y2 : Int) (x3 : Int) (b4 : Int) (c5 : Int) (d6 : Int) (r : Bool) (hs : ref22_above x1 y2 x3 b4 c5 d6 = some r) :
    Calls Try.prog 43 #[.int .i64 x1, .int .i64 y2, .int .i64 x3, .int .i64 b4, .int .i64 c5, .int .i64 d6] w fun e w' => ∃ own' : Own, e = .returned (.bool r) ∧ Evo [] (fun _ => 0) own' w w' := by
  refine fl_enter (n := 72) rfl rfl rfl (Nat.le_of_ble_eq_true rfl) ?_
  intro a0 Q hd0 hz0 harg hret
  have ha0 := harg 0 _ rfl
  have ha1 := harg 1 _ rfl
  have ha2 := harg 2 _ rfl
  have ha3 := harg 3 _ rfl
  have ha4 := harg 4 _ rfl
  have ha5 := harg 5 _ rfl
  clear harg
  have hE0 : Evo [] (fun _ => 0) (fun _ => 0) w w := Evo.refl _ _ _
  refine rg_plain_seq (n := 72) (rs := []) (own0 := (fun _ => 0)) (K := [])
      (bs := [0])
      (ds := [⟨[], [], [], Fct.val 12 (.bool false)⟩]) (by kernel_rfl) hz0 hd0 (fun _ h => nomatch h) ?_ ?_
  · refine steps_cons (fun own a wx hf hsl hE => ?_) ?_
    · exact sg_plain rfl rfl (or_assign rfl)
    exact steps_nil
  intro own31 a31 w31 hd31 hz31 hk31 hf31 hE31
  have e31_0 : a31.eval (.tmp 0) = .int .i64 x1 := (hk31 0 rfl).trans ha0
  have e31_1 : a31.eval (.tmp 1) = .int .i64 y2 := (hk31 1 rfl).trans ha1
  have e31_2 : a31.eval (.tmp 2) = .int .i64 x3 := (hk31 2 rfl).trans ha2
  have e31_3 : a31.eval (.tmp 3) = .int .i64 b4 := (hk31 3 rfl).trans ha3
  have e31_4 : a31.eval (.tmp 4) = .int .i64 c5 := (hk31 4 rfl).trans ha4
  have e31_5 : a31.eval (.tmp 5) = .int .i64 d6 := (hk31 5 rfl).trans ha5
  have hX31 := Evo.step hE0 (fun _ => Nat.le_refl 0) hE31 rfl
  refine rg_plain_seq (n := 72) (rs := []) (own0 := own31) (K := [])
      (bs := [0, 0, 3, 0, 0, 24, 7, 127])
      (ds := [⟨[], [1], [], Fct.val 18 (.int .i64 y2)⟩,
      ⟨[], [2], [], Fct.val 19 (.int .i64 x3)⟩,
      ⟨[0, 1], [], [], Fct.val 20 (.int .i64 (ml y2 x3))⟩,
      ⟨[], [1], [], Fct.val 21 (.int .i64 y2)⟩,
      ⟨[], [4], [], Fct.val 22 (.int .i64 c5)⟩,
      ⟨[3, 4], [], [], Fct.val 23 (.int .i64 (ml y2 c5))⟩,
      ⟨[2], [], [], Fct.val 13 (.int .i64 (ml y2 x3))⟩,
      ⟨[5], [], [], Fct.val 14 (.int .i64 (ml y2 c5))⟩]) (by kernel_rfl) hz31 hd31 (fun _ h => nomatch h) ?_ ?_
  · refine steps_cons (fun own a wx hf hsl hE => ?_) ?_
    · obtain ⟨s_1, -⟩ := hsl
      exact sg_plain rfl rfl (or_move (s_1.trans e31_1))
    refine steps_cons (fun own a wx hf hsl hE => ?_) ?_
    · obtain ⟨s_2, -⟩ := hsl
      exact sg_plain rfl rfl (or_move (s_2.trans e31_2))
    refine steps_cons (fun own a wx hf hsl hE => ?_) ?_
    · obtain ⟨(f_18 : a.eval (.tmp 18) = .int .i64 y2), (f_19 : a.eval (.tmp 19) = .int .i64 x3), -⟩ := hf
      exact sg_plain rfl rfl (or_mul f_18 f_19 rfl)
    refine steps_cons (fun own a wx hf hsl hE => ?_) ?_
    · obtain ⟨s_1, -⟩ := hsl
      exact sg_plain rfl rfl (or_move (s_1.trans e31_1))
    refine steps_cons (fun own a wx hf hsl hE => ?_) ?_
    · obtain ⟨s_4, -⟩ := hsl
      exact sg_plain rfl rfl (or_move (s_4.trans e31_4))
    refine steps_cons (fun own a wx hf hsl hE => ?_) ?_
    · obtain ⟨(f_21 : a.eval (.tmp 21) = .int .i64 y2), (f_22 : a.eval (.tmp 22) = .int .i64 c5), -⟩ := hf
      exact sg_plain rfl rfl (or_mul f_21 f_22 rfl)
    refine steps_cons (fun own a wx hf hsl hE => ?_) ?_
    · obtain ⟨(f_20 : a.eval (.tmp 20) = .int .i64 (ml y2 x3)), -⟩ := hf
      exact sg_plain rfl rfl (or_assign f_20)
    refine steps_cons (fun own a wx hf hsl hE => ?_) ?_
    · obtain ⟨(f_23 : a.eval (.tmp 23) = .int .i64 (ml y2 c5)), -⟩ := hf
      exact sg_plain rfl rfl (or_assign f_23)
    exact steps_nil
  intro own32 a32 w32 hd32 hz32 hk32 hf32 hE32
  have e32_0 : a32.eval (.tmp 0) = .int .i64 x1 := (hk32 0 rfl).trans e31_0
  have e32_3 : a32.eval (.tmp 3) = .int .i64 b4 := (hk32 3 rfl).trans e31_3
  have e32_5 : a32.eval (.tmp 5) = .int .i64 d6 := (hk32 5 rfl).trans e31_5
  obtain ⟨(f_13 : a32.eval (.tmp 13) = .int .i64 (ml y2 x3)), (f_14 : a32.eval (.tmp 14) = .int .i64 (ml y2 c5)), -⟩ := hf32 [6, 7] rfl
  have e32_13 := f_13
  have e32_14 := f_14
  have hX32 := Evo.step hX31 (fun _ => Nat.le_refl 0) hE32 rfl
  obtain ⟨r33, hr33, hs⟩ := obind hs
  obtain ⟨r34, hr34, hs⟩ := obind hs
  refine rg_plain_seq (n := 72) (rs := []) (own0 := own32) (K := [])
      (bs := [0, 0, 3, 0, 0, 31, 63, 0, 255, 511])
      (ds := [⟨[], [13], [], Fct.val 24 (.int .i64 (ml y2 x3))⟩,
      ⟨[], [3], [], Fct.val 25 (.int .i64 b4)⟩,
      ⟨[0, 1], [], [], Fct.val 26 (.int .i64 r33)⟩,
      ⟨[], [14], [], Fct.val 27 (.int .i64 (ml y2 c5))⟩,
      ⟨[], [5], [], Fct.val 28 (.int .i64 d6)⟩,
      ⟨[3, 4], [], [], Fct.val 29 (.int .i64 r34)⟩,
      ⟨[2, 5], [], [], Fct.val 30 (.int .i64 (ad r33 r34))⟩,
      ⟨[], [0], [], Fct.val 31 (.int .i64 x1)⟩,
      ⟨[6, 7], [], [], Fct.val 32 (.int .i64 (ad (ad r33 r34) x1))⟩,
      ⟨[8], [], [], Fct.val 15 (.int .i64 (ad (ad r33 r34) x1))⟩]) (by kernel_rfl) hz32 hd32 (fun _ h => nomatch h) ?_ ?_
  · refine steps_cons (fun own a wx hf hsl hE => ?_) ?_
    · obtain ⟨s_13, -⟩ := hsl
      exact sg_plain rfl rfl (or_move (s_13.trans e32_13))
    refine steps_cons (fun own a wx hf hsl hE => ?_) ?_
    · obtain ⟨s_3, -⟩ := hsl
      exact sg_plain rfl rfl (or_move (s_3.trans e32_3))
    refine steps_cons (fun own a wx hf hsl hE => ?_) ?_
    · obtain ⟨(f_24 : a.eval (.tmp 24) = .int .i64 (ml y2 x3)), (f_25 : a.eval (.tmp 25) = .int .i64 b4), -⟩ := hf
      exact sg_plain rfl rfl (or_call cf44 (args2 f_24 f_25) (ref01_Floor_w _ (ml y2 x3) b4  r33 hr33) post_val)
    refine steps_cons (fun own a wx hf hsl hE => ?_) ?_
    · obtain ⟨s_14, -⟩ := hsl
      exact sg_plain rfl rfl (or_move (s_14.trans e32_14))
    refine steps_cons (fun own a wx hf hsl hE => ?_) ?_
    · obtain ⟨s_5, -⟩ := hsl
      exact sg_plain rfl rfl (or_move (s_5.trans e32_5))
    refine steps_cons (fun own a wx hf hsl hE => ?_) ?_
    · obtain ⟨(f_27 : a.eval (.tmp 27) = .int .i64 (ml y2 c5)), (f_28 : a.eval (.tmp 28) = .int .i64 d6), -⟩ := hf
      exact sg_plain rfl rfl (or_call cf44 (args2 f_27 f_28) (ref01_Floor_w _ (ml y2 c5) d6  r34 hr34) post_val)
    refine steps_cons (fun own a wx hf hsl hE => ?_) ?_
    · obtain ⟨(f_26 : a.eval (.tmp 26) = .int .i64 r33), (f_29 : a.eval (.tmp 29) = .int .i64 r34), -⟩ := hf
      exact sg_plain rfl rfl (or_add f_26 f_29 rfl)
    refine steps_cons (fun own a wx hf hsl hE => ?_) ?_
    · obtain ⟨s_0, -⟩ := hsl
      exact sg_plain rfl rfl (or_move (s_0.trans e32_0))
    refine steps_cons (fun own a wx hf hsl hE => ?_) ?_
    · obtain ⟨(f_30 : a.eval (.tmp 30) = .int .i64 (ad r33 r34)), (f_31 : a.eval (.tmp 31) = .int .i64 x1), -⟩ := hf
      exact sg_plain rfl rfl (or_add f_30 f_31 rfl)
    refine steps_cons (fun own a wx hf hsl hE => ?_) ?_
    · obtain ⟨(f_32 : a.eval (.tmp 32) = .int .i64 (ad (ad r33 r34) x1)), -⟩ := hf
      exact sg_plain rfl rfl (or_assign f_32)
    exact steps_nil
  intro own35 a35 w35 hd35 hz35 hk35 hf35 hE35
  have e35_3 : a35.eval (.tmp 3) = .int .i64 b4 := (hk35 3 rfl).trans e32_3
  have e35_5 : a35.eval (.tmp 5) = .int .i64 d6 := (hk35 5 rfl).trans e32_5
  have e35_13 : a35.eval (.tmp 13) = .int .i64 (ml y2 x3) := (hk35 13 rfl).trans e32_13
  have e35_14 : a35.eval (.tmp 14) = .int .i64 (ml y2 c5) := (hk35 14 rfl).trans e32_14
  obtain ⟨(f_15 : a35.eval (.tmp 15) = .int .i64 (ad (ad r33 r34) x1)), -⟩ := hf35 [9] rfl
  have e35_15 := f_15
  have hX35 := Evo.step hX32 (fun _ => Nat.le_refl 0) hE35 rfl
  obtain ⟨r36, hr36, hs⟩ := obind hs
  obtain ⟨r37, hr37, hs⟩ := obind hs
  refine rg_plain_seq (n := 72) (rs := []) (own0 := own35) (K := [])
      (bs := [0, 0, 0, 0, 12, 30, 63, 0, 0, 0, 0, 1564, 3868, 8092, 3711, 32767])
      (ds := [⟨[], [13], [], Fct.val 33 (.int .i64 (ml y2 x3))⟩,
      ⟨[], [3], [], Fct.val 34 (.int .i64 b4)⟩,
      ⟨[], [13], [], Fct.val 35 (.int .i64 (ml y2 x3))⟩,
      ⟨[], [3], [], Fct.val 36 (.int .i64 b4)⟩,
      ⟨[2, 3], [], [], Fct.val 37 (.int .i64 r36)⟩,
      ⟨[1, 4], [], [], Fct.val 38 (.int .i64 (ml b4 r36))⟩,
      ⟨[0, 5], [], [], Fct.val 39 (.int .i64 (sb (ml y2 x3) (ml b4 r36)))⟩,
      ⟨[], [14], [], Fct.val 40 (.int .i64 (ml y2 c5))⟩,
      ⟨[], [5], [], Fct.val 41 (.int .i64 d6)⟩,
      ⟨[], [14], [], Fct.val 42 (.int .i64 (ml y2 c5))⟩,
      ⟨[], [5], [], Fct.val 43 (.int .i64 d6)⟩,
      ⟨[9, 10], [], [], Fct.val 44 (.int .i64 r37)⟩,
      ⟨[8, 11], [], [], Fct.val 45 (.int .i64 (ml d6 r37))⟩,
      ⟨[7, 12], [], [], Fct.val 46 (.int .i64 (sb (ml y2 c5) (ml d6 r37)))⟩,
      ⟨[6], [], [], Fct.val 16 (.int .i64 (sb (ml y2 x3) (ml b4 r36)))⟩,
      ⟨[13], [], [], Fct.val 17 (.int .i64 (sb (ml y2 c5) (ml d6 r37)))⟩]) (by kernel_rfl) hz35 hd35 (fun _ h => nomatch h) ?_ ?_
  · refine steps_cons (fun own a wx hf hsl hE => ?_) ?_
    · obtain ⟨s_13, -⟩ := hsl
      exact sg_plain rfl rfl (or_move (s_13.trans e35_13))
    refine steps_cons (fun own a wx hf hsl hE => ?_) ?_
    · obtain ⟨s_3, -⟩ := hsl
      exact sg_plain rfl rfl (or_move (s_3.trans e35_3))
    refine steps_cons (fun own a wx hf hsl hE => ?_) ?_
    · obtain ⟨s_13, -⟩ := hsl
      exact sg_plain rfl rfl (or_move (s_13.trans e35_13))
    refine steps_cons (fun own a wx hf hsl hE => ?_) ?_
    · obtain ⟨s_3, -⟩ := hsl
      exact sg_plain rfl rfl (or_move (s_3.trans e35_3))
    refine steps_cons (fun own a wx hf hsl hE => ?_) ?_
    · obtain ⟨(f_35 : a.eval (.tmp 35) = .int .i64 (ml y2 x3)), (f_36 : a.eval (.tmp 36) = .int .i64 b4), -⟩ := hf
      exact sg_plain rfl rfl (or_call cf44 (args2 f_35 f_36) (ref01_Floor_w _ (ml y2 x3) b4  r36 hr36) post_val)
    refine steps_cons (fun own a wx hf hsl hE => ?_) ?_
    · obtain ⟨(f_34 : a.eval (.tmp 34) = .int .i64 b4), (f_37 : a.eval (.tmp 37) = .int .i64 r36), -⟩ := hf
      exact sg_plain rfl rfl (or_mul f_34 f_37 rfl)
    refine steps_cons (fun own a wx hf hsl hE => ?_) ?_
    · obtain ⟨(f_33 : a.eval (.tmp 33) = .int .i64 (ml y2 x3)), (f_38 : a.eval (.tmp 38) = .int .i64 (ml b4 r36)), -⟩ := hf
      exact sg_plain rfl rfl (or_sub f_33 f_38 rfl)
    refine steps_cons (fun own a wx hf hsl hE => ?_) ?_
    · obtain ⟨s_14, -⟩ := hsl
      exact sg_plain rfl rfl (or_move (s_14.trans e35_14))
    refine steps_cons (fun own a wx hf hsl hE => ?_) ?_
    · obtain ⟨s_5, -⟩ := hsl
      exact sg_plain rfl rfl (or_move (s_5.trans e35_5))
    refine steps_cons (fun own a wx hf hsl hE => ?_) ?_
    · obtain ⟨s_14, -⟩ := hsl
      exact sg_plain rfl rfl (or_move (s_14.trans e35_14))
    refine steps_cons (fun own a wx hf hsl hE => ?_) ?_
    · obtain ⟨s_5, -⟩ := hsl
      exact sg_plain rfl rfl (or_move (s_5.trans e35_5))
    refine steps_cons (fun own a wx hf hsl hE => ?_) ?_
    · obtain ⟨(f_42 : a.eval (.tmp 42) = .int .i64 (ml y2 c5)), (f_43 : a.eval (.tmp 43) = .int .i64 d6), -⟩ := hf
      exact sg_plain rfl rfl (or_call cf44 (args2 f_42 f_43) (ref01_Floor_w _ (ml y2 c5) d6  r37 hr37) post_val)
    refine steps_cons (fun own a wx hf hsl hE => ?_) ?_
    · obtain ⟨(f_41 : a.eval (.tmp 41) = .int .i64 d6), (f_44 : a.eval (.tmp 44) = .int .i64 r37), -⟩ := hf
      exact sg_plain rfl rfl (or_mul f_41 f_44 rfl)
    refine steps_cons (fun own a wx hf hsl hE => ?_) ?_
    · obtain ⟨(f_40 : a.eval (.tmp 40) = .int .i64 (ml y2 c5)), (f_45 : a.eval (.tmp 45) = .int .i64 (ml d6 r37)), -⟩ := hf
      exact sg_plain rfl rfl (or_sub f_40 f_45 rfl)
    refine steps_cons (fun own a wx hf hsl hE => ?_) ?_
    · obtain ⟨(f_39 : a.eval (.tmp 39) = .int .i64 (sb (ml y2 x3) (ml b4 r36))), -⟩ := hf
      exact sg_plain rfl rfl (or_assign f_39)
    refine steps_cons (fun own a wx hf hsl hE => ?_) ?_
    · obtain ⟨(f_46 : a.eval (.tmp 46) = .int .i64 (sb (ml y2 c5) (ml d6 r37))), -⟩ := hf
      exact sg_plain rfl rfl (or_assign f_46)
    exact steps_nil
  intro own38 a38 w38 hd38 hz38 hk38 hf38 hE38
  have e38_3 : a38.eval (.tmp 3) = .int .i64 b4 := (hk38 3 rfl).trans e35_3
  have e38_5 : a38.eval (.tmp 5) = .int .i64 d6 := (hk38 5 rfl).trans e35_5
  have e38_15 : a38.eval (.tmp 15) = .int .i64 (ad (ad r33 r34) x1) := (hk38 15 rfl).trans e35_15
  obtain ⟨(f_16 : a38.eval (.tmp 16) = .int .i64 (sb (ml y2 x3) (ml b4 r36))), (f_17 : a38.eval (.tmp 17) = .int .i64 (sb (ml y2 c5) (ml d6 r37))), -⟩ := hf38 [14, 15] rfl
  have e38_16 := f_16
  have e38_17 := f_17
  have hX38 := Evo.step hX35 (fun _ => Nat.le_refl 0) hE38 rfl
  refine fl_seq (fun Q39 hn39 hp39 => ?_)
  refine rg_plain_seq (n := 72) (rs := []) (own0 := own38) (K := [])
      (bs := [0, 1])
      (ds := [⟨[], [15], [], Fct.val 47 (.int .i64 (ad (ad r33 r34) x1))⟩,
      ⟨[0], [], [], Fct.val 48 (.bool (decide (0 < (ad (ad r33 r34) x1))))⟩]) (by kernel_rfl) hz38 hd38 (fun _ h => nomatch h) ?_ ?_
  · refine steps_cons (fun own a wx hf hsl hE => ?_) ?_
    · obtain ⟨s_15, -⟩ := hsl
      exact sg_plain rfl rfl (or_move (s_15.trans e38_15))
    refine steps_cons (fun own a wx hf hsl hE => ?_) ?_
    · obtain ⟨(f_47 : a.eval (.tmp 47) = .int .i64 (ad (ad r33 r34) x1)), -⟩ := hf
      exact sg_plain rfl rfl (or_gtr f_47 rfl rfl)
    exact steps_nil
  intro own40 a40 w40 hd40 hz40 hk40 hf40 hE40
  have e40_3 : a40.eval (.tmp 3) = .int .i64 b4 := (hk40 3 rfl).trans e38_3
  have e40_5 : a40.eval (.tmp 5) = .int .i64 d6 := (hk40 5 rfl).trans e38_5
  have e40_15 : a40.eval (.tmp 15) = .int .i64 (ad (ad r33 r34) x1) := (hk40 15 rfl).trans e38_15
  have e40_16 : a40.eval (.tmp 16) = .int .i64 (sb (ml y2 x3) (ml b4 r36)) := (hk40 16 rfl).trans e38_16
  have e40_17 : a40.eval (.tmp 17) = .int .i64 (sb (ml y2 c5) (ml d6 r37)) := (hk40 17 rfl).trans e38_17
  obtain ⟨(f_48 : a40.eval (.tmp 48) = .bool (decide (0 < (ad (ad r33 r34) x1)))), -⟩ := hf40 [1] rfl
  have e40_48 := f_48
  have hX40 := Evo.step hX38 (fun _ => Nat.le_refl 0) hE40 rfl
  refine fl_cond e40_48 hs (fun c41 hs => ?_) (fun c41 hs => ?_)
  · refine rg_plain_seq (n := 72) (rs := []) (own0 := own40) (K := [])
        (bs := [0])
        (ds := [⟨[], [], [], Fct.val 12 (.bool true)⟩]) (by kernel_rfl) hz40 hd40 (fun _ h => nomatch h) ?_ ?_
    · refine steps_cons (fun own a wx hf hsl hE => ?_) ?_
      · exact sg_plain rfl rfl (or_assign rfl)
      exact steps_nil
    intro own42 a42 w42 hd42 hz42 hk42 hf42 hE42
    obtain ⟨(f_12 : a42.eval (.tmp 12) = .bool true), -⟩ := hf42 [0] rfl
    have e42_12 := f_12
    have hX42 := Evo.step hX40 (fun _ => Nat.le_refl 0) hE42 rfl
    refine fl_ret ?_
    refine hp39 _ _ _ rfl ?_
    obtain rfl := osome hs
    exact hret _ _ _ _ (.inl rfl) hd42 (results1_ rfl (RVal.tmp_ e42_12)) ⟨own42, rfl, hX42⟩
  refine fl_skip ?_
  refine hn39 _ _ ?_
  refine fl_seq (fun Q43 hn43 hp43 => ?_)
  refine rg_plain_seq (n := 72) (rs := []) (own0 := own40) (K := [])
      (bs := [0, 1])
      (ds := [⟨[], [15], [], Fct.val 49 (.int .i64 (ad (ad r33 r34) x1))⟩,
      ⟨[0], [], [], Fct.val 50 (.bool (decide ((ad (ad r33 r34) x1) = 0)))⟩]) (by kernel_rfl) hz40 hd40 (fun _ h => nomatch h) ?_ ?_
  · refine steps_cons (fun own a wx hf hsl hE => ?_) ?_
    · obtain ⟨s_15, -⟩ := hsl
      exact sg_plain rfl rfl (or_move (s_15.trans e40_15))
    refine steps_cons (fun own a wx hf hsl hE => ?_) ?_
    · obtain ⟨(f_49 : a.eval (.tmp 49) = .int .i64 (ad (ad r33 r34) x1)), -⟩ := hf
      exact sg_plain rfl rfl (or_eql f_49 rfl rfl)
    exact steps_nil
  intro own44 a44 w44 hd44 hz44 hk44 hf44 hE44
  have e44_3 : a44.eval (.tmp 3) = .int .i64 b4 := (hk44 3 rfl).trans e40_3
  have e44_5 : a44.eval (.tmp 5) = .int .i64 d6 := (hk44 5 rfl).trans e40_5
  have e44_15 : a44.eval (.tmp 15) = .int .i64 (ad (ad r33 r34) x1) := (hk44 15 rfl).trans e40_15
  have e44_16 : a44.eval (.tmp 16) = .int .i64 (sb (ml y2 x3) (ml b4 r36)) := (hk44 16 rfl).trans e40_16
  have e44_17 : a44.eval (.tmp 17) = .int .i64 (sb (ml y2 c5) (ml d6 r37)) := (hk44 17 rfl).trans e40_17
  obtain ⟨(f_50 : a44.eval (.tmp 50) = .bool (decide ((ad (ad r33 r34) x1) = 0))), -⟩ := hf44 [1] rfl
  have e44_50 := f_50
  have hX44 := Evo.step hX40 (fun _ => Nat.le_refl 0) hE44 rfl
  refine fl_cond e44_50 hs (fun c45 hs => ?_) (fun c45 hs => ?_)
  · obtain ⟨x46, hx46, hs⟩ := obind hs
    refine rg_plain_seq (n := 72) (rs := []) (own0 := own44) (K := [])
        (bs := [0, 1, 3, 7, 15, 31, 63])
        (ds := [⟨[], [16], [], Fct.val 51 (.int .i64 (sb (ml y2 x3) (ml b4 r36)))⟩,
        ⟨[0], [], [], Fct.val 52 (.bool (decide (0 < (sb (ml y2 x3) (ml b4 r36)))))⟩,
        ⟨[1], [], [], Fct.val 53 (.bool (decide (0 < (sb (ml y2 x3) (ml b4 r36)))))⟩,
        ⟨[2], [17], [], Fct.cond (!(decide (0 < (sb (ml y2 x3) (ml b4 r36))))) (some 54) (Fct.val 54 (.int .i64 (sb (ml y2 c5) (ml d6 r37))))⟩,
        ⟨[2, 3], [], [], Fct.cond (!(decide (0 < (sb (ml y2 x3) (ml b4 r36))))) (some 55) (Fct.val 55 (.bool (decide (0 < (sb (ml y2 c5) (ml d6 r37))))))⟩,
        ⟨[2, 4], [], [], Fct.val 56 (.bool x46)⟩,
        ⟨[5], [], [], Fct.val 12 (.bool x46)⟩]) (by kernel_rfl) hz44 hd44 (fun _ h => nomatch h) ?_ ?_
    · refine steps_cons (fun own a wx hf hsl hE => ?_) ?_
      · obtain ⟨s_16, -⟩ := hsl
        exact sg_plain rfl rfl (or_move (s_16.trans e44_16))
      refine steps_cons (fun own a wx hf hsl hE => ?_) ?_
      · obtain ⟨(f_51 : a.eval (.tmp 51) = .int .i64 (sb (ml y2 x3) (ml b4 r36))), -⟩ := hf
        exact sg_plain rfl rfl (or_gtr f_51 rfl rfl)
      refine steps_cons (fun own a wx hf hsl hE => ?_) ?_
      · obtain ⟨(f_52 : a.eval (.tmp 52) = .bool (decide (0 < (sb (ml y2 x3) (ml b4 r36))))), -⟩ := hf
        exact sg_plain rfl rfl (or_move f_52)
      refine steps_cons (fun own a wx hf hsl hE => ?_) ?_
      · obtain ⟨(f_53 : a.eval (.tmp 53) = .bool (decide (0 < (sb (ml y2 x3) (ml b4 r36))))), -⟩ := hf
        obtain ⟨s_17, -⟩ := hsl
        refine sg_f rfl rfl rfl f_53 (fun hg => ?_)
        exact or_move (s_17.trans e44_17)
      refine steps_cons (fun own a wx hf hsl hE => ?_) ?_
      · obtain ⟨(f_53 : a.eval (.tmp 53) = .bool (decide (0 < (sb (ml y2 x3) (ml b4 r36))))), c_54, -⟩ := hf
        refine sg_f rfl rfl rfl f_53 (fun hg => ?_)
        have f_54 : a.eval (.tmp 54) = .int .i64 (sb (ml y2 c5) (ml d6 r37)) := c_54.1 hg
        exact or_gtr f_54 rfl rfl
      refine steps_cons (fun own a wx hf hsl hE => ?_) ?_
      · obtain ⟨(f_53 : a.eval (.tmp 53) = .bool (decide (0 < (sb (ml y2 x3) (ml b4 r36))))), c_55, -⟩ := hf
        exact sg_plain rfl rfl (or_or f_53 rfl (fun hx => c_55.1 hx) (osome hx46).symm)
      refine steps_cons (fun own a wx hf hsl hE => ?_) ?_
      · obtain ⟨(f_56 : a.eval (.tmp 56) = .bool x46), -⟩ := hf
        exact sg_plain rfl rfl (or_assign f_56)
      exact steps_nil
    intro own47 a47 w47 hd47 hz47 hk47 hf47 hE47
    obtain ⟨(f_12 : a47.eval (.tmp 12) = .bool x46), -⟩ := hf47 [6] rfl
    have e47_12 := f_12
    have hX47 := Evo.step hX44 (fun _ => Nat.le_refl 0) hE47 rfl
    refine fl_ret ?_
    refine hp43 _ _ _ rfl ?_
    obtain rfl := (osome hs).symm
    exact hret _ _ _ _ (.inl rfl) hd47 (results1_ rfl (RVal.tmp_ e47_12)) ⟨own47, rfl, hX47⟩
  refine fl_skip ?_
  refine hn43 _ _ ?_
  obtain ⟨x48, hx48, hs⟩ := obind hs
  obtain ⟨x49, hx49, hs⟩ := obind hs
  refine rg_plain_seq (n := 72) (rs := []) (own0 := own44) (K := [])
      (bs := [0, 1, 3, 7, 7, 31, 7, 7, 199, 511, 7, 7, 3079, 8191, 16383, 32767])
      (ds := [⟨[], [15], [], Fct.val 57 (.int .i64 (ad (ad r33 r34) x1))⟩,
      ⟨[0], [], [], Fct.val 58 (.bool (decide ((ad (ad r33 r34) x1) = (-1))))⟩,
      ⟨[1], [], [], Fct.val 59 (.bool (decide ((ad (ad r33 r34) x1) = (-1))))⟩,
      ⟨[2], [16], [], Fct.cond (decide ((ad (ad r33 r34) x1) = (-1))) (some 60) (Fct.val 60 (.int .i64 (sb (ml y2 x3) (ml b4 r36))))⟩,
      ⟨[2], [5], [], Fct.cond (decide ((ad (ad r33 r34) x1) = (-1))) (some 61) (Fct.val 61 (.int .i64 d6))⟩,
      ⟨[2, 3, 4], [], [], Fct.cond (decide ((ad (ad r33 r34) x1) = (-1))) (some 62) (Fct.val 62 (.int .i64 (ml (sb (ml y2 x3) (ml b4 r36)) d6)))⟩,
      ⟨[2], [17], [], Fct.cond (decide ((ad (ad r33 r34) x1) = (-1))) (some 63) (Fct.val 63 (.int .i64 (sb (ml y2 c5) (ml d6 r37))))⟩,
      ⟨[2], [3], [], Fct.cond (decide ((ad (ad r33 r34) x1) = (-1))) (some 64) (Fct.val 64 (.int .i64 b4))⟩,
      ⟨[2, 6, 7], [], [], Fct.cond (decide ((ad (ad r33 r34) x1) = (-1))) (some 65) (Fct.val 65 (.int .i64 (ml (sb (ml y2 c5) (ml d6 r37)) b4)))⟩,
      ⟨[2, 5, 8], [], [], Fct.cond (decide ((ad (ad r33 r34) x1) = (-1))) (some 66) (Fct.val 66 (.int .i64 x48))⟩,
      ⟨[2], [3], [], Fct.cond (decide ((ad (ad r33 r34) x1) = (-1))) (some 67) (Fct.val 67 (.int .i64 b4))⟩,
      ⟨[2], [5], [], Fct.cond (decide ((ad (ad r33 r34) x1) = (-1))) (some 68) (Fct.val 68 (.int .i64 d6))⟩,
      ⟨[2, 10, 11], [], [], Fct.cond (decide ((ad (ad r33 r34) x1) = (-1))) (some 69) (Fct.val 69 (.int .i64 (ml b4 d6)))⟩,
      ⟨[2, 9, 12], [], [], Fct.cond (decide ((ad (ad r33 r34) x1) = (-1))) (some 70) (Fct.val 70 (.bool (decide ((ml b4 d6) < x48))))⟩,
      ⟨[2, 13], [], [], Fct.val 71 (.bool x49)⟩,
      ⟨[14], [], [], Fct.val 12 (.bool x49)⟩]) (by kernel_rfl) hz44 hd44 (fun _ h => nomatch h) ?_ ?_
  · refine steps_cons (fun own a wx hf hsl hE => ?_) ?_
    · obtain ⟨s_15, -⟩ := hsl
      exact sg_plain rfl rfl (or_move (s_15.trans e44_15))
    refine steps_cons (fun own a wx hf hsl hE => ?_) ?_
    · obtain ⟨(f_57 : a.eval (.tmp 57) = .int .i64 (ad (ad r33 r34) x1)), -⟩ := hf
      exact sg_plain rfl rfl (or_eql f_57 rfl rfl)
    refine steps_cons (fun own a wx hf hsl hE => ?_) ?_
    · obtain ⟨(f_58 : a.eval (.tmp 58) = .bool (decide ((ad (ad r33 r34) x1) = (-1)))), -⟩ := hf
      exact sg_plain rfl rfl (or_move f_58)
    refine steps_cons (fun own a wx hf hsl hE => ?_) ?_
    · obtain ⟨(f_59 : a.eval (.tmp 59) = .bool (decide ((ad (ad r33 r34) x1) = (-1)))), -⟩ := hf
      obtain ⟨s_16, -⟩ := hsl
      refine sg_t rfl rfl rfl f_59 (fun hg => ?_)
      exact or_move (s_16.trans e44_16)
    refine steps_cons (fun own a wx hf hsl hE => ?_) ?_
    · obtain ⟨(f_59 : a.eval (.tmp 59) = .bool (decide ((ad (ad r33 r34) x1) = (-1)))), -⟩ := hf
      obtain ⟨s_5, -⟩ := hsl
      refine sg_t rfl rfl rfl f_59 (fun hg => ?_)
      exact or_move (s_5.trans e44_5)
    refine steps_cons (fun own a wx hf hsl hE => ?_) ?_
    · obtain ⟨(f_59 : a.eval (.tmp 59) = .bool (decide ((ad (ad r33 r34) x1) = (-1)))), c_60, c_61, -⟩ := hf
      refine sg_t rfl rfl rfl f_59 (fun hg => ?_)
      have f_60 : a.eval (.tmp 60) = .int .i64 (sb (ml y2 x3) (ml b4 r36)) := c_60.1 hg
      have f_61 : a.eval (.tmp 61) = .int .i64 d6 := c_61.1 hg
      exact or_mul f_60 f_61 rfl
    refine steps_cons (fun own a wx hf hsl hE => ?_) ?_
    · obtain ⟨(f_59 : a.eval (.tmp 59) = .bool (decide ((ad (ad r33 r34) x1) = (-1)))), -⟩ := hf
      obtain ⟨s_17, -⟩ := hsl
      refine sg_t rfl rfl rfl f_59 (fun hg => ?_)
      exact or_move (s_17.trans e44_17)
    refine steps_cons (fun own a wx hf hsl hE => ?_) ?_
    · obtain ⟨(f_59 : a.eval (.tmp 59) = .bool (decide ((ad (ad r33 r34) x1) = (-1)))), -⟩ := hf
      obtain ⟨s_3, -⟩ := hsl
      refine sg_t rfl rfl rfl f_59 (fun hg => ?_)
      exact or_move (s_3.trans e44_3)
    refine steps_cons (fun own a wx hf hsl hE => ?_) ?_
    · obtain ⟨(f_59 : a.eval (.tmp 59) = .bool (decide ((ad (ad r33 r34) x1) = (-1)))), c_63, c_64, -⟩ := hf
      refine sg_t rfl rfl rfl f_59 (fun hg => ?_)
      have f_63 : a.eval (.tmp 63) = .int .i64 (sb (ml y2 c5) (ml d6 r37)) := c_63.1 hg
      have f_64 : a.eval (.tmp 64) = .int .i64 b4 := c_64.1 hg
      exact or_mul f_63 f_64 rfl
    refine steps_cons (fun own a wx hf hsl hE => ?_) ?_
    · obtain ⟨(f_59 : a.eval (.tmp 59) = .bool (decide ((ad (ad r33 r34) x1) = (-1)))), c_62, c_65, -⟩ := hf
      refine sg_t rfl rfl rfl f_59 (fun hg => ?_)
      have f_62 : a.eval (.tmp 62) = .int .i64 (ml (sb (ml y2 x3) (ml b4 r36)) d6) := c_62.1 hg
      have f_65 : a.eval (.tmp 65) = .int .i64 (ml (sb (ml y2 c5) (ml d6 r37)) b4) := c_65.1 hg
      exact or_add f_62 f_65 (osome hx48).symm
    refine steps_cons (fun own a wx hf hsl hE => ?_) ?_
    · obtain ⟨(f_59 : a.eval (.tmp 59) = .bool (decide ((ad (ad r33 r34) x1) = (-1)))), -⟩ := hf
      obtain ⟨s_3, -⟩ := hsl
      refine sg_t rfl rfl rfl f_59 (fun hg => ?_)
      exact or_move (s_3.trans e44_3)
    refine steps_cons (fun own a wx hf hsl hE => ?_) ?_
    · obtain ⟨(f_59 : a.eval (.tmp 59) = .bool (decide ((ad (ad r33 r34) x1) = (-1)))), -⟩ := hf
      obtain ⟨s_5, -⟩ := hsl
      refine sg_t rfl rfl rfl f_59 (fun hg => ?_)
      exact or_move (s_5.trans e44_5)
    refine steps_cons (fun own a wx hf hsl hE => ?_) ?_
    · obtain ⟨(f_59 : a.eval (.tmp 59) = .bool (decide ((ad (ad r33 r34) x1) = (-1)))), c_67, c_68, -⟩ := hf
      refine sg_t rfl rfl rfl f_59 (fun hg => ?_)
      have f_67 : a.eval (.tmp 67) = .int .i64 b4 := c_67.1 hg
      have f_68 : a.eval (.tmp 68) = .int .i64 d6 := c_68.1 hg
      exact or_mul f_67 f_68 rfl
    refine steps_cons (fun own a wx hf hsl hE => ?_) ?_
    · obtain ⟨(f_59 : a.eval (.tmp 59) = .bool (decide ((ad (ad r33 r34) x1) = (-1)))), c_66, c_69, -⟩ := hf
      refine sg_t rfl rfl rfl f_59 (fun hg => ?_)
      have f_66 : a.eval (.tmp 66) = .int .i64 x48 := c_66.1 hg
      have f_69 : a.eval (.tmp 69) = .int .i64 (ml b4 d6) := c_69.1 hg
      exact or_gtr f_66 f_69 rfl
    refine steps_cons (fun own a wx hf hsl hE => ?_) ?_
    · obtain ⟨(f_59 : a.eval (.tmp 59) = .bool (decide ((ad (ad r33 r34) x1) = (-1)))), c_70, -⟩ := hf
      exact sg_plain rfl rfl (or_and f_59 (fun hx => c_70.1 hx) rfl (osome hx49).symm)
    refine steps_cons (fun own a wx hf hsl hE => ?_) ?_
    · obtain ⟨(f_71 : a.eval (.tmp 71) = .bool x49), -⟩ := hf
      exact sg_plain rfl rfl (or_assign f_71)
    exact steps_nil
  intro own50 a50 w50 hd50 hz50 hk50 hf50 hE50
  obtain ⟨(f_12 : a50.eval (.tmp 12) = .bool x49), -⟩ := hf50 [15] rfl
  have e50_12 := f_12
  have hX50 := Evo.step hX44 (fun _ => Nat.le_refl 0) hE50 rfl
  refine fl_ret ?_
  obtain rfl := (osome hs).symm
  exact hret _ _ _ _ (.inl rfl) hd50 (results1_ rfl (RVal.tmp_ e50_12)) ⟨own50, rfl, hX50⟩

theorem ref22_strict_w (w : World) (p1 : Int) (q2 : Int) (x3 : Int) (b4 : Int) (c5 : Int) (d6 : Int) (low7 : Int) (high8 : Int) (r : Bool) (hs : ref22_strict p1 q2 x3 b4 c5 d6 low7 high8 = some r) :
    Calls Try.prog 41 #[.int .i64 p1, .int .i64 q2, .int .i64 x3, .int .i64 b4, .int .i64 c5, .int .i64 d6, .int .i64 low7, .int .i64 high8] w fun e w' => ∃ own' : Own, e = .returned (.bool r) ∧ Evo [] (fun _ => 0) own' w w' := by
  refine fl_enter (n := 43) rfl rfl rfl (Nat.le_of_ble_eq_true rfl) ?_
  intro a0 Q hd0 hz0 harg hret
  have ha0 := harg 0 _ rfl
  have ha1 := harg 1 _ rfl
  have ha2 := harg 2 _ rfl
  have ha3 := harg 3 _ rfl
  have ha4 := harg 4 _ rfl
  have ha5 := harg 5 _ rfl
  have ha6 := harg 6 _ rfl
  have ha7 := harg 7 _ rfl
  clear harg
  have hE0 : Evo [] (fun _ => 0) (fun _ => 0) w w := Evo.refl _ _ _
  refine rg_plain_seq (n := 43) (rs := []) (own0 := (fun _ => 0)) (K := [])
      (bs := [0])
      (ds := [⟨[], [], [], Fct.val 16 (.bool false)⟩]) (by kernel_rfl) hz0 hd0 (fun _ h => nomatch h) ?_ ?_
  · refine steps_cons (fun own a wx hf hsl hE => ?_) ?_
    · exact sg_plain rfl rfl (or_assign rfl)
    exact steps_nil
  intro own15 a15 w15 hd15 hz15 hk15 hf15 hE15
  have e15_0 : a15.eval (.tmp 0) = .int .i64 p1 := (hk15 0 rfl).trans ha0
  have e15_1 : a15.eval (.tmp 1) = .int .i64 q2 := (hk15 1 rfl).trans ha1
  have e15_2 : a15.eval (.tmp 2) = .int .i64 x3 := (hk15 2 rfl).trans ha2
  have e15_3 : a15.eval (.tmp 3) = .int .i64 b4 := (hk15 3 rfl).trans ha3
  have e15_4 : a15.eval (.tmp 4) = .int .i64 c5 := (hk15 4 rfl).trans ha4
  have e15_5 : a15.eval (.tmp 5) = .int .i64 d6 := (hk15 5 rfl).trans ha5
  have e15_6 : a15.eval (.tmp 6) = .int .i64 low7 := (hk15 6 rfl).trans ha6
  have e15_7 : a15.eval (.tmp 7) = .int .i64 high8 := (hk15 7 rfl).trans ha7
  have hX15 := Evo.step hE0 (fun _ => Nat.le_refl 0) hE15 rfl
  obtain ⟨r16, hr16, hs⟩ := obind hs
  obtain ⟨r17, hr17, hs⟩ := obind hs
  refine rg_plain_seq (n := 43) (rs := []) (own0 := own15) (K := [])
      (bs := [0, 0, 3, 7, 0, 0, 48, 0, 0, 0, 0, 2047, 4095, 8191, 8191, 32767, 65535, 8191, 8191, 401407, 8191, 8191, 8191, 8191, 16777215, 33554431, 67108863])
      (ds := [⟨[], [0], [], Fct.val 17 (.int .i64 p1)⟩,
      ⟨[], [6], [], Fct.val 18 (.int .i64 low7)⟩,
      ⟨[0, 1], [], [], Fct.val 19 (.int .i64 (sb p1 low7))⟩,
      ⟨[2], [], [], Fct.val 20 (.int .i64 (ml 2 (sb p1 low7)))⟩,
      ⟨[], [1], [], Fct.val 21 (.int .i64 q2)⟩,
      ⟨[], [0], [], Fct.val 22 (.int .i64 p1)⟩,
      ⟨[4, 5], [], [], Fct.val 23 (.int .i64 (sb q2 p1))⟩,
      ⟨[], [2], [], Fct.val 24 (.int .i64 x3)⟩,
      ⟨[], [3], [], Fct.val 25 (.int .i64 b4)⟩,
      ⟨[], [4], [], Fct.val 26 (.int .i64 c5)⟩,
      ⟨[], [5], [], Fct.val 27 (.int .i64 d6)⟩,
      ⟨[3, 6, 7, 8, 9, 10], [], [], Fct.val 28 (.bool r16)⟩,
      ⟨[11], [], [], Fct.val 29 (.bool r16)⟩,
      ⟨[12], [7], [], Fct.cond r16 (some 30) (Fct.val 30 (.int .i64 high8))⟩,
      ⟨[12], [0], [], Fct.cond r16 (some 31) (Fct.val 31 (.int .i64 p1))⟩,
      ⟨[12, 13, 14], [], [], Fct.cond r16 (some 32) (Fct.val 32 (.int .i64 (sb high8 p1)))⟩,
      ⟨[12, 15], [], [], Fct.cond r16 (some 33) (Fct.val 33 (.int .i64 (ml 2 (sb high8 p1))))⟩,
      ⟨[12], [0], [], Fct.cond r16 (some 34) (Fct.val 34 (.int .i64 p1))⟩,
      ⟨[12], [1], [], Fct.cond r16 (some 35) (Fct.val 35 (.int .i64 q2))⟩,
      ⟨[12, 17, 18], [], [], Fct.cond r16 (some 36) (Fct.val 36 (.int .i64 (sb p1 q2)))⟩,
      ⟨[12], [2], [], Fct.cond r16 (some 37) (Fct.val 37 (.int .i64 x3))⟩,
      ⟨[12], [3], [], Fct.cond r16 (some 38) (Fct.val 38 (.int .i64 b4))⟩,
      ⟨[12], [4], [], Fct.cond r16 (some 39) (Fct.val 39 (.int .i64 c5))⟩,
      ⟨[12], [5], [], Fct.cond r16 (some 40) (Fct.val 40 (.int .i64 d6))⟩,
      ⟨[12, 16, 19, 20, 21, 22, 23], [], [], Fct.cond r16 (some 41) (Fct.val 41 (.bool r17))⟩,
      ⟨[12, 24], [], [], Fct.val 42 (.bool (r16 && r17))⟩,
      ⟨[25], [], [], Fct.val 16 (.bool (r16 && r17))⟩]) (by kernel_rfl) hz15 hd15 (fun _ h => nomatch h) ?_ ?_
  · refine steps_cons (fun own a wx hf hsl hE => ?_) ?_
    · obtain ⟨s_0, -⟩ := hsl
      exact sg_plain rfl rfl (or_move (s_0.trans e15_0))
    refine steps_cons (fun own a wx hf hsl hE => ?_) ?_
    · obtain ⟨s_6, -⟩ := hsl
      exact sg_plain rfl rfl (or_move (s_6.trans e15_6))
    refine steps_cons (fun own a wx hf hsl hE => ?_) ?_
    · obtain ⟨(f_17 : a.eval (.tmp 17) = .int .i64 p1), (f_18 : a.eval (.tmp 18) = .int .i64 low7), -⟩ := hf
      exact sg_plain rfl rfl (or_sub f_17 f_18 rfl)
    refine steps_cons (fun own a wx hf hsl hE => ?_) ?_
    · obtain ⟨(f_19 : a.eval (.tmp 19) = .int .i64 (sb p1 low7)), -⟩ := hf
      exact sg_plain rfl rfl (or_mul rfl f_19 rfl)
    refine steps_cons (fun own a wx hf hsl hE => ?_) ?_
    · obtain ⟨s_1, -⟩ := hsl
      exact sg_plain rfl rfl (or_move (s_1.trans e15_1))
    refine steps_cons (fun own a wx hf hsl hE => ?_) ?_
    · obtain ⟨s_0, -⟩ := hsl
      exact sg_plain rfl rfl (or_move (s_0.trans e15_0))
    refine steps_cons (fun own a wx hf hsl hE => ?_) ?_
    · obtain ⟨(f_21 : a.eval (.tmp 21) = .int .i64 q2), (f_22 : a.eval (.tmp 22) = .int .i64 p1), -⟩ := hf
      exact sg_plain rfl rfl (or_sub f_21 f_22 rfl)
    refine steps_cons (fun own a wx hf hsl hE => ?_) ?_
    · obtain ⟨s_2, -⟩ := hsl
      exact sg_plain rfl rfl (or_move (s_2.trans e15_2))
    refine steps_cons (fun own a wx hf hsl hE => ?_) ?_
    · obtain ⟨s_3, -⟩ := hsl
      exact sg_plain rfl rfl (or_move (s_3.trans e15_3))
    refine steps_cons (fun own a wx hf hsl hE => ?_) ?_
    · obtain ⟨s_4, -⟩ := hsl
      exact sg_plain rfl rfl (or_move (s_4.trans e15_4))
    refine steps_cons (fun own a wx hf hsl hE => ?_) ?_
    · obtain ⟨s_5, -⟩ := hsl
      exact sg_plain rfl rfl (or_move (s_5.trans e15_5))
    refine steps_cons (fun own a wx hf hsl hE => ?_) ?_
    · obtain ⟨(f_20 : a.eval (.tmp 20) = .int .i64 (ml 2 (sb p1 low7))), (f_23 : a.eval (.tmp 23) = .int .i64 (sb q2 p1)), (f_24 : a.eval (.tmp 24) = .int .i64 x3), (f_25 : a.eval (.tmp 25) = .int .i64 b4), (f_26 : a.eval (.tmp 26) = .int .i64 c5), (f_27 : a.eval (.tmp 27) = .int .i64 d6), -⟩ := hf
      exact sg_plain rfl rfl (or_call cf43 (args6 f_20 f_23 f_24 f_25 f_26 f_27) (ref22_above_w _ (ml 2 (sb p1 low7)) (sb q2 p1) x3 b4 c5 d6  r16 hr16) post_val)
    refine steps_cons (fun own a wx hf hsl hE => ?_) ?_
    · obtain ⟨(f_28 : a.eval (.tmp 28) = .bool r16), -⟩ := hf
      exact sg_plain rfl rfl (or_move f_28)
    refine steps_cons (fun own a wx hf hsl hE => ?_) ?_
    · obtain ⟨(f_29 : a.eval (.tmp 29) = .bool r16), -⟩ := hf
      obtain ⟨s_7, -⟩ := hsl
      refine sg_t rfl rfl rfl f_29 (fun hg => ?_)
      exact or_move (s_7.trans e15_7)
    refine steps_cons (fun own a wx hf hsl hE => ?_) ?_
    · obtain ⟨(f_29 : a.eval (.tmp 29) = .bool r16), -⟩ := hf
      obtain ⟨s_0, -⟩ := hsl
      refine sg_t rfl rfl rfl f_29 (fun hg => ?_)
      exact or_move (s_0.trans e15_0)
    refine steps_cons (fun own a wx hf hsl hE => ?_) ?_
    · obtain ⟨(f_29 : a.eval (.tmp 29) = .bool r16), c_30, c_31, -⟩ := hf
      refine sg_t rfl rfl rfl f_29 (fun hg => ?_)
      have f_30 : a.eval (.tmp 30) = .int .i64 high8 := c_30.1 hg
      have f_31 : a.eval (.tmp 31) = .int .i64 p1 := c_31.1 hg
      exact or_sub f_30 f_31 rfl
    refine steps_cons (fun own a wx hf hsl hE => ?_) ?_
    · obtain ⟨(f_29 : a.eval (.tmp 29) = .bool r16), c_32, -⟩ := hf
      refine sg_t rfl rfl rfl f_29 (fun hg => ?_)
      have f_32 : a.eval (.tmp 32) = .int .i64 (sb high8 p1) := c_32.1 hg
      exact or_mul rfl f_32 rfl
    refine steps_cons (fun own a wx hf hsl hE => ?_) ?_
    · obtain ⟨(f_29 : a.eval (.tmp 29) = .bool r16), -⟩ := hf
      obtain ⟨s_0, -⟩ := hsl
      refine sg_t rfl rfl rfl f_29 (fun hg => ?_)
      exact or_move (s_0.trans e15_0)
    refine steps_cons (fun own a wx hf hsl hE => ?_) ?_
    · obtain ⟨(f_29 : a.eval (.tmp 29) = .bool r16), -⟩ := hf
      obtain ⟨s_1, -⟩ := hsl
      refine sg_t rfl rfl rfl f_29 (fun hg => ?_)
      exact or_move (s_1.trans e15_1)
    refine steps_cons (fun own a wx hf hsl hE => ?_) ?_
    · obtain ⟨(f_29 : a.eval (.tmp 29) = .bool r16), c_34, c_35, -⟩ := hf
      refine sg_t rfl rfl rfl f_29 (fun hg => ?_)
      have f_34 : a.eval (.tmp 34) = .int .i64 p1 := c_34.1 hg
      have f_35 : a.eval (.tmp 35) = .int .i64 q2 := c_35.1 hg
      exact or_sub f_34 f_35 rfl
    refine steps_cons (fun own a wx hf hsl hE => ?_) ?_
    · obtain ⟨(f_29 : a.eval (.tmp 29) = .bool r16), -⟩ := hf
      obtain ⟨s_2, -⟩ := hsl
      refine sg_t rfl rfl rfl f_29 (fun hg => ?_)
      exact or_move (s_2.trans e15_2)
    refine steps_cons (fun own a wx hf hsl hE => ?_) ?_
    · obtain ⟨(f_29 : a.eval (.tmp 29) = .bool r16), -⟩ := hf
      obtain ⟨s_3, -⟩ := hsl
      refine sg_t rfl rfl rfl f_29 (fun hg => ?_)
      exact or_move (s_3.trans e15_3)
    refine steps_cons (fun own a wx hf hsl hE => ?_) ?_
    · obtain ⟨(f_29 : a.eval (.tmp 29) = .bool r16), -⟩ := hf
      obtain ⟨s_4, -⟩ := hsl
      refine sg_t rfl rfl rfl f_29 (fun hg => ?_)
      exact or_move (s_4.trans e15_4)
    refine steps_cons (fun own a wx hf hsl hE => ?_) ?_
    · obtain ⟨(f_29 : a.eval (.tmp 29) = .bool r16), -⟩ := hf
      obtain ⟨s_5, -⟩ := hsl
      refine sg_t rfl rfl rfl f_29 (fun hg => ?_)
      exact or_move (s_5.trans e15_5)
    refine steps_cons (fun own a wx hf hsl hE => ?_) ?_
    · obtain ⟨(f_29 : a.eval (.tmp 29) = .bool r16), c_33, c_36, c_37, c_38, c_39, c_40, -⟩ := hf
      refine sg_t rfl rfl rfl f_29 (fun hg => ?_)
      have f_33 : a.eval (.tmp 33) = .int .i64 (ml 2 (sb high8 p1)) := c_33.1 hg
      have f_36 : a.eval (.tmp 36) = .int .i64 (sb p1 q2) := c_36.1 hg
      have f_37 : a.eval (.tmp 37) = .int .i64 x3 := c_37.1 hg
      have f_38 : a.eval (.tmp 38) = .int .i64 b4 := c_38.1 hg
      have f_39 : a.eval (.tmp 39) = .int .i64 c5 := c_39.1 hg
      have f_40 : a.eval (.tmp 40) = .int .i64 d6 := c_40.1 hg
      exact or_call cf43 (args6 f_33 f_36 f_37 f_38 f_39 f_40) (ref22_above_w _ (ml 2 (sb high8 p1)) (sb p1 q2) x3 b4 c5 d6  r17 (gd_t hr17 hg)) post_val
    refine steps_cons (fun own a wx hf hsl hE => ?_) ?_
    · obtain ⟨(f_29 : a.eval (.tmp 29) = .bool r16), c_41, -⟩ := hf
      exact sg_plain rfl rfl (or_and f_29 (fun hx => c_41.1 hx) rfl rfl)
    refine steps_cons (fun own a wx hf hsl hE => ?_) ?_
    · obtain ⟨(f_42 : a.eval (.tmp 42) = .bool (r16 && r17)), -⟩ := hf
      exact sg_plain rfl rfl (or_assign f_42)
    exact steps_nil
  intro own18 a18 w18 hd18 hz18 hk18 hf18 hE18
  obtain ⟨(f_16 : a18.eval (.tmp 16) = .bool (r16 && r17)), -⟩ := hf18 [26] rfl
  have e18_16 := f_16
  have hX18 := Evo.step hX15 (fun _ => Nat.le_refl 0) hE18 rfl
  refine fl_ret ?_
  obtain rfl := osome hs
  exact hret _ _ _ _ (.inl rfl) hd18 (results1_ rfl (RVal.tmp_ e18_16)) ⟨own18, rfl, hX18⟩

set_option maxHeartbeats 2000000 in
theorem ref22_inside_w (w : World) (p1 : Int × Int) (q2 : Int × Int) (b3 : (Int × Int) × (Int × Int)) (r : Bool) (hs : ref22_inside p1 q2 b3 = some r) :
    Calls Try.prog 34 #[.agg #[.int .i64 p1.1, .int .i64 p1.2], .agg #[.int .i64 q2.1, .int .i64 q2.2], .agg #[.int .i64 b3.1.1, .int .i64 b3.1.2, .int .i64 b3.2.1, .int .i64 b3.2.2]] w fun e w' => ∃ own' : Own, e = .returned (.bool r) ∧ Evo [] (fun _ => 0) own' w w' := by
  refine fl_enter (n := 213) rfl rfl rfl (Nat.le_of_ble_eq_true rfl) ?_
  intro a0 Q hd0 hz0 harg hret
  have ha0 := harg 0 _ rfl
  have ha1 := harg 1 _ rfl
  have ha2 := harg 2 _ rfl
  clear harg
  have hE0 : Evo [] (fun _ => 0) (fun _ => 0) w w := Evo.refl _ _ _
  refine rg_plain_seq (n := 213) (rs := []) (own0 := (fun _ => 0)) (K := [])
      (bs := [0, 0, 0, 0])
      (ds := [⟨[], [0], [], Fct.blk 2386 3 (fun g => .pointer (some ⟨g, 0, none⟩)) 37 #[.int .i64 p1.1, .int .i64 p1.2]⟩,
      ⟨[], [1], [], Fct.blk 2388 4 (fun g => .pointer (some ⟨g, 0, none⟩)) 37 #[.int .i64 q2.1, .int .i64 q2.2]⟩,
      ⟨[], [2], [], Fct.blk 2390 5 (fun g => .pointer (some ⟨g, 0, none⟩)) 39 #[.int .i64 b3.1.1, .int .i64 b3.1.2, .int .i64 b3.2.1, .int .i64 b3.2.2]⟩,
      ⟨[], [], [], Fct.val 6 (.bool false)⟩]) (by kernel_rfl) hz0 hd0 (fun _ h => nomatch h) ?_ ?_
  · refine steps_cons (fun own a wx hf hsl hE => ?_) ?_
    · obtain ⟨s_0, -⟩ := hsl
      exact sg_plain rfl rfl (or_new [(0, .agg #[.int .i64 p1.1, .int .i64 p1.2])] rfl rfl ⟨(s_0.trans ha0), trivial⟩ (by kernel_rfl))
    refine steps_cons (fun own a wx hf hsl hE => ?_) ?_
    · obtain ⟨s_1, -⟩ := hsl
      exact sg_plain rfl rfl (or_new [(1, .agg #[.int .i64 q2.1, .int .i64 q2.2])] rfl rfl ⟨(s_1.trans ha1), trivial⟩ (by kernel_rfl))
    refine steps_cons (fun own a wx hf hsl hE => ?_) ?_
    · obtain ⟨s_2, -⟩ := hsl
      exact sg_plain rfl rfl (or_new [(2, .agg #[.int .i64 b3.1.1, .int .i64 b3.1.2, .int .i64 b3.2.1, .int .i64 b3.2.2])] rfl rfl ⟨(s_2.trans ha2), trivial⟩ (by kernel_rfl))
    refine steps_cons (fun own a wx hf hsl hE => ?_) ?_
    · exact sg_plain rfl rfl (or_assign rfl)
    exact steps_nil
  intro own2391 a2391 w2391 hd2391 hz2391 hk2391 hf2391 hE2391
  obtain ⟨⟨g2385, (f_3 : a2391.eval (.tmp 3) = .pointer (some ⟨g2385, 0, none⟩)), (b_g2385 : BlkO own2391 2386 w2391 g2385 37 #[.int .i64 p1.1, .int .i64 p1.2])⟩, ⟨g2387, (f_4 : a2391.eval (.tmp 4) = .pointer (some ⟨g2387, 0, none⟩)), (b_g2387 : BlkO own2391 2388 w2391 g2387 37 #[.int .i64 q2.1, .int .i64 q2.2])⟩, ⟨g2389, (f_5 : a2391.eval (.tmp 5) = .pointer (some ⟨g2389, 0, none⟩)), (b_g2389 : BlkO own2391 2390 w2391 g2389 39 #[.int .i64 b3.1.1, .int .i64 b3.1.2, .int .i64 b3.2.1, .int .i64 b3.2.2])⟩, -⟩ := hf2391 [0, 1, 2] rfl
  have e2391_3 := f_3
  have e2391_4 := f_4
  have e2391_5 := f_5
  have hX2391 := Evo.step hE0 (fun _ => Nat.le_refl 0) hE2391 rfl
  have b2391_g2385 := b_g2385
  have b2391_g2387 := b_g2387
  have b2391_g2389 := b_g2389
  refine rg_plain_seq (n := 213) (rs := []) (own0 := own2391) (K := [])
      (bs := [0, 1])
      (ds := [⟨[], [], [], Fct.row 2393 [] 14 3 R3 [0, 1]⟩,
      ⟨[0], [], [], Fct.rel [7, 14] (fun l => ∀ (A2392 : Option Addr) (cA2392 : Nat), l.getD 1 undef = .slice A2392 [0, 1].length cA2392 → l.getD 0 undef = .slice A2392 [0, 1].length cA2392)⟩]) (by kernel_rfl) hz2391 hd2391 (fun _ h => nomatch h) ?_ ?_
  · refine steps_cons (fun own a wx hf hsl hE => ?_) ?_
    · exact sg_plain rfl rfl (or_lit (lab := 2393) (e := 3) (cs := #[.int .i64 0, .int .i64 1]) (F := E3) (or_new [] rfl rfl trivial (by kernel_rfl)) rfl rfl (show 2 ≤ maxLen by decide))
    refine steps_cons (fun own a wx hf hsl hE => ?_) ?_
    · obtain ⟨⟨⟨A2392, cA2392⟩, (f_14 : a.eval (.tmp 14) = .slice A2392 [0, 1].length cA2392), (b_A2392 : RwO own 2393 [] wx 3 R3 A2392 cA2392 [0, 1])⟩, -⟩ := hf
      exact sg_plain rfl rfl (or_mono (f := Fct.val 7 (.slice A2392 [0, 1].length cA2392)) (or_assign f_14) (fun own' a' w' v' hp h => fun _ _ h0' => by cases (f_14.symm.trans ((hp.2 14 (by decide)).symm.trans h0')); exact h))
    exact steps_nil
  intro own2394 a2394 w2394 hd2394 hz2394 hk2394 hf2394 hE2394
  have e2394_3 : a2394.eval (.tmp 3) = .pointer (some ⟨g2385, 0, none⟩) := (hk2394 3 rfl).trans e2391_3
  have e2394_4 : a2394.eval (.tmp 4) = .pointer (some ⟨g2387, 0, none⟩) := (hk2394 4 rfl).trans e2391_4
  have e2394_5 : a2394.eval (.tmp 5) = .pointer (some ⟨g2389, 0, none⟩) := (hk2394 5 rfl).trans e2391_5
  obtain ⟨⟨⟨A2392, cA2392⟩, (f_14 : a2394.eval (.tmp 14) = .slice A2392 [0, 1].length cA2392), (b_A2392 : RwO own2394 2393 [] w2394 3 R3 A2392 cA2392 [0, 1])⟩, (q_7 : ∀ (A2392 : Option Addr) (cA2392 : Nat), a2394.eval (.tmp 14) = .slice A2392 [0, 1].length cA2392 → a2394.eval (.tmp 7) = .slice A2392 [0, 1].length cA2392), -⟩ := hf2394 [0, 1] rfl
  have f_7 := q_7 _ _ f_14
  have e2394_7 := f_7
  have hX2394 := Evo.step hX2391 (fun _ => Nat.le_refl 0) hE2394 rfl
  have b2394_g2385 := BlkO.evo (by decide) hE2394 b2391_g2385
  have b2394_g2387 := BlkO.evo (by decide) hE2394 b2391_g2387
  have b2394_g2389 := BlkO.evo (by decide) hE2394 b2391_g2389
  have b2394_A2392 := b_A2392
  refine rg_plain_seq (n := 213) (rs := []) (own0 := own2394) (K := [])
      (bs := [0, 1])
      (ds := [⟨[], [], [], Fct.row 2396 [] 15 3 R3 [1, 1]⟩,
      ⟨[0], [], [], Fct.rel [8, 15] (fun l => ∀ (A2395 : Option Addr) (cA2395 : Nat), l.getD 1 undef = .slice A2395 [1, 1].length cA2395 → l.getD 0 undef = .slice A2395 [1, 1].length cA2395)⟩]) (by kernel_rfl) hz2394 hd2394 (fun _ h => nomatch h) ?_ ?_
  · refine steps_cons (fun own a wx hf hsl hE => ?_) ?_
    · exact sg_plain rfl rfl (or_lit (lab := 2396) (e := 3) (cs := #[.int .i64 1, .int .i64 1]) (F := E3) (or_new [] rfl rfl trivial (by kernel_rfl)) rfl rfl (show 2 ≤ maxLen by decide))
    refine steps_cons (fun own a wx hf hsl hE => ?_) ?_
    · obtain ⟨⟨⟨A2395, cA2395⟩, (f_15 : a.eval (.tmp 15) = .slice A2395 [1, 1].length cA2395), (b_A2395 : RwO own 2396 [] wx 3 R3 A2395 cA2395 [1, 1])⟩, -⟩ := hf
      exact sg_plain rfl rfl (or_mono (f := Fct.val 8 (.slice A2395 [1, 1].length cA2395)) (or_assign f_15) (fun own' a' w' v' hp h => fun _ _ h0' => by cases (f_15.symm.trans ((hp.2 15 (by decide)).symm.trans h0')); exact h))
    exact steps_nil
  intro own2397 a2397 w2397 hd2397 hz2397 hk2397 hf2397 hE2397
  have e2397_3 : a2397.eval (.tmp 3) = .pointer (some ⟨g2385, 0, none⟩) := (hk2397 3 rfl).trans e2394_3
  have e2397_4 : a2397.eval (.tmp 4) = .pointer (some ⟨g2387, 0, none⟩) := (hk2397 4 rfl).trans e2394_4
  have e2397_5 : a2397.eval (.tmp 5) = .pointer (some ⟨g2389, 0, none⟩) := (hk2397 5 rfl).trans e2394_5
  have e2397_7 : a2397.eval (.tmp 7) = .slice A2392 [0, 1].length cA2392 := (hk2397 7 rfl).trans e2394_7
  obtain ⟨⟨⟨A2395, cA2395⟩, (f_15 : a2397.eval (.tmp 15) = .slice A2395 [1, 1].length cA2395), (b_A2395 : RwO own2397 2396 [] w2397 3 R3 A2395 cA2395 [1, 1])⟩, (q_8 : ∀ (A2395 : Option Addr) (cA2395 : Nat), a2397.eval (.tmp 15) = .slice A2395 [1, 1].length cA2395 → a2397.eval (.tmp 8) = .slice A2395 [1, 1].length cA2395), -⟩ := hf2397 [0, 1] rfl
  have f_8 := q_8 _ _ f_15
  have e2397_8 := f_8
  have hX2397 := Evo.step hX2394 (fun _ => Nat.le_refl 0) hE2397 rfl
  have b2397_g2385 := BlkO.evo (by decide) hE2397 b2394_g2385
  have b2397_g2387 := BlkO.evo (by decide) hE2397 b2394_g2387
  have b2397_g2389 := BlkO.evo (by decide) hE2397 b2394_g2389
  have b2397_A2392 := RwO.evo rfl hE2397 b2394_A2392
  have b2397_A2395 := b_A2395
  refine rg_plain_seq (n := 213) (rs := []) (own0 := own2397) (K := [])
      (bs := [0, 1, 3, 0, 8, 24, 63, 127])
      (ds := [⟨[], [5], [], Fct.val 16 (.pointer (some ⟨g2389, 0, none⟩))⟩,
      ⟨[0], [], [], Fct.val 17 (.pointer (some ⟨g2389, 0, none⟩))⟩,
      ⟨[1], [], [], Fct.val 18 (.int .i64 b3.1.1)⟩,
      ⟨[], [5], [], Fct.val 19 (.pointer (some ⟨g2389, 2, none⟩))⟩,
      ⟨[3], [], [], Fct.val 20 (.pointer (some ⟨g2389, 2, none⟩))⟩,
      ⟨[4], [], [], Fct.val 21 (.int .i64 b3.2.1)⟩,
      ⟨[2, 5], [], [], Fct.row 2399 [] 22 3 R3 [b3.1.1, b3.2.1]⟩,
      ⟨[6], [], [], Fct.rel [9, 22] (fun l => ∀ (A2398 : Option Addr) (cA2398 : Nat), l.getD 1 undef = .slice A2398 [b3.1.1, b3.2.1].length cA2398 → l.getD 0 undef = .slice A2398 [b3.1.1, b3.2.1].length cA2398)⟩]) (by kernel_rfl) hz2397 hd2397 (fun _ h => nomatch h) ?_ ?_
  · refine steps_cons (fun own a wx hf hsl hE => ?_) ?_
    · obtain ⟨s_5, -⟩ := hsl
      exact sg_plain rfl rfl (or_field fo39_0 (s_5.trans e2397_5) (by rfl))
    refine steps_cons (fun own a wx hf hsl hE => ?_) ?_
    · obtain ⟨(f_16 : a.eval (.tmp 16) = .pointer (some ⟨g2389, 0, none⟩)), -⟩ := hf
      exact sg_plain rfl rfl (or_field fo37_0 f_16 (by rfl))
    refine steps_cons (fun own a wx hf hsl hE => ?_) ?_
    · obtain ⟨(f_17 : a.eval (.tmp 17) = .pointer (some ⟨g2389, 0, none⟩)), -⟩ := hf
      exact sg_plain rfl rfl (or_load1 to3 f_17 (Blk.at_ (BlkO.evo (by decide) hE b2397_g2389).2 0 rfl))
    refine steps_cons (fun own a wx hf hsl hE => ?_) ?_
    · obtain ⟨s_5, -⟩ := hsl
      exact sg_plain rfl rfl (or_field fo39_1 (s_5.trans e2397_5) (by rfl))
    refine steps_cons (fun own a wx hf hsl hE => ?_) ?_
    · obtain ⟨(f_19 : a.eval (.tmp 19) = .pointer (some ⟨g2389, 2, none⟩)), -⟩ := hf
      exact sg_plain rfl rfl (or_field fo37_0 f_19 (by rfl))
    refine steps_cons (fun own a wx hf hsl hE => ?_) ?_
    · obtain ⟨(f_20 : a.eval (.tmp 20) = .pointer (some ⟨g2389, 2, none⟩)), -⟩ := hf
      exact sg_plain rfl rfl (or_load1 to3 f_20 (Blk.at_ (BlkO.evo (by decide) hE b2397_g2389).2 2 rfl))
    refine steps_cons (fun own a wx hf hsl hE => ?_) ?_
    · obtain ⟨(f_18 : a.eval (.tmp 18) = .int .i64 b3.1.1), (f_21 : a.eval (.tmp 21) = .int .i64 b3.2.1), -⟩ := hf
      exact sg_plain rfl rfl (or_lit (lab := 2399) (e := 3) (cs := #[.int .i64 b3.1.1, .int .i64 b3.2.1]) (F := E3) (or_new [(18, .int .i64 b3.1.1), (21, .int .i64 b3.2.1)] rfl rfl ⟨f_18, f_21, trivial⟩ (by kernel_rfl)) rfl rfl (show 2 ≤ maxLen by decide))
    refine steps_cons (fun own a wx hf hsl hE => ?_) ?_
    · obtain ⟨⟨⟨A2398, cA2398⟩, (f_22 : a.eval (.tmp 22) = .slice A2398 [b3.1.1, b3.2.1].length cA2398), (b_A2398 : RwO own 2399 [] wx 3 R3 A2398 cA2398 [b3.1.1, b3.2.1])⟩, -⟩ := hf
      exact sg_plain rfl rfl (or_mono (f := Fct.val 9 (.slice A2398 [b3.1.1, b3.2.1].length cA2398)) (or_assign f_22) (fun own' a' w' v' hp h => fun _ _ h0' => by cases (f_22.symm.trans ((hp.2 22 (by decide)).symm.trans h0')); exact h))
    exact steps_nil
  intro own2400 a2400 w2400 hd2400 hz2400 hk2400 hf2400 hE2400
  have e2400_3 : a2400.eval (.tmp 3) = .pointer (some ⟨g2385, 0, none⟩) := (hk2400 3 rfl).trans e2397_3
  have e2400_4 : a2400.eval (.tmp 4) = .pointer (some ⟨g2387, 0, none⟩) := (hk2400 4 rfl).trans e2397_4
  have e2400_5 : a2400.eval (.tmp 5) = .pointer (some ⟨g2389, 0, none⟩) := (hk2400 5 rfl).trans e2397_5
  have e2400_7 : a2400.eval (.tmp 7) = .slice A2392 [0, 1].length cA2392 := (hk2400 7 rfl).trans e2397_7
  have e2400_8 : a2400.eval (.tmp 8) = .slice A2395 [1, 1].length cA2395 := (hk2400 8 rfl).trans e2397_8
  obtain ⟨⟨⟨A2398, cA2398⟩, (f_22 : a2400.eval (.tmp 22) = .slice A2398 [b3.1.1, b3.2.1].length cA2398), (b_A2398 : RwO own2400 2399 [] w2400 3 R3 A2398 cA2398 [b3.1.1, b3.2.1])⟩, (q_9 : ∀ (A2398 : Option Addr) (cA2398 : Nat), a2400.eval (.tmp 22) = .slice A2398 [b3.1.1, b3.2.1].length cA2398 → a2400.eval (.tmp 9) = .slice A2398 [b3.1.1, b3.2.1].length cA2398), -⟩ := hf2400 [6, 7] rfl
  have f_9 := q_9 _ _ f_22
  have e2400_9 := f_9
  have hX2400 := Evo.step hX2397 (fun _ => Nat.le_refl 0) hE2400 rfl
  have b2400_g2385 := BlkO.evo (by decide) hE2400 b2397_g2385
  have b2400_g2387 := BlkO.evo (by decide) hE2400 b2397_g2387
  have b2400_g2389 := BlkO.evo (by decide) hE2400 b2397_g2389
  have b2400_A2392 := RwO.evo rfl hE2400 b2397_A2392
  have b2400_A2395 := RwO.evo rfl hE2400 b2397_A2395
  have b2400_A2398 := b_A2398
  refine rg_plain_seq (n := 213) (rs := []) (own0 := own2400) (K := [])
      (bs := [0, 1, 3, 0, 8, 24, 63, 127])
      (ds := [⟨[], [5], [], Fct.val 23 (.pointer (some ⟨g2389, 0, none⟩))⟩,
      ⟨[0], [], [], Fct.val 24 (.pointer (some ⟨g2389, 1, none⟩))⟩,
      ⟨[1], [], [], Fct.val 25 (.int .i64 b3.1.2)⟩,
      ⟨[], [5], [], Fct.val 26 (.pointer (some ⟨g2389, 2, none⟩))⟩,
      ⟨[3], [], [], Fct.val 27 (.pointer (some ⟨g2389, 3, none⟩))⟩,
      ⟨[4], [], [], Fct.val 28 (.int .i64 b3.2.2)⟩,
      ⟨[2, 5], [], [], Fct.row 2402 [] 29 3 R3 [b3.1.2, b3.2.2]⟩,
      ⟨[6], [], [], Fct.rel [10, 29] (fun l => ∀ (A2401 : Option Addr) (cA2401 : Nat), l.getD 1 undef = .slice A2401 [b3.1.2, b3.2.2].length cA2401 → l.getD 0 undef = .slice A2401 [b3.1.2, b3.2.2].length cA2401)⟩]) (by kernel_rfl) hz2400 hd2400 (fun _ h => nomatch h) ?_ ?_
  · refine steps_cons (fun own a wx hf hsl hE => ?_) ?_
    · obtain ⟨s_5, -⟩ := hsl
      exact sg_plain rfl rfl (or_field fo39_0 (s_5.trans e2400_5) (by rfl))
    refine steps_cons (fun own a wx hf hsl hE => ?_) ?_
    · obtain ⟨(f_23 : a.eval (.tmp 23) = .pointer (some ⟨g2389, 0, none⟩)), -⟩ := hf
      exact sg_plain rfl rfl (or_field fo37_1 f_23 (by rfl))
    refine steps_cons (fun own a wx hf hsl hE => ?_) ?_
    · obtain ⟨(f_24 : a.eval (.tmp 24) = .pointer (some ⟨g2389, 1, none⟩)), -⟩ := hf
      exact sg_plain rfl rfl (or_load1 to3 f_24 (Blk.at_ (BlkO.evo (by decide) hE b2400_g2389).2 1 rfl))
    refine steps_cons (fun own a wx hf hsl hE => ?_) ?_
    · obtain ⟨s_5, -⟩ := hsl
      exact sg_plain rfl rfl (or_field fo39_1 (s_5.trans e2400_5) (by rfl))
    refine steps_cons (fun own a wx hf hsl hE => ?_) ?_
    · obtain ⟨(f_26 : a.eval (.tmp 26) = .pointer (some ⟨g2389, 2, none⟩)), -⟩ := hf
      exact sg_plain rfl rfl (or_field fo37_1 f_26 (by rfl))
    refine steps_cons (fun own a wx hf hsl hE => ?_) ?_
    · obtain ⟨(f_27 : a.eval (.tmp 27) = .pointer (some ⟨g2389, 3, none⟩)), -⟩ := hf
      exact sg_plain rfl rfl (or_load1 to3 f_27 (Blk.at_ (BlkO.evo (by decide) hE b2400_g2389).2 3 rfl))
    refine steps_cons (fun own a wx hf hsl hE => ?_) ?_
    · obtain ⟨(f_25 : a.eval (.tmp 25) = .int .i64 b3.1.2), (f_28 : a.eval (.tmp 28) = .int .i64 b3.2.2), -⟩ := hf
      exact sg_plain rfl rfl (or_lit (lab := 2402) (e := 3) (cs := #[.int .i64 b3.1.2, .int .i64 b3.2.2]) (F := E3) (or_new [(25, .int .i64 b3.1.2), (28, .int .i64 b3.2.2)] rfl rfl ⟨f_25, f_28, trivial⟩ (by kernel_rfl)) rfl rfl (show 2 ≤ maxLen by decide))
    refine steps_cons (fun own a wx hf hsl hE => ?_) ?_
    · obtain ⟨⟨⟨A2401, cA2401⟩, (f_29 : a.eval (.tmp 29) = .slice A2401 [b3.1.2, b3.2.2].length cA2401), (b_A2401 : RwO own 2402 [] wx 3 R3 A2401 cA2401 [b3.1.2, b3.2.2])⟩, -⟩ := hf
      exact sg_plain rfl rfl (or_mono (f := Fct.val 10 (.slice A2401 [b3.1.2, b3.2.2].length cA2401)) (or_assign f_29) (fun own' a' w' v' hp h => fun _ _ h0' => by cases (f_29.symm.trans ((hp.2 29 (by decide)).symm.trans h0')); exact h))
    exact steps_nil
  intro own2403 a2403 w2403 hd2403 hz2403 hk2403 hf2403 hE2403
  have e2403_3 : a2403.eval (.tmp 3) = .pointer (some ⟨g2385, 0, none⟩) := (hk2403 3 rfl).trans e2400_3
  have e2403_4 : a2403.eval (.tmp 4) = .pointer (some ⟨g2387, 0, none⟩) := (hk2403 4 rfl).trans e2400_4
  have e2403_5 : a2403.eval (.tmp 5) = .pointer (some ⟨g2389, 0, none⟩) := (hk2403 5 rfl).trans e2400_5
  have e2403_7 : a2403.eval (.tmp 7) = .slice A2392 [0, 1].length cA2392 := (hk2403 7 rfl).trans e2400_7
  have e2403_8 : a2403.eval (.tmp 8) = .slice A2395 [1, 1].length cA2395 := (hk2403 8 rfl).trans e2400_8
  have e2403_9 : a2403.eval (.tmp 9) = .slice A2398 [b3.1.1, b3.2.1].length cA2398 := (hk2403 9 rfl).trans e2400_9
  obtain ⟨⟨⟨A2401, cA2401⟩, (f_29 : a2403.eval (.tmp 29) = .slice A2401 [b3.1.2, b3.2.2].length cA2401), (b_A2401 : RwO own2403 2402 [] w2403 3 R3 A2401 cA2401 [b3.1.2, b3.2.2])⟩, (q_10 : ∀ (A2401 : Option Addr) (cA2401 : Nat), a2403.eval (.tmp 29) = .slice A2401 [b3.1.2, b3.2.2].length cA2401 → a2403.eval (.tmp 10) = .slice A2401 [b3.1.2, b3.2.2].length cA2401), -⟩ := hf2403 [6, 7] rfl
  have f_10 := q_10 _ _ f_29
  have e2403_10 := f_10
  have hX2403 := Evo.step hX2400 (fun _ => Nat.le_refl 0) hE2403 rfl
  have b2403_g2385 := BlkO.evo (by decide) hE2403 b2400_g2385
  have b2403_g2387 := BlkO.evo (by decide) hE2403 b2400_g2387
  have b2403_g2389 := BlkO.evo (by decide) hE2403 b2400_g2389
  have b2403_A2392 := RwO.evo rfl hE2403 b2400_A2392
  have b2403_A2395 := RwO.evo rfl hE2403 b2400_A2395
  have b2403_A2398 := RwO.evo rfl hE2403 b2400_A2398
  have b2403_A2401 := b_A2401
  refine fl_seq (fun Q2404 hn2404 hp2404 => ?_)
  refine rg_plain_seq (n := 213) (rs := []) (own0 := own2403) (K := [])
      (bs := [0])
      (ds := [⟨[], [], [], Fct.val 11 (.int .i64 0)⟩]) (by kernel_rfl) hz2403 hd2403 (fun _ h => nomatch h) ?_ ?_
  · refine steps_cons (fun own a wx hf hsl hE => ?_) ?_
    · exact sg_plain rfl rfl (or_assign rfl)
    exact steps_nil
  intro own2405 a2405 w2405 hd2405 hz2405 hk2405 hf2405 hE2405
  have e2405_3 : a2405.eval (.tmp 3) = .pointer (some ⟨g2385, 0, none⟩) := (hk2405 3 rfl).trans e2403_3
  have e2405_4 : a2405.eval (.tmp 4) = .pointer (some ⟨g2387, 0, none⟩) := (hk2405 4 rfl).trans e2403_4
  have e2405_5 : a2405.eval (.tmp 5) = .pointer (some ⟨g2389, 0, none⟩) := (hk2405 5 rfl).trans e2403_5
  have e2405_7 : a2405.eval (.tmp 7) = .slice A2392 [0, 1].length cA2392 := (hk2405 7 rfl).trans e2403_7
  have e2405_8 : a2405.eval (.tmp 8) = .slice A2395 [1, 1].length cA2395 := (hk2405 8 rfl).trans e2403_8
  have e2405_9 : a2405.eval (.tmp 9) = .slice A2398 [b3.1.1, b3.2.1].length cA2398 := (hk2405 9 rfl).trans e2403_9
  have e2405_10 : a2405.eval (.tmp 10) = .slice A2401 [b3.1.2, b3.2.2].length cA2401 := (hk2405 10 rfl).trans e2403_10
  obtain ⟨(f_11 : a2405.eval (.tmp 11) = .int .i64 0), -⟩ := hf2405 [0] rfl
  have e2405_11 := f_11
  have hX2405 := Evo.step hX2403 (fun _ => Nat.le_refl 0) hE2405 rfl
  have b2405_g2385 := BlkO.evo (by decide) hE2405 b2403_g2385
  have b2405_g2387 := BlkO.evo (by decide) hE2405 b2403_g2387
  have b2405_g2389 := BlkO.evo (by decide) hE2405 b2403_g2389
  have b2405_A2392 := RwO.evo rfl hE2405 b2403_A2392
  have b2405_A2395 := RwO.evo rfl hE2405 b2403_A2395
  have b2405_A2398 := RwO.evo rfl hE2405 b2403_A2398
  have b2405_A2401 := RwO.evo rfl hE2405 b2403_A2401
  refine fl_block (fun Q2406 hn2406 hx2406 hp2406 => ?_)
  refine fl_loop (body := (fun s => ref22_inside_b1 p1 q2 b3 s.1 s.2.1 s.2.2)) (z := r) (show loopO _ _ = _ from hs) (fun (s : (List Int) × (List Int) × Int) a wx => match s with | (n2840, d2844, i2846) => ∃ (ox : Own) (A2838 : Option Addr) (c2839 : Nat) (A2842 : Option Addr) (c2843 : Nat), a.defers = [] ∧ a.tmps.size = 213 ∧ a.eval (.tmp 3) = .pointer (some ⟨g2385, 0, none⟩) ∧ a.eval (.tmp 4) = .pointer (some ⟨g2387, 0, none⟩) ∧ a.eval (.tmp 5) = .pointer (some ⟨g2389, 0, none⟩) ∧ a.eval (.tmp 7) = .slice A2838 n2840.length c2839 ∧ a.eval (.tmp 8) = .slice A2842 d2844.length c2843 ∧ a.eval (.tmp 9) = .slice A2398 [b3.1.1, b3.2.1].length cA2398 ∧ a.eval (.tmp 10) = .slice A2401 [b3.1.2, b3.2.2].length cA2401 ∧ a.eval (.tmp 11) = .int .i64 i2846 ∧ Evo [] (fun _ => 0) ox w wx ∧ BlkO ox 2386 wx g2385 37 #[.int .i64 p1.1, .int .i64 p1.2] ∧ BlkO ox 2388 wx g2387 37 #[.int .i64 q2.1, .int .i64 q2.2] ∧ BlkO ox 2390 wx g2389 39 #[.int .i64 b3.1.1, .int .i64 b3.1.2, .int .i64 b3.2.1, .int .i64 b3.2.2] ∧ RwO ox 2841 [] wx 3 R3 A2838 c2839 n2840 ∧ RwO ox 2845 [] wx 3 R3 A2842 c2843 d2844 ∧ RwO ox 2399 [] wx 3 R3 A2398 cA2398 [b3.1.1, b3.2.1] ∧ RwO ox 2402 [] wx 3 R3 A2401 cA2401 [b3.1.2, b3.2.2]) ?_ ?_
  · exact ⟨(rl [(2393, 2841), (2396, 2845)] own2405), A2392, cA2392, A2395, cA2395, hd2405, hz2405, e2405_3, e2405_4, e2405_5, e2405_7, e2405_8, e2405_9, e2405_10, e2405_11, (Evo.rl_ hX2405 (fun _ => Nat.le_refl 0) rfl), (BlkO.rl_ (mm := [(2393, 2841), (2396, 2845)]) b2405_g2385), (BlkO.rl_ (mm := [(2393, 2841), (2396, 2845)]) b2405_g2387), (BlkO.rl_ (mm := [(2393, 2841), (2396, 2845)]) b2405_g2389), (RwO.rl_ (mm := [(2393, 2841), (2396, 2845)]) b2405_A2392), (RwO.rl_ (mm := [(2393, 2841), (2396, 2845)]) b2405_A2395), (RwO.rl_ (mm := [(2393, 2841), (2396, 2845)]) b2405_A2398), (RwO.rl_ (mm := [(2393, 2841), (2396, 2845)]) b2405_A2401)⟩
  · rintro ⟨n2840, d2844, i2846⟩ zz3279 a3279 w3279 ⟨own3279, A2838, c2839, A2842, c2843, hd3280, hz3280, e3280_3, e3280_4, e3280_5, e3280_7, e3280_8, e3280_9, e3280_10, e3280_11, hE3280, b3280_g2385, b3280_g2387, b3280_g2389, b3280_A2838, b3280_A2842, b3280_A2398, b3280_A2401⟩ hs Q3279 hn3279 hp3279 hz3279
    have hs : ref22_inside_b1 p1 q2 b3 n2840 d2844 i2846 = some zz3279 := hs
    refine fl_seq (fun Q3281 hn3281 hp3281 => ?_)
    refine rg_plain_seq (n := 213) (rs := []) (own0 := own3279) (K := [])
        (bs := [0, 1])
        (ds := [⟨[], [11], [], Fct.val 30 (.int .i64 i2846)⟩,
        ⟨[0], [], [], Fct.val 31 (.bool (decide (i2846 < 2)))⟩]) (by kernel_rfl) hz3280 hd3280 (fun _ h => nomatch h) ?_ ?_
    · refine steps_cons (fun own a wx hf hsl hE => ?_) ?_
      · obtain ⟨s_11, -⟩ := hsl
        exact sg_plain rfl rfl (or_move (s_11.trans e3280_11))
      refine steps_cons (fun own a wx hf hsl hE => ?_) ?_
      · obtain ⟨(f_30 : a.eval (.tmp 30) = .int .i64 i2846), -⟩ := hf
        exact sg_plain rfl rfl (or_lss f_30 rfl rfl)
      exact steps_nil
    intro own3282 a3282 w3282 hd3282 hz3282 hk3282 hf3282 hE3282
    have e3282_3 : a3282.eval (.tmp 3) = .pointer (some ⟨g2385, 0, none⟩) := (hk3282 3 rfl).trans e3280_3
    have e3282_4 : a3282.eval (.tmp 4) = .pointer (some ⟨g2387, 0, none⟩) := (hk3282 4 rfl).trans e3280_4
    have e3282_5 : a3282.eval (.tmp 5) = .pointer (some ⟨g2389, 0, none⟩) := (hk3282 5 rfl).trans e3280_5
    have e3282_7 : a3282.eval (.tmp 7) = .slice A2838 n2840.length c2839 := (hk3282 7 rfl).trans e3280_7
    have e3282_8 : a3282.eval (.tmp 8) = .slice A2842 d2844.length c2843 := (hk3282 8 rfl).trans e3280_8
    have e3282_9 : a3282.eval (.tmp 9) = .slice A2398 [b3.1.1, b3.2.1].length cA2398 := (hk3282 9 rfl).trans e3280_9
    have e3282_10 : a3282.eval (.tmp 10) = .slice A2401 [b3.1.2, b3.2.2].length cA2401 := (hk3282 10 rfl).trans e3280_10
    have e3282_11 : a3282.eval (.tmp 11) = .int .i64 i2846 := (hk3282 11 rfl).trans e3280_11
    obtain ⟨(f_31 : a3282.eval (.tmp 31) = .bool (decide (i2846 < 2))), -⟩ := hf3282 [1] rfl
    have e3282_31 := f_31
    have hX3282 := Evo.step hE3280 (fun _ => Nat.le_refl 0) hE3282 rfl
    have b3282_g2385 := BlkO.evo (by decide) hE3282 b3280_g2385
    have b3282_g2387 := BlkO.evo (by decide) hE3282 b3280_g2387
    have b3282_g2389 := BlkO.evo (by decide) hE3282 b3280_g2389
    have b3282_A2838 := RwO.evo rfl hE3282 b3280_A2838
    have b3282_A2842 := RwO.evo rfl hE3282 b3280_A2842
    have b3282_A2398 := RwO.evo rfl hE3282 b3280_A2398
    have b3282_A2401 := RwO.evo rfl hE3282 b3280_A2401
    refine fl_cond e3282_31 hs (fun c3283 hs => ?_) (fun c3283 hs => ?_)
    · refine fl_skip ?_
      refine hn3281 _ _ ?_
      refine fl_seq (fun Q3284 hn3284 hp3284 => ?_)
      refine fl_block (fun Q3498 hn3498 hx3498 hp3498 => ?_)
      have K3608 : ∀ (a3608 : Act) (w3608 : World) (own3608 : Own) (n3602 : List Int) (d3606 : List Int) (A3600 : Option Addr) (c3601 : Nat) (A3604 : Option Addr) (c3605 : Nat), a3608.defers = [] → a3608.tmps.size = 213 → a3608.eval (.tmp 3) = .pointer (some ⟨g2385, 0, none⟩) → a3608.eval (.tmp 4) = .pointer (some ⟨g2387, 0, none⟩) → a3608.eval (.tmp 5) = .pointer (some ⟨g2389, 0, none⟩) → a3608.eval (.tmp 7) = .slice A3600 n3602.length c3601 → a3608.eval (.tmp 8) = .slice A3604 d3606.length c3605 → a3608.eval (.tmp 9) = .slice A2398 [b3.1.1, b3.2.1].length cA2398 → a3608.eval (.tmp 10) = .slice A2401 [b3.1.2, b3.2.2].length cA2401 → a3608.eval (.tmp 11) = .int .i64 i2846 → Evo [] (fun _ => 0) own3608 w w3608 → BlkO own3608 2386 w3608 g2385 37 #[.int .i64 p1.1, .int .i64 p1.2] → BlkO own3608 2388 w3608 g2387 37 #[.int .i64 q2.1, .int .i64 q2.2] → BlkO own3608 2390 w3608 g2389 39 #[.int .i64 b3.1.1, .int .i64 b3.1.2, .int .i64 b3.2.1, .int .i64 b3.2.2] → RwO own3608 3603 [] w3608 3 R3 A3600 c3601 n3602 → RwO own3608 3607 [] w3608 3 R3 A3604 c3605 d3606 → RwO own3608 2399 [] w3608 3 R3 A2398 cA2398 [b3.1.1, b3.2.1] → RwO own3608 2402 [] w3608 3 R3 A2401 cA2401 [b3.1.2, b3.2.2] → ref22_inside_k2 i2846 n3602 d3606 = some zz3279 → (Q3498 .normal a3608 w3608 ∧ Q3498 (.exit 1) a3608 w3608) := by
        intro a3608 w3608 own3608 n3602 d3606 A3600 c3601 A3604 c3605 hd3609 hz3609 e3609_3 e3609_4 e3609_5 e3609_7 e3609_8 e3609_9 e3609_10 e3609_11 hE3609 b3609_g2385 b3609_g2387 b3609_g2389 b3609_A3600 b3609_A3604 b3609_A2398 b3609_A2401 hs
        refine and_both (hn3498 _ _) (hx3498 _ _) ?_
        refine hn3284 _ _ ?_
        refine rg_plain (n := 213) (rs := []) (own0 := own3608) (K := [])
            (bs := [0, 1, 3])
            (ds := [⟨[], [11], [], Fct.val 32 (.int .i64 i2846)⟩,
            ⟨[0], [], [], Fct.val 33 (.int .i64 (ad i2846 1))⟩,
            ⟨[1], [], [], Fct.val 11 (.int .i64 (ad i2846 1))⟩]) (by kernel_rfl) hz3609 hd3609 (fun _ h => nomatch h) ?_ ?_
        · refine steps_cons (fun own a wx hf hsl hE => ?_) ?_
          · obtain ⟨s_11, -⟩ := hsl
            exact sg_plain rfl rfl (or_move (s_11.trans e3609_11))
          refine steps_cons (fun own a wx hf hsl hE => ?_) ?_
          · obtain ⟨(f_32 : a.eval (.tmp 32) = .int .i64 i2846), -⟩ := hf
            exact sg_plain rfl rfl (or_add f_32 rfl rfl)
          refine steps_cons (fun own a wx hf hsl hE => ?_) ?_
          · obtain ⟨(f_33 : a.eval (.tmp 33) = .int .i64 (ad i2846 1)), -⟩ := hf
            exact sg_plain rfl rfl (or_assign f_33)
          exact steps_nil
        intro own3610 a3610 w3610 hd3610 hz3610 hk3610 hf3610 hE3610
        have e3610_3 : a3610.eval (.tmp 3) = .pointer (some ⟨g2385, 0, none⟩) := (hk3610 3 rfl).trans e3609_3
        have e3610_4 : a3610.eval (.tmp 4) = .pointer (some ⟨g2387, 0, none⟩) := (hk3610 4 rfl).trans e3609_4
        have e3610_5 : a3610.eval (.tmp 5) = .pointer (some ⟨g2389, 0, none⟩) := (hk3610 5 rfl).trans e3609_5
        have e3610_7 : a3610.eval (.tmp 7) = .slice A3600 n3602.length c3601 := (hk3610 7 rfl).trans e3609_7
        have e3610_8 : a3610.eval (.tmp 8) = .slice A3604 d3606.length c3605 := (hk3610 8 rfl).trans e3609_8
        have e3610_9 : a3610.eval (.tmp 9) = .slice A2398 [b3.1.1, b3.2.1].length cA2398 := (hk3610 9 rfl).trans e3609_9
        have e3610_10 : a3610.eval (.tmp 10) = .slice A2401 [b3.1.2, b3.2.2].length cA2401 := (hk3610 10 rfl).trans e3609_10
        obtain ⟨(f_11 : a3610.eval (.tmp 11) = .int .i64 (ad i2846 1)), -⟩ := hf3610 [2] rfl
        have e3610_11 := f_11
        have hX3610 := Evo.step hE3609 (fun _ => Nat.le_refl 0) hE3610 rfl
        have b3610_g2385 := BlkO.evo (by decide) hE3610 b3609_g2385
        have b3610_g2387 := BlkO.evo (by decide) hE3610 b3609_g2387
        have b3610_g2389 := BlkO.evo (by decide) hE3610 b3609_g2389
        have b3610_A3600 := RwO.evo rfl hE3610 b3609_A3600
        have b3610_A3604 := RwO.evo rfl hE3610 b3609_A3604
        have b3610_A2398 := RwO.evo rfl hE3610 b3609_A2398
        have b3610_A2401 := RwO.evo rfl hE3610 b3609_A2401
        exact hn3279 _ _ _ hs ⟨(rl [(3603, 2841), (3607, 2845)] own3610), A3600, c3601, A3604, c3605, hd3610, hz3610, e3610_3, e3610_4, e3610_5, e3610_7, e3610_8, e3610_9, e3610_10, e3610_11, (Evo.rl_ hX3610 (fun _ => Nat.le_refl 0) rfl), (BlkO.rl_ (mm := [(3603, 2841), (3607, 2845)]) b3610_g2385), (BlkO.rl_ (mm := [(3603, 2841), (3607, 2845)]) b3610_g2387), (BlkO.rl_ (mm := [(3603, 2841), (3607, 2845)]) b3610_g2389), (RwO.rl_ (mm := [(3603, 2841), (3607, 2845)]) b3610_A3600), (RwO.rl_ (mm := [(3603, 2841), (3607, 2845)]) b3610_A3604), (RwO.rl_ (mm := [(3603, 2841), (3607, 2845)]) b3610_A2398), (RwO.rl_ (mm := [(3603, 2841), (3607, 2845)]) b3610_A2401)⟩
      refine fl_seq (fun Q3611 hn3611 hp3611 => ?_)
      have K3650 : ∀ (a3650 : Act) (w3650 : World) (own3650 : Own) (n3644 : List Int) (d3648 : List Int) (A3642 : Option Addr) (c3643 : Nat) (A3646 : Option Addr) (c3647 : Nat), a3650.defers = [] → a3650.tmps.size = 213 → a3650.eval (.tmp 3) = .pointer (some ⟨g2385, 0, none⟩) → a3650.eval (.tmp 4) = .pointer (some ⟨g2387, 0, none⟩) → a3650.eval (.tmp 5) = .pointer (some ⟨g2389, 0, none⟩) → a3650.eval (.tmp 7) = .slice A3642 n3644.length c3643 → a3650.eval (.tmp 8) = .slice A3646 d3648.length c3647 → a3650.eval (.tmp 9) = .slice A2398 [b3.1.1, b3.2.1].length cA2398 → a3650.eval (.tmp 10) = .slice A2401 [b3.1.2, b3.2.2].length cA2401 → a3650.eval (.tmp 11) = .int .i64 i2846 → Evo [] (fun _ => 0) own3650 w w3650 → BlkO own3650 2386 w3650 g2385 37 #[.int .i64 p1.1, .int .i64 p1.2] → BlkO own3650 2388 w3650 g2387 37 #[.int .i64 q2.1, .int .i64 q2.2] → BlkO own3650 2390 w3650 g2389 39 #[.int .i64 b3.1.1, .int .i64 b3.1.2, .int .i64 b3.2.1, .int .i64 b3.2.2] → RwO own3650 3645 [] w3650 3 R3 A3642 c3643 n3644 → RwO own3650 3649 [] w3650 3 R3 A3646 c3647 d3648 → RwO own3650 2399 [] w3650 3 R3 A2398 cA2398 [b3.1.1, b3.2.1] → RwO own3650 2402 [] w3650 3 R3 A2401 cA2401 [b3.1.2, b3.2.2] → ref22_inside_k3 p1 q2 b3 i2846 n3644 d3648 = some zz3279 → Q3611 .normal a3650 w3650 := by
        intro a3650 w3650 own3650 n3644 d3648 A3642 c3643 A3646 c3647 hd3651 hz3651 e3651_3 e3651_4 e3651_5 e3651_7 e3651_8 e3651_9 e3651_10 e3651_11 hE3651 b3651_g2385 b3651_g2387 b3651_g2389 b3651_A3642 b3651_A3646 b3651_A2398 b3651_A2401 hs
        refine hn3611 _ _ ?_
        refine rg_plain_seq (n := 213) (rs := []) (own0 := own3650) (K := [])
            (bs := [0, 1, 0, 4, 15])
            (ds := [⟨[], [3], [], Fct.val 71 (.pointer (some ⟨g2385, 1, none⟩))⟩,
            ⟨[0], [], [], Fct.val 72 (.int .i64 p1.2)⟩,
            ⟨[], [4], [], Fct.val 73 (.pointer (some ⟨g2387, 1, none⟩))⟩,
            ⟨[2], [], [], Fct.val 74 (.int .i64 q2.2)⟩,
            ⟨[1, 3], [], [], Fct.val 75 (.bool (!decide (p1.2 = q2.2)))⟩]) (by kernel_rfl) hz3651 hd3651 (fun _ h => nomatch h) ?_ ?_
        · refine steps_cons (fun own a wx hf hsl hE => ?_) ?_
          · obtain ⟨s_3, -⟩ := hsl
            exact sg_plain rfl rfl (or_field fo37_1 (s_3.trans e3651_3) (by rfl))
          refine steps_cons (fun own a wx hf hsl hE => ?_) ?_
          · obtain ⟨(f_71 : a.eval (.tmp 71) = .pointer (some ⟨g2385, 1, none⟩)), -⟩ := hf
            exact sg_plain rfl rfl (or_load1 to3 f_71 (Blk.at_ (BlkO.evo (by decide) hE b3651_g2385).2 1 rfl))
          refine steps_cons (fun own a wx hf hsl hE => ?_) ?_
          · obtain ⟨s_4, -⟩ := hsl
            exact sg_plain rfl rfl (or_field fo37_1 (s_4.trans e3651_4) (by rfl))
          refine steps_cons (fun own a wx hf hsl hE => ?_) ?_
          · obtain ⟨(f_73 : a.eval (.tmp 73) = .pointer (some ⟨g2387, 1, none⟩)), -⟩ := hf
            exact sg_plain rfl rfl (or_load1 to3 f_73 (Blk.at_ (BlkO.evo (by decide) hE b3651_g2387).2 1 rfl))
          refine steps_cons (fun own a wx hf hsl hE => ?_) ?_
          · obtain ⟨(f_72 : a.eval (.tmp 72) = .int .i64 p1.2), (f_74 : a.eval (.tmp 74) = .int .i64 q2.2), -⟩ := hf
            exact sg_plain rfl rfl (or_neq f_72 f_74 rfl)
          exact steps_nil
        intro own3652 a3652 w3652 hd3652 hz3652 hk3652 hf3652 hE3652
        have e3652_3 : a3652.eval (.tmp 3) = .pointer (some ⟨g2385, 0, none⟩) := (hk3652 3 rfl).trans e3651_3
        have e3652_4 : a3652.eval (.tmp 4) = .pointer (some ⟨g2387, 0, none⟩) := (hk3652 4 rfl).trans e3651_4
        have e3652_5 : a3652.eval (.tmp 5) = .pointer (some ⟨g2389, 0, none⟩) := (hk3652 5 rfl).trans e3651_5
        have e3652_7 : a3652.eval (.tmp 7) = .slice A3642 n3644.length c3643 := (hk3652 7 rfl).trans e3651_7
        have e3652_8 : a3652.eval (.tmp 8) = .slice A3646 d3648.length c3647 := (hk3652 8 rfl).trans e3651_8
        have e3652_9 : a3652.eval (.tmp 9) = .slice A2398 [b3.1.1, b3.2.1].length cA2398 := (hk3652 9 rfl).trans e3651_9
        have e3652_10 : a3652.eval (.tmp 10) = .slice A2401 [b3.1.2, b3.2.2].length cA2401 := (hk3652 10 rfl).trans e3651_10
        have e3652_11 : a3652.eval (.tmp 11) = .int .i64 i2846 := (hk3652 11 rfl).trans e3651_11
        obtain ⟨(f_75 : a3652.eval (.tmp 75) = .bool (!decide (p1.2 = q2.2))), -⟩ := hf3652 [4] rfl
        have e3652_75 := f_75
        have hX3652 := Evo.step hE3651 (fun _ => Nat.le_refl 0) hE3652 rfl
        have b3652_g2385 := BlkO.evo (by decide) hE3652 b3651_g2385
        have b3652_g2387 := BlkO.evo (by decide) hE3652 b3651_g2387
        have b3652_g2389 := BlkO.evo (by decide) hE3652 b3651_g2389
        have b3652_A3642 := RwO.evo rfl hE3652 b3651_A3642
        have b3652_A3646 := RwO.evo rfl hE3652 b3651_A3646
        have b3652_A2398 := RwO.evo rfl hE3652 b3651_A2398
        have b3652_A2401 := RwO.evo rfl hE3652 b3651_A2401
        refine fl_cond e3652_75 hs (fun c3653 hs => ?_) (fun c3653 hs => ?_)
        · obtain ⟨x3668, hx3668, hs⟩ := obind hs
          obtain ⟨r3669, hr3669, hs⟩ := obind hs
          obtain ⟨x3672, hx3672, hs⟩ := obind hs
          obtain ⟨r3675, hr3675, hs⟩ := obind hs
          obtain ⟨x3678, hx3678, hs⟩ := obind hs
          refine rg_draw g_mixed (n := 213) (rs := [Fct.rowAt 3645 [] 3 R3 A3642 c3643 n3644, Fct.rowAt 3649 [] 3 R3 A3646 c3647 d3648]) (own0 := own3652) (K := [3645, 3649])
              (bs := [0, 0, 0, 6, 14, 0, 32, 126, 0, 256, 0, 1024, 3840, 7936, 16382, 32766, 65535, 0, 0, 262144, 0, 1048576, 3932160, 0, 8388608, 0, 33554432, 125829120, 260177919, 536739839, 1073610751, 2147483647, 4294967295, 8589934591])
              (ds := [⟨[], [7], [], Fct.val 76 (.slice A3642 n3644.length c3643)⟩,
              ⟨[], [10], [], Fct.val 77 (.slice A2401 [b3.1.2, b3.2.2].length cA2401)⟩,
              ⟨[], [11], [], Fct.val 78 (.int .i64 i2846)⟩,
              ⟨[1, 2], [], [], Fct.val 79 (.pointer (some ((adr A2401).add ((i2846 : Int).toNat * R3.s))))⟩,
              ⟨[3], [], [], Fct.val 80 (.int .i64 x3668)⟩,
              ⟨[], [3], [], Fct.val 81 (.pointer (some ⟨g2385, 1, none⟩))⟩,
              ⟨[5], [], [], Fct.val 82 (.int .i64 p1.2)⟩,
              ⟨[4, 6], [], [], Fct.val 83 (.int .i64 (sb x3668 p1.2))⟩,
              ⟨[], [4], [], Fct.val 84 (.pointer (some ⟨g2387, 1, none⟩))⟩,
              ⟨[8], [], [], Fct.val 85 (.int .i64 q2.2)⟩,
              ⟨[], [3], [], Fct.val 86 (.pointer (some ⟨g2385, 1, none⟩))⟩,
              ⟨[10], [], [], Fct.val 87 (.int .i64 p1.2)⟩,
              ⟨[9, 11], [], [], Fct.val 88 (.int .i64 (sb q2.2 p1.2))⟩,
              ⟨[12], [], [], Fct.val 89 (.int .i64 r3669)⟩,
              ⟨[7, 13], [], [], Fct.val 90 (.int .i64 (ml (sb x3668 p1.2) r3669))⟩,
              ⟨[14], [], [], Fct.row 3671 [] 91 3 R3 [ml (sb x3668 p1.2) r3669]⟩,
              ⟨[0, 15, 34], [], [3645], Fct.row 3673 [] 92 3 R3 x3672⟩,
              ⟨[], [8], [], Fct.val 93 (.slice A3646 d3648.length c3647)⟩,
              ⟨[], [4], [], Fct.val 94 (.pointer (some ⟨g2387, 1, none⟩))⟩,
              ⟨[18], [], [], Fct.val 95 (.int .i64 q2.2)⟩,
              ⟨[], [3], [], Fct.val 96 (.pointer (some ⟨g2385, 1, none⟩))⟩,
              ⟨[20], [], [], Fct.val 97 (.int .i64 p1.2)⟩,
              ⟨[19, 21], [], [], Fct.val 98 (.int .i64 (sb q2.2 p1.2))⟩,
              ⟨[], [4], [], Fct.val 99 (.pointer (some ⟨g2387, 1, none⟩))⟩,
              ⟨[23], [], [], Fct.val 100 (.int .i64 q2.2)⟩,
              ⟨[], [3], [], Fct.val 101 (.pointer (some ⟨g2385, 1, none⟩))⟩,
              ⟨[25], [], [], Fct.val 102 (.int .i64 p1.2)⟩,
              ⟨[24, 26], [], [], Fct.val 103 (.int .i64 (sb q2.2 p1.2))⟩,
              ⟨[27], [], [], Fct.val 104 (.int .i64 r3675)⟩,
              ⟨[22, 28], [], [], Fct.val 105 (.int .i64 (ml (sb q2.2 p1.2) r3675))⟩,
              ⟨[29], [], [], Fct.row 3677 [] 106 3 R3 [ml (sb q2.2 p1.2) r3675]⟩,
              ⟨[17, 30, 35], [], [3649], Fct.row 3679 [] 107 3 R3 x3678⟩,
              ⟨[16], [], [], Fct.rel [7, 92] (fun l => ∀ (A3674 : Option Addr) (cA3674 : Nat), l.getD 1 undef = .slice A3674 x3672.length cA3674 → l.getD 0 undef = .slice A3674 x3672.length cA3674)⟩,
              ⟨[31], [], [], Fct.rel [8, 107] (fun l => ∀ (A3680 : Option Addr) (cA3680 : Nat), l.getD 1 undef = .slice A3680 x3678.length cA3680 → l.getD 0 undef = .slice A3680 x3678.length cA3680)⟩]) (by kernel_rfl) hz3652 hd3652 (by simp only [List.forall_mem_cons]; exact ⟨b3652_A3642, b3652_A3646, fun _ h => nomatch h⟩) ?_ ?_
          · refine steps_cons (fun own a wx hf hsl hE => ?_) ?_
            · obtain ⟨s_7, -⟩ := hsl
              exact sg_plain rfl rfl (or_move (s_7.trans e3652_7))
            refine steps_cons (fun own a wx hf hsl hE => ?_) ?_
            · obtain ⟨s_10, -⟩ := hsl
              exact sg_plain rfl rfl (or_move (s_10.trans e3652_10))
            refine steps_cons (fun own a wx hf hsl hE => ?_) ?_
            · obtain ⟨s_11, -⟩ := hsl
              exact sg_plain rfl rfl (or_move (s_11.trans e3652_11))
            refine steps_cons (fun own a wx hf hsl hE => ?_) ?_
            · obtain ⟨(f_77 : a.eval (.tmp 77) = .slice A2401 [b3.1.2, b3.2.2].length cA2401), (f_78 : a.eval (.tmp 78) = .int .i64 i2846), -⟩ := hf
              exact sg_plain rfl rfl (or_index (R := R3) (l := [b3.1.2, b3.2.2]) tl69 f_77 f_78 (RdO.some_ (RwO.rd b3652_A2401) hx3668) hx3668)
            refine steps_cons (fun own a wx hf hsl hE => ?_) ?_
            · obtain ⟨(f_79 : a.eval (.tmp 79) = .pointer (some ((adr A2401).add ((i2846 : Int).toNat * R3.s)))), -⟩ := hf
              exact sg_plain rfl rfl (or_load1 to3 f_79 (CellsAt.zero (RdO.cells (F := E3) (RwO.rd (RwO.evo rfl hE b3652_A2401)) hx3668) rfl))
            refine steps_cons (fun own a wx hf hsl hE => ?_) ?_
            · obtain ⟨s_3, -⟩ := hsl
              exact sg_plain rfl rfl (or_field fo37_1 (s_3.trans e3652_3) (by rfl))
            refine steps_cons (fun own a wx hf hsl hE => ?_) ?_
            · obtain ⟨(f_81 : a.eval (.tmp 81) = .pointer (some ⟨g2385, 1, none⟩)), -⟩ := hf
              exact sg_plain rfl rfl (or_load1 to3 f_81 (Blk.at_ (BlkO.evo (by decide) hE b3652_g2385).2 1 rfl))
            refine steps_cons (fun own a wx hf hsl hE => ?_) ?_
            · obtain ⟨(f_80 : a.eval (.tmp 80) = .int .i64 x3668), (f_82 : a.eval (.tmp 82) = .int .i64 p1.2), -⟩ := hf
              exact sg_plain rfl rfl (or_sub f_80 f_82 rfl)
            refine steps_cons (fun own a wx hf hsl hE => ?_) ?_
            · obtain ⟨s_4, -⟩ := hsl
              exact sg_plain rfl rfl (or_field fo37_1 (s_4.trans e3652_4) (by rfl))
            refine steps_cons (fun own a wx hf hsl hE => ?_) ?_
            · obtain ⟨(f_84 : a.eval (.tmp 84) = .pointer (some ⟨g2387, 1, none⟩)), -⟩ := hf
              exact sg_plain rfl rfl (or_load1 to3 f_84 (Blk.at_ (BlkO.evo (by decide) hE b3652_g2387).2 1 rfl))
            refine steps_cons (fun own a wx hf hsl hE => ?_) ?_
            · obtain ⟨s_3, -⟩ := hsl
              exact sg_plain rfl rfl (or_field fo37_1 (s_3.trans e3652_3) (by rfl))
            refine steps_cons (fun own a wx hf hsl hE => ?_) ?_
            · obtain ⟨(f_86 : a.eval (.tmp 86) = .pointer (some ⟨g2385, 1, none⟩)), -⟩ := hf
              exact sg_plain rfl rfl (or_load1 to3 f_86 (Blk.at_ (BlkO.evo (by decide) hE b3652_g2385).2 1 rfl))
            refine steps_cons (fun own a wx hf hsl hE => ?_) ?_
            · obtain ⟨(f_85 : a.eval (.tmp 85) = .int .i64 q2.2), (f_87 : a.eval (.tmp 87) = .int .i64 p1.2), -⟩ := hf
              exact sg_plain rfl rfl (or_sub f_85 f_87 rfl)
            refine steps_cons (fun own a wx hf hsl hE => ?_) ?_
            · obtain ⟨(f_88 : a.eval (.tmp 88) = .int .i64 (sb q2.2 p1.2)), -⟩ := hf
              exact sg_plain rfl rfl (or_call cf40 (args1 f_88) (ref01_Sign_w _ (sb q2.2 p1.2)  r3669 hr3669) post_val)
            refine steps_cons (fun own a wx hf hsl hE => ?_) ?_
            · obtain ⟨(f_83 : a.eval (.tmp 83) = .int .i64 (sb x3668 p1.2)), (f_89 : a.eval (.tmp 89) = .int .i64 r3669), -⟩ := hf
              exact sg_plain rfl rfl (or_mul f_83 f_89 rfl)
            refine steps_cons (fun own a wx hf hsl hE => ?_) ?_
            · obtain ⟨(f_90 : a.eval (.tmp 90) = .int .i64 (ml (sb x3668 p1.2) r3669)), -⟩ := hf
              exact sg_plain rfl rfl (or_lit (lab := 3671) (e := 3) (cs := #[.int .i64 (ml (sb x3668 p1.2) r3669)]) (F := E3) (or_new [(90, .int .i64 (ml (sb x3668 p1.2) r3669))] rfl rfl ⟨f_90, trivial⟩ (by kernel_rfl)) rfl rfl (show 1 ≤ maxLen by decide))
            refine steps_cons (fun own a wx hf hsl hE => ?_) ?_
            · obtain ⟨(f_76 : a.eval (.tmp 76) = .slice A3642 n3644.length c3643), ⟨⟨A3670, cA3670⟩, (f_91 : a.eval (.tmp 91) = .slice A3670 [ml (sb x3668 p1.2) r3669].length cA3670), (b_A3670 : RwO own 3671 [] wx 3 R3 A3670 cA3670 [ml (sb x3668 p1.2) r3669])⟩, (b_A3642 : RwO own 3645 [] wx 3 R3 A3642 c3643 n3644), -⟩ := hf
              exact sg_plain rfl rfl (or_append (R := R3) (lab := 3645) (lab2 := 3673) (L := []) (L3 := []) tp69 f_76 b_A3642 (by decide) f_91 (RwO.rd b_A3670) hx3672 (by decide) (by decide) (mem_of rfl) (.inl (Rep.fl_flat _)))
            refine steps_cons (fun own a wx hf hsl hE => ?_) ?_
            · obtain ⟨s_8, -⟩ := hsl
              exact sg_plain rfl rfl (or_move (s_8.trans e3652_8))
            refine steps_cons (fun own a wx hf hsl hE => ?_) ?_
            · obtain ⟨s_4, -⟩ := hsl
              exact sg_plain rfl rfl (or_field fo37_1 (s_4.trans e3652_4) (by rfl))
            refine steps_cons (fun own a wx hf hsl hE => ?_) ?_
            · obtain ⟨(f_94 : a.eval (.tmp 94) = .pointer (some ⟨g2387, 1, none⟩)), -⟩ := hf
              exact sg_plain rfl rfl (or_load1 to3 f_94 (Blk.at_ (BlkO.evo (by decide) hE b3652_g2387).2 1 rfl))
            refine steps_cons (fun own a wx hf hsl hE => ?_) ?_
            · obtain ⟨s_3, -⟩ := hsl
              exact sg_plain rfl rfl (or_field fo37_1 (s_3.trans e3652_3) (by rfl))
            refine steps_cons (fun own a wx hf hsl hE => ?_) ?_
            · obtain ⟨(f_96 : a.eval (.tmp 96) = .pointer (some ⟨g2385, 1, none⟩)), -⟩ := hf
              exact sg_plain rfl rfl (or_load1 to3 f_96 (Blk.at_ (BlkO.evo (by decide) hE b3652_g2385).2 1 rfl))
            refine steps_cons (fun own a wx hf hsl hE => ?_) ?_
            · obtain ⟨(f_95 : a.eval (.tmp 95) = .int .i64 q2.2), (f_97 : a.eval (.tmp 97) = .int .i64 p1.2), -⟩ := hf
              exact sg_plain rfl rfl (or_sub f_95 f_97 rfl)
            refine steps_cons (fun own a wx hf hsl hE => ?_) ?_
            · obtain ⟨s_4, -⟩ := hsl
              exact sg_plain rfl rfl (or_field fo37_1 (s_4.trans e3652_4) (by rfl))
            refine steps_cons (fun own a wx hf hsl hE => ?_) ?_
            · obtain ⟨(f_99 : a.eval (.tmp 99) = .pointer (some ⟨g2387, 1, none⟩)), -⟩ := hf
              exact sg_plain rfl rfl (or_load1 to3 f_99 (Blk.at_ (BlkO.evo (by decide) hE b3652_g2387).2 1 rfl))
            refine steps_cons (fun own a wx hf hsl hE => ?_) ?_
            · obtain ⟨s_3, -⟩ := hsl
              exact sg_plain rfl rfl (or_field fo37_1 (s_3.trans e3652_3) (by rfl))
            refine steps_cons (fun own a wx hf hsl hE => ?_) ?_
            · obtain ⟨(f_101 : a.eval (.tmp 101) = .pointer (some ⟨g2385, 1, none⟩)), -⟩ := hf
              exact sg_plain rfl rfl (or_load1 to3 f_101 (Blk.at_ (BlkO.evo (by decide) hE b3652_g2385).2 1 rfl))
            refine steps_cons (fun own a wx hf hsl hE => ?_) ?_
            · obtain ⟨(f_100 : a.eval (.tmp 100) = .int .i64 q2.2), (f_102 : a.eval (.tmp 102) = .int .i64 p1.2), -⟩ := hf
              exact sg_plain rfl rfl (or_sub f_100 f_102 rfl)
            refine steps_cons (fun own a wx hf hsl hE => ?_) ?_
            · obtain ⟨(f_103 : a.eval (.tmp 103) = .int .i64 (sb q2.2 p1.2)), -⟩ := hf
              exact sg_plain rfl rfl (or_call cf40 (args1 f_103) (ref01_Sign_w _ (sb q2.2 p1.2)  r3675 hr3675) post_val)
            refine steps_cons (fun own a wx hf hsl hE => ?_) ?_
            · obtain ⟨(f_98 : a.eval (.tmp 98) = .int .i64 (sb q2.2 p1.2)), (f_104 : a.eval (.tmp 104) = .int .i64 r3675), -⟩ := hf
              exact sg_plain rfl rfl (or_mul f_98 f_104 rfl)
            refine steps_cons (fun own a wx hf hsl hE => ?_) ?_
            · obtain ⟨(f_105 : a.eval (.tmp 105) = .int .i64 (ml (sb q2.2 p1.2) r3675)), -⟩ := hf
              exact sg_plain rfl rfl (or_lit (lab := 3677) (e := 3) (cs := #[.int .i64 (ml (sb q2.2 p1.2) r3675)]) (F := E3) (or_new [(105, .int .i64 (ml (sb q2.2 p1.2) r3675))] rfl rfl ⟨f_105, trivial⟩ (by kernel_rfl)) rfl rfl (show 1 ≤ maxLen by decide))
            refine steps_cons (fun own a wx hf hsl hE => ?_) ?_
            · obtain ⟨(f_93 : a.eval (.tmp 93) = .slice A3646 d3648.length c3647), ⟨⟨A3676, cA3676⟩, (f_106 : a.eval (.tmp 106) = .slice A3676 [ml (sb q2.2 p1.2) r3675].length cA3676), (b_A3676 : RwO own 3677 [] wx 3 R3 A3676 cA3676 [ml (sb q2.2 p1.2) r3675])⟩, (b_A3646 : RwO own 3649 [] wx 3 R3 A3646 c3647 d3648), -⟩ := hf
              exact sg_plain rfl rfl (or_append (R := R3) (lab := 3649) (lab2 := 3679) (L := []) (L3 := []) tp69 f_93 b_A3646 (by decide) f_106 (RwO.rd b_A3676) hx3678 (by decide) (by decide) (mem_of rfl) (.inl (Rep.fl_flat _)))
            refine steps_cons (fun own a wx hf hsl hE => ?_) ?_
            · obtain ⟨⟨⟨A3674, cA3674⟩, (f_92 : a.eval (.tmp 92) = .slice A3674 x3672.length cA3674), (b_A3674 : RwO own 3673 [] wx 3 R3 A3674 cA3674 x3672)⟩, -⟩ := hf
              exact sg_plain rfl rfl (or_mono (f := Fct.val 7 (.slice A3674 x3672.length cA3674)) (or_assign f_92) (fun own' a' w' v' hp h => fun _ _ h0' => by cases (f_92.symm.trans ((hp.2 92 (by decide)).symm.trans h0')); exact h))
            refine steps_cons (fun own a wx hf hsl hE => ?_) ?_
            · obtain ⟨⟨⟨A3680, cA3680⟩, (f_107 : a.eval (.tmp 107) = .slice A3680 x3678.length cA3680), (b_A3680 : RwO own 3679 [] wx 3 R3 A3680 cA3680 x3678)⟩, -⟩ := hf
              exact sg_plain rfl rfl (or_mono (f := Fct.val 8 (.slice A3680 x3678.length cA3680)) (or_assign f_107) (fun own' a' w' v' hp h => fun _ _ h0' => by cases (f_107.symm.trans ((hp.2 107 (by decide)).symm.trans h0')); exact h))
            exact steps_nil
          intro own3681 a3681 w3681 hd3681 hz3681 hk3681 hf3681 hE3681
          have e3681_3 : a3681.eval (.tmp 3) = .pointer (some ⟨g2385, 0, none⟩) := (hk3681 3 rfl).trans e3652_3
          have e3681_4 : a3681.eval (.tmp 4) = .pointer (some ⟨g2387, 0, none⟩) := (hk3681 4 rfl).trans e3652_4
          have e3681_5 : a3681.eval (.tmp 5) = .pointer (some ⟨g2389, 0, none⟩) := (hk3681 5 rfl).trans e3652_5
          have e3681_9 : a3681.eval (.tmp 9) = .slice A2398 [b3.1.1, b3.2.1].length cA2398 := (hk3681 9 rfl).trans e3652_9
          have e3681_10 : a3681.eval (.tmp 10) = .slice A2401 [b3.1.2, b3.2.2].length cA2401 := (hk3681 10 rfl).trans e3652_10
          have e3681_11 : a3681.eval (.tmp 11) = .int .i64 i2846 := (hk3681 11 rfl).trans e3652_11
          obtain ⟨⟨⟨A3674, cA3674⟩, (f_92 : a3681.eval (.tmp 92) = .slice A3674 x3672.length cA3674), (b_A3674 : RwO own3681 3673 [] w3681 3 R3 A3674 cA3674 x3672)⟩, (q_7 : ∀ (A3674 : Option Addr) (cA3674 : Nat), a3681.eval (.tmp 92) = .slice A3674 x3672.length cA3674 → a3681.eval (.tmp 7) = .slice A3674 x3672.length cA3674), ⟨⟨A3680, cA3680⟩, (f_107 : a3681.eval (.tmp 107) = .slice A3680 x3678.length cA3680), (b_A3680 : RwO own3681 3679 [] w3681 3 R3 A3680 cA3680 x3678)⟩, (q_8 : ∀ (A3680 : Option Addr) (cA3680 : Nat), a3681.eval (.tmp 107) = .slice A3680 x3678.length cA3680 → a3681.eval (.tmp 8) = .slice A3680 x3678.length cA3680), -⟩ := hf3681 [16, 32, 31, 33] rfl
          have f_7 := q_7 _ _ f_92
          have f_8 := q_8 _ _ f_107
          have e3681_7 := f_7
          have e3681_8 := f_8
          have hX3681 := Evo.step hX3652 (fun _ => Nat.le_refl 0) hE3681 rfl
          have b3681_g2385 := BlkO.evo (by decide) hE3681 b3652_g2385
          have b3681_g2387 := BlkO.evo (by decide) hE3681 b3652_g2387
          have b3681_g2389 := BlkO.evo (by decide) hE3681 b3652_g2389
          have b3681_A2398 := RwO.evo rfl hE3681 b3652_A2398
          have b3681_A2401 := RwO.evo rfl hE3681 b3652_A2401
          have b3681_A3674 := b_A3674
          have b3681_A3680 := b_A3680
          exact (K3608 _ _ (rl [(3673, 3603), (3679, 3607)] own3681) _ _ A3674 cA3674 A3680 cA3680 hd3681 hz3681 e3681_3 e3681_4 e3681_5 e3681_7 e3681_8 e3681_9 e3681_10 e3681_11 (Evo.rl_ hX3681 (fun _ => Nat.le_refl 0) rfl) (BlkO.rl_ (mm := [(3673, 3603), (3679, 3607)]) b3681_g2385) (BlkO.rl_ (mm := [(3673, 3603), (3679, 3607)]) b3681_g2387) (BlkO.rl_ (mm := [(3673, 3603), (3679, 3607)]) b3681_g2389) (RwO.rl_ (mm := [(3673, 3603), (3679, 3607)]) b3681_A3674) (RwO.rl_ (mm := [(3673, 3603), (3679, 3607)]) b3681_A3680) (RwO.rl_ (mm := [(3673, 3603), (3679, 3607)]) b3681_A2398) (RwO.rl_ (mm := [(3673, 3603), (3679, 3607)]) b3681_A2401) hs).1
        refine fl_skip ?_
        exact (K3608 _ _ (rl [(3645, 3603), (3649, 3607)] own3652) _ _ A3642 c3643 A3646 c3647 hd3652 hz3652 e3652_3 e3652_4 e3652_5 e3652_7 e3652_8 e3652_9 e3652_10 e3652_11 (Evo.rl_ hX3652 (fun _ => Nat.le_refl 0) rfl) (BlkO.rl_ (mm := [(3645, 3603), (3649, 3607)]) b3652_g2385) (BlkO.rl_ (mm := [(3645, 3603), (3649, 3607)]) b3652_g2387) (BlkO.rl_ (mm := [(3645, 3603), (3649, 3607)]) b3652_g2389) (RwO.rl_ (mm := [(3645, 3603), (3649, 3607)]) b3652_A3642) (RwO.rl_ (mm := [(3645, 3603), (3649, 3607)]) b3652_A3646) (RwO.rl_ (mm := [(3645, 3603), (3649, 3607)]) b3652_A2398) (RwO.rl_ (mm := [(3645, 3603), (3649, 3607)]) b3652_A2401) hs).1
      refine rg_plain_seq (n := 213) (rs := []) (own0 := own3282) (K := [])
          (bs := [0, 1, 0, 4, 15])
          (ds := [⟨[], [3], [], Fct.val 34 (.pointer (some ⟨g2385, 0, none⟩))⟩,
          ⟨[0], [], [], Fct.val 35 (.int .i64 p1.1)⟩,
          ⟨[], [4], [], Fct.val 36 (.pointer (some ⟨g2387, 0, none⟩))⟩,
          ⟨[2], [], [], Fct.val 37 (.int .i64 q2.1)⟩,
          ⟨[1, 3], [], [], Fct.val 38 (.bool (!decide (p1.1 = q2.1)))⟩]) (by kernel_rfl) hz3282 hd3282 (fun _ h => nomatch h) ?_ ?_
      · refine steps_cons (fun own a wx hf hsl hE => ?_) ?_
        · obtain ⟨s_3, -⟩ := hsl
          exact sg_plain rfl rfl (or_field fo37_0 (s_3.trans e3282_3) (by rfl))
        refine steps_cons (fun own a wx hf hsl hE => ?_) ?_
        · obtain ⟨(f_34 : a.eval (.tmp 34) = .pointer (some ⟨g2385, 0, none⟩)), -⟩ := hf
          exact sg_plain rfl rfl (or_load1 to3 f_34 (Blk.at_ (BlkO.evo (by decide) hE b3282_g2385).2 0 rfl))
        refine steps_cons (fun own a wx hf hsl hE => ?_) ?_
        · obtain ⟨s_4, -⟩ := hsl
          exact sg_plain rfl rfl (or_field fo37_0 (s_4.trans e3282_4) (by rfl))
        refine steps_cons (fun own a wx hf hsl hE => ?_) ?_
        · obtain ⟨(f_36 : a.eval (.tmp 36) = .pointer (some ⟨g2387, 0, none⟩)), -⟩ := hf
          exact sg_plain rfl rfl (or_load1 to3 f_36 (Blk.at_ (BlkO.evo (by decide) hE b3282_g2387).2 0 rfl))
        refine steps_cons (fun own a wx hf hsl hE => ?_) ?_
        · obtain ⟨(f_35 : a.eval (.tmp 35) = .int .i64 p1.1), (f_37 : a.eval (.tmp 37) = .int .i64 q2.1), -⟩ := hf
          exact sg_plain rfl rfl (or_neq f_35 f_37 rfl)
        exact steps_nil
      intro own3682 a3682 w3682 hd3682 hz3682 hk3682 hf3682 hE3682
      have e3682_3 : a3682.eval (.tmp 3) = .pointer (some ⟨g2385, 0, none⟩) := (hk3682 3 rfl).trans e3282_3
      have e3682_4 : a3682.eval (.tmp 4) = .pointer (some ⟨g2387, 0, none⟩) := (hk3682 4 rfl).trans e3282_4
      have e3682_5 : a3682.eval (.tmp 5) = .pointer (some ⟨g2389, 0, none⟩) := (hk3682 5 rfl).trans e3282_5
      have e3682_7 : a3682.eval (.tmp 7) = .slice A2838 n2840.length c2839 := (hk3682 7 rfl).trans e3282_7
      have e3682_8 : a3682.eval (.tmp 8) = .slice A2842 d2844.length c2843 := (hk3682 8 rfl).trans e3282_8
      have e3682_9 : a3682.eval (.tmp 9) = .slice A2398 [b3.1.1, b3.2.1].length cA2398 := (hk3682 9 rfl).trans e3282_9
      have e3682_10 : a3682.eval (.tmp 10) = .slice A2401 [b3.1.2, b3.2.2].length cA2401 := (hk3682 10 rfl).trans e3282_10
      have e3682_11 : a3682.eval (.tmp 11) = .int .i64 i2846 := (hk3682 11 rfl).trans e3282_11
      obtain ⟨(f_38 : a3682.eval (.tmp 38) = .bool (!decide (p1.1 = q2.1))), -⟩ := hf3682 [4] rfl
      have e3682_38 := f_38
      have hX3682 := Evo.step hX3282 (fun _ => Nat.le_refl 0) hE3682 rfl
      have b3682_g2385 := BlkO.evo (by decide) hE3682 b3282_g2385
      have b3682_g2387 := BlkO.evo (by decide) hE3682 b3282_g2387
      have b3682_g2389 := BlkO.evo (by decide) hE3682 b3282_g2389
      have b3682_A2838 := RwO.evo rfl hE3682 b3282_A2838
      have b3682_A2842 := RwO.evo rfl hE3682 b3282_A2842
      have b3682_A2398 := RwO.evo rfl hE3682 b3282_A2398
      have b3682_A2401 := RwO.evo rfl hE3682 b3282_A2401
      refine fl_cond e3682_38 hs (fun c3683 hs => ?_) (fun c3683 hs => ?_)
      · obtain ⟨x3698, hx3698, hs⟩ := obind hs
        obtain ⟨r3699, hr3699, hs⟩ := obind hs
        obtain ⟨x3702, hx3702, hs⟩ := obind hs
        obtain ⟨r3705, hr3705, hs⟩ := obind hs
        obtain ⟨x3708, hx3708, hs⟩ := obind hs
        refine rg_draw g_mixed (n := 213) (rs := [Fct.rowAt 2841 [] 3 R3 A2838 c2839 n2840, Fct.rowAt 2845 [] 3 R3 A2842 c2843 d2844]) (own0 := own3682) (K := [2841, 2845])
            (bs := [0, 0, 0, 6, 14, 0, 32, 126, 0, 256, 0, 1024, 3840, 7936, 16382, 32766, 65535, 0, 0, 262144, 0, 1048576, 3932160, 0, 8388608, 0, 33554432, 125829120, 260177919, 536739839, 1073610751, 2147483647, 4294967295, 8589934591])
            (ds := [⟨[], [7], [], Fct.val 39 (.slice A2838 n2840.length c2839)⟩,
            ⟨[], [9], [], Fct.val 40 (.slice A2398 [b3.1.1, b3.2.1].length cA2398)⟩,
            ⟨[], [11], [], Fct.val 41 (.int .i64 i2846)⟩,
            ⟨[1, 2], [], [], Fct.val 42 (.pointer (some ((adr A2398).add ((i2846 : Int).toNat * R3.s))))⟩,
            ⟨[3], [], [], Fct.val 43 (.int .i64 x3698)⟩,
            ⟨[], [3], [], Fct.val 44 (.pointer (some ⟨g2385, 0, none⟩))⟩,
            ⟨[5], [], [], Fct.val 45 (.int .i64 p1.1)⟩,
            ⟨[4, 6], [], [], Fct.val 46 (.int .i64 (sb x3698 p1.1))⟩,
            ⟨[], [4], [], Fct.val 47 (.pointer (some ⟨g2387, 0, none⟩))⟩,
            ⟨[8], [], [], Fct.val 48 (.int .i64 q2.1)⟩,
            ⟨[], [3], [], Fct.val 49 (.pointer (some ⟨g2385, 0, none⟩))⟩,
            ⟨[10], [], [], Fct.val 50 (.int .i64 p1.1)⟩,
            ⟨[9, 11], [], [], Fct.val 51 (.int .i64 (sb q2.1 p1.1))⟩,
            ⟨[12], [], [], Fct.val 52 (.int .i64 r3699)⟩,
            ⟨[7, 13], [], [], Fct.val 53 (.int .i64 (ml (sb x3698 p1.1) r3699))⟩,
            ⟨[14], [], [], Fct.row 3701 [] 54 3 R3 [ml (sb x3698 p1.1) r3699]⟩,
            ⟨[0, 15, 34], [], [2841], Fct.row 3703 [] 55 3 R3 x3702⟩,
            ⟨[], [8], [], Fct.val 56 (.slice A2842 d2844.length c2843)⟩,
            ⟨[], [4], [], Fct.val 57 (.pointer (some ⟨g2387, 0, none⟩))⟩,
            ⟨[18], [], [], Fct.val 58 (.int .i64 q2.1)⟩,
            ⟨[], [3], [], Fct.val 59 (.pointer (some ⟨g2385, 0, none⟩))⟩,
            ⟨[20], [], [], Fct.val 60 (.int .i64 p1.1)⟩,
            ⟨[19, 21], [], [], Fct.val 61 (.int .i64 (sb q2.1 p1.1))⟩,
            ⟨[], [4], [], Fct.val 62 (.pointer (some ⟨g2387, 0, none⟩))⟩,
            ⟨[23], [], [], Fct.val 63 (.int .i64 q2.1)⟩,
            ⟨[], [3], [], Fct.val 64 (.pointer (some ⟨g2385, 0, none⟩))⟩,
            ⟨[25], [], [], Fct.val 65 (.int .i64 p1.1)⟩,
            ⟨[24, 26], [], [], Fct.val 66 (.int .i64 (sb q2.1 p1.1))⟩,
            ⟨[27], [], [], Fct.val 67 (.int .i64 r3705)⟩,
            ⟨[22, 28], [], [], Fct.val 68 (.int .i64 (ml (sb q2.1 p1.1) r3705))⟩,
            ⟨[29], [], [], Fct.row 3707 [] 69 3 R3 [ml (sb q2.1 p1.1) r3705]⟩,
            ⟨[17, 30, 35], [], [2845], Fct.row 3709 [] 70 3 R3 x3708⟩,
            ⟨[16], [], [], Fct.rel [7, 55] (fun l => ∀ (A3704 : Option Addr) (cA3704 : Nat), l.getD 1 undef = .slice A3704 x3702.length cA3704 → l.getD 0 undef = .slice A3704 x3702.length cA3704)⟩,
            ⟨[31], [], [], Fct.rel [8, 70] (fun l => ∀ (A3710 : Option Addr) (cA3710 : Nat), l.getD 1 undef = .slice A3710 x3708.length cA3710 → l.getD 0 undef = .slice A3710 x3708.length cA3710)⟩]) (by kernel_rfl) hz3682 hd3682 (by simp only [List.forall_mem_cons]; exact ⟨b3682_A2838, b3682_A2842, fun _ h => nomatch h⟩) ?_ ?_
        · refine steps_cons (fun own a wx hf hsl hE => ?_) ?_
          · obtain ⟨s_7, -⟩ := hsl
            exact sg_plain rfl rfl (or_move (s_7.trans e3682_7))
          refine steps_cons (fun own a wx hf hsl hE => ?_) ?_
          · obtain ⟨s_9, -⟩ := hsl
            exact sg_plain rfl rfl (or_move (s_9.trans e3682_9))
          refine steps_cons (fun own a wx hf hsl hE => ?_) ?_
          · obtain ⟨s_11, -⟩ := hsl
            exact sg_plain rfl rfl (or_move (s_11.trans e3682_11))
          refine steps_cons (fun own a wx hf hsl hE => ?_) ?_
          · obtain ⟨(f_40 : a.eval (.tmp 40) = .slice A2398 [b3.1.1, b3.2.1].length cA2398), (f_41 : a.eval (.tmp 41) = .int .i64 i2846), -⟩ := hf
            exact sg_plain rfl rfl (or_index (R := R3) (l := [b3.1.1, b3.2.1]) tl69 f_40 f_41 (RdO.some_ (RwO.rd b3682_A2398) hx3698) hx3698)
          refine steps_cons (fun own a wx hf hsl hE => ?_) ?_
          · obtain ⟨(f_42 : a.eval (.tmp 42) = .pointer (some ((adr A2398).add ((i2846 : Int).toNat * R3.s)))), -⟩ := hf
            exact sg_plain rfl rfl (or_load1 to3 f_42 (CellsAt.zero (RdO.cells (F := E3) (RwO.rd (RwO.evo rfl hE b3682_A2398)) hx3698) rfl))
          refine steps_cons (fun own a wx hf hsl hE => ?_) ?_
          · obtain ⟨s_3, -⟩ := hsl
            exact sg_plain rfl rfl (or_field fo37_0 (s_3.trans e3682_3) (by rfl))
          refine steps_cons (fun own a wx hf hsl hE => ?_) ?_
          · obtain ⟨(f_44 : a.eval (.tmp 44) = .pointer (some ⟨g2385, 0, none⟩)), -⟩ := hf
            exact sg_plain rfl rfl (or_load1 to3 f_44 (Blk.at_ (BlkO.evo (by decide) hE b3682_g2385).2 0 rfl))
          refine steps_cons (fun own a wx hf hsl hE => ?_) ?_
          · obtain ⟨(f_43 : a.eval (.tmp 43) = .int .i64 x3698), (f_45 : a.eval (.tmp 45) = .int .i64 p1.1), -⟩ := hf
            exact sg_plain rfl rfl (or_sub f_43 f_45 rfl)
          refine steps_cons (fun own a wx hf hsl hE => ?_) ?_
          · obtain ⟨s_4, -⟩ := hsl
            exact sg_plain rfl rfl (or_field fo37_0 (s_4.trans e3682_4) (by rfl))
          refine steps_cons (fun own a wx hf hsl hE => ?_) ?_
          · obtain ⟨(f_47 : a.eval (.tmp 47) = .pointer (some ⟨g2387, 0, none⟩)), -⟩ := hf
            exact sg_plain rfl rfl (or_load1 to3 f_47 (Blk.at_ (BlkO.evo (by decide) hE b3682_g2387).2 0 rfl))
          refine steps_cons (fun own a wx hf hsl hE => ?_) ?_
          · obtain ⟨s_3, -⟩ := hsl
            exact sg_plain rfl rfl (or_field fo37_0 (s_3.trans e3682_3) (by rfl))
          refine steps_cons (fun own a wx hf hsl hE => ?_) ?_
          · obtain ⟨(f_49 : a.eval (.tmp 49) = .pointer (some ⟨g2385, 0, none⟩)), -⟩ := hf
            exact sg_plain rfl rfl (or_load1 to3 f_49 (Blk.at_ (BlkO.evo (by decide) hE b3682_g2385).2 0 rfl))
          refine steps_cons (fun own a wx hf hsl hE => ?_) ?_
          · obtain ⟨(f_48 : a.eval (.tmp 48) = .int .i64 q2.1), (f_50 : a.eval (.tmp 50) = .int .i64 p1.1), -⟩ := hf
            exact sg_plain rfl rfl (or_sub f_48 f_50 rfl)
          refine steps_cons (fun own a wx hf hsl hE => ?_) ?_
          · obtain ⟨(f_51 : a.eval (.tmp 51) = .int .i64 (sb q2.1 p1.1)), -⟩ := hf
            exact sg_plain rfl rfl (or_call cf40 (args1 f_51) (ref01_Sign_w _ (sb q2.1 p1.1)  r3699 hr3699) post_val)
          refine steps_cons (fun own a wx hf hsl hE => ?_) ?_
          · obtain ⟨(f_46 : a.eval (.tmp 46) = .int .i64 (sb x3698 p1.1)), (f_52 : a.eval (.tmp 52) = .int .i64 r3699), -⟩ := hf
            exact sg_plain rfl rfl (or_mul f_46 f_52 rfl)
          refine steps_cons (fun own a wx hf hsl hE => ?_) ?_
          · obtain ⟨(f_53 : a.eval (.tmp 53) = .int .i64 (ml (sb x3698 p1.1) r3699)), -⟩ := hf
            exact sg_plain rfl rfl (or_lit (lab := 3701) (e := 3) (cs := #[.int .i64 (ml (sb x3698 p1.1) r3699)]) (F := E3) (or_new [(53, .int .i64 (ml (sb x3698 p1.1) r3699))] rfl rfl ⟨f_53, trivial⟩ (by kernel_rfl)) rfl rfl (show 1 ≤ maxLen by decide))
          refine steps_cons (fun own a wx hf hsl hE => ?_) ?_
          · obtain ⟨(f_39 : a.eval (.tmp 39) = .slice A2838 n2840.length c2839), ⟨⟨A3700, cA3700⟩, (f_54 : a.eval (.tmp 54) = .slice A3700 [ml (sb x3698 p1.1) r3699].length cA3700), (b_A3700 : RwO own 3701 [] wx 3 R3 A3700 cA3700 [ml (sb x3698 p1.1) r3699])⟩, (b_A2838 : RwO own 2841 [] wx 3 R3 A2838 c2839 n2840), -⟩ := hf
            exact sg_plain rfl rfl (or_append (R := R3) (lab := 2841) (lab2 := 3703) (L := []) (L3 := []) tp69 f_39 b_A2838 (by decide) f_54 (RwO.rd b_A3700) hx3702 (by decide) (by decide) (mem_of rfl) (.inl (Rep.fl_flat _)))
          refine steps_cons (fun own a wx hf hsl hE => ?_) ?_
          · obtain ⟨s_8, -⟩ := hsl
            exact sg_plain rfl rfl (or_move (s_8.trans e3682_8))
          refine steps_cons (fun own a wx hf hsl hE => ?_) ?_
          · obtain ⟨s_4, -⟩ := hsl
            exact sg_plain rfl rfl (or_field fo37_0 (s_4.trans e3682_4) (by rfl))
          refine steps_cons (fun own a wx hf hsl hE => ?_) ?_
          · obtain ⟨(f_57 : a.eval (.tmp 57) = .pointer (some ⟨g2387, 0, none⟩)), -⟩ := hf
            exact sg_plain rfl rfl (or_load1 to3 f_57 (Blk.at_ (BlkO.evo (by decide) hE b3682_g2387).2 0 rfl))
          refine steps_cons (fun own a wx hf hsl hE => ?_) ?_
          · obtain ⟨s_3, -⟩ := hsl
            exact sg_plain rfl rfl (or_field fo37_0 (s_3.trans e3682_3) (by rfl))
          refine steps_cons (fun own a wx hf hsl hE => ?_) ?_
          · obtain ⟨(f_59 : a.eval (.tmp 59) = .pointer (some ⟨g2385, 0, none⟩)), -⟩ := hf
            exact sg_plain rfl rfl (or_load1 to3 f_59 (Blk.at_ (BlkO.evo (by decide) hE b3682_g2385).2 0 rfl))
          refine steps_cons (fun own a wx hf hsl hE => ?_) ?_
          · obtain ⟨(f_58 : a.eval (.tmp 58) = .int .i64 q2.1), (f_60 : a.eval (.tmp 60) = .int .i64 p1.1), -⟩ := hf
            exact sg_plain rfl rfl (or_sub f_58 f_60 rfl)
          refine steps_cons (fun own a wx hf hsl hE => ?_) ?_
          · obtain ⟨s_4, -⟩ := hsl
            exact sg_plain rfl rfl (or_field fo37_0 (s_4.trans e3682_4) (by rfl))
          refine steps_cons (fun own a wx hf hsl hE => ?_) ?_
          · obtain ⟨(f_62 : a.eval (.tmp 62) = .pointer (some ⟨g2387, 0, none⟩)), -⟩ := hf
            exact sg_plain rfl rfl (or_load1 to3 f_62 (Blk.at_ (BlkO.evo (by decide) hE b3682_g2387).2 0 rfl))
          refine steps_cons (fun own a wx hf hsl hE => ?_) ?_
          · obtain ⟨s_3, -⟩ := hsl
            exact sg_plain rfl rfl (or_field fo37_0 (s_3.trans e3682_3) (by rfl))
          refine steps_cons (fun own a wx hf hsl hE => ?_) ?_
          · obtain ⟨(f_64 : a.eval (.tmp 64) = .pointer (some ⟨g2385, 0, none⟩)), -⟩ := hf
            exact sg_plain rfl rfl (or_load1 to3 f_64 (Blk.at_ (BlkO.evo (by decide) hE b3682_g2385).2 0 rfl))
          refine steps_cons (fun own a wx hf hsl hE => ?_) ?_
          · obtain ⟨(f_63 : a.eval (.tmp 63) = .int .i64 q2.1), (f_65 : a.eval (.tmp 65) = .int .i64 p1.1), -⟩ := hf
            exact sg_plain rfl rfl (or_sub f_63 f_65 rfl)
          refine steps_cons (fun own a wx hf hsl hE => ?_) ?_
          · obtain ⟨(f_66 : a.eval (.tmp 66) = .int .i64 (sb q2.1 p1.1)), -⟩ := hf
            exact sg_plain rfl rfl (or_call cf40 (args1 f_66) (ref01_Sign_w _ (sb q2.1 p1.1)  r3705 hr3705) post_val)
          refine steps_cons (fun own a wx hf hsl hE => ?_) ?_
          · obtain ⟨(f_61 : a.eval (.tmp 61) = .int .i64 (sb q2.1 p1.1)), (f_67 : a.eval (.tmp 67) = .int .i64 r3705), -⟩ := hf
            exact sg_plain rfl rfl (or_mul f_61 f_67 rfl)
          refine steps_cons (fun own a wx hf hsl hE => ?_) ?_
          · obtain ⟨(f_68 : a.eval (.tmp 68) = .int .i64 (ml (sb q2.1 p1.1) r3705)), -⟩ := hf
            exact sg_plain rfl rfl (or_lit (lab := 3707) (e := 3) (cs := #[.int .i64 (ml (sb q2.1 p1.1) r3705)]) (F := E3) (or_new [(68, .int .i64 (ml (sb q2.1 p1.1) r3705))] rfl rfl ⟨f_68, trivial⟩ (by kernel_rfl)) rfl rfl (show 1 ≤ maxLen by decide))
          refine steps_cons (fun own a wx hf hsl hE => ?_) ?_
          · obtain ⟨(f_56 : a.eval (.tmp 56) = .slice A2842 d2844.length c2843), ⟨⟨A3706, cA3706⟩, (f_69 : a.eval (.tmp 69) = .slice A3706 [ml (sb q2.1 p1.1) r3705].length cA3706), (b_A3706 : RwO own 3707 [] wx 3 R3 A3706 cA3706 [ml (sb q2.1 p1.1) r3705])⟩, (b_A2842 : RwO own 2845 [] wx 3 R3 A2842 c2843 d2844), -⟩ := hf
            exact sg_plain rfl rfl (or_append (R := R3) (lab := 2845) (lab2 := 3709) (L := []) (L3 := []) tp69 f_56 b_A2842 (by decide) f_69 (RwO.rd b_A3706) hx3708 (by decide) (by decide) (mem_of rfl) (.inl (Rep.fl_flat _)))
          refine steps_cons (fun own a wx hf hsl hE => ?_) ?_
          · obtain ⟨⟨⟨A3704, cA3704⟩, (f_55 : a.eval (.tmp 55) = .slice A3704 x3702.length cA3704), (b_A3704 : RwO own 3703 [] wx 3 R3 A3704 cA3704 x3702)⟩, -⟩ := hf
            exact sg_plain rfl rfl (or_mono (f := Fct.val 7 (.slice A3704 x3702.length cA3704)) (or_assign f_55) (fun own' a' w' v' hp h => fun _ _ h0' => by cases (f_55.symm.trans ((hp.2 55 (by decide)).symm.trans h0')); exact h))
          refine steps_cons (fun own a wx hf hsl hE => ?_) ?_
          · obtain ⟨⟨⟨A3710, cA3710⟩, (f_70 : a.eval (.tmp 70) = .slice A3710 x3708.length cA3710), (b_A3710 : RwO own 3709 [] wx 3 R3 A3710 cA3710 x3708)⟩, -⟩ := hf
            exact sg_plain rfl rfl (or_mono (f := Fct.val 8 (.slice A3710 x3708.length cA3710)) (or_assign f_70) (fun own' a' w' v' hp h => fun _ _ h0' => by cases (f_70.symm.trans ((hp.2 70 (by decide)).symm.trans h0')); exact h))
          exact steps_nil
        intro own3711 a3711 w3711 hd3711 hz3711 hk3711 hf3711 hE3711
        have e3711_3 : a3711.eval (.tmp 3) = .pointer (some ⟨g2385, 0, none⟩) := (hk3711 3 rfl).trans e3682_3
        have e3711_4 : a3711.eval (.tmp 4) = .pointer (some ⟨g2387, 0, none⟩) := (hk3711 4 rfl).trans e3682_4
        have e3711_5 : a3711.eval (.tmp 5) = .pointer (some ⟨g2389, 0, none⟩) := (hk3711 5 rfl).trans e3682_5
        have e3711_9 : a3711.eval (.tmp 9) = .slice A2398 [b3.1.1, b3.2.1].length cA2398 := (hk3711 9 rfl).trans e3682_9
        have e3711_10 : a3711.eval (.tmp 10) = .slice A2401 [b3.1.2, b3.2.2].length cA2401 := (hk3711 10 rfl).trans e3682_10
        have e3711_11 : a3711.eval (.tmp 11) = .int .i64 i2846 := (hk3711 11 rfl).trans e3682_11
        obtain ⟨⟨⟨A3704, cA3704⟩, (f_55 : a3711.eval (.tmp 55) = .slice A3704 x3702.length cA3704), (b_A3704 : RwO own3711 3703 [] w3711 3 R3 A3704 cA3704 x3702)⟩, (q_7 : ∀ (A3704 : Option Addr) (cA3704 : Nat), a3711.eval (.tmp 55) = .slice A3704 x3702.length cA3704 → a3711.eval (.tmp 7) = .slice A3704 x3702.length cA3704), ⟨⟨A3710, cA3710⟩, (f_70 : a3711.eval (.tmp 70) = .slice A3710 x3708.length cA3710), (b_A3710 : RwO own3711 3709 [] w3711 3 R3 A3710 cA3710 x3708)⟩, (q_8 : ∀ (A3710 : Option Addr) (cA3710 : Nat), a3711.eval (.tmp 70) = .slice A3710 x3708.length cA3710 → a3711.eval (.tmp 8) = .slice A3710 x3708.length cA3710), -⟩ := hf3711 [16, 32, 31, 33] rfl
        have f_7 := q_7 _ _ f_55
        have f_8 := q_8 _ _ f_70
        have e3711_7 := f_7
        have e3711_8 := f_8
        have hX3711 := Evo.step hX3682 (fun _ => Nat.le_refl 0) hE3711 rfl
        have b3711_g2385 := BlkO.evo (by decide) hE3711 b3682_g2385
        have b3711_g2387 := BlkO.evo (by decide) hE3711 b3682_g2387
        have b3711_g2389 := BlkO.evo (by decide) hE3711 b3682_g2389
        have b3711_A2398 := RwO.evo rfl hE3711 b3682_A2398
        have b3711_A2401 := RwO.evo rfl hE3711 b3682_A2401
        have b3711_A3704 := b_A3704
        have b3711_A3710 := b_A3710
        exact (K3650 _ _ (rl [(3703, 3645), (3709, 3649)] own3711) _ _ A3704 cA3704 A3710 cA3710 hd3711 hz3711 e3711_3 e3711_4 e3711_5 e3711_7 e3711_8 e3711_9 e3711_10 e3711_11 (Evo.rl_ hX3711 (fun _ => Nat.le_refl 0) rfl) (BlkO.rl_ (mm := [(3703, 3645), (3709, 3649)]) b3711_g2385) (BlkO.rl_ (mm := [(3703, 3645), (3709, 3649)]) b3711_g2387) (BlkO.rl_ (mm := [(3703, 3645), (3709, 3649)]) b3711_g2389) (RwO.rl_ (mm := [(3703, 3645), (3709, 3649)]) b3711_A3704) (RwO.rl_ (mm := [(3703, 3645), (3709, 3649)]) b3711_A3710) (RwO.rl_ (mm := [(3703, 3645), (3709, 3649)]) b3711_A2398) (RwO.rl_ (mm := [(3703, 3645), (3709, 3649)]) b3711_A2401) hs)
      refine fl_skip ?_
      exact (K3650 _ _ (rl [(2841, 3645), (2845, 3649)] own3682) _ _ A2838 c2839 A2842 c2843 hd3682 hz3682 e3682_3 e3682_4 e3682_5 e3682_7 e3682_8 e3682_9 e3682_10 e3682_11 (Evo.rl_ hX3682 (fun _ => Nat.le_refl 0) rfl) (BlkO.rl_ (mm := [(2841, 3645), (2845, 3649)]) b3682_g2385) (BlkO.rl_ (mm := [(2841, 3645), (2845, 3649)]) b3682_g2387) (BlkO.rl_ (mm := [(2841, 3645), (2845, 3649)]) b3682_g2389) (RwO.rl_ (mm := [(2841, 3645), (2845, 3649)]) b3682_A2838) (RwO.rl_ (mm := [(2841, 3645), (2845, 3649)]) b3682_A2842) (RwO.rl_ (mm := [(2841, 3645), (2845, 3649)]) b3682_A2398) (RwO.rl_ (mm := [(2841, 3645), (2845, 3649)]) b3682_A2401) hs)
    refine fl_exit ?_
    refine hp3281 _ _ _ rfl ?_
    replace hs := hz3279 _ hs
    refine hp3279 _ _ _ rfl ?_
    refine hx2406 _ _ ?_
    refine hn2404 _ _ ?_
    refine fl_seq (fun Q3712 hn3712 hp3712 => ?_)
    refine rg_plain_seq (n := 213) (rs := []) (own0 := own3282) (K := [])
        (bs := [0])
        (ds := [⟨[], [], [], Fct.val 12 (.int .i64 0)⟩]) (by kernel_rfl) hz3282 hd3282 (fun _ h => nomatch h) ?_ ?_
    · refine steps_cons (fun own a wx hf hsl hE => ?_) ?_
      · exact sg_plain rfl rfl (or_assign rfl)
      exact steps_nil
    intro own3713 a3713 w3713 hd3713 hz3713 hk3713 hf3713 hE3713
    have e3713_3 : a3713.eval (.tmp 3) = .pointer (some ⟨g2385, 0, none⟩) := (hk3713 3 rfl).trans e3282_3
    have e3713_4 : a3713.eval (.tmp 4) = .pointer (some ⟨g2387, 0, none⟩) := (hk3713 4 rfl).trans e3282_4
    have e3713_5 : a3713.eval (.tmp 5) = .pointer (some ⟨g2389, 0, none⟩) := (hk3713 5 rfl).trans e3282_5
    have e3713_7 : a3713.eval (.tmp 7) = .slice A2838 n2840.length c2839 := (hk3713 7 rfl).trans e3282_7
    have e3713_8 : a3713.eval (.tmp 8) = .slice A2842 d2844.length c2843 := (hk3713 8 rfl).trans e3282_8
    obtain ⟨(f_12 : a3713.eval (.tmp 12) = .int .i64 0), -⟩ := hf3713 [0] rfl
    have e3713_12 := f_12
    have hX3713 := Evo.step hX3282 (fun _ => Nat.le_refl 0) hE3713 rfl
    have b3713_g2385 := BlkO.evo (by decide) hE3713 b3282_g2385
    have b3713_g2387 := BlkO.evo (by decide) hE3713 b3282_g2387
    have b3713_g2389 := BlkO.evo (by decide) hE3713 b3282_g2389
    have b3713_A2838 := RwO.evo rfl hE3713 b3282_A2838
    have b3713_A2842 := RwO.evo rfl hE3713 b3282_A2842
    refine fl_block (fun Q3714 hn3714 hx3714 hp3714 => ?_)
    refine fl_loop (body := (fun s => ref22_inside_b4 p1 q2 b3 n2840 d2844 s)) (z := r) (show loopO _ _ = _ from hs) (fun (i4062 : Int) a wx => ∃ (ox : Own), a.defers = [] ∧ a.tmps.size = 213 ∧ a.eval (.tmp 3) = .pointer (some ⟨g2385, 0, none⟩) ∧ a.eval (.tmp 4) = .pointer (some ⟨g2387, 0, none⟩) ∧ a.eval (.tmp 5) = .pointer (some ⟨g2389, 0, none⟩) ∧ a.eval (.tmp 7) = .slice A2838 n2840.length c2839 ∧ a.eval (.tmp 8) = .slice A2842 d2844.length c2843 ∧ a.eval (.tmp 12) = .int .i64 i4062 ∧ Evo [] (fun _ => 0) ox w wx ∧ BlkO ox 2386 wx g2385 37 #[.int .i64 p1.1, .int .i64 p1.2] ∧ BlkO ox 2388 wx g2387 37 #[.int .i64 q2.1, .int .i64 q2.2] ∧ BlkO ox 2390 wx g2389 39 #[.int .i64 b3.1.1, .int .i64 b3.1.2, .int .i64 b3.2.1, .int .i64 b3.2.2] ∧ RwO ox 2841 [] wx 3 R3 A2838 c2839 n2840 ∧ RwO ox 2845 [] wx 3 R3 A2842 c2843 d2844) ?_ ?_
    · exact ⟨own3713, hd3713, hz3713, e3713_3, e3713_4, e3713_5, e3713_7, e3713_8, e3713_12, hX3713, b3713_g2385, b3713_g2387, b3713_g2389, b3713_A2838, b3713_A2842⟩
    · rintro i4062 zz4410 a4410 w4410 ⟨own4410, hd4411, hz4411, e4411_3, e4411_4, e4411_5, e4411_7, e4411_8, e4411_12, hE4411, b4411_g2385, b4411_g2387, b4411_g2389, b4411_A2838, b4411_A2842⟩ hs Q4410 hn4410 hp4410 hz4410
      have hs : ref22_inside_b4 p1 q2 b3 n2840 d2844 i4062 = some zz4410 := hs
      refine fl_seq (fun Q4412 hn4412 hp4412 => ?_)
      refine rg_plain_seq (n := 213) (rs := []) (own0 := own4410) (K := [])
          (bs := [0, 0, 2, 7])
          (ds := [⟨[], [12], [], Fct.val 108 (.int .i64 i4062)⟩,
          ⟨[], [7], [], Fct.val 109 (.slice A2838 n2840.length c2839)⟩,
          ⟨[1], [], [], Fct.val 110 (.int .i64 (n2840.length : Int))⟩,
          ⟨[0, 2], [], [], Fct.val 111 (.bool (decide (i4062 < (n2840.length : Int))))⟩]) (by kernel_rfl) hz4411 hd4411 (fun _ h => nomatch h) ?_ ?_
      · refine steps_cons (fun own a wx hf hsl hE => ?_) ?_
        · obtain ⟨s_12, -⟩ := hsl
          exact sg_plain rfl rfl (or_move (s_12.trans e4411_12))
        refine steps_cons (fun own a wx hf hsl hE => ?_) ?_
        · obtain ⟨s_7, -⟩ := hsl
          exact sg_plain rfl rfl (or_move (s_7.trans e4411_7))
        refine steps_cons (fun own a wx hf hsl hE => ?_) ?_
        · obtain ⟨(f_109 : a.eval (.tmp 109) = .slice A2838 n2840.length c2839), -⟩ := hf
          exact sg_plain rfl rfl (or_len tu69 f_109 rfl)
        refine steps_cons (fun own a wx hf hsl hE => ?_) ?_
        · obtain ⟨(f_108 : a.eval (.tmp 108) = .int .i64 i4062), (f_110 : a.eval (.tmp 110) = .int .i64 (n2840.length : Int)), -⟩ := hf
          exact sg_plain rfl rfl (or_lss f_108 f_110 rfl)
        exact steps_nil
      intro own4413 a4413 w4413 hd4413 hz4413 hk4413 hf4413 hE4413
      have e4413_3 : a4413.eval (.tmp 3) = .pointer (some ⟨g2385, 0, none⟩) := (hk4413 3 rfl).trans e4411_3
      have e4413_4 : a4413.eval (.tmp 4) = .pointer (some ⟨g2387, 0, none⟩) := (hk4413 4 rfl).trans e4411_4
      have e4413_5 : a4413.eval (.tmp 5) = .pointer (some ⟨g2389, 0, none⟩) := (hk4413 5 rfl).trans e4411_5
      have e4413_7 : a4413.eval (.tmp 7) = .slice A2838 n2840.length c2839 := (hk4413 7 rfl).trans e4411_7
      have e4413_8 : a4413.eval (.tmp 8) = .slice A2842 d2844.length c2843 := (hk4413 8 rfl).trans e4411_8
      have e4413_12 : a4413.eval (.tmp 12) = .int .i64 i4062 := (hk4413 12 rfl).trans e4411_12
      obtain ⟨(f_111 : a4413.eval (.tmp 111) = .bool (decide (i4062 < (n2840.length : Int)))), -⟩ := hf4413 [3] rfl
      have e4413_111 := f_111
      have hX4413 := Evo.step hE4411 (fun _ => Nat.le_refl 0) hE4413 rfl
      have b4413_g2385 := BlkO.evo (by decide) hE4413 b4411_g2385
      have b4413_g2387 := BlkO.evo (by decide) hE4413 b4411_g2387
      have b4413_g2389 := BlkO.evo (by decide) hE4413 b4411_g2389
      have b4413_A2838 := RwO.evo rfl hE4413 b4411_A2838
      have b4413_A2842 := RwO.evo rfl hE4413 b4411_A2842
      refine fl_cond e4413_111 hs (fun c4414 hs => ?_) (fun c4414 hs => ?_)
      · refine fl_skip ?_
        refine hn4412 _ _ ?_
        refine fl_seq (fun Q4415 hn4415 hp4415 => ?_)
        refine fl_block (fun Q4416 hn4416 hx4416 hp4416 => ?_)
        refine rg_plain_seq (n := 213) (rs := []) (own0 := own4413) (K := [])
            (bs := [0])
            (ds := [⟨[], [], [], Fct.val 13 (.int .i64 0)⟩]) (by kernel_rfl) hz4413 hd4413 (fun _ h => nomatch h) ?_ ?_
        · refine steps_cons (fun own a wx hf hsl hE => ?_) ?_
          · exact sg_plain rfl rfl (or_assign rfl)
          exact steps_nil
        intro own4417 a4417 w4417 hd4417 hz4417 hk4417 hf4417 hE4417
        have e4417_3 : a4417.eval (.tmp 3) = .pointer (some ⟨g2385, 0, none⟩) := (hk4417 3 rfl).trans e4413_3
        have e4417_4 : a4417.eval (.tmp 4) = .pointer (some ⟨g2387, 0, none⟩) := (hk4417 4 rfl).trans e4413_4
        have e4417_5 : a4417.eval (.tmp 5) = .pointer (some ⟨g2389, 0, none⟩) := (hk4417 5 rfl).trans e4413_5
        have e4417_7 : a4417.eval (.tmp 7) = .slice A2838 n2840.length c2839 := (hk4417 7 rfl).trans e4413_7
        have e4417_8 : a4417.eval (.tmp 8) = .slice A2842 d2844.length c2843 := (hk4417 8 rfl).trans e4413_8
        have e4417_12 : a4417.eval (.tmp 12) = .int .i64 i4062 := (hk4417 12 rfl).trans e4413_12
        obtain ⟨(f_13 : a4417.eval (.tmp 13) = .int .i64 0), -⟩ := hf4417 [0] rfl
        have e4417_13 := f_13
        have hX4417 := Evo.step hX4413 (fun _ => Nat.le_refl 0) hE4417 rfl
        have b4417_g2385 := BlkO.evo (by decide) hE4417 b4413_g2385
        have b4417_g2387 := BlkO.evo (by decide) hE4417 b4413_g2387
        have b4417_g2389 := BlkO.evo (by decide) hE4417 b4413_g2389
        have b4417_A2838 := RwO.evo rfl hE4417 b4413_A2838
        have b4417_A2842 := RwO.evo rfl hE4417 b4413_A2842
        refine fl_block (fun Q4418 hn4418 hx4418 hp4418 => ?_)
        refine fl_loop (body := (fun s => ref22_inside_b5 p1 q2 b3 n2840 d2844 i4062 s)) (z := zz4410) (show loopO _ _ = _ from hs) (fun (k4531 : Int) a wx => ∃ (ox : Own), a.defers = [] ∧ a.tmps.size = 213 ∧ a.eval (.tmp 3) = .pointer (some ⟨g2385, 0, none⟩) ∧ a.eval (.tmp 4) = .pointer (some ⟨g2387, 0, none⟩) ∧ a.eval (.tmp 5) = .pointer (some ⟨g2389, 0, none⟩) ∧ a.eval (.tmp 7) = .slice A2838 n2840.length c2839 ∧ a.eval (.tmp 8) = .slice A2842 d2844.length c2843 ∧ a.eval (.tmp 12) = .int .i64 i4062 ∧ a.eval (.tmp 13) = .int .i64 k4531 ∧ Evo [] (fun _ => 0) ox w wx ∧ BlkO ox 2386 wx g2385 37 #[.int .i64 p1.1, .int .i64 p1.2] ∧ BlkO ox 2388 wx g2387 37 #[.int .i64 q2.1, .int .i64 q2.2] ∧ BlkO ox 2390 wx g2389 39 #[.int .i64 b3.1.1, .int .i64 b3.1.2, .int .i64 b3.2.1, .int .i64 b3.2.2] ∧ RwO ox 2841 [] wx 3 R3 A2838 c2839 n2840 ∧ RwO ox 2845 [] wx 3 R3 A2842 c2843 d2844) ?_ ?_
        · exact ⟨own4417, hd4417, hz4417, e4417_3, e4417_4, e4417_5, e4417_7, e4417_8, e4417_12, e4417_13, hX4417, b4417_g2385, b4417_g2387, b4417_g2389, b4417_A2838, b4417_A2842⟩
        · rintro k4531 zz4644 a4644 w4644 ⟨own4644, hd4645, hz4645, e4645_3, e4645_4, e4645_5, e4645_7, e4645_8, e4645_12, e4645_13, hE4645, b4645_g2385, b4645_g2387, b4645_g2389, b4645_A2838, b4645_A2842⟩ hs Q4644 hn4644 hp4644 hz4644
          have hs : ref22_inside_b5 p1 q2 b3 n2840 d2844 i4062 k4531 = some zz4644 := hs
          refine fl_seq (fun Q4646 hn4646 hp4646 => ?_)
          refine rg_plain_seq (n := 213) (rs := []) (own0 := own4644) (K := [])
              (bs := [0, 0, 2, 7])
              (ds := [⟨[], [13], [], Fct.val 114 (.int .i64 k4531)⟩,
              ⟨[], [7], [], Fct.val 115 (.slice A2838 n2840.length c2839)⟩,
              ⟨[1], [], [], Fct.val 116 (.int .i64 (n2840.length : Int))⟩,
              ⟨[0, 2], [], [], Fct.val 117 (.bool (decide (k4531 < (n2840.length : Int))))⟩]) (by kernel_rfl) hz4645 hd4645 (fun _ h => nomatch h) ?_ ?_
          · refine steps_cons (fun own a wx hf hsl hE => ?_) ?_
            · obtain ⟨s_13, -⟩ := hsl
              exact sg_plain rfl rfl (or_move (s_13.trans e4645_13))
            refine steps_cons (fun own a wx hf hsl hE => ?_) ?_
            · obtain ⟨s_7, -⟩ := hsl
              exact sg_plain rfl rfl (or_move (s_7.trans e4645_7))
            refine steps_cons (fun own a wx hf hsl hE => ?_) ?_
            · obtain ⟨(f_115 : a.eval (.tmp 115) = .slice A2838 n2840.length c2839), -⟩ := hf
              exact sg_plain rfl rfl (or_len tu69 f_115 rfl)
            refine steps_cons (fun own a wx hf hsl hE => ?_) ?_
            · obtain ⟨(f_114 : a.eval (.tmp 114) = .int .i64 k4531), (f_116 : a.eval (.tmp 116) = .int .i64 (n2840.length : Int)), -⟩ := hf
              exact sg_plain rfl rfl (or_lss f_114 f_116 rfl)
            exact steps_nil
          intro own4647 a4647 w4647 hd4647 hz4647 hk4647 hf4647 hE4647
          have e4647_3 : a4647.eval (.tmp 3) = .pointer (some ⟨g2385, 0, none⟩) := (hk4647 3 rfl).trans e4645_3
          have e4647_4 : a4647.eval (.tmp 4) = .pointer (some ⟨g2387, 0, none⟩) := (hk4647 4 rfl).trans e4645_4
          have e4647_5 : a4647.eval (.tmp 5) = .pointer (some ⟨g2389, 0, none⟩) := (hk4647 5 rfl).trans e4645_5
          have e4647_7 : a4647.eval (.tmp 7) = .slice A2838 n2840.length c2839 := (hk4647 7 rfl).trans e4645_7
          have e4647_8 : a4647.eval (.tmp 8) = .slice A2842 d2844.length c2843 := (hk4647 8 rfl).trans e4645_8
          have e4647_12 : a4647.eval (.tmp 12) = .int .i64 i4062 := (hk4647 12 rfl).trans e4645_12
          have e4647_13 : a4647.eval (.tmp 13) = .int .i64 k4531 := (hk4647 13 rfl).trans e4645_13
          obtain ⟨(f_117 : a4647.eval (.tmp 117) = .bool (decide (k4531 < (n2840.length : Int)))), -⟩ := hf4647 [3] rfl
          have e4647_117 := f_117
          have hX4647 := Evo.step hE4645 (fun _ => Nat.le_refl 0) hE4647 rfl
          have b4647_g2385 := BlkO.evo (by decide) hE4647 b4645_g2385
          have b4647_g2387 := BlkO.evo (by decide) hE4647 b4645_g2387
          have b4647_g2389 := BlkO.evo (by decide) hE4647 b4645_g2389
          have b4647_A2838 := RwO.evo rfl hE4647 b4645_A2838
          have b4647_A2842 := RwO.evo rfl hE4647 b4645_A2842
          refine fl_cond e4647_117 hs (fun c4648 hs => ?_) (fun c4648 hs => ?_)
          · refine fl_skip ?_
            refine hn4646 _ _ ?_
            refine fl_seq (fun Q4649 hn4649 hp4649 => ?_)
            refine fl_block (fun Q4703 hn4703 hx4703 hp4703 => ?_)
            have K4729 : ∀ (a4729 : Act) (w4729 : World) (own4729 : Own), a4729.defers = [] → a4729.tmps.size = 213 → a4729.eval (.tmp 3) = .pointer (some ⟨g2385, 0, none⟩) → a4729.eval (.tmp 4) = .pointer (some ⟨g2387, 0, none⟩) → a4729.eval (.tmp 5) = .pointer (some ⟨g2389, 0, none⟩) → a4729.eval (.tmp 7) = .slice A2838 n2840.length c2839 → a4729.eval (.tmp 8) = .slice A2842 d2844.length c2843 → a4729.eval (.tmp 12) = .int .i64 i4062 → a4729.eval (.tmp 13) = .int .i64 k4531 → Evo [] (fun _ => 0) own4729 w w4729 → BlkO own4729 2386 w4729 g2385 37 #[.int .i64 p1.1, .int .i64 p1.2] → BlkO own4729 2388 w4729 g2387 37 #[.int .i64 q2.1, .int .i64 q2.2] → BlkO own4729 2390 w4729 g2389 39 #[.int .i64 b3.1.1, .int .i64 b3.1.2, .int .i64 b3.2.1, .int .i64 b3.2.2] → RwO own4729 2841 [] w4729 3 R3 A2838 c2839 n2840 → RwO own4729 2845 [] w4729 3 R3 A2842 c2843 d2844 → ref22_inside_k6 k4531 = some zz4644 → (Q4703 .normal a4729 w4729 ∧ Q4703 (.exit 5) a4729 w4729) := by
              intro a4729 w4729 own4729  hd4730 hz4730 e4730_3 e4730_4 e4730_5 e4730_7 e4730_8 e4730_12 e4730_13 hE4730 b4730_g2385 b4730_g2387 b4730_g2389 b4730_A2838 b4730_A2842 hs
              refine and_both (hn4703 _ _) (hx4703 _ _) ?_
              refine hn4649 _ _ ?_
              refine rg_plain (n := 213) (rs := []) (own0 := own4729) (K := [])
                  (bs := [0, 1, 3])
                  (ds := [⟨[], [13], [], Fct.val 118 (.int .i64 k4531)⟩,
                  ⟨[0], [], [], Fct.val 119 (.int .i64 (ad k4531 1))⟩,
                  ⟨[1], [], [], Fct.val 13 (.int .i64 (ad k4531 1))⟩]) (by kernel_rfl) hz4730 hd4730 (fun _ h => nomatch h) ?_ ?_
              · refine steps_cons (fun own a wx hf hsl hE => ?_) ?_
                · obtain ⟨s_13, -⟩ := hsl
                  exact sg_plain rfl rfl (or_move (s_13.trans e4730_13))
                refine steps_cons (fun own a wx hf hsl hE => ?_) ?_
                · obtain ⟨(f_118 : a.eval (.tmp 118) = .int .i64 k4531), -⟩ := hf
                  exact sg_plain rfl rfl (or_add f_118 rfl rfl)
                refine steps_cons (fun own a wx hf hsl hE => ?_) ?_
                · obtain ⟨(f_119 : a.eval (.tmp 119) = .int .i64 (ad k4531 1)), -⟩ := hf
                  exact sg_plain rfl rfl (or_assign f_119)
                exact steps_nil
              intro own4731 a4731 w4731 hd4731 hz4731 hk4731 hf4731 hE4731
              have e4731_3 : a4731.eval (.tmp 3) = .pointer (some ⟨g2385, 0, none⟩) := (hk4731 3 rfl).trans e4730_3
              have e4731_4 : a4731.eval (.tmp 4) = .pointer (some ⟨g2387, 0, none⟩) := (hk4731 4 rfl).trans e4730_4
              have e4731_5 : a4731.eval (.tmp 5) = .pointer (some ⟨g2389, 0, none⟩) := (hk4731 5 rfl).trans e4730_5
              have e4731_7 : a4731.eval (.tmp 7) = .slice A2838 n2840.length c2839 := (hk4731 7 rfl).trans e4730_7
              have e4731_8 : a4731.eval (.tmp 8) = .slice A2842 d2844.length c2843 := (hk4731 8 rfl).trans e4730_8
              have e4731_12 : a4731.eval (.tmp 12) = .int .i64 i4062 := (hk4731 12 rfl).trans e4730_12
              obtain ⟨(f_13 : a4731.eval (.tmp 13) = .int .i64 (ad k4531 1)), -⟩ := hf4731 [2] rfl
              have e4731_13 := f_13
              have hX4731 := Evo.step hE4730 (fun _ => Nat.le_refl 0) hE4731 rfl
              have b4731_g2385 := BlkO.evo (by decide) hE4731 b4730_g2385
              have b4731_g2387 := BlkO.evo (by decide) hE4731 b4730_g2387
              have b4731_g2389 := BlkO.evo (by decide) hE4731 b4730_g2389
              have b4731_A2838 := RwO.evo rfl hE4731 b4730_A2838
              have b4731_A2842 := RwO.evo rfl hE4731 b4730_A2842
              exact hn4644 _ _ _ hs ⟨own4731, hd4731, hz4731, e4731_3, e4731_4, e4731_5, e4731_7, e4731_8, e4731_12, e4731_13, hX4731, b4731_g2385, b4731_g2387, b4731_g2389, b4731_A2838, b4731_A2842⟩
            refine fl_seq (fun Q4732 hn4732 hp4732 => ?_)
            obtain ⟨x4733, hx4733, hs⟩ := obind hs
            obtain ⟨x4734, hx4734, hs⟩ := obind hs
            obtain ⟨x4735, hx4735, hs⟩ := obind hs
            obtain ⟨x4736, hx4736, hs⟩ := obind hs
            obtain ⟨x4737, hx4737, hs⟩ := obind hs
            obtain ⟨x4738, hx4738, hs⟩ := obind hs
            obtain ⟨x4739, hx4739, hs⟩ := obind hs
            obtain ⟨x4740, hx4740, hs⟩ := obind hs
            obtain ⟨x4741, hx4741, hs⟩ := obind hs
            refine rg_draw_seq g_mixed (n := 213) (rs := []) (own0 := own4647) (K := [])
                (bs := [0, 0, 3, 7, 15, 31, 63, 63, 255, 511, 63, 63, 3135, 7231, 16383, 32767, 65535, 131071, 131071, 524287, 1048575, 131071, 131071, 6422527, 14811135, 33554431, 131071, 131071, 201457663, 469893119, 131071, 131071, 3221356543, 7516323839, 17112891391, 34359738367, 68719476735])
                (ds := [⟨[], [7], [], Fct.val 120 (.slice A2838 n2840.length c2839)⟩,
                ⟨[], [12], [], Fct.val 121 (.int .i64 i4062)⟩,
                ⟨[0, 1], [], [], Fct.val 122 (.pointer (some ((adr A2838).add ((i4062 : Int).toNat * R3.s))))⟩,
                ⟨[2], [], [], Fct.val 123 (.int .i64 x4733)⟩,
                ⟨[3], [], [], Fct.val 124 (.bool (decide (x4733 < 0)))⟩,
                ⟨[4], [], [], Fct.val 125 (.bool (decide (x4733 < 0)))⟩,
                ⟨[5], [7], [], Fct.cond (!(decide (x4733 < 0))) (some 126) (Fct.val 126 (.slice A2838 n2840.length c2839))⟩,
                ⟨[5], [13], [], Fct.cond (!(decide (x4733 < 0))) (some 127) (Fct.val 127 (.int .i64 k4531))⟩,
                ⟨[5, 6, 7], [], [], Fct.cond (!(decide (x4733 < 0))) (some 128) (Fct.val 128 (.pointer (some ((adr A2838).add ((k4531 : Int).toNat * R3.s)))))⟩,
                ⟨[5, 8], [], [], Fct.cond (!(decide (x4733 < 0))) (some 129) (Fct.val 129 (.int .i64 x4734))⟩,
                ⟨[5], [8], [], Fct.cond (!(decide (x4733 < 0))) (some 130) (Fct.val 130 (.slice A2842 d2844.length c2843))⟩,
                ⟨[5], [13], [], Fct.cond (!(decide (x4733 < 0))) (some 131) (Fct.val 131 (.int .i64 k4531))⟩,
                ⟨[5, 10, 11], [], [], Fct.cond (!(decide (x4733 < 0))) (some 132) (Fct.val 132 (.pointer (some ((adr A2842).add ((k4531 : Int).toNat * R3.s)))))⟩,
                ⟨[5, 12], [], [], Fct.cond (!(decide (x4733 < 0))) (some 133) (Fct.val 133 (.int .i64 x4735))⟩,
                ⟨[5, 9, 13], [], [], Fct.cond (!(decide (x4733 < 0))) (some 134) (Fct.val 134 (.bool (decide (x4735 < x4734))))⟩,
                ⟨[5, 14], [], [], Fct.val 135 (.bool x4736)⟩,
                ⟨[15], [], [], Fct.val 136 (.bool x4736)⟩,
                ⟨[16], [7], [], Fct.cond (!x4736) (some 137) (Fct.val 137 (.slice A2838 n2840.length c2839))⟩,
                ⟨[16], [12], [], Fct.cond (!x4736) (some 138) (Fct.val 138 (.int .i64 i4062))⟩,
                ⟨[16, 17, 18], [], [], Fct.cond (!x4736) (some 139) (Fct.val 139 (.pointer (some ((adr A2838).add ((i4062 : Int).toNat * R3.s)))))⟩,
                ⟨[16, 19], [], [], Fct.cond (!x4736) (some 140) (Fct.val 140 (.int .i64 x4737))⟩,
                ⟨[16], [8], [], Fct.cond (!x4736) (some 141) (Fct.val 141 (.slice A2842 d2844.length c2843))⟩,
                ⟨[16], [13], [], Fct.cond (!x4736) (some 142) (Fct.val 142 (.int .i64 k4531))⟩,
                ⟨[16, 21, 22], [], [], Fct.cond (!x4736) (some 143) (Fct.val 143 (.pointer (some ((adr A2842).add ((k4531 : Int).toNat * R3.s)))))⟩,
                ⟨[16, 23], [], [], Fct.cond (!x4736) (some 144) (Fct.val 144 (.int .i64 x4738))⟩,
                ⟨[16, 20, 24], [], [], Fct.cond (!x4736) (some 145) (Fct.val 145 (.int .i64 (ml x4737 x4738)))⟩,
                ⟨[16], [7], [], Fct.cond (!x4736) (some 146) (Fct.val 146 (.slice A2838 n2840.length c2839))⟩,
                ⟨[16], [13], [], Fct.cond (!x4736) (some 147) (Fct.val 147 (.int .i64 k4531))⟩,
                ⟨[16, 26, 27], [], [], Fct.cond (!x4736) (some 148) (Fct.val 148 (.pointer (some ((adr A2838).add ((k4531 : Int).toNat * R3.s)))))⟩,
                ⟨[16, 28], [], [], Fct.cond (!x4736) (some 149) (Fct.val 149 (.int .i64 x4739))⟩,
                ⟨[16], [8], [], Fct.cond (!x4736) (some 150) (Fct.val 150 (.slice A2842 d2844.length c2843))⟩,
                ⟨[16], [12], [], Fct.cond (!x4736) (some 151) (Fct.val 151 (.int .i64 i4062))⟩,
                ⟨[16, 30, 31], [], [], Fct.cond (!x4736) (some 152) (Fct.val 152 (.pointer (some ((adr A2842).add ((i4062 : Int).toNat * R3.s)))))⟩,
                ⟨[16, 32], [], [], Fct.cond (!x4736) (some 153) (Fct.val 153 (.int .i64 x4740))⟩,
                ⟨[16, 29, 33], [], [], Fct.cond (!x4736) (some 154) (Fct.val 154 (.int .i64 (ml x4739 x4740)))⟩,
                ⟨[16, 25, 34], [], [], Fct.cond (!x4736) (some 155) (Fct.val 155 (.bool (decide ((ml x4739 x4740) ≤ (ml x4737 x4738)))))⟩,
                ⟨[16, 35], [], [], Fct.val 156 (.bool x4741)⟩]) (by kernel_rfl) hz4647 hd4647 (fun _ h => nomatch h) ?_ ?_
            · refine steps_cons (fun own a wx hf hsl hE => ?_) ?_
              · obtain ⟨s_7, -⟩ := hsl
                exact sg_plain rfl rfl (or_move (s_7.trans e4647_7))
              refine steps_cons (fun own a wx hf hsl hE => ?_) ?_
              · obtain ⟨s_12, -⟩ := hsl
                exact sg_plain rfl rfl (or_move (s_12.trans e4647_12))
              refine steps_cons (fun own a wx hf hsl hE => ?_) ?_
              · obtain ⟨(f_120 : a.eval (.tmp 120) = .slice A2838 n2840.length c2839), (f_121 : a.eval (.tmp 121) = .int .i64 i4062), -⟩ := hf
                exact sg_plain rfl rfl (or_index (R := R3) (l := n2840) tl69 f_120 f_121 (RdO.some_ (RwO.rd b4647_A2838) hx4733) hx4733)
              refine steps_cons (fun own a wx hf hsl hE => ?_) ?_
              · obtain ⟨(f_122 : a.eval (.tmp 122) = .pointer (some ((adr A2838).add ((i4062 : Int).toNat * R3.s)))), -⟩ := hf
                exact sg_plain rfl rfl (or_load1 to3 f_122 (CellsAt.zero (RdO.cells (F := E3) (RwO.rd (RwO.evo rfl hE b4647_A2838)) hx4733) rfl))
              refine steps_cons (fun own a wx hf hsl hE => ?_) ?_
              · obtain ⟨(f_123 : a.eval (.tmp 123) = .int .i64 x4733), -⟩ := hf
                exact sg_plain rfl rfl (or_lss f_123 rfl rfl)
              refine steps_cons (fun own a wx hf hsl hE => ?_) ?_
              · obtain ⟨(f_124 : a.eval (.tmp 124) = .bool (decide (x4733 < 0))), -⟩ := hf
                exact sg_plain rfl rfl (or_move f_124)
              refine steps_cons (fun own a wx hf hsl hE => ?_) ?_
              · obtain ⟨(f_125 : a.eval (.tmp 125) = .bool (decide (x4733 < 0))), -⟩ := hf
                obtain ⟨s_7, -⟩ := hsl
                refine sg_f rfl rfl rfl f_125 (fun hg => ?_)
                exact or_move (s_7.trans e4647_7)
              refine steps_cons (fun own a wx hf hsl hE => ?_) ?_
              · obtain ⟨(f_125 : a.eval (.tmp 125) = .bool (decide (x4733 < 0))), -⟩ := hf
                obtain ⟨s_13, -⟩ := hsl
                refine sg_f rfl rfl rfl f_125 (fun hg => ?_)
                exact or_move (s_13.trans e4647_13)
              refine steps_cons (fun own a wx hf hsl hE => ?_) ?_
              · obtain ⟨(f_125 : a.eval (.tmp 125) = .bool (decide (x4733 < 0))), c_126, c_127, -⟩ := hf
                refine sg_f rfl rfl rfl f_125 (fun hg => ?_)
                have f_126 : a.eval (.tmp 126) = .slice A2838 n2840.length c2839 := c_126.1 hg
                have f_127 : a.eval (.tmp 127) = .int .i64 k4531 := c_127.1 hg
                exact or_index (R := R3) (l := n2840) tl69 f_126 f_127 (RdO.some_ (RwO.rd b4647_A2838) (gd_t hx4734 hg)) (gd_t hx4734 hg)
              refine steps_cons (fun own a wx hf hsl hE => ?_) ?_
              · obtain ⟨(f_125 : a.eval (.tmp 125) = .bool (decide (x4733 < 0))), c_128, -⟩ := hf
                refine sg_f rfl rfl rfl f_125 (fun hg => ?_)
                have f_128 : a.eval (.tmp 128) = .pointer (some ((adr A2838).add ((k4531 : Int).toNat * R3.s))) := c_128.1 hg
                exact or_load1 to3 f_128 (CellsAt.zero (RdO.cells (F := E3) (RwO.rd (RwO.evo rfl hE b4647_A2838)) (gd_t hx4734 hg)) rfl)
              refine steps_cons (fun own a wx hf hsl hE => ?_) ?_
              · obtain ⟨(f_125 : a.eval (.tmp 125) = .bool (decide (x4733 < 0))), -⟩ := hf
                obtain ⟨s_8, -⟩ := hsl
                refine sg_f rfl rfl rfl f_125 (fun hg => ?_)
                exact or_move (s_8.trans e4647_8)
              refine steps_cons (fun own a wx hf hsl hE => ?_) ?_
              · obtain ⟨(f_125 : a.eval (.tmp 125) = .bool (decide (x4733 < 0))), -⟩ := hf
                obtain ⟨s_13, -⟩ := hsl
                refine sg_f rfl rfl rfl f_125 (fun hg => ?_)
                exact or_move (s_13.trans e4647_13)
              refine steps_cons (fun own a wx hf hsl hE => ?_) ?_
              · obtain ⟨(f_125 : a.eval (.tmp 125) = .bool (decide (x4733 < 0))), c_130, c_131, -⟩ := hf
                refine sg_f rfl rfl rfl f_125 (fun hg => ?_)
                have f_130 : a.eval (.tmp 130) = .slice A2842 d2844.length c2843 := c_130.1 hg
                have f_131 : a.eval (.tmp 131) = .int .i64 k4531 := c_131.1 hg
                exact or_index (R := R3) (l := d2844) tl69 f_130 f_131 (RdO.some_ (RwO.rd b4647_A2842) (gd_t hx4735 hg)) (gd_t hx4735 hg)
              refine steps_cons (fun own a wx hf hsl hE => ?_) ?_
              · obtain ⟨(f_125 : a.eval (.tmp 125) = .bool (decide (x4733 < 0))), c_132, -⟩ := hf
                refine sg_f rfl rfl rfl f_125 (fun hg => ?_)
                have f_132 : a.eval (.tmp 132) = .pointer (some ((adr A2842).add ((k4531 : Int).toNat * R3.s))) := c_132.1 hg
                exact or_load1 to3 f_132 (CellsAt.zero (RdO.cells (F := E3) (RwO.rd (RwO.evo rfl hE b4647_A2842)) (gd_t hx4735 hg)) rfl)
              refine steps_cons (fun own a wx hf hsl hE => ?_) ?_
              · obtain ⟨(f_125 : a.eval (.tmp 125) = .bool (decide (x4733 < 0))), c_129, c_133, -⟩ := hf
                refine sg_f rfl rfl rfl f_125 (fun hg => ?_)
                have f_129 : a.eval (.tmp 129) = .int .i64 x4734 := c_129.1 hg
                have f_133 : a.eval (.tmp 133) = .int .i64 x4735 := c_133.1 hg
                exact or_gtr f_129 f_133 rfl
              refine steps_cons (fun own a wx hf hsl hE => ?_) ?_
              · obtain ⟨(f_125 : a.eval (.tmp 125) = .bool (decide (x4733 < 0))), c_134, -⟩ := hf
                exact sg_plain rfl rfl (or_or f_125 rfl (fun hx => c_134.1 hx) (osome hx4736).symm)
              refine steps_cons (fun own a wx hf hsl hE => ?_) ?_
              · obtain ⟨(f_135 : a.eval (.tmp 135) = .bool x4736), -⟩ := hf
                exact sg_plain rfl rfl (or_move f_135)
              refine steps_cons (fun own a wx hf hsl hE => ?_) ?_
              · obtain ⟨(f_136 : a.eval (.tmp 136) = .bool x4736), -⟩ := hf
                obtain ⟨s_7, -⟩ := hsl
                refine sg_f rfl rfl rfl f_136 (fun hg => ?_)
                exact or_move (s_7.trans e4647_7)
              refine steps_cons (fun own a wx hf hsl hE => ?_) ?_
              · obtain ⟨(f_136 : a.eval (.tmp 136) = .bool x4736), -⟩ := hf
                obtain ⟨s_12, -⟩ := hsl
                refine sg_f rfl rfl rfl f_136 (fun hg => ?_)
                exact or_move (s_12.trans e4647_12)
              refine steps_cons (fun own a wx hf hsl hE => ?_) ?_
              · obtain ⟨(f_136 : a.eval (.tmp 136) = .bool x4736), c_137, c_138, -⟩ := hf
                refine sg_f rfl rfl rfl f_136 (fun hg => ?_)
                have f_137 : a.eval (.tmp 137) = .slice A2838 n2840.length c2839 := c_137.1 hg
                have f_138 : a.eval (.tmp 138) = .int .i64 i4062 := c_138.1 hg
                exact or_index (R := R3) (l := n2840) tl69 f_137 f_138 (RdO.some_ (RwO.rd b4647_A2838) (gd_t hx4737 hg)) (gd_t hx4737 hg)
              refine steps_cons (fun own a wx hf hsl hE => ?_) ?_
              · obtain ⟨(f_136 : a.eval (.tmp 136) = .bool x4736), c_139, -⟩ := hf
                refine sg_f rfl rfl rfl f_136 (fun hg => ?_)
                have f_139 : a.eval (.tmp 139) = .pointer (some ((adr A2838).add ((i4062 : Int).toNat * R3.s))) := c_139.1 hg
                exact or_load1 to3 f_139 (CellsAt.zero (RdO.cells (F := E3) (RwO.rd (RwO.evo rfl hE b4647_A2838)) (gd_t hx4737 hg)) rfl)
              refine steps_cons (fun own a wx hf hsl hE => ?_) ?_
              · obtain ⟨(f_136 : a.eval (.tmp 136) = .bool x4736), -⟩ := hf
                obtain ⟨s_8, -⟩ := hsl
                refine sg_f rfl rfl rfl f_136 (fun hg => ?_)
                exact or_move (s_8.trans e4647_8)
              refine steps_cons (fun own a wx hf hsl hE => ?_) ?_
              · obtain ⟨(f_136 : a.eval (.tmp 136) = .bool x4736), -⟩ := hf
                obtain ⟨s_13, -⟩ := hsl
                refine sg_f rfl rfl rfl f_136 (fun hg => ?_)
                exact or_move (s_13.trans e4647_13)
              refine steps_cons (fun own a wx hf hsl hE => ?_) ?_
              · obtain ⟨(f_136 : a.eval (.tmp 136) = .bool x4736), c_141, c_142, -⟩ := hf
                refine sg_f rfl rfl rfl f_136 (fun hg => ?_)
                have f_141 : a.eval (.tmp 141) = .slice A2842 d2844.length c2843 := c_141.1 hg
                have f_142 : a.eval (.tmp 142) = .int .i64 k4531 := c_142.1 hg
                exact or_index (R := R3) (l := d2844) tl69 f_141 f_142 (RdO.some_ (RwO.rd b4647_A2842) (gd_t hx4738 hg)) (gd_t hx4738 hg)
              refine steps_cons (fun own a wx hf hsl hE => ?_) ?_
              · obtain ⟨(f_136 : a.eval (.tmp 136) = .bool x4736), c_143, -⟩ := hf
                refine sg_f rfl rfl rfl f_136 (fun hg => ?_)
                have f_143 : a.eval (.tmp 143) = .pointer (some ((adr A2842).add ((k4531 : Int).toNat * R3.s))) := c_143.1 hg
                exact or_load1 to3 f_143 (CellsAt.zero (RdO.cells (F := E3) (RwO.rd (RwO.evo rfl hE b4647_A2842)) (gd_t hx4738 hg)) rfl)
              refine steps_cons (fun own a wx hf hsl hE => ?_) ?_
              · obtain ⟨(f_136 : a.eval (.tmp 136) = .bool x4736), c_140, c_144, -⟩ := hf
                refine sg_f rfl rfl rfl f_136 (fun hg => ?_)
                have f_140 : a.eval (.tmp 140) = .int .i64 x4737 := c_140.1 hg
                have f_144 : a.eval (.tmp 144) = .int .i64 x4738 := c_144.1 hg
                exact or_mul f_140 f_144 rfl
              refine steps_cons (fun own a wx hf hsl hE => ?_) ?_
              · obtain ⟨(f_136 : a.eval (.tmp 136) = .bool x4736), -⟩ := hf
                obtain ⟨s_7, -⟩ := hsl
                refine sg_f rfl rfl rfl f_136 (fun hg => ?_)
                exact or_move (s_7.trans e4647_7)
              refine steps_cons (fun own a wx hf hsl hE => ?_) ?_
              · obtain ⟨(f_136 : a.eval (.tmp 136) = .bool x4736), -⟩ := hf
                obtain ⟨s_13, -⟩ := hsl
                refine sg_f rfl rfl rfl f_136 (fun hg => ?_)
                exact or_move (s_13.trans e4647_13)
              refine steps_cons (fun own a wx hf hsl hE => ?_) ?_
              · obtain ⟨(f_136 : a.eval (.tmp 136) = .bool x4736), c_146, c_147, -⟩ := hf
                refine sg_f rfl rfl rfl f_136 (fun hg => ?_)
                have f_146 : a.eval (.tmp 146) = .slice A2838 n2840.length c2839 := c_146.1 hg
                have f_147 : a.eval (.tmp 147) = .int .i64 k4531 := c_147.1 hg
                exact or_index (R := R3) (l := n2840) tl69 f_146 f_147 (RdO.some_ (RwO.rd b4647_A2838) (gd_t hx4739 hg)) (gd_t hx4739 hg)
              refine steps_cons (fun own a wx hf hsl hE => ?_) ?_
              · obtain ⟨(f_136 : a.eval (.tmp 136) = .bool x4736), c_148, -⟩ := hf
                refine sg_f rfl rfl rfl f_136 (fun hg => ?_)
                have f_148 : a.eval (.tmp 148) = .pointer (some ((adr A2838).add ((k4531 : Int).toNat * R3.s))) := c_148.1 hg
                exact or_load1 to3 f_148 (CellsAt.zero (RdO.cells (F := E3) (RwO.rd (RwO.evo rfl hE b4647_A2838)) (gd_t hx4739 hg)) rfl)
              refine steps_cons (fun own a wx hf hsl hE => ?_) ?_
              · obtain ⟨(f_136 : a.eval (.tmp 136) = .bool x4736), -⟩ := hf
                obtain ⟨s_8, -⟩ := hsl
                refine sg_f rfl rfl rfl f_136 (fun hg => ?_)
                exact or_move (s_8.trans e4647_8)
              refine steps_cons (fun own a wx hf hsl hE => ?_) ?_
              · obtain ⟨(f_136 : a.eval (.tmp 136) = .bool x4736), -⟩ := hf
                obtain ⟨s_12, -⟩ := hsl
                refine sg_f rfl rfl rfl f_136 (fun hg => ?_)
                exact or_move (s_12.trans e4647_12)
              refine steps_cons (fun own a wx hf hsl hE => ?_) ?_
              · obtain ⟨(f_136 : a.eval (.tmp 136) = .bool x4736), c_150, c_151, -⟩ := hf
                refine sg_f rfl rfl rfl f_136 (fun hg => ?_)
                have f_150 : a.eval (.tmp 150) = .slice A2842 d2844.length c2843 := c_150.1 hg
                have f_151 : a.eval (.tmp 151) = .int .i64 i4062 := c_151.1 hg
                exact or_index (R := R3) (l := d2844) tl69 f_150 f_151 (RdO.some_ (RwO.rd b4647_A2842) (gd_t hx4740 hg)) (gd_t hx4740 hg)
              refine steps_cons (fun own a wx hf hsl hE => ?_) ?_
              · obtain ⟨(f_136 : a.eval (.tmp 136) = .bool x4736), c_152, -⟩ := hf
                refine sg_f rfl rfl rfl f_136 (fun hg => ?_)
                have f_152 : a.eval (.tmp 152) = .pointer (some ((adr A2842).add ((i4062 : Int).toNat * R3.s))) := c_152.1 hg
                exact or_load1 to3 f_152 (CellsAt.zero (RdO.cells (F := E3) (RwO.rd (RwO.evo rfl hE b4647_A2842)) (gd_t hx4740 hg)) rfl)
              refine steps_cons (fun own a wx hf hsl hE => ?_) ?_
              · obtain ⟨(f_136 : a.eval (.tmp 136) = .bool x4736), c_149, c_153, -⟩ := hf
                refine sg_f rfl rfl rfl f_136 (fun hg => ?_)
                have f_149 : a.eval (.tmp 149) = .int .i64 x4739 := c_149.1 hg
                have f_153 : a.eval (.tmp 153) = .int .i64 x4740 := c_153.1 hg
                exact or_mul f_149 f_153 rfl
              refine steps_cons (fun own a wx hf hsl hE => ?_) ?_
              · obtain ⟨(f_136 : a.eval (.tmp 136) = .bool x4736), c_145, c_154, -⟩ := hf
                refine sg_f rfl rfl rfl f_136 (fun hg => ?_)
                have f_145 : a.eval (.tmp 145) = .int .i64 (ml x4737 x4738) := c_145.1 hg
                have f_154 : a.eval (.tmp 154) = .int .i64 (ml x4739 x4740) := c_154.1 hg
                exact or_geq f_145 f_154 rfl
              refine steps_cons (fun own a wx hf hsl hE => ?_) ?_
              · obtain ⟨(f_136 : a.eval (.tmp 136) = .bool x4736), c_155, -⟩ := hf
                exact sg_plain rfl rfl (or_or f_136 rfl (fun hx => c_155.1 hx) (osome hx4741).symm)
              exact steps_nil
            intro own4742 a4742 w4742 hd4742 hz4742 hk4742 hf4742 hE4742
            have e4742_3 : a4742.eval (.tmp 3) = .pointer (some ⟨g2385, 0, none⟩) := (hk4742 3 rfl).trans e4647_3
            have e4742_4 : a4742.eval (.tmp 4) = .pointer (some ⟨g2387, 0, none⟩) := (hk4742 4 rfl).trans e4647_4
            have e4742_5 : a4742.eval (.tmp 5) = .pointer (some ⟨g2389, 0, none⟩) := (hk4742 5 rfl).trans e4647_5
            have e4742_7 : a4742.eval (.tmp 7) = .slice A2838 n2840.length c2839 := (hk4742 7 rfl).trans e4647_7
            have e4742_8 : a4742.eval (.tmp 8) = .slice A2842 d2844.length c2843 := (hk4742 8 rfl).trans e4647_8
            have e4742_12 : a4742.eval (.tmp 12) = .int .i64 i4062 := (hk4742 12 rfl).trans e4647_12
            have e4742_13 : a4742.eval (.tmp 13) = .int .i64 k4531 := (hk4742 13 rfl).trans e4647_13
            obtain ⟨(f_156 : a4742.eval (.tmp 156) = .bool x4741), -⟩ := hf4742 [36] rfl
            have e4742_156 := f_156
            have hX4742 := Evo.step hX4647 (fun _ => Nat.le_refl 0) hE4742 rfl
            have b4742_g2385 := BlkO.evo (by decide) hE4742 b4647_g2385
            have b4742_g2387 := BlkO.evo (by decide) hE4742 b4647_g2387
            have b4742_g2389 := BlkO.evo (by decide) hE4742 b4647_g2389
            have b4742_A2838 := RwO.evo rfl hE4742 b4647_A2838
            have b4742_A2842 := RwO.evo rfl hE4742 b4647_A2842
            refine fl_cond e4742_156 hs (fun c4743 hs => ?_) (fun c4743 hs => ?_)
            · refine fl_exit ?_
              refine hp4732 _ _ _ rfl ?_
              exact (K4729 _ _ own4742  hd4742 hz4742 e4742_3 e4742_4 e4742_5 e4742_7 e4742_8 e4742_12 e4742_13 hX4742 b4742_g2385 b4742_g2387 b4742_g2389 b4742_A2838 b4742_A2842 hs).2
            refine fl_skip ?_
            refine hn4732 _ _ ?_
            obtain ⟨x4744, hx4744, hs⟩ := obind hs
            obtain ⟨x4745, hx4745, hs⟩ := obind hs
            obtain ⟨x4746, hx4746, hs⟩ := obind hs
            obtain ⟨x4747, hx4747, hs⟩ := obind hs
            obtain ⟨r4748, hr4748, hs⟩ := obind hs
            obtain ⟨x4749, hx4749, hs⟩ := obind hs
            obtain ⟨x4750, hx4750, hs⟩ := obind hs
            obtain ⟨x4751, hx4751, hs⟩ := obind hs
            obtain ⟨x4752, hx4752, hs⟩ := obind hs
            obtain ⟨r4753, hr4753, hs⟩ := obind hs
            refine rg_draw_seq g_mixed (n := 213) (rs := []) (own0 := own4742) (K := [])
                (bs := [0, 1, 0, 4, 0, 0, 48, 112, 0, 0, 768, 1792, 0, 0, 12288, 28672, 0, 0, 196608, 458752, 0, 1048576, 3145728, 0, 8388608, 25165824, 67108863, 134217727, 268435455, 536870911, 268435455, 1342177279, 268435455, 268435455, 13153337343, 30333206527, 268435455, 268435455, 206426865663, 481304772607, 268435455, 268435455, 3298803318783, 7696849829887, 268435455, 268435455, 52776826568703, 123145570746367, 268435455, 281475245146111, 844425198567423, 268435455, 2251800082120703, 6755399709491199, 18014398509481983, 36028797018963967])
                (ds := [⟨[], [3], [], Fct.val 157 (.pointer (some ⟨g2385, 0, none⟩))⟩,
                ⟨[0], [], [], Fct.val 158 (.int .i64 p1.1)⟩,
                ⟨[], [4], [], Fct.val 159 (.pointer (some ⟨g2387, 0, none⟩))⟩,
                ⟨[2], [], [], Fct.val 160 (.int .i64 q2.1)⟩,
                ⟨[], [7], [], Fct.val 161 (.slice A2838 n2840.length c2839)⟩,
                ⟨[], [12], [], Fct.val 162 (.int .i64 i4062)⟩,
                ⟨[4, 5], [], [], Fct.val 163 (.pointer (some ((adr A2838).add ((i4062 : Int).toNat * R3.s))))⟩,
                ⟨[6], [], [], Fct.val 164 (.int .i64 x4744)⟩,
                ⟨[], [8], [], Fct.val 165 (.slice A2842 d2844.length c2843)⟩,
                ⟨[], [12], [], Fct.val 166 (.int .i64 i4062)⟩,
                ⟨[8, 9], [], [], Fct.val 167 (.pointer (some ((adr A2842).add ((i4062 : Int).toNat * R3.s))))⟩,
                ⟨[10], [], [], Fct.val 168 (.int .i64 x4745)⟩,
                ⟨[], [7], [], Fct.val 169 (.slice A2838 n2840.length c2839)⟩,
                ⟨[], [13], [], Fct.val 170 (.int .i64 k4531)⟩,
                ⟨[12, 13], [], [], Fct.val 171 (.pointer (some ((adr A2838).add ((k4531 : Int).toNat * R3.s))))⟩,
                ⟨[14], [], [], Fct.val 172 (.int .i64 x4746)⟩,
                ⟨[], [8], [], Fct.val 173 (.slice A2842 d2844.length c2843)⟩,
                ⟨[], [13], [], Fct.val 174 (.int .i64 k4531)⟩,
                ⟨[16, 17], [], [], Fct.val 175 (.pointer (some ((adr A2842).add ((k4531 : Int).toNat * R3.s))))⟩,
                ⟨[18], [], [], Fct.val 176 (.int .i64 x4747)⟩,
                ⟨[], [5], [], Fct.val 177 (.pointer (some ⟨g2389, 0, none⟩))⟩,
                ⟨[20], [], [], Fct.val 178 (.pointer (some ⟨g2389, 0, none⟩))⟩,
                ⟨[21], [], [], Fct.val 179 (.int .i64 b3.1.1)⟩,
                ⟨[], [5], [], Fct.val 180 (.pointer (some ⟨g2389, 2, none⟩))⟩,
                ⟨[23], [], [], Fct.val 181 (.pointer (some ⟨g2389, 2, none⟩))⟩,
                ⟨[24], [], [], Fct.val 182 (.int .i64 b3.2.1)⟩,
                ⟨[1, 3, 7, 11, 15, 19, 22, 25], [], [], Fct.val 183 (.bool r4748)⟩,
                ⟨[26], [], [], Fct.val 184 (.bool r4748)⟩,
                ⟨[27], [3], [], Fct.cond r4748 (some 185) (Fct.val 185 (.pointer (some ⟨g2385, 1, none⟩)))⟩,
                ⟨[27, 28], [], [], Fct.cond r4748 (some 186) (Fct.val 186 (.int .i64 p1.2))⟩,
                ⟨[27], [4], [], Fct.cond r4748 (some 187) (Fct.val 187 (.pointer (some ⟨g2387, 1, none⟩)))⟩,
                ⟨[27, 30], [], [], Fct.cond r4748 (some 188) (Fct.val 188 (.int .i64 q2.2))⟩,
                ⟨[27], [7], [], Fct.cond r4748 (some 189) (Fct.val 189 (.slice A2838 n2840.length c2839))⟩,
                ⟨[27], [12], [], Fct.cond r4748 (some 190) (Fct.val 190 (.int .i64 i4062))⟩,
                ⟨[27, 32, 33], [], [], Fct.cond r4748 (some 191) (Fct.val 191 (.pointer (some ((adr A2838).add ((i4062 : Int).toNat * R3.s)))))⟩,
                ⟨[27, 34], [], [], Fct.cond r4748 (some 192) (Fct.val 192 (.int .i64 x4749))⟩,
                ⟨[27], [8], [], Fct.cond r4748 (some 193) (Fct.val 193 (.slice A2842 d2844.length c2843))⟩,
                ⟨[27], [12], [], Fct.cond r4748 (some 194) (Fct.val 194 (.int .i64 i4062))⟩,
                ⟨[27, 36, 37], [], [], Fct.cond r4748 (some 195) (Fct.val 195 (.pointer (some ((adr A2842).add ((i4062 : Int).toNat * R3.s)))))⟩,
                ⟨[27, 38], [], [], Fct.cond r4748 (some 196) (Fct.val 196 (.int .i64 x4750))⟩,
                ⟨[27], [7], [], Fct.cond r4748 (some 197) (Fct.val 197 (.slice A2838 n2840.length c2839))⟩,
                ⟨[27], [13], [], Fct.cond r4748 (some 198) (Fct.val 198 (.int .i64 k4531))⟩,
                ⟨[27, 40, 41], [], [], Fct.cond r4748 (some 199) (Fct.val 199 (.pointer (some ((adr A2838).add ((k4531 : Int).toNat * R3.s)))))⟩,
                ⟨[27, 42], [], [], Fct.cond r4748 (some 200) (Fct.val 200 (.int .i64 x4751))⟩,
                ⟨[27], [8], [], Fct.cond r4748 (some 201) (Fct.val 201 (.slice A2842 d2844.length c2843))⟩,
                ⟨[27], [13], [], Fct.cond r4748 (some 202) (Fct.val 202 (.int .i64 k4531))⟩,
                ⟨[27, 44, 45], [], [], Fct.cond r4748 (some 203) (Fct.val 203 (.pointer (some ((adr A2842).add ((k4531 : Int).toNat * R3.s)))))⟩,
                ⟨[27, 46], [], [], Fct.cond r4748 (some 204) (Fct.val 204 (.int .i64 x4752))⟩,
                ⟨[27], [5], [], Fct.cond r4748 (some 205) (Fct.val 205 (.pointer (some ⟨g2389, 0, none⟩)))⟩,
                ⟨[27, 48], [], [], Fct.cond r4748 (some 206) (Fct.val 206 (.pointer (some ⟨g2389, 1, none⟩)))⟩,
                ⟨[27, 49], [], [], Fct.cond r4748 (some 207) (Fct.val 207 (.int .i64 b3.1.2))⟩,
                ⟨[27], [5], [], Fct.cond r4748 (some 208) (Fct.val 208 (.pointer (some ⟨g2389, 2, none⟩)))⟩,
                ⟨[27, 51], [], [], Fct.cond r4748 (some 209) (Fct.val 209 (.pointer (some ⟨g2389, 3, none⟩)))⟩,
                ⟨[27, 52], [], [], Fct.cond r4748 (some 210) (Fct.val 210 (.int .i64 b3.2.2))⟩,
                ⟨[27, 29, 31, 35, 39, 43, 47, 50, 53], [], [], Fct.cond r4748 (some 211) (Fct.val 211 (.bool r4753))⟩,
                ⟨[27, 54], [], [], Fct.val 212 (.bool (r4748 && r4753))⟩]) (by kernel_rfl) hz4742 hd4742 (fun _ h => nomatch h) ?_ ?_
            · refine steps_cons (fun own a wx hf hsl hE => ?_) ?_
              · obtain ⟨s_3, -⟩ := hsl
                exact sg_plain rfl rfl (or_field fo37_0 (s_3.trans e4742_3) (by rfl))
              refine steps_cons (fun own a wx hf hsl hE => ?_) ?_
              · obtain ⟨(f_157 : a.eval (.tmp 157) = .pointer (some ⟨g2385, 0, none⟩)), -⟩ := hf
                exact sg_plain rfl rfl (or_load1 to3 f_157 (Blk.at_ (BlkO.evo (by decide) hE b4742_g2385).2 0 rfl))
              refine steps_cons (fun own a wx hf hsl hE => ?_) ?_
              · obtain ⟨s_4, -⟩ := hsl
                exact sg_plain rfl rfl (or_field fo37_0 (s_4.trans e4742_4) (by rfl))
              refine steps_cons (fun own a wx hf hsl hE => ?_) ?_
              · obtain ⟨(f_159 : a.eval (.tmp 159) = .pointer (some ⟨g2387, 0, none⟩)), -⟩ := hf
                exact sg_plain rfl rfl (or_load1 to3 f_159 (Blk.at_ (BlkO.evo (by decide) hE b4742_g2387).2 0 rfl))
              refine steps_cons (fun own a wx hf hsl hE => ?_) ?_
              · obtain ⟨s_7, -⟩ := hsl
                exact sg_plain rfl rfl (or_move (s_7.trans e4742_7))
              refine steps_cons (fun own a wx hf hsl hE => ?_) ?_
              · obtain ⟨s_12, -⟩ := hsl
                exact sg_plain rfl rfl (or_move (s_12.trans e4742_12))
              refine steps_cons (fun own a wx hf hsl hE => ?_) ?_
              · obtain ⟨(f_161 : a.eval (.tmp 161) = .slice A2838 n2840.length c2839), (f_162 : a.eval (.tmp 162) = .int .i64 i4062), -⟩ := hf
                exact sg_plain rfl rfl (or_index (R := R3) (l := n2840) tl69 f_161 f_162 (RdO.some_ (RwO.rd b4742_A2838) hx4744) hx4744)
              refine steps_cons (fun own a wx hf hsl hE => ?_) ?_
              · obtain ⟨(f_163 : a.eval (.tmp 163) = .pointer (some ((adr A2838).add ((i4062 : Int).toNat * R3.s)))), -⟩ := hf
                exact sg_plain rfl rfl (or_load1 to3 f_163 (CellsAt.zero (RdO.cells (F := E3) (RwO.rd (RwO.evo rfl hE b4742_A2838)) hx4744) rfl))
              refine steps_cons (fun own a wx hf hsl hE => ?_) ?_
              · obtain ⟨s_8, -⟩ := hsl
                exact sg_plain rfl rfl (or_move (s_8.trans e4742_8))
              refine steps_cons (fun own a wx hf hsl hE => ?_) ?_
              · obtain ⟨s_12, -⟩ := hsl
                exact sg_plain rfl rfl (or_move (s_12.trans e4742_12))
              refine steps_cons (fun own a wx hf hsl hE => ?_) ?_
              · obtain ⟨(f_165 : a.eval (.tmp 165) = .slice A2842 d2844.length c2843), (f_166 : a.eval (.tmp 166) = .int .i64 i4062), -⟩ := hf
                exact sg_plain rfl rfl (or_index (R := R3) (l := d2844) tl69 f_165 f_166 (RdO.some_ (RwO.rd b4742_A2842) hx4745) hx4745)
              refine steps_cons (fun own a wx hf hsl hE => ?_) ?_
              · obtain ⟨(f_167 : a.eval (.tmp 167) = .pointer (some ((adr A2842).add ((i4062 : Int).toNat * R3.s)))), -⟩ := hf
                exact sg_plain rfl rfl (or_load1 to3 f_167 (CellsAt.zero (RdO.cells (F := E3) (RwO.rd (RwO.evo rfl hE b4742_A2842)) hx4745) rfl))
              refine steps_cons (fun own a wx hf hsl hE => ?_) ?_
              · obtain ⟨s_7, -⟩ := hsl
                exact sg_plain rfl rfl (or_move (s_7.trans e4742_7))
              refine steps_cons (fun own a wx hf hsl hE => ?_) ?_
              · obtain ⟨s_13, -⟩ := hsl
                exact sg_plain rfl rfl (or_move (s_13.trans e4742_13))
              refine steps_cons (fun own a wx hf hsl hE => ?_) ?_
              · obtain ⟨(f_169 : a.eval (.tmp 169) = .slice A2838 n2840.length c2839), (f_170 : a.eval (.tmp 170) = .int .i64 k4531), -⟩ := hf
                exact sg_plain rfl rfl (or_index (R := R3) (l := n2840) tl69 f_169 f_170 (RdO.some_ (RwO.rd b4742_A2838) hx4746) hx4746)
              refine steps_cons (fun own a wx hf hsl hE => ?_) ?_
              · obtain ⟨(f_171 : a.eval (.tmp 171) = .pointer (some ((adr A2838).add ((k4531 : Int).toNat * R3.s)))), -⟩ := hf
                exact sg_plain rfl rfl (or_load1 to3 f_171 (CellsAt.zero (RdO.cells (F := E3) (RwO.rd (RwO.evo rfl hE b4742_A2838)) hx4746) rfl))
              refine steps_cons (fun own a wx hf hsl hE => ?_) ?_
              · obtain ⟨s_8, -⟩ := hsl
                exact sg_plain rfl rfl (or_move (s_8.trans e4742_8))
              refine steps_cons (fun own a wx hf hsl hE => ?_) ?_
              · obtain ⟨s_13, -⟩ := hsl
                exact sg_plain rfl rfl (or_move (s_13.trans e4742_13))
              refine steps_cons (fun own a wx hf hsl hE => ?_) ?_
              · obtain ⟨(f_173 : a.eval (.tmp 173) = .slice A2842 d2844.length c2843), (f_174 : a.eval (.tmp 174) = .int .i64 k4531), -⟩ := hf
                exact sg_plain rfl rfl (or_index (R := R3) (l := d2844) tl69 f_173 f_174 (RdO.some_ (RwO.rd b4742_A2842) hx4747) hx4747)
              refine steps_cons (fun own a wx hf hsl hE => ?_) ?_
              · obtain ⟨(f_175 : a.eval (.tmp 175) = .pointer (some ((adr A2842).add ((k4531 : Int).toNat * R3.s)))), -⟩ := hf
                exact sg_plain rfl rfl (or_load1 to3 f_175 (CellsAt.zero (RdO.cells (F := E3) (RwO.rd (RwO.evo rfl hE b4742_A2842)) hx4747) rfl))
              refine steps_cons (fun own a wx hf hsl hE => ?_) ?_
              · obtain ⟨s_5, -⟩ := hsl
                exact sg_plain rfl rfl (or_field fo39_0 (s_5.trans e4742_5) (by rfl))
              refine steps_cons (fun own a wx hf hsl hE => ?_) ?_
              · obtain ⟨(f_177 : a.eval (.tmp 177) = .pointer (some ⟨g2389, 0, none⟩)), -⟩ := hf
                exact sg_plain rfl rfl (or_field fo37_0 f_177 (by rfl))
              refine steps_cons (fun own a wx hf hsl hE => ?_) ?_
              · obtain ⟨(f_178 : a.eval (.tmp 178) = .pointer (some ⟨g2389, 0, none⟩)), -⟩ := hf
                exact sg_plain rfl rfl (or_load1 to3 f_178 (Blk.at_ (BlkO.evo (by decide) hE b4742_g2389).2 0 rfl))
              refine steps_cons (fun own a wx hf hsl hE => ?_) ?_
              · obtain ⟨s_5, -⟩ := hsl
                exact sg_plain rfl rfl (or_field fo39_1 (s_5.trans e4742_5) (by rfl))
              refine steps_cons (fun own a wx hf hsl hE => ?_) ?_
              · obtain ⟨(f_180 : a.eval (.tmp 180) = .pointer (some ⟨g2389, 2, none⟩)), -⟩ := hf
                exact sg_plain rfl rfl (or_field fo37_0 f_180 (by rfl))
              refine steps_cons (fun own a wx hf hsl hE => ?_) ?_
              · obtain ⟨(f_181 : a.eval (.tmp 181) = .pointer (some ⟨g2389, 2, none⟩)), -⟩ := hf
                exact sg_plain rfl rfl (or_load1 to3 f_181 (Blk.at_ (BlkO.evo (by decide) hE b4742_g2389).2 2 rfl))
              refine steps_cons (fun own a wx hf hsl hE => ?_) ?_
              · obtain ⟨(f_158 : a.eval (.tmp 158) = .int .i64 p1.1), (f_160 : a.eval (.tmp 160) = .int .i64 q2.1), (f_164 : a.eval (.tmp 164) = .int .i64 x4744), (f_168 : a.eval (.tmp 168) = .int .i64 x4745), (f_172 : a.eval (.tmp 172) = .int .i64 x4746), (f_176 : a.eval (.tmp 176) = .int .i64 x4747), (f_179 : a.eval (.tmp 179) = .int .i64 b3.1.1), (f_182 : a.eval (.tmp 182) = .int .i64 b3.2.1), -⟩ := hf
                exact sg_plain rfl rfl (or_call cf41 (args8 f_158 f_160 f_164 f_168 f_172 f_176 f_179 f_182) (ref22_strict_w _ p1.1 q2.1 x4744 x4745 x4746 x4747 b3.1.1 b3.2.1  r4748 hr4748) post_val)
              refine steps_cons (fun own a wx hf hsl hE => ?_) ?_
              · obtain ⟨(f_183 : a.eval (.tmp 183) = .bool r4748), -⟩ := hf
                exact sg_plain rfl rfl (or_move f_183)
              refine steps_cons (fun own a wx hf hsl hE => ?_) ?_
              · obtain ⟨(f_184 : a.eval (.tmp 184) = .bool r4748), -⟩ := hf
                obtain ⟨s_3, -⟩ := hsl
                refine sg_t rfl rfl rfl f_184 (fun hg => ?_)
                exact or_field fo37_1 (s_3.trans e4742_3) (by rfl)
              refine steps_cons (fun own a wx hf hsl hE => ?_) ?_
              · obtain ⟨(f_184 : a.eval (.tmp 184) = .bool r4748), c_185, -⟩ := hf
                refine sg_t rfl rfl rfl f_184 (fun hg => ?_)
                have f_185 : a.eval (.tmp 185) = .pointer (some ⟨g2385, 1, none⟩) := c_185.1 hg
                exact or_load1 to3 f_185 (Blk.at_ (BlkO.evo (by decide) hE b4742_g2385).2 1 rfl)
              refine steps_cons (fun own a wx hf hsl hE => ?_) ?_
              · obtain ⟨(f_184 : a.eval (.tmp 184) = .bool r4748), -⟩ := hf
                obtain ⟨s_4, -⟩ := hsl
                refine sg_t rfl rfl rfl f_184 (fun hg => ?_)
                exact or_field fo37_1 (s_4.trans e4742_4) (by rfl)
              refine steps_cons (fun own a wx hf hsl hE => ?_) ?_
              · obtain ⟨(f_184 : a.eval (.tmp 184) = .bool r4748), c_187, -⟩ := hf
                refine sg_t rfl rfl rfl f_184 (fun hg => ?_)
                have f_187 : a.eval (.tmp 187) = .pointer (some ⟨g2387, 1, none⟩) := c_187.1 hg
                exact or_load1 to3 f_187 (Blk.at_ (BlkO.evo (by decide) hE b4742_g2387).2 1 rfl)
              refine steps_cons (fun own a wx hf hsl hE => ?_) ?_
              · obtain ⟨(f_184 : a.eval (.tmp 184) = .bool r4748), -⟩ := hf
                obtain ⟨s_7, -⟩ := hsl
                refine sg_t rfl rfl rfl f_184 (fun hg => ?_)
                exact or_move (s_7.trans e4742_7)
              refine steps_cons (fun own a wx hf hsl hE => ?_) ?_
              · obtain ⟨(f_184 : a.eval (.tmp 184) = .bool r4748), -⟩ := hf
                obtain ⟨s_12, -⟩ := hsl
                refine sg_t rfl rfl rfl f_184 (fun hg => ?_)
                exact or_move (s_12.trans e4742_12)
              refine steps_cons (fun own a wx hf hsl hE => ?_) ?_
              · obtain ⟨(f_184 : a.eval (.tmp 184) = .bool r4748), c_189, c_190, -⟩ := hf
                refine sg_t rfl rfl rfl f_184 (fun hg => ?_)
                have f_189 : a.eval (.tmp 189) = .slice A2838 n2840.length c2839 := c_189.1 hg
                have f_190 : a.eval (.tmp 190) = .int .i64 i4062 := c_190.1 hg
                exact or_index (R := R3) (l := n2840) tl69 f_189 f_190 (RdO.some_ (RwO.rd b4742_A2838) (gd_t hx4749 hg)) (gd_t hx4749 hg)
              refine steps_cons (fun own a wx hf hsl hE => ?_) ?_
              · obtain ⟨(f_184 : a.eval (.tmp 184) = .bool r4748), c_191, -⟩ := hf
                refine sg_t rfl rfl rfl f_184 (fun hg => ?_)
                have f_191 : a.eval (.tmp 191) = .pointer (some ((adr A2838).add ((i4062 : Int).toNat * R3.s))) := c_191.1 hg
                exact or_load1 to3 f_191 (CellsAt.zero (RdO.cells (F := E3) (RwO.rd (RwO.evo rfl hE b4742_A2838)) (gd_t hx4749 hg)) rfl)
              refine steps_cons (fun own a wx hf hsl hE => ?_) ?_
              · obtain ⟨(f_184 : a.eval (.tmp 184) = .bool r4748), -⟩ := hf
                obtain ⟨s_8, -⟩ := hsl
                refine sg_t rfl rfl rfl f_184 (fun hg => ?_)
                exact or_move (s_8.trans e4742_8)
              refine steps_cons (fun own a wx hf hsl hE => ?_) ?_
              · obtain ⟨(f_184 : a.eval (.tmp 184) = .bool r4748), -⟩ := hf
                obtain ⟨s_12, -⟩ := hsl
                refine sg_t rfl rfl rfl f_184 (fun hg => ?_)
                exact or_move (s_12.trans e4742_12)
              refine steps_cons (fun own a wx hf hsl hE => ?_) ?_
              · obtain ⟨(f_184 : a.eval (.tmp 184) = .bool r4748), c_193, c_194, -⟩ := hf
                refine sg_t rfl rfl rfl f_184 (fun hg => ?_)
                have f_193 : a.eval (.tmp 193) = .slice A2842 d2844.length c2843 := c_193.1 hg
                have f_194 : a.eval (.tmp 194) = .int .i64 i4062 := c_194.1 hg
                exact or_index (R := R3) (l := d2844) tl69 f_193 f_194 (RdO.some_ (RwO.rd b4742_A2842) (gd_t hx4750 hg)) (gd_t hx4750 hg)
              refine steps_cons (fun own a wx hf hsl hE => ?_) ?_
              · obtain ⟨(f_184 : a.eval (.tmp 184) = .bool r4748), c_195, -⟩ := hf
                refine sg_t rfl rfl rfl f_184 (fun hg => ?_)
                have f_195 : a.eval (.tmp 195) = .pointer (some ((adr A2842).add ((i4062 : Int).toNat * R3.s))) := c_195.1 hg
                exact or_load1 to3 f_195 (CellsAt.zero (RdO.cells (F := E3) (RwO.rd (RwO.evo rfl hE b4742_A2842)) (gd_t hx4750 hg)) rfl)
              refine steps_cons (fun own a wx hf hsl hE => ?_) ?_
              · obtain ⟨(f_184 : a.eval (.tmp 184) = .bool r4748), -⟩ := hf
                obtain ⟨s_7, -⟩ := hsl
                refine sg_t rfl rfl rfl f_184 (fun hg => ?_)
                exact or_move (s_7.trans e4742_7)
              refine steps_cons (fun own a wx hf hsl hE => ?_) ?_
              · obtain ⟨(f_184 : a.eval (.tmp 184) = .bool r4748), -⟩ := hf
                obtain ⟨s_13, -⟩ := hsl
                refine sg_t rfl rfl rfl f_184 (fun hg => ?_)
                exact or_move (s_13.trans e4742_13)
              refine steps_cons (fun own a wx hf hsl hE => ?_) ?_
              · obtain ⟨(f_184 : a.eval (.tmp 184) = .bool r4748), c_197, c_198, -⟩ := hf
                refine sg_t rfl rfl rfl f_184 (fun hg => ?_)
                have f_197 : a.eval (.tmp 197) = .slice A2838 n2840.length c2839 := c_197.1 hg
                have f_198 : a.eval (.tmp 198) = .int .i64 k4531 := c_198.1 hg
                exact or_index (R := R3) (l := n2840) tl69 f_197 f_198 (RdO.some_ (RwO.rd b4742_A2838) (gd_t hx4751 hg)) (gd_t hx4751 hg)
              refine steps_cons (fun own a wx hf hsl hE => ?_) ?_
              · obtain ⟨(f_184 : a.eval (.tmp 184) = .bool r4748), c_199, -⟩ := hf
                refine sg_t rfl rfl rfl f_184 (fun hg => ?_)
                have f_199 : a.eval (.tmp 199) = .pointer (some ((adr A2838).add ((k4531 : Int).toNat * R3.s))) := c_199.1 hg
                exact or_load1 to3 f_199 (CellsAt.zero (RdO.cells (F := E3) (RwO.rd (RwO.evo rfl hE b4742_A2838)) (gd_t hx4751 hg)) rfl)
              refine steps_cons (fun own a wx hf hsl hE => ?_) ?_
              · obtain ⟨(f_184 : a.eval (.tmp 184) = .bool r4748), -⟩ := hf
                obtain ⟨s_8, -⟩ := hsl
                refine sg_t rfl rfl rfl f_184 (fun hg => ?_)
                exact or_move (s_8.trans e4742_8)
              refine steps_cons (fun own a wx hf hsl hE => ?_) ?_
              · obtain ⟨(f_184 : a.eval (.tmp 184) = .bool r4748), -⟩ := hf
                obtain ⟨s_13, -⟩ := hsl
                refine sg_t rfl rfl rfl f_184 (fun hg => ?_)
                exact or_move (s_13.trans e4742_13)
              refine steps_cons (fun own a wx hf hsl hE => ?_) ?_
              · obtain ⟨(f_184 : a.eval (.tmp 184) = .bool r4748), c_201, c_202, -⟩ := hf
                refine sg_t rfl rfl rfl f_184 (fun hg => ?_)
                have f_201 : a.eval (.tmp 201) = .slice A2842 d2844.length c2843 := c_201.1 hg
                have f_202 : a.eval (.tmp 202) = .int .i64 k4531 := c_202.1 hg
                exact or_index (R := R3) (l := d2844) tl69 f_201 f_202 (RdO.some_ (RwO.rd b4742_A2842) (gd_t hx4752 hg)) (gd_t hx4752 hg)
              refine steps_cons (fun own a wx hf hsl hE => ?_) ?_
              · obtain ⟨(f_184 : a.eval (.tmp 184) = .bool r4748), c_203, -⟩ := hf
                refine sg_t rfl rfl rfl f_184 (fun hg => ?_)
                have f_203 : a.eval (.tmp 203) = .pointer (some ((adr A2842).add ((k4531 : Int).toNat * R3.s))) := c_203.1 hg
                exact or_load1 to3 f_203 (CellsAt.zero (RdO.cells (F := E3) (RwO.rd (RwO.evo rfl hE b4742_A2842)) (gd_t hx4752 hg)) rfl)
              refine steps_cons (fun own a wx hf hsl hE => ?_) ?_
              · obtain ⟨(f_184 : a.eval (.tmp 184) = .bool r4748), -⟩ := hf
                obtain ⟨s_5, -⟩ := hsl
                refine sg_t rfl rfl rfl f_184 (fun hg => ?_)
                exact or_field fo39_0 (s_5.trans e4742_5) (by rfl)
              refine steps_cons (fun own a wx hf hsl hE => ?_) ?_
              · obtain ⟨(f_184 : a.eval (.tmp 184) = .bool r4748), c_205, -⟩ := hf
                refine sg_t rfl rfl rfl f_184 (fun hg => ?_)
                have f_205 : a.eval (.tmp 205) = .pointer (some ⟨g2389, 0, none⟩) := c_205.1 hg
                exact or_field fo37_1 f_205 (by rfl)
              refine steps_cons (fun own a wx hf hsl hE => ?_) ?_
              · obtain ⟨(f_184 : a.eval (.tmp 184) = .bool r4748), c_206, -⟩ := hf
                refine sg_t rfl rfl rfl f_184 (fun hg => ?_)
                have f_206 : a.eval (.tmp 206) = .pointer (some ⟨g2389, 1, none⟩) := c_206.1 hg
                exact or_load1 to3 f_206 (Blk.at_ (BlkO.evo (by decide) hE b4742_g2389).2 1 rfl)
              refine steps_cons (fun own a wx hf hsl hE => ?_) ?_
              · obtain ⟨(f_184 : a.eval (.tmp 184) = .bool r4748), -⟩ := hf
                obtain ⟨s_5, -⟩ := hsl
                refine sg_t rfl rfl rfl f_184 (fun hg => ?_)
                exact or_field fo39_1 (s_5.trans e4742_5) (by rfl)
              refine steps_cons (fun own a wx hf hsl hE => ?_) ?_
              · obtain ⟨(f_184 : a.eval (.tmp 184) = .bool r4748), c_208, -⟩ := hf
                refine sg_t rfl rfl rfl f_184 (fun hg => ?_)
                have f_208 : a.eval (.tmp 208) = .pointer (some ⟨g2389, 2, none⟩) := c_208.1 hg
                exact or_field fo37_1 f_208 (by rfl)
              refine steps_cons (fun own a wx hf hsl hE => ?_) ?_
              · obtain ⟨(f_184 : a.eval (.tmp 184) = .bool r4748), c_209, -⟩ := hf
                refine sg_t rfl rfl rfl f_184 (fun hg => ?_)
                have f_209 : a.eval (.tmp 209) = .pointer (some ⟨g2389, 3, none⟩) := c_209.1 hg
                exact or_load1 to3 f_209 (Blk.at_ (BlkO.evo (by decide) hE b4742_g2389).2 3 rfl)
              refine steps_cons (fun own a wx hf hsl hE => ?_) ?_
              · obtain ⟨(f_184 : a.eval (.tmp 184) = .bool r4748), c_186, c_188, c_192, c_196, c_200, c_204, c_207, c_210, -⟩ := hf
                refine sg_t rfl rfl rfl f_184 (fun hg => ?_)
                have f_186 : a.eval (.tmp 186) = .int .i64 p1.2 := c_186.1 hg
                have f_188 : a.eval (.tmp 188) = .int .i64 q2.2 := c_188.1 hg
                have f_192 : a.eval (.tmp 192) = .int .i64 x4749 := c_192.1 hg
                have f_196 : a.eval (.tmp 196) = .int .i64 x4750 := c_196.1 hg
                have f_200 : a.eval (.tmp 200) = .int .i64 x4751 := c_200.1 hg
                have f_204 : a.eval (.tmp 204) = .int .i64 x4752 := c_204.1 hg
                have f_207 : a.eval (.tmp 207) = .int .i64 b3.1.2 := c_207.1 hg
                have f_210 : a.eval (.tmp 210) = .int .i64 b3.2.2 := c_210.1 hg
                exact or_call cf41 (args8 f_186 f_188 f_192 f_196 f_200 f_204 f_207 f_210) (ref22_strict_w _ p1.2 q2.2 x4749 x4750 x4751 x4752 b3.1.2 b3.2.2  r4753 (gd_t hr4753 hg)) post_val
              refine steps_cons (fun own a wx hf hsl hE => ?_) ?_
              · obtain ⟨(f_184 : a.eval (.tmp 184) = .bool r4748), c_211, -⟩ := hf
                exact sg_plain rfl rfl (or_and f_184 (fun hx => c_211.1 hx) rfl rfl)
              exact steps_nil
            intro own4754 a4754 w4754 hd4754 hz4754 hk4754 hf4754 hE4754
            have e4754_3 : a4754.eval (.tmp 3) = .pointer (some ⟨g2385, 0, none⟩) := (hk4754 3 rfl).trans e4742_3
            have e4754_4 : a4754.eval (.tmp 4) = .pointer (some ⟨g2387, 0, none⟩) := (hk4754 4 rfl).trans e4742_4
            have e4754_5 : a4754.eval (.tmp 5) = .pointer (some ⟨g2389, 0, none⟩) := (hk4754 5 rfl).trans e4742_5
            have e4754_7 : a4754.eval (.tmp 7) = .slice A2838 n2840.length c2839 := (hk4754 7 rfl).trans e4742_7
            have e4754_8 : a4754.eval (.tmp 8) = .slice A2842 d2844.length c2843 := (hk4754 8 rfl).trans e4742_8
            have e4754_12 : a4754.eval (.tmp 12) = .int .i64 i4062 := (hk4754 12 rfl).trans e4742_12
            have e4754_13 : a4754.eval (.tmp 13) = .int .i64 k4531 := (hk4754 13 rfl).trans e4742_13
            obtain ⟨(f_212 : a4754.eval (.tmp 212) = .bool (r4748 && r4753)), -⟩ := hf4754 [55] rfl
            have e4754_212 := f_212
            have hX4754 := Evo.step hX4742 (fun _ => Nat.le_refl 0) hE4754 rfl
            have b4754_g2385 := BlkO.evo (by decide) hE4754 b4742_g2385
            have b4754_g2387 := BlkO.evo (by decide) hE4754 b4742_g2387
            have b4754_g2389 := BlkO.evo (by decide) hE4754 b4742_g2389
            have b4754_A2838 := RwO.evo rfl hE4754 b4742_A2838
            have b4754_A2842 := RwO.evo rfl hE4754 b4742_A2842
            refine fl_cond e4754_212 hs (fun c4755 hs => ?_) (fun c4755 hs => ?_)
            · refine rg_plain_seq (n := 213) (rs := []) (own0 := own4754) (K := [])
                  (bs := [0])
                  (ds := [⟨[], [], [], Fct.val 6 (.bool true)⟩]) (by kernel_rfl) hz4754 hd4754 (fun _ h => nomatch h) ?_ ?_
              · refine steps_cons (fun own a wx hf hsl hE => ?_) ?_
                · exact sg_plain rfl rfl (or_assign rfl)
                exact steps_nil
              intro own4756 a4756 w4756 hd4756 hz4756 hk4756 hf4756 hE4756
              obtain ⟨(f_6 : a4756.eval (.tmp 6) = .bool true), -⟩ := hf4756 [0] rfl
              have e4756_6 := f_6
              have hX4756 := Evo.step hX4754 (fun _ => Nat.le_refl 0) hE4756 rfl
              refine fl_ret ?_
              refine hp4703 _ _ _ rfl ?_
              refine hp4649 _ _ _ rfl ?_
              replace hs := hz4644 _ hs
              refine hp4644 _ _ _ rfl ?_
              refine hp4418 _ _ _ rfl ?_
              refine hp4416 _ _ _ rfl ?_
              refine hp4415 _ _ _ rfl ?_
              replace hs := hz4410 _ hs
              refine hp4410 _ _ _ rfl ?_
              refine hp3714 _ _ _ rfl ?_
              refine hp3712 _ _ _ rfl ?_
              obtain rfl := osome hs
              exact hret _ _ _ _ (.inl rfl) hd4756 (results1_ rfl (RVal.tmp_ e4756_6)) ⟨own4756, rfl, hX4756⟩
            refine fl_skip ?_
            exact (K4729 _ _ own4754  hd4754 hz4754 e4754_3 e4754_4 e4754_5 e4754_7 e4754_8 e4754_12 e4754_13 hX4754 b4754_g2385 b4754_g2387 b4754_g2389 b4754_A2838 b4754_A2842 hs).1
          refine fl_exit ?_
          refine hp4646 _ _ _ rfl ?_
          replace hs := hz4644 _ hs
          refine hp4644 _ _ _ rfl ?_
          refine hx4418 _ _ ?_
          refine hn4416 _ _ ?_
          refine hn4415 _ _ ?_
          refine rg_plain (n := 213) (rs := []) (own0 := own4647) (K := [])
              (bs := [0, 1, 3])
              (ds := [⟨[], [12], [], Fct.val 112 (.int .i64 i4062)⟩,
              ⟨[0], [], [], Fct.val 113 (.int .i64 (ad i4062 1))⟩,
              ⟨[1], [], [], Fct.val 12 (.int .i64 (ad i4062 1))⟩]) (by kernel_rfl) hz4647 hd4647 (fun _ h => nomatch h) ?_ ?_
          · refine steps_cons (fun own a wx hf hsl hE => ?_) ?_
            · obtain ⟨s_12, -⟩ := hsl
              exact sg_plain rfl rfl (or_move (s_12.trans e4647_12))
            refine steps_cons (fun own a wx hf hsl hE => ?_) ?_
            · obtain ⟨(f_112 : a.eval (.tmp 112) = .int .i64 i4062), -⟩ := hf
              exact sg_plain rfl rfl (or_add f_112 rfl rfl)
            refine steps_cons (fun own a wx hf hsl hE => ?_) ?_
            · obtain ⟨(f_113 : a.eval (.tmp 113) = .int .i64 (ad i4062 1)), -⟩ := hf
              exact sg_plain rfl rfl (or_assign f_113)
            exact steps_nil
          intro own4757 a4757 w4757 hd4757 hz4757 hk4757 hf4757 hE4757
          have e4757_3 : a4757.eval (.tmp 3) = .pointer (some ⟨g2385, 0, none⟩) := (hk4757 3 rfl).trans e4647_3
          have e4757_4 : a4757.eval (.tmp 4) = .pointer (some ⟨g2387, 0, none⟩) := (hk4757 4 rfl).trans e4647_4
          have e4757_5 : a4757.eval (.tmp 5) = .pointer (some ⟨g2389, 0, none⟩) := (hk4757 5 rfl).trans e4647_5
          have e4757_7 : a4757.eval (.tmp 7) = .slice A2838 n2840.length c2839 := (hk4757 7 rfl).trans e4647_7
          have e4757_8 : a4757.eval (.tmp 8) = .slice A2842 d2844.length c2843 := (hk4757 8 rfl).trans e4647_8
          obtain ⟨(f_12 : a4757.eval (.tmp 12) = .int .i64 (ad i4062 1)), -⟩ := hf4757 [2] rfl
          have e4757_12 := f_12
          have hX4757 := Evo.step hX4647 (fun _ => Nat.le_refl 0) hE4757 rfl
          have b4757_g2385 := BlkO.evo (by decide) hE4757 b4647_g2385
          have b4757_g2387 := BlkO.evo (by decide) hE4757 b4647_g2387
          have b4757_g2389 := BlkO.evo (by decide) hE4757 b4647_g2389
          have b4757_A2838 := RwO.evo rfl hE4757 b4647_A2838
          have b4757_A2842 := RwO.evo rfl hE4757 b4647_A2842
          exact hn4410 _ _ _ hs ⟨own4757, hd4757, hz4757, e4757_3, e4757_4, e4757_5, e4757_7, e4757_8, e4757_12, hX4757, b4757_g2385, b4757_g2387, b4757_g2389, b4757_A2838, b4757_A2842⟩
      refine fl_exit ?_
      refine hp4412 _ _ _ rfl ?_
      replace hs := hz4410 _ hs
      refine hp4410 _ _ _ rfl ?_
      refine hx3714 _ _ ?_
      refine hn3712 _ _ ?_
      refine rg_plain_seq (n := 213) (rs := []) (own0 := own4413) (K := [])
          (bs := [0])
          (ds := [⟨[], [], [], Fct.val 6 (.bool false)⟩]) (by kernel_rfl) hz4413 hd4413 (fun _ h => nomatch h) ?_ ?_
      · refine steps_cons (fun own a wx hf hsl hE => ?_) ?_
        · exact sg_plain rfl rfl (or_assign rfl)
        exact steps_nil
      intro own4758 a4758 w4758 hd4758 hz4758 hk4758 hf4758 hE4758
      obtain ⟨(f_6 : a4758.eval (.tmp 6) = .bool false), -⟩ := hf4758 [0] rfl
      have e4758_6 := f_6
      have hX4758 := Evo.step hX4413 (fun _ => Nat.le_refl 0) hE4758 rfl
      refine fl_ret ?_
      obtain rfl := osome hs
      exact hret _ _ _ _ (.inl rfl) hd4758 (results1_ rfl (RVal.tmp_ e4758_6)) ⟨own4758, rfl, hX4758⟩

end Go.Proofs.Ythjcpojcpafbjaa
