/-
  Chapter 22. The walks.
-/
import Derived.Test.YthjcpojcpafbjaaWd
import Derived.Test.YthjcpojcpafbjaaSe
namespace Go.Proofs.Ythjcpojcpafbjaa
open Go.RowKit
set_option linter.unusedVariables false
theorem exact_Floor_w (w : World) (n1 : Int) (d2 : Int) (r : Int × Bool) (hs : exact_Floor n1 d2 = some r) :
    Calls Try.prog 42 #[.int .i64 n1, .int .i64 d2] w fun e w' => ∃ own' : Own, e = .returned (.tuple #[.int .i64 r.1, .bool r.2]) ∧ Evo [] (fun _ => 0) own' w w' := by
  refine fl_enter (n := 25) rfl rfl rfl (Nat.le_of_ble_eq_true rfl) ?_
  intro a0 Q hd0 hz0 harg hret
  have ha0 := harg 0 _ rfl
  have ha1 := harg 1 _ rfl
  clear harg
  have hE0 : Evo [] (fun _ => 0) (fun _ => 0) w w := Evo.refl _ _ _
  refine rg_plain_seq (n := 25) (rs := []) (own0 := (fun _ => 0)) (K := [])
      (bs := [0, 1])
      (ds := [⟨[], [], [], Fct.val 4 (.int .i64 0)⟩,
      ⟨[], [], [], Fct.val 5 (.bool false)⟩]) (by kernel_rfl) hz0 hd0 (fun _ h => nomatch h) ?_ ?_
  · refine steps_cons (fun own a wx hf hsl hE => ?_) ?_
    · exact sg_plain rfl rfl (or_assign rfl)
    refine steps_cons (fun own a wx hf hsl hE => ?_) ?_
    · exact sg_plain rfl rfl (or_assign rfl)
    exact steps_nil
  intro own49 a49 w49 hd49 hz49 hk49 hf49 hE49
  have e49_0 : a49.eval (.tmp 0) = .int .i64 n1 := (hk49 0 rfl).trans ha0
  have e49_1 : a49.eval (.tmp 1) = .int .i64 d2 := (hk49 1 rfl).trans ha1
  have hX49 := Evo.step hE0 (fun _ => Nat.le_refl 0) hE49 rfl
  refine fl_fwd (l := 0) rfl ?_
  intro Q50 hj50 hp50
  have K67 : ∀ (a67 : Act) (w67 : World) (own67 : Own) (q66 : Int), a67.defers = [] → a67.tmps.size = 25 → a67.eval (.tmp 6) = .int .i64 q66 → Evo [] (fun _ => 0) own67 w w67 → exact_Floor_k1 q66 = some r → Q50 (.goto 0) a67 w67 := by
    intro a67 w67 own67 q66 hd68 hz68 e68_6 hE68 hs
    refine hj50 _ _ (fun Q69 hp69 => ?_)
    refine fl_seq (fun Q70 hn70 hp70 => ?_)
    refine fl_skip ?_
    refine hn70 _ _ ?_
    refine rg_plain_seq (n := 25) (rs := []) (own0 := own67) (K := [])
        (bs := [0, 1, 3])
        (ds := [⟨[], [6], [], Fct.val 24 (.int .i64 q66)⟩,
        ⟨[0], [], [], Fct.val 4 (.int .i64 q66)⟩,
        ⟨[], [], [], Fct.val 5 (.bool true)⟩]) (by kernel_rfl) hz68 hd68 (fun _ h => nomatch h) ?_ ?_
    · refine steps_cons (fun own a wx hf hsl hE => ?_) ?_
      · obtain ⟨s_6, -⟩ := hsl
        exact sg_plain rfl rfl (or_move (s_6.trans e68_6))
      refine steps_cons (fun own a wx hf hsl hE => ?_) ?_
      · obtain ⟨(f_24 : a.eval (.tmp 24) = .int .i64 q66), -⟩ := hf
        exact sg_plain rfl rfl (or_assign f_24)
      refine steps_cons (fun own a wx hf hsl hE => ?_) ?_
      · exact sg_plain rfl rfl (or_assign rfl)
      exact steps_nil
    intro own71 a71 w71 hd71 hz71 hk71 hf71 hE71
    obtain ⟨(f_4 : a71.eval (.tmp 4) = .int .i64 q66), (f_5 : a71.eval (.tmp 5) = .bool true), -⟩ := hf71 [1, 2] rfl
    have e71_4 := f_4
    have e71_5 := f_5
    have hX71 := Evo.step hE68 (fun _ => Nat.le_refl 0) hE71 rfl
    refine fl_ret ?_
    refine hp69.leaves _ _ _ rfl ?_
    obtain rfl := osome hs
    exact hret _ _ _ _ (.inl rfl) hd71 (results2_ rfl (RVal.tmp_ e71_4) (RVal.tmp_ e71_5)) ⟨own71, rfl, hX71⟩
  refine fl_seq (fun Q72 hn72 hp72 => ?_)
  obtain ⟨r73, hr73, hs⟩ := obind hs
  obtain ⟨r74, hr74, hs⟩ := obind hs
  refine rg_plain_seq (n := 25) (rs := []) (own0 := own49) (K := [])
      (bs := [0, 1, 3, 7, 15, 31, 63, 127])
      (ds := [⟨[], [1], [], Fct.val 7 (.int .i64 d2)⟩,
      ⟨[0], [], [], Fct.val 8 (.bool r73)⟩,
      ⟨[1], [], [], Fct.val 9 (.bool (!r73))⟩,
      ⟨[2], [], [], Fct.val 10 (.bool (!r73))⟩,
      ⟨[3], [0], [], Fct.cond (!(!r73)) (some 11) (Fct.val 11 (.int .i64 n1))⟩,
      ⟨[3, 4], [], [], Fct.cond (!(!r73)) (some 12) (Fct.val 12 (.bool r74))⟩,
      ⟨[3, 5], [], [], Fct.cond (!(!r73)) (some 13) (Fct.val 13 (.bool (!r74)))⟩,
      ⟨[3, 6], [], [], Fct.val 14 (.bool ((!r73) || (!r74)))⟩]) (by kernel_rfl) hz49 hd49 (fun _ h => nomatch h) ?_ ?_
  · refine steps_cons (fun own a wx hf hsl hE => ?_) ?_
    · obtain ⟨s_1, -⟩ := hsl
      exact sg_plain rfl rfl (or_move (s_1.trans e49_1))
    refine steps_cons (fun own a wx hf hsl hE => ?_) ?_
    · obtain ⟨(f_7 : a.eval (.tmp 7) = .int .i64 d2), -⟩ := hf
      exact sg_plain rfl rfl (or_call cf38 (args3 f_7 rfl rfl) (exact_within_w _ d2 1 1152921504606846976  r73 hr73) post_val)
    refine steps_cons (fun own a wx hf hsl hE => ?_) ?_
    · obtain ⟨(f_8 : a.eval (.tmp 8) = .bool r73), -⟩ := hf
      exact sg_plain rfl rfl (or_not f_8 rfl)
    refine steps_cons (fun own a wx hf hsl hE => ?_) ?_
    · obtain ⟨(f_9 : a.eval (.tmp 9) = .bool (!r73)), -⟩ := hf
      exact sg_plain rfl rfl (or_move f_9)
    refine steps_cons (fun own a wx hf hsl hE => ?_) ?_
    · obtain ⟨(f_10 : a.eval (.tmp 10) = .bool (!r73)), -⟩ := hf
      obtain ⟨s_0, -⟩ := hsl
      refine sg_f rfl rfl rfl f_10 (fun hg => ?_)
      exact or_move (s_0.trans e49_0)
    refine steps_cons (fun own a wx hf hsl hE => ?_) ?_
    · obtain ⟨(f_10 : a.eval (.tmp 10) = .bool (!r73)), c_11, -⟩ := hf
      refine sg_f rfl rfl rfl f_10 (fun hg => ?_)
      have f_11 : a.eval (.tmp 11) = .int .i64 n1 := c_11.1 hg
      exact or_call cf38 (args3 f_11 rfl rfl) (exact_within_w _ n1 (-1152921504606846976) 1152921504606846976  r74 (gd_t hr74 hg)) post_val
    refine steps_cons (fun own a wx hf hsl hE => ?_) ?_
    · obtain ⟨(f_10 : a.eval (.tmp 10) = .bool (!r73)), c_12, -⟩ := hf
      refine sg_f rfl rfl rfl f_10 (fun hg => ?_)
      have f_12 : a.eval (.tmp 12) = .bool r74 := c_12.1 hg
      exact or_not f_12 rfl
    refine steps_cons (fun own a wx hf hsl hE => ?_) ?_
    · obtain ⟨(f_10 : a.eval (.tmp 10) = .bool (!r73)), c_13, -⟩ := hf
      exact sg_plain rfl rfl (or_or f_10 rfl (fun hx => c_13.1 hx) rfl)
    exact steps_nil
  intro own75 a75 w75 hd75 hz75 hk75 hf75 hE75
  have e75_0 : a75.eval (.tmp 0) = .int .i64 n1 := (hk75 0 rfl).trans e49_0
  have e75_1 : a75.eval (.tmp 1) = .int .i64 d2 := (hk75 1 rfl).trans e49_1
  obtain ⟨(f_14 : a75.eval (.tmp 14) = .bool ((!r73) || (!r74))), -⟩ := hf75 [7] rfl
  have e75_14 := f_14
  have hX75 := Evo.step hX49 (fun _ => Nat.le_refl 0) hE75 rfl
  refine fl_cond e75_14 hs (fun c76 hs => ?_) (fun c76 hs => ?_)
  · refine rg_plain_seq (n := 25) (rs := []) (own0 := own75) (K := [])
        (bs := [0, 1])
        (ds := [⟨[], [], [], Fct.val 4 (.int .i64 0)⟩,
        ⟨[], [], [], Fct.val 5 (.bool false)⟩]) (by kernel_rfl) hz75 hd75 (fun _ h => nomatch h) ?_ ?_
    · refine steps_cons (fun own a wx hf hsl hE => ?_) ?_
      · exact sg_plain rfl rfl (or_assign rfl)
      refine steps_cons (fun own a wx hf hsl hE => ?_) ?_
      · exact sg_plain rfl rfl (or_assign rfl)
      exact steps_nil
    intro own77 a77 w77 hd77 hz77 hk77 hf77 hE77
    obtain ⟨(f_4 : a77.eval (.tmp 4) = .int .i64 0), (f_5 : a77.eval (.tmp 5) = .bool false), -⟩ := hf77 [0, 1] rfl
    have e77_4 := f_4
    have e77_5 := f_5
    have hX77 := Evo.step hX75 (fun _ => Nat.le_refl 0) hE77 rfl
    refine fl_ret ?_
    refine hp72 _ _ _ rfl ?_
    refine hp50.leaves _ _ _ rfl ?_
    obtain rfl := osome hs
    exact hret _ _ _ _ (.inl rfl) hd77 (results2_ rfl (RVal.tmp_ e77_4) (RVal.tmp_ e77_5)) ⟨own77, rfl, hX77⟩
  refine fl_skip ?_
  refine hn72 _ _ ?_
  obtain ⟨x78, hx78, hs⟩ := obind hs
  refine rg_plain_seq (n := 25) (rs := []) (own0 := own75) (K := [])
      (bs := [0, 0, 3, 7])
      (ds := [⟨[], [0], [], Fct.val 15 (.int .i64 n1)⟩,
      ⟨[], [1], [], Fct.val 16 (.int .i64 d2)⟩,
      ⟨[0, 1], [], [], Fct.val 17 (.int .i64 x78)⟩,
      ⟨[2], [], [], Fct.val 6 (.int .i64 x78)⟩]) (by kernel_rfl) hz75 hd75 (fun _ h => nomatch h) ?_ ?_
  · refine steps_cons (fun own a wx hf hsl hE => ?_) ?_
    · obtain ⟨s_0, -⟩ := hsl
      exact sg_plain rfl rfl (or_move (s_0.trans e75_0))
    refine steps_cons (fun own a wx hf hsl hE => ?_) ?_
    · obtain ⟨s_1, -⟩ := hsl
      exact sg_plain rfl rfl (or_move (s_1.trans e75_1))
    refine steps_cons (fun own a wx hf hsl hE => ?_) ?_
    · obtain ⟨(f_15 : a.eval (.tmp 15) = .int .i64 n1), (f_16 : a.eval (.tmp 16) = .int .i64 d2), -⟩ := hf
      exact sg_plain rfl rfl (or_quo f_15 f_16 hx78)
    refine steps_cons (fun own a wx hf hsl hE => ?_) ?_
    · obtain ⟨(f_17 : a.eval (.tmp 17) = .int .i64 x78), -⟩ := hf
      exact sg_plain rfl rfl (or_assign f_17)
    exact steps_nil
  intro own79 a79 w79 hd79 hz79 hk79 hf79 hE79
  have e79_0 : a79.eval (.tmp 0) = .int .i64 n1 := (hk79 0 rfl).trans e75_0
  have e79_1 : a79.eval (.tmp 1) = .int .i64 d2 := (hk79 1 rfl).trans e75_1
  obtain ⟨(f_6 : a79.eval (.tmp 6) = .int .i64 x78), -⟩ := hf79 [3] rfl
  have e79_6 := f_6
  have hX79 := Evo.step hX75 (fun _ => Nat.le_refl 0) hE79 rfl
  refine fl_seq (fun Q80 hn80 hp80 => ?_)
  obtain ⟨x81, hx81, hs⟩ := obind hs
  refine rg_plain_seq (n := 25) (rs := []) (own0 := own79) (K := [])
      (bs := [0, 0, 3, 7])
      (ds := [⟨[], [0], [], Fct.val 18 (.int .i64 n1)⟩,
      ⟨[], [1], [], Fct.val 19 (.int .i64 d2)⟩,
      ⟨[0, 1], [], [], Fct.val 20 (.int .i64 x81)⟩,
      ⟨[2], [], [], Fct.val 21 (.bool (decide (0 ≤ x81)))⟩]) (by kernel_rfl) hz79 hd79 (fun _ h => nomatch h) ?_ ?_
  · refine steps_cons (fun own a wx hf hsl hE => ?_) ?_
    · obtain ⟨s_0, -⟩ := hsl
      exact sg_plain rfl rfl (or_move (s_0.trans e79_0))
    refine steps_cons (fun own a wx hf hsl hE => ?_) ?_
    · obtain ⟨s_1, -⟩ := hsl
      exact sg_plain rfl rfl (or_move (s_1.trans e79_1))
    refine steps_cons (fun own a wx hf hsl hE => ?_) ?_
    · obtain ⟨(f_18 : a.eval (.tmp 18) = .int .i64 n1), (f_19 : a.eval (.tmp 19) = .int .i64 d2), -⟩ := hf
      exact sg_plain rfl rfl (or_rem f_18 f_19 hx81)
    refine steps_cons (fun own a wx hf hsl hE => ?_) ?_
    · obtain ⟨(f_20 : a.eval (.tmp 20) = .int .i64 x81), -⟩ := hf
      exact sg_plain rfl rfl (or_geq f_20 rfl rfl)
    exact steps_nil
  intro own82 a82 w82 hd82 hz82 hk82 hf82 hE82
  have e82_6 : a82.eval (.tmp 6) = .int .i64 x78 := (hk82 6 rfl).trans e79_6
  obtain ⟨(f_21 : a82.eval (.tmp 21) = .bool (decide (0 ≤ x81))), -⟩ := hf82 [3] rfl
  have e82_21 := f_21
  have hX82 := Evo.step hX79 (fun _ => Nat.le_refl 0) hE82 rfl
  refine fl_cond e82_21 hs (fun c83 hs => ?_) (fun c83 hs => ?_)
  · refine fl_goto ?_
    refine hp80 _ _ _ rfl ?_
    exact (K67 _ _ own82 _ hd82 hz82 e82_6 hX82 hs)
  refine fl_skip ?_
  refine hn80 _ _ ?_
  refine rg_plain_seq (n := 25) (rs := []) (own0 := own82) (K := [])
      (bs := [0, 1, 3])
      (ds := [⟨[], [6], [], Fct.val 22 (.int .i64 x78)⟩,
      ⟨[0], [], [], Fct.val 23 (.int .i64 (sb x78 1))⟩,
      ⟨[1], [], [], Fct.val 6 (.int .i64 (sb x78 1))⟩]) (by kernel_rfl) hz82 hd82 (fun _ h => nomatch h) ?_ ?_
  · refine steps_cons (fun own a wx hf hsl hE => ?_) ?_
    · obtain ⟨s_6, -⟩ := hsl
      exact sg_plain rfl rfl (or_move (s_6.trans e82_6))
    refine steps_cons (fun own a wx hf hsl hE => ?_) ?_
    · obtain ⟨(f_22 : a.eval (.tmp 22) = .int .i64 x78), -⟩ := hf
      exact sg_plain rfl rfl (or_sub f_22 rfl rfl)
    refine steps_cons (fun own a wx hf hsl hE => ?_) ?_
    · obtain ⟨(f_23 : a.eval (.tmp 23) = .int .i64 (sb x78 1)), -⟩ := hf
      exact sg_plain rfl rfl (or_assign f_23)
    exact steps_nil
  intro own84 a84 w84 hd84 hz84 hk84 hf84 hE84
  obtain ⟨(f_6 : a84.eval (.tmp 6) = .int .i64 (sb x78 1)), -⟩ := hf84 [2] rfl
  have e84_6 := f_6
  have hX84 := Evo.step hX82 (fun _ => Nat.le_refl 0) hE84 rfl
  refine fl_seq (fun Q85 hn85 hp85 => ?_)
  refine fl_label ?_
  refine hn85 _ _ ?_
  refine rg_plain_seq (n := 25) (rs := []) (own0 := own84) (K := [])
      (bs := [0, 1, 3])
      (ds := [⟨[], [6], [], Fct.val 24 (.int .i64 (sb x78 1))⟩,
      ⟨[0], [], [], Fct.val 4 (.int .i64 (sb x78 1))⟩,
      ⟨[], [], [], Fct.val 5 (.bool true)⟩]) (by kernel_rfl) hz84 hd84 (fun _ h => nomatch h) ?_ ?_
  · refine steps_cons (fun own a wx hf hsl hE => ?_) ?_
    · obtain ⟨s_6, -⟩ := hsl
      exact sg_plain rfl rfl (or_move (s_6.trans e84_6))
    refine steps_cons (fun own a wx hf hsl hE => ?_) ?_
    · obtain ⟨(f_24 : a.eval (.tmp 24) = .int .i64 (sb x78 1)), -⟩ := hf
      exact sg_plain rfl rfl (or_assign f_24)
    refine steps_cons (fun own a wx hf hsl hE => ?_) ?_
    · exact sg_plain rfl rfl (or_assign rfl)
    exact steps_nil
  intro own86 a86 w86 hd86 hz86 hk86 hf86 hE86
  obtain ⟨(f_4 : a86.eval (.tmp 4) = .int .i64 (sb x78 1)), (f_5 : a86.eval (.tmp 5) = .bool true), -⟩ := hf86 [1, 2] rfl
  have e86_4 := f_4
  have e86_5 := f_5
  have hX86 := Evo.step hX84 (fun _ => Nat.le_refl 0) hE86 rfl
  refine fl_ret ?_
  refine hp50.leaves _ _ _ rfl ?_
  obtain rfl := osome hs
  exact hret _ _ _ _ (.inl rfl) hd86 (results2_ rfl (RVal.tmp_ e86_4) (RVal.tmp_ e86_5)) ⟨own86, rfl, hX86⟩

theorem exact_Round_w (w : World) (n1 : Int) (d2 : Int) (r : Int × Bool) (hs : exact_Round n1 d2 = some r) :
    Calls Try.prog 35 #[.int .i64 n1, .int .i64 d2] w fun e w' => ∃ own' : Own, e = .returned (.tuple #[.int .i64 r.1, .bool r.2]) ∧ Evo [] (fun _ => 0) own' w w' := by
  refine fl_enter (n := 30) rfl rfl rfl (Nat.le_of_ble_eq_true rfl) ?_
  intro a0 Q hd0 hz0 harg hret
  have ha0 := harg 0 _ rfl
  have ha1 := harg 1 _ rfl
  clear harg
  have hE0 : Evo [] (fun _ => 0) (fun _ => 0) w w := Evo.refl _ _ _
  refine rg_plain_seq (n := 30) (rs := []) (own0 := (fun _ => 0)) (K := [])
      (bs := [0, 1])
      (ds := [⟨[], [], [], Fct.val 4 (.int .i64 0)⟩,
      ⟨[], [], [], Fct.val 5 (.bool false)⟩]) (by kernel_rfl) hz0 hd0 (fun _ h => nomatch h) ?_ ?_
  · refine steps_cons (fun own a wx hf hsl hE => ?_) ?_
    · exact sg_plain rfl rfl (or_assign rfl)
    refine steps_cons (fun own a wx hf hsl hE => ?_) ?_
    · exact sg_plain rfl rfl (or_assign rfl)
    exact steps_nil
  intro own30 a30 w30 hd30 hz30 hk30 hf30 hE30
  have e30_0 : a30.eval (.tmp 0) = .int .i64 n1 := (hk30 0 rfl).trans ha0
  have e30_1 : a30.eval (.tmp 1) = .int .i64 d2 := (hk30 1 rfl).trans ha1
  have hX30 := Evo.step hE0 (fun _ => Nat.le_refl 0) hE30 rfl
  obtain ⟨r31, hr31, hs⟩ := obind hs
  refine rg_plain_seq (n := 30) (rs := []) (own0 := own30) (K := [])
      (bs := [0, 0, 3, 7, 15, 15, 31, 127])
      (ds := [⟨[], [0], [], Fct.val 10 (.int .i64 n1)⟩,
      ⟨[], [1], [], Fct.val 11 (.int .i64 d2)⟩,
      ⟨[0, 1], [], [], Fct.val 12 (.tuple #[.int .i64 r31.1, .bool r31.2])⟩,
      ⟨[2], [], [], Fct.val 9 (.tuple #[.int .i64 r31.1, .bool r31.2])⟩,
      ⟨[3], [], [], Fct.val 13 (.int .i64 r31.1)⟩,
      ⟨[3], [], [], Fct.val 14 (.bool r31.2)⟩,
      ⟨[4], [], [], Fct.val 6 (.int .i64 r31.1)⟩,
      ⟨[5], [], [], Fct.val 7 (.bool r31.2)⟩]) (by kernel_rfl) hz30 hd30 (fun _ h => nomatch h) ?_ ?_
  · refine steps_cons (fun own a wx hf hsl hE => ?_) ?_
    · obtain ⟨s_0, -⟩ := hsl
      exact sg_plain rfl rfl (or_move (s_0.trans e30_0))
    refine steps_cons (fun own a wx hf hsl hE => ?_) ?_
    · obtain ⟨s_1, -⟩ := hsl
      exact sg_plain rfl rfl (or_move (s_1.trans e30_1))
    refine steps_cons (fun own a wx hf hsl hE => ?_) ?_
    · obtain ⟨(f_10 : a.eval (.tmp 10) = .int .i64 n1), (f_11 : a.eval (.tmp 11) = .int .i64 d2), -⟩ := hf
      exact sg_plain rfl rfl (or_call cf42 (args2 f_10 f_11) (exact_Floor_w _ n1 d2  r31 hr31) post_val)
    refine steps_cons (fun own a wx hf hsl hE => ?_) ?_
    · obtain ⟨(f_12 : a.eval (.tmp 12) = .tuple #[.int .i64 r31.1, .bool r31.2]), -⟩ := hf
      exact sg_plain rfl rfl (or_move f_12)
    refine steps_cons (fun own a wx hf hsl hE => ?_) ?_
    · obtain ⟨(f_9 : a.eval (.tmp 9) = .tuple #[.int .i64 r31.1, .bool r31.2]), -⟩ := hf
      exact sg_plain rfl rfl (or_k [(9, .tuple #[.int .i64 r31.1, .bool r31.2])] rfl rfl ⟨f_9, trivial⟩ (by kernel_rfl))
    refine steps_cons (fun own a wx hf hsl hE => ?_) ?_
    · obtain ⟨(f_9 : a.eval (.tmp 9) = .tuple #[.int .i64 r31.1, .bool r31.2]), -⟩ := hf
      exact sg_plain rfl rfl (or_k [(9, .tuple #[.int .i64 r31.1, .bool r31.2])] rfl rfl ⟨f_9, trivial⟩ (by kernel_rfl))
    refine steps_cons (fun own a wx hf hsl hE => ?_) ?_
    · obtain ⟨(f_13 : a.eval (.tmp 13) = .int .i64 r31.1), -⟩ := hf
      exact sg_plain rfl rfl (or_assign f_13)
    refine steps_cons (fun own a wx hf hsl hE => ?_) ?_
    · obtain ⟨(f_14 : a.eval (.tmp 14) = .bool r31.2), -⟩ := hf
      exact sg_plain rfl rfl (or_assign f_14)
    exact steps_nil
  intro own32 a32 w32 hd32 hz32 hk32 hf32 hE32
  have e32_0 : a32.eval (.tmp 0) = .int .i64 n1 := (hk32 0 rfl).trans e30_0
  have e32_1 : a32.eval (.tmp 1) = .int .i64 d2 := (hk32 1 rfl).trans e30_1
  obtain ⟨(f_6 : a32.eval (.tmp 6) = .int .i64 r31.1), (f_7 : a32.eval (.tmp 7) = .bool r31.2), -⟩ := hf32 [6, 7] rfl
  have e32_6 := f_6
  have e32_7 := f_7
  have hX32 := Evo.step hX30 (fun _ => Nat.le_refl 0) hE32 rfl
  refine fl_seq (fun Q33 hn33 hp33 => ?_)
  refine rg_plain_seq (n := 30) (rs := []) (own0 := own32) (K := [])
      (bs := [0, 1])
      (ds := [⟨[], [7], [], Fct.val 15 (.bool r31.2)⟩,
      ⟨[0], [], [], Fct.val 16 (.bool (!r31.2))⟩]) (by kernel_rfl) hz32 hd32 (fun _ h => nomatch h) ?_ ?_
  · refine steps_cons (fun own a wx hf hsl hE => ?_) ?_
    · obtain ⟨s_7, -⟩ := hsl
      exact sg_plain rfl rfl (or_move (s_7.trans e32_7))
    refine steps_cons (fun own a wx hf hsl hE => ?_) ?_
    · obtain ⟨(f_15 : a.eval (.tmp 15) = .bool r31.2), -⟩ := hf
      exact sg_plain rfl rfl (or_not f_15 rfl)
    exact steps_nil
  intro own34 a34 w34 hd34 hz34 hk34 hf34 hE34
  have e34_0 : a34.eval (.tmp 0) = .int .i64 n1 := (hk34 0 rfl).trans e32_0
  have e34_1 : a34.eval (.tmp 1) = .int .i64 d2 := (hk34 1 rfl).trans e32_1
  have e34_6 : a34.eval (.tmp 6) = .int .i64 r31.1 := (hk34 6 rfl).trans e32_6
  obtain ⟨(f_16 : a34.eval (.tmp 16) = .bool (!r31.2)), -⟩ := hf34 [1] rfl
  have e34_16 := f_16
  have hX34 := Evo.step hX32 (fun _ => Nat.le_refl 0) hE34 rfl
  refine fl_cond e34_16 hs (fun c35 hs => ?_) (fun c35 hs => ?_)
  · refine rg_plain_seq (n := 30) (rs := []) (own0 := own34) (K := [])
        (bs := [0, 1])
        (ds := [⟨[], [], [], Fct.val 4 (.int .i64 0)⟩,
        ⟨[], [], [], Fct.val 5 (.bool false)⟩]) (by kernel_rfl) hz34 hd34 (fun _ h => nomatch h) ?_ ?_
    · refine steps_cons (fun own a wx hf hsl hE => ?_) ?_
      · exact sg_plain rfl rfl (or_assign rfl)
      refine steps_cons (fun own a wx hf hsl hE => ?_) ?_
      · exact sg_plain rfl rfl (or_assign rfl)
      exact steps_nil
    intro own36 a36 w36 hd36 hz36 hk36 hf36 hE36
    obtain ⟨(f_4 : a36.eval (.tmp 4) = .int .i64 0), (f_5 : a36.eval (.tmp 5) = .bool false), -⟩ := hf36 [0, 1] rfl
    have e36_4 := f_4
    have e36_5 := f_5
    have hX36 := Evo.step hX34 (fun _ => Nat.le_refl 0) hE36 rfl
    refine fl_ret ?_
    refine hp33 _ _ _ rfl ?_
    obtain rfl := osome hs
    exact hret _ _ _ _ (.inl rfl) hd36 (results2_ rfl (RVal.tmp_ e36_4) (RVal.tmp_ e36_5)) ⟨own36, rfl, hX36⟩
  refine fl_skip ?_
  refine hn33 _ _ ?_
  refine rg_plain_seq (n := 30) (rs := []) (own0 := own34) (K := [])
      (bs := [0, 0, 0, 6, 15, 31])
      (ds := [⟨[], [0], [], Fct.val 17 (.int .i64 n1)⟩,
      ⟨[], [6], [], Fct.val 18 (.int .i64 r31.1)⟩,
      ⟨[], [1], [], Fct.val 19 (.int .i64 d2)⟩,
      ⟨[1, 2], [], [], Fct.val 20 (.int .i64 (ml r31.1 d2))⟩,
      ⟨[0, 3], [], [], Fct.val 21 (.int .i64 (sb n1 (ml r31.1 d2)))⟩,
      ⟨[4], [], [], Fct.val 8 (.int .i64 (sb n1 (ml r31.1 d2)))⟩]) (by kernel_rfl) hz34 hd34 (fun _ h => nomatch h) ?_ ?_
  · refine steps_cons (fun own a wx hf hsl hE => ?_) ?_
    · obtain ⟨s_0, -⟩ := hsl
      exact sg_plain rfl rfl (or_move (s_0.trans e34_0))
    refine steps_cons (fun own a wx hf hsl hE => ?_) ?_
    · obtain ⟨s_6, -⟩ := hsl
      exact sg_plain rfl rfl (or_move (s_6.trans e34_6))
    refine steps_cons (fun own a wx hf hsl hE => ?_) ?_
    · obtain ⟨s_1, -⟩ := hsl
      exact sg_plain rfl rfl (or_move (s_1.trans e34_1))
    refine steps_cons (fun own a wx hf hsl hE => ?_) ?_
    · obtain ⟨(f_18 : a.eval (.tmp 18) = .int .i64 r31.1), (f_19 : a.eval (.tmp 19) = .int .i64 d2), -⟩ := hf
      exact sg_plain rfl rfl (or_mul f_18 f_19 rfl)
    refine steps_cons (fun own a wx hf hsl hE => ?_) ?_
    · obtain ⟨(f_17 : a.eval (.tmp 17) = .int .i64 n1), (f_20 : a.eval (.tmp 20) = .int .i64 (ml r31.1 d2)), -⟩ := hf
      exact sg_plain rfl rfl (or_sub f_17 f_20 rfl)
    refine steps_cons (fun own a wx hf hsl hE => ?_) ?_
    · obtain ⟨(f_21 : a.eval (.tmp 21) = .int .i64 (sb n1 (ml r31.1 d2))), -⟩ := hf
      exact sg_plain rfl rfl (or_assign f_21)
    exact steps_nil
  intro own37 a37 w37 hd37 hz37 hk37 hf37 hE37
  have e37_1 : a37.eval (.tmp 1) = .int .i64 d2 := (hk37 1 rfl).trans e34_1
  have e37_6 : a37.eval (.tmp 6) = .int .i64 r31.1 := (hk37 6 rfl).trans e34_6
  obtain ⟨(f_8 : a37.eval (.tmp 8) = .int .i64 (sb n1 (ml r31.1 d2))), -⟩ := hf37 [5] rfl
  have e37_8 := f_8
  have hX37 := Evo.step hX34 (fun _ => Nat.le_refl 0) hE37 rfl
  refine fl_seq (fun Q38 hn38 hp38 => ?_)
  have K43 : ∀ (a43 : Act) (w43 : World) (own43 : Own) (q42 : Int), a43.defers = [] → a43.tmps.size = 30 → a43.eval (.tmp 6) = .int .i64 q42 → Evo [] (fun _ => 0) own43 w w43 → exact_Round_k1 q42 = some r → Q38 .normal a43 w43 := by
    intro a43 w43 own43 q42 hd44 hz44 e44_6 hE44 hs
    refine hn38 _ _ ?_
    refine rg_plain_seq (n := 30) (rs := []) (own0 := own43) (K := [])
        (bs := [0, 1, 3])
        (ds := [⟨[], [6], [], Fct.val 29 (.int .i64 q42)⟩,
        ⟨[0], [], [], Fct.val 4 (.int .i64 q42)⟩,
        ⟨[], [], [], Fct.val 5 (.bool true)⟩]) (by kernel_rfl) hz44 hd44 (fun _ h => nomatch h) ?_ ?_
    · refine steps_cons (fun own a wx hf hsl hE => ?_) ?_
      · obtain ⟨s_6, -⟩ := hsl
        exact sg_plain rfl rfl (or_move (s_6.trans e44_6))
      refine steps_cons (fun own a wx hf hsl hE => ?_) ?_
      · obtain ⟨(f_29 : a.eval (.tmp 29) = .int .i64 q42), -⟩ := hf
        exact sg_plain rfl rfl (or_assign f_29)
      refine steps_cons (fun own a wx hf hsl hE => ?_) ?_
      · exact sg_plain rfl rfl (or_assign rfl)
      exact steps_nil
    intro own45 a45 w45 hd45 hz45 hk45 hf45 hE45
    obtain ⟨(f_4 : a45.eval (.tmp 4) = .int .i64 q42), (f_5 : a45.eval (.tmp 5) = .bool true), -⟩ := hf45 [1, 2] rfl
    have e45_4 := f_4
    have e45_5 := f_5
    have hX45 := Evo.step hE44 (fun _ => Nat.le_refl 0) hE45 rfl
    refine fl_ret ?_
    obtain rfl := osome hs
    exact hret _ _ _ _ (.inl rfl) hd45 (results2_ rfl (RVal.tmp_ e45_4) (RVal.tmp_ e45_5)) ⟨own45, rfl, hX45⟩
  refine rg_plain_seq (n := 30) (rs := []) (own0 := own37) (K := [])
      (bs := [0, 0, 0, 6, 15])
      (ds := [⟨[], [8], [], Fct.val 22 (.int .i64 (sb n1 (ml r31.1 d2)))⟩,
      ⟨[], [1], [], Fct.val 23 (.int .i64 d2)⟩,
      ⟨[], [8], [], Fct.val 24 (.int .i64 (sb n1 (ml r31.1 d2)))⟩,
      ⟨[1, 2], [], [], Fct.val 25 (.int .i64 (sb d2 (sb n1 (ml r31.1 d2))))⟩,
      ⟨[0, 3], [], [], Fct.val 26 (.bool (decide ((sb d2 (sb n1 (ml r31.1 d2))) ≤ (sb n1 (ml r31.1 d2)))))⟩]) (by kernel_rfl) hz37 hd37 (fun _ h => nomatch h) ?_ ?_
  · refine steps_cons (fun own a wx hf hsl hE => ?_) ?_
    · obtain ⟨s_8, -⟩ := hsl
      exact sg_plain rfl rfl (or_move (s_8.trans e37_8))
    refine steps_cons (fun own a wx hf hsl hE => ?_) ?_
    · obtain ⟨s_1, -⟩ := hsl
      exact sg_plain rfl rfl (or_move (s_1.trans e37_1))
    refine steps_cons (fun own a wx hf hsl hE => ?_) ?_
    · obtain ⟨s_8, -⟩ := hsl
      exact sg_plain rfl rfl (or_move (s_8.trans e37_8))
    refine steps_cons (fun own a wx hf hsl hE => ?_) ?_
    · obtain ⟨(f_23 : a.eval (.tmp 23) = .int .i64 d2), (f_24 : a.eval (.tmp 24) = .int .i64 (sb n1 (ml r31.1 d2))), -⟩ := hf
      exact sg_plain rfl rfl (or_sub f_23 f_24 rfl)
    refine steps_cons (fun own a wx hf hsl hE => ?_) ?_
    · obtain ⟨(f_22 : a.eval (.tmp 22) = .int .i64 (sb n1 (ml r31.1 d2))), (f_25 : a.eval (.tmp 25) = .int .i64 (sb d2 (sb n1 (ml r31.1 d2)))), -⟩ := hf
      exact sg_plain rfl rfl (or_geq f_22 f_25 rfl)
    exact steps_nil
  intro own46 a46 w46 hd46 hz46 hk46 hf46 hE46
  have e46_6 : a46.eval (.tmp 6) = .int .i64 r31.1 := (hk46 6 rfl).trans e37_6
  obtain ⟨(f_26 : a46.eval (.tmp 26) = .bool (decide ((sb d2 (sb n1 (ml r31.1 d2))) ≤ (sb n1 (ml r31.1 d2))))), -⟩ := hf46 [4] rfl
  have e46_26 := f_26
  have hX46 := Evo.step hX37 (fun _ => Nat.le_refl 0) hE46 rfl
  refine fl_cond e46_26 hs (fun c47 hs => ?_) (fun c47 hs => ?_)
  · refine rg_plain (n := 30) (rs := []) (own0 := own46) (K := [])
        (bs := [0, 1, 3])
        (ds := [⟨[], [6], [], Fct.val 27 (.int .i64 r31.1)⟩,
        ⟨[0], [], [], Fct.val 28 (.int .i64 (ad r31.1 1))⟩,
        ⟨[1], [], [], Fct.val 6 (.int .i64 (ad r31.1 1))⟩]) (by kernel_rfl) hz46 hd46 (fun _ h => nomatch h) ?_ ?_
    · refine steps_cons (fun own a wx hf hsl hE => ?_) ?_
      · obtain ⟨s_6, -⟩ := hsl
        exact sg_plain rfl rfl (or_move (s_6.trans e46_6))
      refine steps_cons (fun own a wx hf hsl hE => ?_) ?_
      · obtain ⟨(f_27 : a.eval (.tmp 27) = .int .i64 r31.1), -⟩ := hf
        exact sg_plain rfl rfl (or_add f_27 rfl rfl)
      refine steps_cons (fun own a wx hf hsl hE => ?_) ?_
      · obtain ⟨(f_28 : a.eval (.tmp 28) = .int .i64 (ad r31.1 1)), -⟩ := hf
        exact sg_plain rfl rfl (or_assign f_28)
      exact steps_nil
    intro own48 a48 w48 hd48 hz48 hk48 hf48 hE48
    obtain ⟨(f_6 : a48.eval (.tmp 6) = .int .i64 (ad r31.1 1)), -⟩ := hf48 [2] rfl
    have e48_6 := f_6
    have hX48 := Evo.step hX46 (fun _ => Nat.le_refl 0) hE48 rfl
    exact (K43 _ _ own48 _ hd48 hz48 e48_6 hX48 hs)
  refine fl_skip ?_
  exact (K43 _ _ own46 _ hd46 hz46 e46_6 hX46 hs)

theorem seg_AtX_w (w : World) (x1 : Int × Int) (b2 : Int × Int) (c3 : Int) (r : Int × Bool) (hs : seg_AtX x1 b2 c3 = some r) :
    Calls Try.prog 23 #[.agg #[.int .i64 x1.1, .int .i64 x1.2], .agg #[.int .i64 b2.1, .int .i64 b2.2], .int .i64 c3] w fun e w' => ∃ own' : Own, e = .returned (.tuple #[.int .i64 r.1, .bool r.2]) ∧ Evo [] (fun _ => 0) own' w w' := by
  refine fl_enter (n := 57) rfl rfl rfl (Nat.le_of_ble_eq_true rfl) ?_
  intro a0 Q hd0 hz0 harg hret
  have ha0 := harg 0 _ rfl
  have ha1 := harg 1 _ rfl
  have ha2 := harg 2 _ rfl
  clear harg
  have hE0 : Evo [] (fun _ => 0) (fun _ => 0) w w := Evo.refl _ _ _
  refine rg_plain_seq (n := 57) (rs := []) (own0 := (fun _ => 0)) (K := [])
      (bs := [0, 0, 0, 4])
      (ds := [⟨[], [0], [], Fct.blk 48 3 (fun g => .pointer (some ⟨g, 0, none⟩)) 34 #[.int .i64 x1.1, .int .i64 x1.2]⟩,
      ⟨[], [1], [], Fct.blk 50 4 (fun g => .pointer (some ⟨g, 0, none⟩)) 34 #[.int .i64 b2.1, .int .i64 b2.2]⟩,
      ⟨[], [], [], Fct.val 6 (.int .i64 0)⟩,
      ⟨[], [], [], Fct.val 7 (.bool false)⟩]) (by kernel_rfl) hz0 hd0 (fun _ h => nomatch h) ?_ ?_
  · refine steps_cons (fun own a wx hf hsl hE => ?_) ?_
    · obtain ⟨s_0, -⟩ := hsl
      exact sg_plain rfl rfl (or_new [(0, .agg #[.int .i64 x1.1, .int .i64 x1.2])] rfl rfl ⟨(s_0.trans ha0), trivial⟩ (by kernel_rfl))
    refine steps_cons (fun own a wx hf hsl hE => ?_) ?_
    · obtain ⟨s_1, -⟩ := hsl
      exact sg_plain rfl rfl (or_new [(1, .agg #[.int .i64 b2.1, .int .i64 b2.2])] rfl rfl ⟨(s_1.trans ha1), trivial⟩ (by kernel_rfl))
    refine steps_cons (fun own a wx hf hsl hE => ?_) ?_
    · exact sg_plain rfl rfl (or_assign rfl)
    refine steps_cons (fun own a wx hf hsl hE => ?_) ?_
    · exact sg_plain rfl rfl (or_assign rfl)
    exact steps_nil
  intro own51 a51 w51 hd51 hz51 hk51 hf51 hE51
  have e51_2 : a51.eval (.tmp 2) = .int .i64 c3 := (hk51 2 rfl).trans ha2
  obtain ⟨⟨g47, (f_3 : a51.eval (.tmp 3) = .pointer (some ⟨g47, 0, none⟩)), (b_g47 : BlkO own51 48 w51 g47 34 #[.int .i64 x1.1, .int .i64 x1.2])⟩, ⟨g49, (f_4 : a51.eval (.tmp 4) = .pointer (some ⟨g49, 0, none⟩)), (b_g49 : BlkO own51 50 w51 g49 34 #[.int .i64 b2.1, .int .i64 b2.2])⟩, -⟩ := hf51 [0, 1] rfl
  have e51_3 := f_3
  have e51_4 := f_4
  have hX51 := Evo.step hE0 (fun _ => Nat.le_refl 0) hE51 rfl
  have b51_g47 := b_g47
  have b51_g49 := b_g49
  refine fl_seq (fun Q52 hn52 hp52 => ?_)
  have K63 : ∀ (a63 : Act) (w63 : World) (own63 : Own) (x60 : Int × Int) (b62 : Int × Int), a63.defers = [] → a63.tmps.size = 57 → a63.eval (.tmp 2) = .int .i64 c3 → a63.eval (.tmp 3) = .pointer (some ⟨g47, 0, none⟩) → a63.eval (.tmp 4) = .pointer (some ⟨g49, 0, none⟩) → Evo [] (fun _ => 0) own63 w w63 → BlkO own63 59 w63 g47 34 #[.int .i64 x60.1, .int .i64 x60.2] → BlkO own63 61 w63 g49 34 #[.int .i64 b62.1, .int .i64 b62.2] → seg_AtX_k1 c3 x60 b62 = some r → Q52 .normal a63 w63 := by
    intro a63 w63 own63 x60 b62 hd64 hz64 e64_2 e64_3 e64_4 hE64 b64_g47 b64_g49 hs
    refine hn52 _ _ ?_
    refine fl_seq (fun Q65 hn65 hp65 => ?_)
    obtain ⟨r68, hr68, hs⟩ := obind hs
    obtain ⟨x69, hx69, hs⟩ := obind hs
    refine rg_plain_seq (n := 57) (rs := []) (own0 := own63) (K := [])
        (bs := [0, 0, 3, 7, 15, 31, 63, 63, 191, 511, 1023, 2047, 4095, 4095, 12287, 32767, 65535])
        (ds := [⟨[], [3], [], Fct.val 16 (.agg #[.int .i64 x60.1, .int .i64 x60.2])⟩,
        ⟨[], [4], [], Fct.val 17 (.agg #[.int .i64 b62.1, .int .i64 b62.2])⟩,
        ⟨[0, 1], [], [], Fct.row 67 [] 18 34 R34 [x60, b62]⟩,
        ⟨[2], [], [], Fct.val 19 (.bool r68)⟩,
        ⟨[3], [], [], Fct.val 20 (.bool (!r68))⟩,
        ⟨[4], [], [], Fct.val 21 (.bool (!r68))⟩,
        ⟨[5], [2], [], Fct.cond (!(!r68)) (some 22) (Fct.val 22 (.int .i64 c3))⟩,
        ⟨[5], [3], [], Fct.cond (!(!r68)) (some 23) (Fct.val 23 (.pointer (some ⟨g47, 0, none⟩)))⟩,
        ⟨[5, 7], [], [], Fct.cond (!(!r68)) (some 24) (Fct.val 24 (.int .i64 x60.1))⟩,
        ⟨[5, 6, 8], [], [], Fct.cond (!(!r68)) (some 25) (Fct.val 25 (.bool (decide (c3 ≤ x60.1))))⟩,
        ⟨[5, 9], [], [], Fct.val 26 (.bool ((!r68) || (decide (c3 ≤ x60.1))))⟩,
        ⟨[10], [], [], Fct.val 27 (.bool ((!r68) || (decide (c3 ≤ x60.1))))⟩,
        ⟨[11], [2], [], Fct.cond (!((!r68) || (decide (c3 ≤ x60.1)))) (some 28) (Fct.val 28 (.int .i64 c3))⟩,
        ⟨[11], [4], [], Fct.cond (!((!r68) || (decide (c3 ≤ x60.1)))) (some 29) (Fct.val 29 (.pointer (some ⟨g49, 0, none⟩)))⟩,
        ⟨[11, 13], [], [], Fct.cond (!((!r68) || (decide (c3 ≤ x60.1)))) (some 30) (Fct.val 30 (.int .i64 b62.1))⟩,
        ⟨[11, 12, 14], [], [], Fct.cond (!((!r68) || (decide (c3 ≤ x60.1)))) (some 31) (Fct.val 31 (.bool (decide (b62.1 ≤ c3))))⟩,
        ⟨[11, 15], [], [], Fct.val 32 (.bool x69)⟩]) (by kernel_rfl) hz64 hd64 (fun _ h => nomatch h) ?_ ?_
    · refine steps_cons (fun own a wx hf hsl hE => ?_) ?_
      · obtain ⟨s_3, -⟩ := hsl
        exact sg_plain rfl rfl (or_load (l := [.int .i64 x60.1, .int .i64 x60.2]) ta34 (s_3.trans e64_3) (Blk.cellsFrom (BlkO.evo (by decide) hE b64_g47).2 0 rfl) rfl)
      refine steps_cons (fun own a wx hf hsl hE => ?_) ?_
      · obtain ⟨s_4, -⟩ := hsl
        exact sg_plain rfl rfl (or_load (l := [.int .i64 b62.1, .int .i64 b62.2]) ta34 (s_4.trans e64_4) (Blk.cellsFrom (BlkO.evo (by decide) hE b64_g49).2 0 rfl) rfl)
      refine steps_cons (fun own a wx hf hsl hE => ?_) ?_
      · obtain ⟨(f_16 : a.eval (.tmp 16) = .agg #[.int .i64 x60.1, .int .i64 x60.2]), (f_17 : a.eval (.tmp 17) = .agg #[.int .i64 b62.1, .int .i64 b62.2]), -⟩ := hf
        exact sg_plain rfl rfl (or_lit (lab := 67) (e := 34) (cs := #[.int .i64 x60.1, .int .i64 x60.2, .int .i64 b62.1, .int .i64 b62.2]) (F := E34) (or_new [(16, .agg #[.int .i64 x60.1, .int .i64 x60.2]), (17, .agg #[.int .i64 b62.1, .int .i64 b62.2])] rfl rfl ⟨f_16, f_17, trivial⟩ (by kernel_rfl)) rfl rfl (show 2 ≤ maxLen by decide))
      refine steps_cons (fun own a wx hf hsl hE => ?_) ?_
      · obtain ⟨⟨⟨A66, cA66⟩, (f_18 : a.eval (.tmp 18) = .slice A66 [x60, b62].length cA66), (b_A66 : RwO own 67 [] wx 34 R34 A66 cA66 [x60, b62])⟩, -⟩ := hf
        exact sg_plain rfl rfl (or_call cf29 (args1 f_18) (exact_Right_w _ [x60, b62] A66 cA66 (RdO.zero (RwO.rd b_A66)) r68 hr68) post_val)
      refine steps_cons (fun own a wx hf hsl hE => ?_) ?_
      · obtain ⟨(f_19 : a.eval (.tmp 19) = .bool r68), -⟩ := hf
        exact sg_plain rfl rfl (or_not f_19 rfl)
      refine steps_cons (fun own a wx hf hsl hE => ?_) ?_
      · obtain ⟨(f_20 : a.eval (.tmp 20) = .bool (!r68)), -⟩ := hf
        exact sg_plain rfl rfl (or_move f_20)
      refine steps_cons (fun own a wx hf hsl hE => ?_) ?_
      · obtain ⟨(f_21 : a.eval (.tmp 21) = .bool (!r68)), -⟩ := hf
        obtain ⟨s_2, -⟩ := hsl
        refine sg_f rfl rfl rfl f_21 (fun hg => ?_)
        exact or_move (s_2.trans e64_2)
      refine steps_cons (fun own a wx hf hsl hE => ?_) ?_
      · obtain ⟨(f_21 : a.eval (.tmp 21) = .bool (!r68)), -⟩ := hf
        obtain ⟨s_3, -⟩ := hsl
        refine sg_f rfl rfl rfl f_21 (fun hg => ?_)
        exact or_field fo34_0 (s_3.trans e64_3) (by rfl)
      refine steps_cons (fun own a wx hf hsl hE => ?_) ?_
      · obtain ⟨(f_21 : a.eval (.tmp 21) = .bool (!r68)), c_23, -⟩ := hf
        refine sg_f rfl rfl rfl f_21 (fun hg => ?_)
        have f_23 : a.eval (.tmp 23) = .pointer (some ⟨g47, 0, none⟩) := c_23.1 hg
        exact or_load1 to3 f_23 (Blk.at_ (BlkO.evo (by decide) hE b64_g47).2 0 rfl)
      refine steps_cons (fun own a wx hf hsl hE => ?_) ?_
      · obtain ⟨(f_21 : a.eval (.tmp 21) = .bool (!r68)), c_22, c_24, -⟩ := hf
        refine sg_f rfl rfl rfl f_21 (fun hg => ?_)
        have f_22 : a.eval (.tmp 22) = .int .i64 c3 := c_22.1 hg
        have f_24 : a.eval (.tmp 24) = .int .i64 x60.1 := c_24.1 hg
        exact or_leq f_22 f_24 rfl
      refine steps_cons (fun own a wx hf hsl hE => ?_) ?_
      · obtain ⟨(f_21 : a.eval (.tmp 21) = .bool (!r68)), c_25, -⟩ := hf
        exact sg_plain rfl rfl (or_or f_21 rfl (fun hx => c_25.1 hx) rfl)
      refine steps_cons (fun own a wx hf hsl hE => ?_) ?_
      · obtain ⟨(f_26 : a.eval (.tmp 26) = .bool ((!r68) || (decide (c3 ≤ x60.1)))), -⟩ := hf
        exact sg_plain rfl rfl (or_move f_26)
      refine steps_cons (fun own a wx hf hsl hE => ?_) ?_
      · obtain ⟨(f_27 : a.eval (.tmp 27) = .bool ((!r68) || (decide (c3 ≤ x60.1)))), -⟩ := hf
        obtain ⟨s_2, -⟩ := hsl
        refine sg_f rfl rfl rfl f_27 (fun hg => ?_)
        exact or_move (s_2.trans e64_2)
      refine steps_cons (fun own a wx hf hsl hE => ?_) ?_
      · obtain ⟨(f_27 : a.eval (.tmp 27) = .bool ((!r68) || (decide (c3 ≤ x60.1)))), -⟩ := hf
        obtain ⟨s_4, -⟩ := hsl
        refine sg_f rfl rfl rfl f_27 (fun hg => ?_)
        exact or_field fo34_0 (s_4.trans e64_4) (by rfl)
      refine steps_cons (fun own a wx hf hsl hE => ?_) ?_
      · obtain ⟨(f_27 : a.eval (.tmp 27) = .bool ((!r68) || (decide (c3 ≤ x60.1)))), c_29, -⟩ := hf
        refine sg_f rfl rfl rfl f_27 (fun hg => ?_)
        have f_29 : a.eval (.tmp 29) = .pointer (some ⟨g49, 0, none⟩) := c_29.1 hg
        exact or_load1 to3 f_29 (Blk.at_ (BlkO.evo (by decide) hE b64_g49).2 0 rfl)
      refine steps_cons (fun own a wx hf hsl hE => ?_) ?_
      · obtain ⟨(f_27 : a.eval (.tmp 27) = .bool ((!r68) || (decide (c3 ≤ x60.1)))), c_28, c_30, -⟩ := hf
        refine sg_f rfl rfl rfl f_27 (fun hg => ?_)
        have f_28 : a.eval (.tmp 28) = .int .i64 c3 := c_28.1 hg
        have f_30 : a.eval (.tmp 30) = .int .i64 b62.1 := c_30.1 hg
        exact or_geq f_28 f_30 rfl
      refine steps_cons (fun own a wx hf hsl hE => ?_) ?_
      · obtain ⟨(f_27 : a.eval (.tmp 27) = .bool ((!r68) || (decide (c3 ≤ x60.1)))), c_31, -⟩ := hf
        exact sg_plain rfl rfl (or_or f_27 rfl (fun hx => c_31.1 hx) (osome hx69).symm)
      exact steps_nil
    intro own70 a70 w70 hd70 hz70 hk70 hf70 hE70
    have e70_2 : a70.eval (.tmp 2) = .int .i64 c3 := (hk70 2 rfl).trans e64_2
    have e70_3 : a70.eval (.tmp 3) = .pointer (some ⟨g47, 0, none⟩) := (hk70 3 rfl).trans e64_3
    have e70_4 : a70.eval (.tmp 4) = .pointer (some ⟨g49, 0, none⟩) := (hk70 4 rfl).trans e64_4
    obtain ⟨(f_32 : a70.eval (.tmp 32) = .bool x69), -⟩ := hf70 [16] rfl
    have e70_32 := f_32
    have hX70 := Evo.step hE64 (fun _ => Nat.le_refl 0) hE70 rfl
    have b70_g47 := BlkO.evo (by decide) hE70 b64_g47
    have b70_g49 := BlkO.evo (by decide) hE70 b64_g49
    refine fl_cond e70_32 hs (fun c71 hs => ?_) (fun c71 hs => ?_)
    · refine rg_plain_seq (n := 57) (rs := []) (own0 := own70) (K := [])
          (bs := [0, 1])
          (ds := [⟨[], [], [], Fct.val 6 (.int .i64 0)⟩,
          ⟨[], [], [], Fct.val 7 (.bool false)⟩]) (by kernel_rfl) hz70 hd70 (fun _ h => nomatch h) ?_ ?_
      · refine steps_cons (fun own a wx hf hsl hE => ?_) ?_
        · exact sg_plain rfl rfl (or_assign rfl)
        refine steps_cons (fun own a wx hf hsl hE => ?_) ?_
        · exact sg_plain rfl rfl (or_assign rfl)
        exact steps_nil
      intro own72 a72 w72 hd72 hz72 hk72 hf72 hE72
      obtain ⟨(f_6 : a72.eval (.tmp 6) = .int .i64 0), (f_7 : a72.eval (.tmp 7) = .bool false), -⟩ := hf72 [0, 1] rfl
      have e72_6 := f_6
      have e72_7 := f_7
      have hX72 := Evo.step hX70 (fun _ => Nat.le_refl 0) hE72 rfl
      refine fl_ret ?_
      refine hp65 _ _ _ rfl ?_
      obtain rfl := osome hs
      exact hret _ _ _ _ (.inl rfl) hd72 (results2_ rfl (RVal.tmp_ e72_6) (RVal.tmp_ e72_7)) ⟨own72, rfl, hX72⟩
    refine fl_skip ?_
    refine hn65 _ _ ?_
    refine rg_plain_seq (n := 57) (rs := []) (own0 := own70) (K := [])
        (bs := [0, 1, 0, 4, 15, 31])
        (ds := [⟨[], [4], [], Fct.val 33 (.pointer (some ⟨g49, 0, none⟩))⟩,
        ⟨[0], [], [], Fct.val 34 (.int .i64 b62.1)⟩,
        ⟨[], [3], [], Fct.val 35 (.pointer (some ⟨g47, 0, none⟩))⟩,
        ⟨[2], [], [], Fct.val 36 (.int .i64 x60.1)⟩,
        ⟨[1, 3], [], [], Fct.val 37 (.int .i64 (sb b62.1 x60.1))⟩,
        ⟨[4], [], [], Fct.val 8 (.int .i64 (sb b62.1 x60.1))⟩]) (by kernel_rfl) hz70 hd70 (fun _ h => nomatch h) ?_ ?_
    · refine steps_cons (fun own a wx hf hsl hE => ?_) ?_
      · obtain ⟨s_4, -⟩ := hsl
        exact sg_plain rfl rfl (or_field fo34_0 (s_4.trans e70_4) (by rfl))
      refine steps_cons (fun own a wx hf hsl hE => ?_) ?_
      · obtain ⟨(f_33 : a.eval (.tmp 33) = .pointer (some ⟨g49, 0, none⟩)), -⟩ := hf
        exact sg_plain rfl rfl (or_load1 to3 f_33 (Blk.at_ (BlkO.evo (by decide) hE b70_g49).2 0 rfl))
      refine steps_cons (fun own a wx hf hsl hE => ?_) ?_
      · obtain ⟨s_3, -⟩ := hsl
        exact sg_plain rfl rfl (or_field fo34_0 (s_3.trans e70_3) (by rfl))
      refine steps_cons (fun own a wx hf hsl hE => ?_) ?_
      · obtain ⟨(f_35 : a.eval (.tmp 35) = .pointer (some ⟨g47, 0, none⟩)), -⟩ := hf
        exact sg_plain rfl rfl (or_load1 to3 f_35 (Blk.at_ (BlkO.evo (by decide) hE b70_g47).2 0 rfl))
      refine steps_cons (fun own a wx hf hsl hE => ?_) ?_
      · obtain ⟨(f_34 : a.eval (.tmp 34) = .int .i64 b62.1), (f_36 : a.eval (.tmp 36) = .int .i64 x60.1), -⟩ := hf
        exact sg_plain rfl rfl (or_sub f_34 f_36 rfl)
      refine steps_cons (fun own a wx hf hsl hE => ?_) ?_
      · obtain ⟨(f_37 : a.eval (.tmp 37) = .int .i64 (sb b62.1 x60.1)), -⟩ := hf
        exact sg_plain rfl rfl (or_assign f_37)
      exact steps_nil
    intro own73 a73 w73 hd73 hz73 hk73 hf73 hE73
    have e73_2 : a73.eval (.tmp 2) = .int .i64 c3 := (hk73 2 rfl).trans e70_2
    have e73_3 : a73.eval (.tmp 3) = .pointer (some ⟨g47, 0, none⟩) := (hk73 3 rfl).trans e70_3
    have e73_4 : a73.eval (.tmp 4) = .pointer (some ⟨g49, 0, none⟩) := (hk73 4 rfl).trans e70_4
    obtain ⟨(f_8 : a73.eval (.tmp 8) = .int .i64 (sb b62.1 x60.1)), -⟩ := hf73 [5] rfl
    have e73_8 := f_8
    have hX73 := Evo.step hX70 (fun _ => Nat.le_refl 0) hE73 rfl
    have b73_g47 := BlkO.evo (by decide) hE73 b70_g47
    have b73_g49 := BlkO.evo (by decide) hE73 b70_g49
    obtain ⟨x74, hx74, hs⟩ := obind hs
    obtain ⟨r75, hr75, hs⟩ := obind hs
    refine rg_plain_seq (n := 57) (rs := []) (own0 := own73) (K := [])
        (bs := [0, 1, 0, 7, 0, 16, 0, 64, 240, 0, 0, 1024, 3584, 8176, 16383, 0, 65535, 131071, 131071, 524287, 1048575])
        (ds := [⟨[], [3], [], Fct.val 38 (.pointer (some ⟨g47, 1, none⟩))⟩,
        ⟨[0], [], [], Fct.val 39 (.int .i64 x60.2)⟩,
        ⟨[], [8], [], Fct.val 40 (.int .i64 (sb b62.1 x60.1))⟩,
        ⟨[1, 2], [], [], Fct.val 41 (.int .i64 (ml x60.2 (sb b62.1 x60.1)))⟩,
        ⟨[], [4], [], Fct.val 42 (.pointer (some ⟨g49, 1, none⟩))⟩,
        ⟨[4], [], [], Fct.val 43 (.int .i64 b62.2)⟩,
        ⟨[], [3], [], Fct.val 44 (.pointer (some ⟨g47, 1, none⟩))⟩,
        ⟨[6], [], [], Fct.val 45 (.int .i64 x60.2)⟩,
        ⟨[5, 7], [], [], Fct.val 46 (.int .i64 (sb b62.2 x60.2))⟩,
        ⟨[], [2], [], Fct.val 47 (.int .i64 c3)⟩,
        ⟨[], [3], [], Fct.val 48 (.pointer (some ⟨g47, 0, none⟩))⟩,
        ⟨[10], [], [], Fct.val 49 (.int .i64 x60.1)⟩,
        ⟨[9, 11], [], [], Fct.val 50 (.int .i64 (sb c3 x60.1))⟩,
        ⟨[8, 12], [], [], Fct.val 51 (.int .i64 (ml (sb b62.2 x60.2) (sb c3 x60.1)))⟩,
        ⟨[3, 13], [], [], Fct.val 52 (.int .i64 x74)⟩,
        ⟨[], [8], [], Fct.val 53 (.int .i64 (sb b62.1 x60.1))⟩,
        ⟨[14, 15], [], [], Fct.val 54 (.tuple #[.int .i64 r75.1, .bool r75.2])⟩,
        ⟨[16], [], [], Fct.val 55 (.int .i64 r75.1)⟩,
        ⟨[16], [], [], Fct.val 56 (.bool r75.2)⟩,
        ⟨[17], [], [], Fct.val 6 (.int .i64 r75.1)⟩,
        ⟨[18], [], [], Fct.val 7 (.bool r75.2)⟩]) (by kernel_rfl) hz73 hd73 (fun _ h => nomatch h) ?_ ?_
    · refine steps_cons (fun own a wx hf hsl hE => ?_) ?_
      · obtain ⟨s_3, -⟩ := hsl
        exact sg_plain rfl rfl (or_field fo34_1 (s_3.trans e73_3) (by rfl))
      refine steps_cons (fun own a wx hf hsl hE => ?_) ?_
      · obtain ⟨(f_38 : a.eval (.tmp 38) = .pointer (some ⟨g47, 1, none⟩)), -⟩ := hf
        exact sg_plain rfl rfl (or_load1 to3 f_38 (Blk.at_ (BlkO.evo (by decide) hE b73_g47).2 1 rfl))
      refine steps_cons (fun own a wx hf hsl hE => ?_) ?_
      · obtain ⟨s_8, -⟩ := hsl
        exact sg_plain rfl rfl (or_move (s_8.trans e73_8))
      refine steps_cons (fun own a wx hf hsl hE => ?_) ?_
      · obtain ⟨(f_39 : a.eval (.tmp 39) = .int .i64 x60.2), (f_40 : a.eval (.tmp 40) = .int .i64 (sb b62.1 x60.1)), -⟩ := hf
        exact sg_plain rfl rfl (or_mul f_39 f_40 rfl)
      refine steps_cons (fun own a wx hf hsl hE => ?_) ?_
      · obtain ⟨s_4, -⟩ := hsl
        exact sg_plain rfl rfl (or_field fo34_1 (s_4.trans e73_4) (by rfl))
      refine steps_cons (fun own a wx hf hsl hE => ?_) ?_
      · obtain ⟨(f_42 : a.eval (.tmp 42) = .pointer (some ⟨g49, 1, none⟩)), -⟩ := hf
        exact sg_plain rfl rfl (or_load1 to3 f_42 (Blk.at_ (BlkO.evo (by decide) hE b73_g49).2 1 rfl))
      refine steps_cons (fun own a wx hf hsl hE => ?_) ?_
      · obtain ⟨s_3, -⟩ := hsl
        exact sg_plain rfl rfl (or_field fo34_1 (s_3.trans e73_3) (by rfl))
      refine steps_cons (fun own a wx hf hsl hE => ?_) ?_
      · obtain ⟨(f_44 : a.eval (.tmp 44) = .pointer (some ⟨g47, 1, none⟩)), -⟩ := hf
        exact sg_plain rfl rfl (or_load1 to3 f_44 (Blk.at_ (BlkO.evo (by decide) hE b73_g47).2 1 rfl))
      refine steps_cons (fun own a wx hf hsl hE => ?_) ?_
      · obtain ⟨(f_43 : a.eval (.tmp 43) = .int .i64 b62.2), (f_45 : a.eval (.tmp 45) = .int .i64 x60.2), -⟩ := hf
        exact sg_plain rfl rfl (or_sub f_43 f_45 rfl)
      refine steps_cons (fun own a wx hf hsl hE => ?_) ?_
      · obtain ⟨s_2, -⟩ := hsl
        exact sg_plain rfl rfl (or_move (s_2.trans e73_2))
      refine steps_cons (fun own a wx hf hsl hE => ?_) ?_
      · obtain ⟨s_3, -⟩ := hsl
        exact sg_plain rfl rfl (or_field fo34_0 (s_3.trans e73_3) (by rfl))
      refine steps_cons (fun own a wx hf hsl hE => ?_) ?_
      · obtain ⟨(f_48 : a.eval (.tmp 48) = .pointer (some ⟨g47, 0, none⟩)), -⟩ := hf
        exact sg_plain rfl rfl (or_load1 to3 f_48 (Blk.at_ (BlkO.evo (by decide) hE b73_g47).2 0 rfl))
      refine steps_cons (fun own a wx hf hsl hE => ?_) ?_
      · obtain ⟨(f_47 : a.eval (.tmp 47) = .int .i64 c3), (f_49 : a.eval (.tmp 49) = .int .i64 x60.1), -⟩ := hf
        exact sg_plain rfl rfl (or_sub f_47 f_49 rfl)
      refine steps_cons (fun own a wx hf hsl hE => ?_) ?_
      · obtain ⟨(f_46 : a.eval (.tmp 46) = .int .i64 (sb b62.2 x60.2)), (f_50 : a.eval (.tmp 50) = .int .i64 (sb c3 x60.1)), -⟩ := hf
        exact sg_plain rfl rfl (or_mul f_46 f_50 rfl)
      refine steps_cons (fun own a wx hf hsl hE => ?_) ?_
      · obtain ⟨(f_41 : a.eval (.tmp 41) = .int .i64 (ml x60.2 (sb b62.1 x60.1))), (f_51 : a.eval (.tmp 51) = .int .i64 (ml (sb b62.2 x60.2) (sb c3 x60.1))), -⟩ := hf
        exact sg_plain rfl rfl (or_add f_41 f_51 (osome hx74).symm)
      refine steps_cons (fun own a wx hf hsl hE => ?_) ?_
      · obtain ⟨s_8, -⟩ := hsl
        exact sg_plain rfl rfl (or_move (s_8.trans e73_8))
      refine steps_cons (fun own a wx hf hsl hE => ?_) ?_
      · obtain ⟨(f_52 : a.eval (.tmp 52) = .int .i64 x74), (f_53 : a.eval (.tmp 53) = .int .i64 (sb b62.1 x60.1)), -⟩ := hf
        exact sg_plain rfl rfl (or_call cf35 (args2 f_52 f_53) (exact_Round_w _ x74 (sb b62.1 x60.1)  r75 hr75) post_val)
      refine steps_cons (fun own a wx hf hsl hE => ?_) ?_
      · obtain ⟨(f_54 : a.eval (.tmp 54) = .tuple #[.int .i64 r75.1, .bool r75.2]), -⟩ := hf
        exact sg_plain rfl rfl (or_k [(54, .tuple #[.int .i64 r75.1, .bool r75.2])] rfl rfl ⟨f_54, trivial⟩ (by kernel_rfl))
      refine steps_cons (fun own a wx hf hsl hE => ?_) ?_
      · obtain ⟨(f_54 : a.eval (.tmp 54) = .tuple #[.int .i64 r75.1, .bool r75.2]), -⟩ := hf
        exact sg_plain rfl rfl (or_k [(54, .tuple #[.int .i64 r75.1, .bool r75.2])] rfl rfl ⟨f_54, trivial⟩ (by kernel_rfl))
      refine steps_cons (fun own a wx hf hsl hE => ?_) ?_
      · obtain ⟨(f_55 : a.eval (.tmp 55) = .int .i64 r75.1), -⟩ := hf
        exact sg_plain rfl rfl (or_assign f_55)
      refine steps_cons (fun own a wx hf hsl hE => ?_) ?_
      · obtain ⟨(f_56 : a.eval (.tmp 56) = .bool r75.2), -⟩ := hf
        exact sg_plain rfl rfl (or_assign f_56)
      exact steps_nil
    intro own76 a76 w76 hd76 hz76 hk76 hf76 hE76
    obtain ⟨(f_6 : a76.eval (.tmp 6) = .int .i64 r75.1), (f_7 : a76.eval (.tmp 7) = .bool r75.2), -⟩ := hf76 [19, 20] rfl
    have e76_6 := f_6
    have e76_7 := f_7
    have hX76 := Evo.step hX73 (fun _ => Nat.le_refl 0) hE76 rfl
    refine fl_ret ?_
    obtain rfl := osome hs
    exact hret _ _ _ _ (.inl rfl) hd76 (results2_ rfl (RVal.tmp_ e76_6) (RVal.tmp_ e76_7)) ⟨own76, rfl, hX76⟩
  refine rg_plain_seq (n := 57) (rs := []) (own0 := own51) (K := [])
      (bs := [0, 1, 0, 4, 15])
      (ds := [⟨[], [3], [], Fct.val 9 (.pointer (some ⟨g47, 0, none⟩))⟩,
      ⟨[0], [], [], Fct.val 10 (.int .i64 x1.1)⟩,
      ⟨[], [4], [], Fct.val 11 (.pointer (some ⟨g49, 0, none⟩))⟩,
      ⟨[2], [], [], Fct.val 12 (.int .i64 b2.1)⟩,
      ⟨[1, 3], [], [], Fct.val 13 (.bool (decide (b2.1 < x1.1)))⟩]) (by kernel_rfl) hz51 hd51 (fun _ h => nomatch h) ?_ ?_
  · refine steps_cons (fun own a wx hf hsl hE => ?_) ?_
    · obtain ⟨s_3, -⟩ := hsl
      exact sg_plain rfl rfl (or_field fo34_0 (s_3.trans e51_3) (by rfl))
    refine steps_cons (fun own a wx hf hsl hE => ?_) ?_
    · obtain ⟨(f_9 : a.eval (.tmp 9) = .pointer (some ⟨g47, 0, none⟩)), -⟩ := hf
      exact sg_plain rfl rfl (or_load1 to3 f_9 (Blk.at_ (BlkO.evo (by decide) hE b51_g47).2 0 rfl))
    refine steps_cons (fun own a wx hf hsl hE => ?_) ?_
    · obtain ⟨s_4, -⟩ := hsl
      exact sg_plain rfl rfl (or_field fo34_0 (s_4.trans e51_4) (by rfl))
    refine steps_cons (fun own a wx hf hsl hE => ?_) ?_
    · obtain ⟨(f_11 : a.eval (.tmp 11) = .pointer (some ⟨g49, 0, none⟩)), -⟩ := hf
      exact sg_plain rfl rfl (or_load1 to3 f_11 (Blk.at_ (BlkO.evo (by decide) hE b51_g49).2 0 rfl))
    refine steps_cons (fun own a wx hf hsl hE => ?_) ?_
    · obtain ⟨(f_10 : a.eval (.tmp 10) = .int .i64 x1.1), (f_12 : a.eval (.tmp 12) = .int .i64 b2.1), -⟩ := hf
      exact sg_plain rfl rfl (or_gtr f_10 f_12 rfl)
    exact steps_nil
  intro own77 a77 w77 hd77 hz77 hk77 hf77 hE77
  have e77_2 : a77.eval (.tmp 2) = .int .i64 c3 := (hk77 2 rfl).trans e51_2
  have e77_3 : a77.eval (.tmp 3) = .pointer (some ⟨g47, 0, none⟩) := (hk77 3 rfl).trans e51_3
  have e77_4 : a77.eval (.tmp 4) = .pointer (some ⟨g49, 0, none⟩) := (hk77 4 rfl).trans e51_4
  obtain ⟨(f_13 : a77.eval (.tmp 13) = .bool (decide (b2.1 < x1.1))), -⟩ := hf77 [4] rfl
  have e77_13 := f_13
  have hX77 := Evo.step hX51 (fun _ => Nat.le_refl 0) hE77 rfl
  have b77_g47 := BlkO.evo (by decide) hE77 b51_g47
  have b77_g49 := BlkO.evo (by decide) hE77 b51_g49
  refine fl_cond e77_13 hs (fun c78 hs => ?_) (fun c78 hs => ?_)
  · refine rg_plain (n := 57) (rs := [Fct.at_ 48 g47 34 #[.int .i64 x1.1, .int .i64 x1.2], Fct.at_ 50 g49 34 #[.int .i64 b2.1, .int .i64 b2.2]]) (own0 := own77) (K := [48, 50])
        (bs := [0, 0, 3, 7])
        (ds := [⟨[5], [4], [], Fct.val 14 (.agg #[.int .i64 b2.1, .int .i64 b2.2])⟩,
        ⟨[4], [3], [], Fct.val 15 (.agg #[.int .i64 x1.1, .int .i64 x1.2])⟩,
        ⟨[0, 4], [3], [48], Fct.at_ 80 g47 34 #[.int .i64 b2.1, .int .i64 b2.2]⟩,
        ⟨[1, 5], [4], [50], Fct.at_ 81 g49 34 #[.int .i64 x1.1, .int .i64 x1.2]⟩]) (by kernel_rfl) hz77 hd77 (by simp only [List.forall_mem_cons]; exact ⟨b77_g47, b77_g49, fun _ h => nomatch h⟩) ?_ ?_
    · refine steps_cons (fun own a wx hf hsl hE => ?_) ?_
      · obtain ⟨(b_g49 : BlkO own 50 wx g49 34 #[.int .i64 b2.1, .int .i64 b2.2]), -⟩ := hf
        obtain ⟨s_4, -⟩ := hsl
        exact sg_plain rfl rfl (or_load (l := [.int .i64 b2.1, .int .i64 b2.2]) ta34 (s_4.trans e77_4) (Blk.cellsFrom b_g49.2 0 rfl) rfl)
      refine steps_cons (fun own a wx hf hsl hE => ?_) ?_
      · obtain ⟨(b_g47 : BlkO own 48 wx g47 34 #[.int .i64 x1.1, .int .i64 x1.2]), -⟩ := hf
        obtain ⟨s_3, -⟩ := hsl
        exact sg_plain rfl rfl (or_load (l := [.int .i64 x1.1, .int .i64 x1.2]) ta34 (s_3.trans e77_3) (Blk.cellsFrom b_g47.2 0 rfl) rfl)
      refine steps_cons (fun own a wx hf hsl hE => ?_) ?_
      · obtain ⟨(f_14 : a.eval (.tmp 14) = .agg #[.int .i64 b2.1, .int .i64 b2.2]), (b_g47 : BlkO own 48 wx g47 34 #[.int .i64 x1.1, .int .i64 x1.2]), -⟩ := hf
        obtain ⟨s_3, -⟩ := hsl
        exact sg_plain rfl rfl (or_store (l := #[.int .i64 b2.1, .int .i64 b2.2]) (lab := 48) (lab2 := 80) ts34 (s_3.trans e77_3) f_14 b_g47 (by simp) (by kernel_rfl) (mem_of rfl) (by decide) (by kernel_rfl) (fun own' a' w' ha hb => hb))
      refine steps_cons (fun own a wx hf hsl hE => ?_) ?_
      · obtain ⟨(f_15 : a.eval (.tmp 15) = .agg #[.int .i64 x1.1, .int .i64 x1.2]), (b_g49 : BlkO own 50 wx g49 34 #[.int .i64 b2.1, .int .i64 b2.2]), -⟩ := hf
        obtain ⟨s_4, -⟩ := hsl
        exact sg_plain rfl rfl (or_store (l := #[.int .i64 x1.1, .int .i64 x1.2]) (lab := 50) (lab2 := 81) ts34 (s_4.trans e77_4) f_15 b_g49 (by simp) (by kernel_rfl) (mem_of rfl) (by decide) (by kernel_rfl) (fun own' a' w' ha hb => hb))
      exact steps_nil
    intro own82 a82 w82 hd82 hz82 hk82 hf82 hE82
    have e82_2 : a82.eval (.tmp 2) = .int .i64 c3 := (hk82 2 rfl).trans e77_2
    have e82_3 : a82.eval (.tmp 3) = .pointer (some ⟨g47, 0, none⟩) := (hk82 3 rfl).trans e77_3
    have e82_4 : a82.eval (.tmp 4) = .pointer (some ⟨g49, 0, none⟩) := (hk82 4 rfl).trans e77_4
    obtain ⟨(b_g47 : BlkO own82 80 w82 g47 34 #[.int .i64 b2.1, .int .i64 b2.2]), (b_g49 : BlkO own82 81 w82 g49 34 #[.int .i64 x1.1, .int .i64 x1.2]), -⟩ := hf82 [2, 3] rfl
    have hX82 := Evo.step hX77 (fun _ => Nat.le_refl 0) hE82 rfl
    have b82_g47 := b_g47
    have b82_g49 := b_g49
    exact (K63 _ _ (rl [(80, 59), (81, 61)] own82) b2 x1 hd82 hz82 e82_2 e82_3 e82_4 (Evo.rl_ hX82 (fun _ => Nat.le_refl 0) rfl) (BlkO.rl_ (mm := [(80, 59), (81, 61)]) b82_g47) (BlkO.rl_ (mm := [(80, 59), (81, 61)]) b82_g49) hs)
  refine fl_skip ?_
  exact (K63 _ _ (rl [(48, 59), (50, 61)] own77) x1 b2 hd77 hz77 e77_2 e77_3 e77_4 (Evo.rl_ hX77 (fun _ => Nat.le_refl 0) rfl) (BlkO.rl_ (mm := [(48, 59), (50, 61)]) b77_g47) (BlkO.rl_ (mm := [(48, 59), (50, 61)]) b77_g49) hs)

theorem seg_flip_w (w : World) (p1 : Int × Int) (r : Int × Int) (hs : seg_flip p1 = some r) :
    Calls Try.prog 36 #[.agg #[.int .i64 p1.1, .int .i64 p1.2]] w fun e w' => ∃ own' : Own, e = .returned (.agg #[.int .i64 r.1, .int .i64 r.2]) ∧ Evo [] (fun _ => 0) own' w w' := by
  refine fl_enter (n := 8) rfl rfl rfl (Nat.le_of_ble_eq_true rfl) ?_
  intro a0 Q hd0 hz0 harg hret
  have ha0 := harg 0 _ rfl
  clear harg
  have hE0 : Evo [] (fun _ => 0) (fun _ => 0) w w := Evo.refl _ _ _
  refine rg_plain_seq (n := 8) (rs := []) (own0 := (fun _ => 0)) (K := [])
      (bs := [0, 0])
      (ds := [⟨[], [0], [], Fct.blk 19 1 (fun g => .pointer (some ⟨g, 0, none⟩)) 34 #[.int .i64 p1.1, .int .i64 p1.2]⟩,
      ⟨[], [], [], Fct.blk 21 2 (fun g => .pointer (some ⟨g, 0, none⟩)) 34 #[.int .i64 0, .int .i64 0]⟩]) (by kernel_rfl) hz0 hd0 (fun _ h => nomatch h) ?_ ?_
  · refine steps_cons (fun own a wx hf hsl hE => ?_) ?_
    · obtain ⟨s_0, -⟩ := hsl
      exact sg_plain rfl rfl (or_new [(0, .agg #[.int .i64 p1.1, .int .i64 p1.2])] rfl rfl ⟨(s_0.trans ha0), trivial⟩ (by kernel_rfl))
    refine steps_cons (fun own a wx hf hsl hE => ?_) ?_
    · exact sg_plain rfl rfl (or_new [] rfl rfl trivial (by kernel_rfl))
    exact steps_nil
  intro own22 a22 w22 hd22 hz22 hk22 hf22 hE22
  obtain ⟨⟨g18, (f_1 : a22.eval (.tmp 1) = .pointer (some ⟨g18, 0, none⟩)), (b_g18 : BlkO own22 19 w22 g18 34 #[.int .i64 p1.1, .int .i64 p1.2])⟩, ⟨g20, (f_2 : a22.eval (.tmp 2) = .pointer (some ⟨g20, 0, none⟩)), (b_g20 : BlkO own22 21 w22 g20 34 #[.int .i64 0, .int .i64 0])⟩, -⟩ := hf22 [0, 1] rfl
  have e22_1 := f_1
  have e22_2 := f_2
  have hX22 := Evo.step hE0 (fun _ => Nat.le_refl 0) hE22 rfl
  have b22_g18 := b_g18
  have b22_g20 := b_g20
  refine rg_plain_seq (n := 8) (rs := [Fct.at_ 21 g20 34 #[.int .i64 0, .int .i64 0]]) (own0 := own22) (K := [21])
      (bs := [0, 1, 0, 4, 15, 31])
      (ds := [⟨[], [1], [], Fct.val 3 (.pointer (some ⟨g18, 1, none⟩))⟩,
      ⟨[0], [], [], Fct.val 4 (.int .i64 p1.2)⟩,
      ⟨[], [1], [], Fct.val 5 (.pointer (some ⟨g18, 0, none⟩))⟩,
      ⟨[2], [], [], Fct.val 6 (.int .i64 p1.1)⟩,
      ⟨[1, 3], [], [], Fct.val 7 (.agg #[.int .i64 p1.2, .int .i64 p1.1])⟩,
      ⟨[4, 6], [2], [21], Fct.at_ 23 g20 34 #[.int .i64 p1.2, .int .i64 p1.1]⟩]) (by kernel_rfl) hz22 hd22 (by simp only [List.forall_mem_cons]; exact ⟨b22_g20, fun _ h => nomatch h⟩) ?_ ?_
  · refine steps_cons (fun own a wx hf hsl hE => ?_) ?_
    · obtain ⟨s_1, -⟩ := hsl
      exact sg_plain rfl rfl (or_field fo34_1 (s_1.trans e22_1) (by rfl))
    refine steps_cons (fun own a wx hf hsl hE => ?_) ?_
    · obtain ⟨(f_3 : a.eval (.tmp 3) = .pointer (some ⟨g18, 1, none⟩)), -⟩ := hf
      exact sg_plain rfl rfl (or_load1 to3 f_3 (Blk.at_ (BlkO.evo (by decide) hE b22_g18).2 1 rfl))
    refine steps_cons (fun own a wx hf hsl hE => ?_) ?_
    · obtain ⟨s_1, -⟩ := hsl
      exact sg_plain rfl rfl (or_field fo34_0 (s_1.trans e22_1) (by rfl))
    refine steps_cons (fun own a wx hf hsl hE => ?_) ?_
    · obtain ⟨(f_5 : a.eval (.tmp 5) = .pointer (some ⟨g18, 0, none⟩)), -⟩ := hf
      exact sg_plain rfl rfl (or_load1 to3 f_5 (Blk.at_ (BlkO.evo (by decide) hE b22_g18).2 0 rfl))
    refine steps_cons (fun own a wx hf hsl hE => ?_) ?_
    · obtain ⟨(f_4 : a.eval (.tmp 4) = .int .i64 p1.2), (f_6 : a.eval (.tmp 6) = .int .i64 p1.1), -⟩ := hf
      exact sg_plain rfl rfl (or_k [(4, .int .i64 p1.2), (6, .int .i64 p1.1)] rfl rfl ⟨f_4, f_6, trivial⟩ (by kernel_rfl))
    refine steps_cons (fun own a wx hf hsl hE => ?_) ?_
    · obtain ⟨(f_7 : a.eval (.tmp 7) = .agg #[.int .i64 p1.2, .int .i64 p1.1]), (b_g20 : BlkO own 21 wx g20 34 #[.int .i64 0, .int .i64 0]), -⟩ := hf
      obtain ⟨s_2, -⟩ := hsl
      exact sg_plain rfl rfl (or_store (l := #[.int .i64 p1.2, .int .i64 p1.1]) (lab := 21) (lab2 := 23) ts34 (s_2.trans e22_2) f_7 b_g20 (by simp) (by kernel_rfl) (mem_of rfl) (by decide) (by kernel_rfl) (fun own' a' w' ha hb => hb))
    exact steps_nil
  intro own24 a24 w24 hd24 hz24 hk24 hf24 hE24
  have e24_2 : a24.eval (.tmp 2) = .pointer (some ⟨g20, 0, none⟩) := (hk24 2 rfl).trans e22_2
  obtain ⟨(b_g20 : BlkO own24 23 w24 g20 34 #[.int .i64 p1.2, .int .i64 p1.1]), -⟩ := hf24 [5] rfl
  have hX24 := Evo.step hX22 (fun _ => Nat.le_refl 0) hE24 rfl
  have b24_g20 := b_g20
  refine fl_ret ?_
  obtain rfl := osome hs
  exact hret _ _ _ _ (.inl rfl) hd24 (results1_ rfl (RVal.cell_ e24_2 (run_loadVarAgg (l := [.int .i64 p1.2, .int .i64 p1.1]) ta34 (Blk.cellsFrom b24_g20.2 0 rfl) rfl))) ⟨own24, rfl, hX24⟩

theorem seg_AtY_w (w : World) (x1 : Int × Int) (b2 : Int × Int) (c3 : Int) (r : Int × Bool) (hs : seg_AtY x1 b2 c3 = some r) :
    Calls Try.prog 24 #[.agg #[.int .i64 x1.1, .int .i64 x1.2], .agg #[.int .i64 b2.1, .int .i64 b2.2], .int .i64 c3] w fun e w' => ∃ own' : Own, e = .returned (.tuple #[.int .i64 r.1, .bool r.2]) ∧ Evo [] (fun _ => 0) own' w w' := by
  refine fl_enter (n := 16) rfl rfl rfl (Nat.le_of_ble_eq_true rfl) ?_
  intro a0 Q hd0 hz0 harg hret
  have ha0 := harg 0 _ rfl
  have ha1 := harg 1 _ rfl
  have ha2 := harg 2 _ rfl
  clear harg
  have hE0 : Evo [] (fun _ => 0) (fun _ => 0) w w := Evo.refl _ _ _
  refine rg_plain_seq (n := 16) (rs := []) (own0 := (fun _ => 0)) (K := [])
      (bs := [0, 0, 0, 4])
      (ds := [⟨[], [0], [], Fct.blk 21 3 (fun g => .pointer (some ⟨g, 0, none⟩)) 34 #[.int .i64 x1.1, .int .i64 x1.2]⟩,
      ⟨[], [1], [], Fct.blk 23 4 (fun g => .pointer (some ⟨g, 0, none⟩)) 34 #[.int .i64 b2.1, .int .i64 b2.2]⟩,
      ⟨[], [], [], Fct.val 6 (.int .i64 0)⟩,
      ⟨[], [], [], Fct.val 7 (.bool false)⟩]) (by kernel_rfl) hz0 hd0 (fun _ h => nomatch h) ?_ ?_
  · refine steps_cons (fun own a wx hf hsl hE => ?_) ?_
    · obtain ⟨s_0, -⟩ := hsl
      exact sg_plain rfl rfl (or_new [(0, .agg #[.int .i64 x1.1, .int .i64 x1.2])] rfl rfl ⟨(s_0.trans ha0), trivial⟩ (by kernel_rfl))
    refine steps_cons (fun own a wx hf hsl hE => ?_) ?_
    · obtain ⟨s_1, -⟩ := hsl
      exact sg_plain rfl rfl (or_new [(1, .agg #[.int .i64 b2.1, .int .i64 b2.2])] rfl rfl ⟨(s_1.trans ha1), trivial⟩ (by kernel_rfl))
    refine steps_cons (fun own a wx hf hsl hE => ?_) ?_
    · exact sg_plain rfl rfl (or_assign rfl)
    refine steps_cons (fun own a wx hf hsl hE => ?_) ?_
    · exact sg_plain rfl rfl (or_assign rfl)
    exact steps_nil
  intro own24 a24 w24 hd24 hz24 hk24 hf24 hE24
  have e24_2 : a24.eval (.tmp 2) = .int .i64 c3 := (hk24 2 rfl).trans ha2
  obtain ⟨⟨g20, (f_3 : a24.eval (.tmp 3) = .pointer (some ⟨g20, 0, none⟩)), (b_g20 : BlkO own24 21 w24 g20 34 #[.int .i64 x1.1, .int .i64 x1.2])⟩, ⟨g22, (f_4 : a24.eval (.tmp 4) = .pointer (some ⟨g22, 0, none⟩)), (b_g22 : BlkO own24 23 w24 g22 34 #[.int .i64 b2.1, .int .i64 b2.2])⟩, -⟩ := hf24 [0, 1] rfl
  have e24_3 := f_3
  have e24_4 := f_4
  have hX24 := Evo.step hE0 (fun _ => Nat.le_refl 0) hE24 rfl
  have b24_g20 := b_g20
  have b24_g22 := b_g22
  obtain ⟨r25, hr25, hs⟩ := obind hs
  obtain ⟨r26, hr26, hs⟩ := obind hs
  obtain ⟨r27, hr27, hs⟩ := obind hs
  refine rg_draw_seq g_mixed (n := 16) (rs := []) (own0 := own24) (K := [])
      (bs := [0, 1, 0, 7, 0, 31, 63, 63, 255, 511])
      (ds := [⟨[], [3], [], Fct.val 8 (.agg #[.int .i64 x1.1, .int .i64 x1.2])⟩,
      ⟨[0], [], [], Fct.val 9 (.agg #[.int .i64 r25.1, .int .i64 r25.2])⟩,
      ⟨[], [4], [], Fct.val 10 (.agg #[.int .i64 b2.1, .int .i64 b2.2])⟩,
      ⟨[2], [], [], Fct.val 11 (.agg #[.int .i64 r26.1, .int .i64 r26.2])⟩,
      ⟨[], [2], [], Fct.val 12 (.int .i64 c3)⟩,
      ⟨[1, 3, 4], [], [], Fct.val 13 (.tuple #[.int .i64 r27.1, .bool r27.2])⟩,
      ⟨[5], [], [], Fct.val 14 (.int .i64 r27.1)⟩,
      ⟨[5], [], [], Fct.val 15 (.bool r27.2)⟩,
      ⟨[6], [], [], Fct.val 6 (.int .i64 r27.1)⟩,
      ⟨[7], [], [], Fct.val 7 (.bool r27.2)⟩]) (by kernel_rfl) hz24 hd24 (fun _ h => nomatch h) ?_ ?_
  · refine steps_cons (fun own a wx hf hsl hE => ?_) ?_
    · obtain ⟨s_3, -⟩ := hsl
      exact sg_plain rfl rfl (or_load (l := [.int .i64 x1.1, .int .i64 x1.2]) ta34 (s_3.trans e24_3) (Blk.cellsFrom (BlkO.evo (by decide) hE b24_g20).2 0 rfl) rfl)
    refine steps_cons (fun own a wx hf hsl hE => ?_) ?_
    · obtain ⟨(f_8 : a.eval (.tmp 8) = .agg #[.int .i64 x1.1, .int .i64 x1.2]), -⟩ := hf
      exact sg_plain rfl rfl (or_call cf36 (args1 f_8) (seg_flip_w _ x1  r25 hr25) post_val)
    refine steps_cons (fun own a wx hf hsl hE => ?_) ?_
    · obtain ⟨s_4, -⟩ := hsl
      exact sg_plain rfl rfl (or_load (l := [.int .i64 b2.1, .int .i64 b2.2]) ta34 (s_4.trans e24_4) (Blk.cellsFrom (BlkO.evo (by decide) hE b24_g22).2 0 rfl) rfl)
    refine steps_cons (fun own a wx hf hsl hE => ?_) ?_
    · obtain ⟨(f_10 : a.eval (.tmp 10) = .agg #[.int .i64 b2.1, .int .i64 b2.2]), -⟩ := hf
      exact sg_plain rfl rfl (or_call cf36 (args1 f_10) (seg_flip_w _ b2  r26 hr26) post_val)
    refine steps_cons (fun own a wx hf hsl hE => ?_) ?_
    · obtain ⟨s_2, -⟩ := hsl
      exact sg_plain rfl rfl (or_move (s_2.trans e24_2))
    refine steps_cons (fun own a wx hf hsl hE => ?_) ?_
    · obtain ⟨(f_9 : a.eval (.tmp 9) = .agg #[.int .i64 r25.1, .int .i64 r25.2]), (f_11 : a.eval (.tmp 11) = .agg #[.int .i64 r26.1, .int .i64 r26.2]), (f_12 : a.eval (.tmp 12) = .int .i64 c3), -⟩ := hf
      exact sg_plain rfl rfl (or_call cf23 (args3 f_9 f_11 f_12) (seg_AtX_w _ r25 r26 c3  r27 hr27) post_val)
    refine steps_cons (fun own a wx hf hsl hE => ?_) ?_
    · obtain ⟨(f_13 : a.eval (.tmp 13) = .tuple #[.int .i64 r27.1, .bool r27.2]), -⟩ := hf
      exact sg_plain rfl rfl (or_k [(13, .tuple #[.int .i64 r27.1, .bool r27.2])] rfl rfl ⟨f_13, trivial⟩ (by kernel_rfl))
    refine steps_cons (fun own a wx hf hsl hE => ?_) ?_
    · obtain ⟨(f_13 : a.eval (.tmp 13) = .tuple #[.int .i64 r27.1, .bool r27.2]), -⟩ := hf
      exact sg_plain rfl rfl (or_k [(13, .tuple #[.int .i64 r27.1, .bool r27.2])] rfl rfl ⟨f_13, trivial⟩ (by kernel_rfl))
    refine steps_cons (fun own a wx hf hsl hE => ?_) ?_
    · obtain ⟨(f_14 : a.eval (.tmp 14) = .int .i64 r27.1), -⟩ := hf
      exact sg_plain rfl rfl (or_assign f_14)
    refine steps_cons (fun own a wx hf hsl hE => ?_) ?_
    · obtain ⟨(f_15 : a.eval (.tmp 15) = .bool r27.2), -⟩ := hf
      exact sg_plain rfl rfl (or_assign f_15)
    exact steps_nil
  intro own28 a28 w28 hd28 hz28 hk28 hf28 hE28
  obtain ⟨(f_6 : a28.eval (.tmp 6) = .int .i64 r27.1), (f_7 : a28.eval (.tmp 7) = .bool r27.2), -⟩ := hf28 [8, 9] rfl
  have e28_6 := f_6
  have e28_7 := f_7
  have hX28 := Evo.step hX24 (fun _ => Nat.le_refl 0) hE28 rfl
  refine fl_ret ?_
  obtain rfl := osome hs
  exact hret _ _ _ _ (.inl rfl) hd28 (results2_ rfl (RVal.tmp_ e28_6) (RVal.tmp_ e28_7)) ⟨own28, rfl, hX28⟩

theorem ref01_May_w (w : World) (p1 : Int × Int) (r : Bool) (hs : ref01_May p1 = some r) :
    Calls Try.prog 25 #[.agg #[.int .i64 p1.1, .int .i64 p1.2]] w fun e w' => ∃ own' : Own, e = .returned (.bool r) ∧ Evo [] (fun _ => 0) own' w w' := by
  refine fl_enter (n := 21) rfl rfl rfl (Nat.le_of_ble_eq_true rfl) ?_
  intro a0 Q hd0 hz0 harg hret
  have ha0 := harg 0 _ rfl
  clear harg
  have hE0 : Evo [] (fun _ => 0) (fun _ => 0) w w := Evo.refl _ _ _
  refine rg_plain_seq (n := 21) (rs := []) (own0 := (fun _ => 0)) (K := [])
      (bs := [0, 0])
      (ds := [⟨[], [0], [], Fct.blk 18 1 (fun g => .pointer (some ⟨g, 0, none⟩)) 37 #[.int .i64 p1.1, .int .i64 p1.2]⟩,
      ⟨[], [], [], Fct.val 2 (.bool false)⟩]) (by kernel_rfl) hz0 hd0 (fun _ h => nomatch h) ?_ ?_
  · refine steps_cons (fun own a wx hf hsl hE => ?_) ?_
    · obtain ⟨s_0, -⟩ := hsl
      exact sg_plain rfl rfl (or_new [(0, .agg #[.int .i64 p1.1, .int .i64 p1.2])] rfl rfl ⟨(s_0.trans ha0), trivial⟩ (by kernel_rfl))
    refine steps_cons (fun own a wx hf hsl hE => ?_) ?_
    · exact sg_plain rfl rfl (or_assign rfl)
    exact steps_nil
  intro own19 a19 w19 hd19 hz19 hk19 hf19 hE19
  obtain ⟨⟨g17, (f_1 : a19.eval (.tmp 1) = .pointer (some ⟨g17, 0, none⟩)), (b_g17 : BlkO own19 18 w19 g17 37 #[.int .i64 p1.1, .int .i64 p1.2])⟩, -⟩ := hf19 [0] rfl
  have e19_1 := f_1
  have hX19 := Evo.step hE0 (fun _ => Nat.le_refl 0) hE19 rfl
  have b19_g17 := b_g17
  obtain ⟨x20, hx20, hs⟩ := obind hs
  obtain ⟨x21, hx21, hs⟩ := obind hs
  refine rg_plain_seq (n := 21) (rs := []) (own0 := own19) (K := [])
      (bs := [0, 1, 3, 7, 15, 31, 63, 127, 255, 511, 1023, 2047, 4095, 8191, 16383, 32767, 65535, 131071, 262143])
      (ds := [⟨[], [1], [], Fct.val 3 (.pointer (some ⟨g17, 0, none⟩))⟩,
      ⟨[0], [], [], Fct.val 4 (.int .i64 p1.1)⟩,
      ⟨[1], [], [], Fct.val 5 (.bool (decide ((-16777216) ≤ p1.1)))⟩,
      ⟨[2], [], [], Fct.val 6 (.bool (decide ((-16777216) ≤ p1.1)))⟩,
      ⟨[3], [1], [], Fct.cond (decide ((-16777216) ≤ p1.1)) (some 7) (Fct.val 7 (.pointer (some ⟨g17, 0, none⟩)))⟩,
      ⟨[3, 4], [], [], Fct.cond (decide ((-16777216) ≤ p1.1)) (some 8) (Fct.val 8 (.int .i64 p1.1))⟩,
      ⟨[3, 5], [], [], Fct.cond (decide ((-16777216) ≤ p1.1)) (some 9) (Fct.val 9 (.bool (decide (p1.1 ≤ 16777216))))⟩,
      ⟨[3, 6], [], [], Fct.val 10 (.bool x20)⟩,
      ⟨[7], [], [], Fct.val 11 (.bool x20)⟩,
      ⟨[8], [1], [], Fct.cond x20 (some 12) (Fct.val 12 (.pointer (some ⟨g17, 1, none⟩)))⟩,
      ⟨[8, 9], [], [], Fct.cond x20 (some 13) (Fct.val 13 (.int .i64 p1.2))⟩,
      ⟨[8, 10], [], [], Fct.cond x20 (some 14) (Fct.val 14 (.bool (decide ((-16777216) ≤ p1.2))))⟩,
      ⟨[8, 11], [], [], Fct.val 15 (.bool x21)⟩,
      ⟨[12], [], [], Fct.val 16 (.bool x21)⟩,
      ⟨[13], [1], [], Fct.cond x21 (some 17) (Fct.val 17 (.pointer (some ⟨g17, 1, none⟩)))⟩,
      ⟨[13, 14], [], [], Fct.cond x21 (some 18) (Fct.val 18 (.int .i64 p1.2))⟩,
      ⟨[13, 15], [], [], Fct.cond x21 (some 19) (Fct.val 19 (.bool (decide (p1.2 ≤ 16777216))))⟩,
      ⟨[13, 16], [], [], Fct.val 20 (.bool (x21 && (decide (p1.2 ≤ 16777216))))⟩,
      ⟨[17], [], [], Fct.val 2 (.bool (x21 && (decide (p1.2 ≤ 16777216))))⟩]) (by kernel_rfl) hz19 hd19 (fun _ h => nomatch h) ?_ ?_
  · refine steps_cons (fun own a wx hf hsl hE => ?_) ?_
    · obtain ⟨s_1, -⟩ := hsl
      exact sg_plain rfl rfl (or_field fo37_0 (s_1.trans e19_1) (by rfl))
    refine steps_cons (fun own a wx hf hsl hE => ?_) ?_
    · obtain ⟨(f_3 : a.eval (.tmp 3) = .pointer (some ⟨g17, 0, none⟩)), -⟩ := hf
      exact sg_plain rfl rfl (or_load1 to3 f_3 (Blk.at_ (BlkO.evo (by decide) hE b19_g17).2 0 rfl))
    refine steps_cons (fun own a wx hf hsl hE => ?_) ?_
    · obtain ⟨(f_4 : a.eval (.tmp 4) = .int .i64 p1.1), -⟩ := hf
      exact sg_plain rfl rfl (or_geq f_4 rfl rfl)
    refine steps_cons (fun own a wx hf hsl hE => ?_) ?_
    · obtain ⟨(f_5 : a.eval (.tmp 5) = .bool (decide ((-16777216) ≤ p1.1))), -⟩ := hf
      exact sg_plain rfl rfl (or_move f_5)
    refine steps_cons (fun own a wx hf hsl hE => ?_) ?_
    · obtain ⟨(f_6 : a.eval (.tmp 6) = .bool (decide ((-16777216) ≤ p1.1))), -⟩ := hf
      obtain ⟨s_1, -⟩ := hsl
      refine sg_t rfl rfl rfl f_6 (fun hg => ?_)
      exact or_field fo37_0 (s_1.trans e19_1) (by rfl)
    refine steps_cons (fun own a wx hf hsl hE => ?_) ?_
    · obtain ⟨(f_6 : a.eval (.tmp 6) = .bool (decide ((-16777216) ≤ p1.1))), c_7, -⟩ := hf
      refine sg_t rfl rfl rfl f_6 (fun hg => ?_)
      have f_7 : a.eval (.tmp 7) = .pointer (some ⟨g17, 0, none⟩) := c_7.1 hg
      exact or_load1 to3 f_7 (Blk.at_ (BlkO.evo (by decide) hE b19_g17).2 0 rfl)
    refine steps_cons (fun own a wx hf hsl hE => ?_) ?_
    · obtain ⟨(f_6 : a.eval (.tmp 6) = .bool (decide ((-16777216) ≤ p1.1))), c_8, -⟩ := hf
      refine sg_t rfl rfl rfl f_6 (fun hg => ?_)
      have f_8 : a.eval (.tmp 8) = .int .i64 p1.1 := c_8.1 hg
      exact or_leq f_8 rfl rfl
    refine steps_cons (fun own a wx hf hsl hE => ?_) ?_
    · obtain ⟨(f_6 : a.eval (.tmp 6) = .bool (decide ((-16777216) ≤ p1.1))), c_9, -⟩ := hf
      exact sg_plain rfl rfl (or_and f_6 (fun hx => c_9.1 hx) rfl (osome hx20).symm)
    refine steps_cons (fun own a wx hf hsl hE => ?_) ?_
    · obtain ⟨(f_10 : a.eval (.tmp 10) = .bool x20), -⟩ := hf
      exact sg_plain rfl rfl (or_move f_10)
    refine steps_cons (fun own a wx hf hsl hE => ?_) ?_
    · obtain ⟨(f_11 : a.eval (.tmp 11) = .bool x20), -⟩ := hf
      obtain ⟨s_1, -⟩ := hsl
      refine sg_t rfl rfl rfl f_11 (fun hg => ?_)
      exact or_field fo37_1 (s_1.trans e19_1) (by rfl)
    refine steps_cons (fun own a wx hf hsl hE => ?_) ?_
    · obtain ⟨(f_11 : a.eval (.tmp 11) = .bool x20), c_12, -⟩ := hf
      refine sg_t rfl rfl rfl f_11 (fun hg => ?_)
      have f_12 : a.eval (.tmp 12) = .pointer (some ⟨g17, 1, none⟩) := c_12.1 hg
      exact or_load1 to3 f_12 (Blk.at_ (BlkO.evo (by decide) hE b19_g17).2 1 rfl)
    refine steps_cons (fun own a wx hf hsl hE => ?_) ?_
    · obtain ⟨(f_11 : a.eval (.tmp 11) = .bool x20), c_13, -⟩ := hf
      refine sg_t rfl rfl rfl f_11 (fun hg => ?_)
      have f_13 : a.eval (.tmp 13) = .int .i64 p1.2 := c_13.1 hg
      exact or_geq f_13 rfl rfl
    refine steps_cons (fun own a wx hf hsl hE => ?_) ?_
    · obtain ⟨(f_11 : a.eval (.tmp 11) = .bool x20), c_14, -⟩ := hf
      exact sg_plain rfl rfl (or_and f_11 (fun hx => c_14.1 hx) rfl (osome hx21).symm)
    refine steps_cons (fun own a wx hf hsl hE => ?_) ?_
    · obtain ⟨(f_15 : a.eval (.tmp 15) = .bool x21), -⟩ := hf
      exact sg_plain rfl rfl (or_move f_15)
    refine steps_cons (fun own a wx hf hsl hE => ?_) ?_
    · obtain ⟨(f_16 : a.eval (.tmp 16) = .bool x21), -⟩ := hf
      obtain ⟨s_1, -⟩ := hsl
      refine sg_t rfl rfl rfl f_16 (fun hg => ?_)
      exact or_field fo37_1 (s_1.trans e19_1) (by rfl)
    refine steps_cons (fun own a wx hf hsl hE => ?_) ?_
    · obtain ⟨(f_16 : a.eval (.tmp 16) = .bool x21), c_17, -⟩ := hf
      refine sg_t rfl rfl rfl f_16 (fun hg => ?_)
      have f_17 : a.eval (.tmp 17) = .pointer (some ⟨g17, 1, none⟩) := c_17.1 hg
      exact or_load1 to3 f_17 (Blk.at_ (BlkO.evo (by decide) hE b19_g17).2 1 rfl)
    refine steps_cons (fun own a wx hf hsl hE => ?_) ?_
    · obtain ⟨(f_16 : a.eval (.tmp 16) = .bool x21), c_18, -⟩ := hf
      refine sg_t rfl rfl rfl f_16 (fun hg => ?_)
      have f_18 : a.eval (.tmp 18) = .int .i64 p1.2 := c_18.1 hg
      exact or_leq f_18 rfl rfl
    refine steps_cons (fun own a wx hf hsl hE => ?_) ?_
    · obtain ⟨(f_16 : a.eval (.tmp 16) = .bool x21), c_19, -⟩ := hf
      exact sg_plain rfl rfl (or_and f_16 (fun hx => c_19.1 hx) rfl rfl)
    refine steps_cons (fun own a wx hf hsl hE => ?_) ?_
    · obtain ⟨(f_20 : a.eval (.tmp 20) = .bool (x21 && (decide (p1.2 ≤ 16777216)))), -⟩ := hf
      exact sg_plain rfl rfl (or_assign f_20)
    exact steps_nil
  intro own22 a22 w22 hd22 hz22 hk22 hf22 hE22
  obtain ⟨(f_2 : a22.eval (.tmp 2) = .bool (x21 && (decide (p1.2 ≤ 16777216)))), -⟩ := hf22 [18] rfl
  have e22_2 := f_2
  have hX22 := Evo.step hX19 (fun _ => Nat.le_refl 0) hE22 rfl
  refine fl_ret ?_
  obtain rfl := osome hs
  exact hret _ _ _ _ (.inl rfl) hd22 (results1_ rfl (RVal.tmp_ e22_2)) ⟨own22, rfl, hX22⟩

set_option maxHeartbeats 2000000 in
theorem law22_LineclipMeets_w (w : World) (l1 : List (Int × Int)) (Al1 : Option Addr) (cl1 : Nat) (b2 : (Int × Int) × (Int × Int)) (hl1 : RdO (fun _ => 0) [0] w R34 Al1 cl1 l1) (r : Bool) (hs : law22_LineclipMeets l1 b2 = some r) :
    Calls Try.prog 6 #[.slice Al1 l1.length cl1, .agg #[.int .i64 b2.1.1, .int .i64 b2.1.2, .int .i64 b2.2.1, .int .i64 b2.2.2]] w fun e w' => ∃ own' : Own, e = .returned (.bool r) ∧ Evo [] (fun _ => 0) own' w w' := by
  refine fl_enter (n := 106) rfl rfl rfl (Nat.le_of_ble_eq_true rfl) ?_
  intro a0 Q hd0 hz0 harg hret
  have ha0 := harg 0 _ rfl
  have ha1 := harg 1 _ rfl
  clear harg
  have hE0 : Evo [] (fun _ => 0) (fun _ => 0) w w := Evo.refl _ _ _
  refine rg_plain_seq (n := 106) (rs := []) (own0 := (fun _ => 0)) (K := [])
      (bs := [0, 0])
      (ds := [⟨[], [1], [], Fct.blk 453 3 (fun g => .pointer (some ⟨g, 0, none⟩)) 36 #[.int .i64 b2.1.1, .int .i64 b2.1.2, .int .i64 b2.2.1, .int .i64 b2.2.2]⟩,
      ⟨[], [], [], Fct.val 4 (.bool false)⟩]) (by kernel_rfl) hz0 hd0 (fun _ h => nomatch h) ?_ ?_
  · refine steps_cons (fun own a wx hf hsl hE => ?_) ?_
    · obtain ⟨s_1, -⟩ := hsl
      exact sg_plain rfl rfl (or_new [(1, .agg #[.int .i64 b2.1.1, .int .i64 b2.1.2, .int .i64 b2.2.1, .int .i64 b2.2.2])] rfl rfl ⟨(s_1.trans ha1), trivial⟩ (by kernel_rfl))
    refine steps_cons (fun own a wx hf hsl hE => ?_) ?_
    · exact sg_plain rfl rfl (or_assign rfl)
    exact steps_nil
  intro own454 a454 w454 hd454 hz454 hk454 hf454 hE454
  have e454_0 : a454.eval (.tmp 0) = .slice Al1 l1.length cl1 := (hk454 0 rfl).trans ha0
  obtain ⟨⟨g452, (f_3 : a454.eval (.tmp 3) = .pointer (some ⟨g452, 0, none⟩)), (b_g452 : BlkO own454 453 w454 g452 36 #[.int .i64 b2.1.1, .int .i64 b2.1.2, .int .i64 b2.2.1, .int .i64 b2.2.2])⟩, -⟩ := hf454 [0] rfl
  have e454_3 := f_3
  have hX454 := Evo.step hE0 (fun _ => Nat.le_refl 0) hE454 rfl
  have b454_Al1 := RdO.evo rfl hE454 hl1
  have b454_g452 := b_g452
  obtain ⟨r455, hr455, hs⟩ := obind hs
  refine rg_plain_seq (n := 106) (rs := []) (own0 := own454) (K := [])
      (bs := [0, 1, 3])
      (ds := [⟨[], [0], [], Fct.val 16 (.slice Al1 l1.length cl1)⟩,
      ⟨[0], [], [], Fct.mems [457, 458, 0] 17 (fun (x : Option Addr × Nat) => .slice x.1 r455.length x.2) (fun (x : Option Addr × Nat) own w => RdO own [457, 458, 0] w R34 x.1 x.2 r455) (fun hk he h => RdO.evo (hits_sub hk (by decide)) he h)⟩,
      ⟨[1], [], [], Fct.rel [0, 17] (fun l => ∀ (A456 : Option Addr) (cA456 : Nat), l.getD 1 undef = .slice A456 r455.length cA456 → l.getD 0 undef = .slice A456 r455.length cA456)⟩]) (by kernel_rfl) hz454 hd454 (fun _ h => nomatch h) ?_ ?_
  · refine steps_cons (fun own a wx hf hsl hE => ?_) ?_
    · obtain ⟨s_0, -⟩ := hsl
      exact sg_plain rfl rfl (or_move (s_0.trans e454_0))
    refine steps_cons (fun own a wx hf hsl hE => ?_) ?_
    · obtain ⟨(f_16 : a.eval (.tmp 16) = .slice Al1 l1.length cl1), -⟩ := hf
      exact sg_plain rfl rfl (or_call cf7 (args1 f_16) (law03_Cut_w _ (forth own (inL [0])) l1 Al1 cl1 inL_le (RdO.alias_ (La := [0]) (RdO.evo rfl hE b454_Al1) (by decide)) r455 hr455) (post_alias (La := [0]) (m' := (look0 [(1, 457), (2, 458)])) (fun own' w' a' x ho hsz h1 h => ⟨x, h1, RdO.backN_ ho hsz h (by decide) (by decide) (by decide)⟩)))
    refine steps_cons (fun own a wx hf hsl hE => ?_) ?_
    · obtain ⟨⟨⟨A456, cA456⟩, (f_17 : a.eval (.tmp 17) = .slice A456 r455.length cA456), (b_A456 : RdO own [457, 458, 0] wx R34 A456 cA456 r455)⟩, -⟩ := hf
      exact sg_plain rfl rfl (or_mono (f := Fct.val 0 (.slice A456 r455.length cA456)) (or_assign f_17) (fun own' a' w' v' hp h => fun _ _ h0' => by cases (f_17.symm.trans ((hp.2 17 (by decide)).symm.trans h0')); exact h))
    exact steps_nil
  intro own459 a459 w459 hd459 hz459 hk459 hf459 hE459
  have e459_3 : a459.eval (.tmp 3) = .pointer (some ⟨g452, 0, none⟩) := (hk459 3 rfl).trans e454_3
  obtain ⟨⟨⟨A456, cA456⟩, (f_17 : a459.eval (.tmp 17) = .slice A456 r455.length cA456), (b_A456 : RdO own459 [457, 458, 0] w459 R34 A456 cA456 r455)⟩, (q_0 : ∀ (A456 : Option Addr) (cA456 : Nat), a459.eval (.tmp 17) = .slice A456 r455.length cA456 → a459.eval (.tmp 0) = .slice A456 r455.length cA456), -⟩ := hf459 [1, 2] rfl
  have f_0 := q_0 _ _ f_17
  have e459_0 := f_0
  have hX459 := Evo.step hX454 (fun _ => Nat.le_refl 0) hE459 rfl
  have b459_g452 := BlkO.evo (by decide) hE459 b454_g452
  have b459_A456 := b_A456
  refine fl_seq (fun Q460 hn460 hp460 => ?_)
  obtain ⟨r461, hr461, hs⟩ := obind hs
  refine rg_plain_seq (n := 106) (rs := []) (own0 := own459) (K := [])
      (bs := [0, 1, 3])
      (ds := [⟨[], [3], [], Fct.val 18 (.agg #[.int .i64 b2.1.1, .int .i64 b2.1.2, .int .i64 b2.2.1, .int .i64 b2.2.2])⟩,
      ⟨[0], [], [], Fct.val 19 (.bool r461)⟩,
      ⟨[1], [], [], Fct.val 20 (.bool (!r461))⟩]) (by kernel_rfl) hz459 hd459 (fun _ h => nomatch h) ?_ ?_
  · refine steps_cons (fun own a wx hf hsl hE => ?_) ?_
    · obtain ⟨s_3, -⟩ := hsl
      exact sg_plain rfl rfl (or_load (l := [.int .i64 b2.1.1, .int .i64 b2.1.2, .int .i64 b2.2.1, .int .i64 b2.2.2]) ta36 (s_3.trans e459_3) (Blk.cellsFrom (BlkO.evo (by decide) hE b459_g452).2 0 rfl) rfl)
    refine steps_cons (fun own a wx hf hsl hE => ?_) ?_
    · obtain ⟨(f_18 : a.eval (.tmp 18) = .agg #[.int .i64 b2.1.1, .int .i64 b2.1.2, .int .i64 b2.2.1, .int .i64 b2.2.2]), -⟩ := hf
      exact sg_plain rfl rfl (or_call cf22 (args1 f_18) (rows_Right_w _ b2  r461 hr461) post_val)
    refine steps_cons (fun own a wx hf hsl hE => ?_) ?_
    · obtain ⟨(f_19 : a.eval (.tmp 19) = .bool r461), -⟩ := hf
      exact sg_plain rfl rfl (or_not f_19 rfl)
    exact steps_nil
  intro own462 a462 w462 hd462 hz462 hk462 hf462 hE462
  have e462_0 : a462.eval (.tmp 0) = .slice A456 r455.length cA456 := (hk462 0 rfl).trans e459_0
  have e462_3 : a462.eval (.tmp 3) = .pointer (some ⟨g452, 0, none⟩) := (hk462 3 rfl).trans e459_3
  obtain ⟨(f_20 : a462.eval (.tmp 20) = .bool (!r461)), -⟩ := hf462 [2] rfl
  have e462_20 := f_20
  have hX462 := Evo.step hX459 (fun _ => Nat.le_refl 0) hE462 rfl
  have b462_g452 := BlkO.evo (by decide) hE462 b459_g452
  have b462_A456 := RdO.evo rfl hE462 b459_A456
  refine fl_cond e462_20 hs (fun c463 hs => ?_) (fun c463 hs => ?_)
  · obtain ⟨r464, hr464, hs⟩ := obind hs
    refine rg_plain_seq (n := 106) (rs := []) (own0 := own462) (K := [])
        (bs := [0, 1])
        (ds := [⟨[], [], [], Fct.val 21 (.bool r464)⟩,
        ⟨[0], [], [], Fct.val 4 (.bool r464)⟩]) (by kernel_rfl) hz462 hd462 (fun _ h => nomatch h) ?_ ?_
    · refine steps_cons (fun own a wx hf hsl hE => ?_) ?_
      · exact sg_plain rfl rfl (or_call cf10 (args0) (law22_known_w _   r464 hr464) post_val)
      refine steps_cons (fun own a wx hf hsl hE => ?_) ?_
      · obtain ⟨(f_21 : a.eval (.tmp 21) = .bool r464), -⟩ := hf
        exact sg_plain rfl rfl (or_assign f_21)
      exact steps_nil
    intro own465 a465 w465 hd465 hz465 hk465 hf465 hE465
    obtain ⟨(f_4 : a465.eval (.tmp 4) = .bool r464), -⟩ := hf465 [1] rfl
    have e465_4 := f_4
    have hX465 := Evo.step hX462 (fun _ => Nat.le_refl 0) hE465 rfl
    refine fl_ret ?_
    refine hp460 _ _ _ rfl ?_
    obtain rfl := (osome hs).symm
    exact hret _ _ _ _ (.inl rfl) hd465 (results1_ rfl (RVal.tmp_ e465_4)) ⟨own465, rfl, hX465⟩
  refine fl_skip ?_
  refine hn460 _ _ ?_
  refine fl_seq (fun Q466 hn466 hp466 => ?_)
  refine rg_plain_seq (n := 106) (rs := []) (own0 := own462) (K := [])
      (bs := [0])
      (ds := [⟨[], [], [], Fct.val 5 (.int .i64 1)⟩]) (by kernel_rfl) hz462 hd462 (fun _ h => nomatch h) ?_ ?_
  · refine steps_cons (fun own a wx hf hsl hE => ?_) ?_
    · exact sg_plain rfl rfl (or_assign rfl)
    exact steps_nil
  intro own467 a467 w467 hd467 hz467 hk467 hf467 hE467
  have e467_0 : a467.eval (.tmp 0) = .slice A456 r455.length cA456 := (hk467 0 rfl).trans e462_0
  have e467_3 : a467.eval (.tmp 3) = .pointer (some ⟨g452, 0, none⟩) := (hk467 3 rfl).trans e462_3
  obtain ⟨(f_5 : a467.eval (.tmp 5) = .int .i64 1), -⟩ := hf467 [0] rfl
  have e467_5 := f_5
  have hX467 := Evo.step hX462 (fun _ => Nat.le_refl 0) hE467 rfl
  have b467_g452 := BlkO.evo (by decide) hE467 b462_g452
  have b467_A456 := RdO.evo rfl hE467 b462_A456
  refine fl_block (fun Q468 hn468 hx468 hp468 => ?_)
  refine fl_loop (body := (fun s => law22_LineclipMeets_b1 b2 r455 s)) (z := r) (show loopO _ _ = _ from hs) (fun (i609 : Int) a wx => ∃ (ox : Own), a.defers = [] ∧ a.tmps.size = 106 ∧ a.eval (.tmp 0) = .slice A456 r455.length cA456 ∧ a.eval (.tmp 3) = .pointer (some ⟨g452, 0, none⟩) ∧ a.eval (.tmp 5) = .int .i64 i609 ∧ Evo [] (fun _ => 0) ox w wx ∧ RdO ox [457, 458, 0] wx R34 A456 cA456 r455 ∧ BlkO ox 453 wx g452 36 #[.int .i64 b2.1.1, .int .i64 b2.1.2, .int .i64 b2.2.1, .int .i64 b2.2.2]) ?_ ?_
  · exact ⟨own467, hd467, hz467, e467_0, e467_3, e467_5, hX467, b467_A456, b467_g452⟩
  · rintro i609 zz750 a750 w750 ⟨own750, hd751, hz751, e751_0, e751_3, e751_5, hE751, b751_A456, b751_g452⟩ hs Q750 hn750 hp750 hz750
    have hs : law22_LineclipMeets_b1 b2 r455 i609 = some zz750 := hs
    refine fl_seq (fun Q752 hn752 hp752 => ?_)
    refine rg_plain_seq (n := 106) (rs := []) (own0 := own750) (K := [])
        (bs := [0, 0, 2, 7])
        (ds := [⟨[], [5], [], Fct.val 22 (.int .i64 i609)⟩,
        ⟨[], [0], [], Fct.val 23 (.slice A456 r455.length cA456)⟩,
        ⟨[1], [], [], Fct.val 24 (.int .i64 (r455.length : Int))⟩,
        ⟨[0, 2], [], [], Fct.val 25 (.bool (decide (i609 < (r455.length : Int))))⟩]) (by kernel_rfl) hz751 hd751 (fun _ h => nomatch h) ?_ ?_
    · refine steps_cons (fun own a wx hf hsl hE => ?_) ?_
      · obtain ⟨s_5, -⟩ := hsl
        exact sg_plain rfl rfl (or_move (s_5.trans e751_5))
      refine steps_cons (fun own a wx hf hsl hE => ?_) ?_
      · obtain ⟨s_0, -⟩ := hsl
        exact sg_plain rfl rfl (or_move (s_0.trans e751_0))
      refine steps_cons (fun own a wx hf hsl hE => ?_) ?_
      · obtain ⟨(f_23 : a.eval (.tmp 23) = .slice A456 r455.length cA456), -⟩ := hf
        exact sg_plain rfl rfl (or_len tu24 f_23 rfl)
      refine steps_cons (fun own a wx hf hsl hE => ?_) ?_
      · obtain ⟨(f_22 : a.eval (.tmp 22) = .int .i64 i609), (f_24 : a.eval (.tmp 24) = .int .i64 (r455.length : Int)), -⟩ := hf
        exact sg_plain rfl rfl (or_lss f_22 f_24 rfl)
      exact steps_nil
    intro own753 a753 w753 hd753 hz753 hk753 hf753 hE753
    have e753_0 : a753.eval (.tmp 0) = .slice A456 r455.length cA456 := (hk753 0 rfl).trans e751_0
    have e753_3 : a753.eval (.tmp 3) = .pointer (some ⟨g452, 0, none⟩) := (hk753 3 rfl).trans e751_3
    have e753_5 : a753.eval (.tmp 5) = .int .i64 i609 := (hk753 5 rfl).trans e751_5
    obtain ⟨(f_25 : a753.eval (.tmp 25) = .bool (decide (i609 < (r455.length : Int)))), -⟩ := hf753 [3] rfl
    have e753_25 := f_25
    have hX753 := Evo.step hE751 (fun _ => Nat.le_refl 0) hE753 rfl
    have b753_A456 := RdO.evo rfl hE753 b751_A456
    have b753_g452 := BlkO.evo (by decide) hE753 b751_g452
    refine fl_cond e753_25 hs (fun c754 hs => ?_) (fun c754 hs => ?_)
    · refine fl_skip ?_
      refine hn752 _ _ ?_
      refine fl_seq (fun Q755 hn755 hp755 => ?_)
      refine fl_block (fun Q823 hn823 hx823 hp823 => ?_)
      have K856 : ∀ (a856 : Act) (w856 : World) (own856 : Own), a856.defers = [] → a856.tmps.size = 106 → a856.eval (.tmp 0) = .slice A456 r455.length cA456 → a856.eval (.tmp 3) = .pointer (some ⟨g452, 0, none⟩) → a856.eval (.tmp 5) = .int .i64 i609 → Evo [] (fun _ => 0) own856 w w856 → RdO own856 [457, 458, 0] w856 R34 A456 cA456 r455 → BlkO own856 453 w856 g452 36 #[.int .i64 b2.1.1, .int .i64 b2.1.2, .int .i64 b2.2.1, .int .i64 b2.2.2] → law22_LineclipMeets_k2 i609 = some zz750 → (Q823 .normal a856 w856 ∧ Q823 (.exit 1) a856 w856) := by
        intro a856 w856 own856  hd857 hz857 e857_0 e857_3 e857_5 hE857 b857_A456 b857_g452 hs
        refine and_both (hn823 _ _) (hx823 _ _) ?_
        refine hn755 _ _ ?_
        refine rg_plain (n := 106) (rs := []) (own0 := own856) (K := [])
            (bs := [0, 1, 3])
            (ds := [⟨[], [5], [], Fct.val 26 (.int .i64 i609)⟩,
            ⟨[0], [], [], Fct.val 27 (.int .i64 (ad i609 1))⟩,
            ⟨[1], [], [], Fct.val 5 (.int .i64 (ad i609 1))⟩]) (by kernel_rfl) hz857 hd857 (fun _ h => nomatch h) ?_ ?_
        · refine steps_cons (fun own a wx hf hsl hE => ?_) ?_
          · obtain ⟨s_5, -⟩ := hsl
            exact sg_plain rfl rfl (or_move (s_5.trans e857_5))
          refine steps_cons (fun own a wx hf hsl hE => ?_) ?_
          · obtain ⟨(f_26 : a.eval (.tmp 26) = .int .i64 i609), -⟩ := hf
            exact sg_plain rfl rfl (or_add f_26 rfl rfl)
          refine steps_cons (fun own a wx hf hsl hE => ?_) ?_
          · obtain ⟨(f_27 : a.eval (.tmp 27) = .int .i64 (ad i609 1)), -⟩ := hf
            exact sg_plain rfl rfl (or_assign f_27)
          exact steps_nil
        intro own858 a858 w858 hd858 hz858 hk858 hf858 hE858
        have e858_0 : a858.eval (.tmp 0) = .slice A456 r455.length cA456 := (hk858 0 rfl).trans e857_0
        have e858_3 : a858.eval (.tmp 3) = .pointer (some ⟨g452, 0, none⟩) := (hk858 3 rfl).trans e857_3
        obtain ⟨(f_5 : a858.eval (.tmp 5) = .int .i64 (ad i609 1)), -⟩ := hf858 [2] rfl
        have e858_5 := f_5
        have hX858 := Evo.step hE857 (fun _ => Nat.le_refl 0) hE858 rfl
        have b858_A456 := RdO.evo rfl hE858 b857_A456
        have b858_g452 := BlkO.evo (by decide) hE858 b857_g452
        exact hn750 _ _ _ hs ⟨own858, hd858, hz858, e858_0, e858_3, e858_5, hX858, b858_A456, b858_g452⟩
      obtain ⟨x859, hx859, hs⟩ := obind hs
      obtain ⟨x860, hx860, hs⟩ := obind hs
      refine rg_draw_seq g_mixed (n := 106) (rs := []) (own0 := own753) (K := [862, 864])
          (bs := [0, 0, 2, 7, 15, 0, 0, 96, 224, 0, 0, 1567, 4095])
          (ds := [⟨[], [0], [], Fct.val 28 (.slice A456 r455.length cA456)⟩,
          ⟨[], [5], [], Fct.val 29 (.int .i64 i609)⟩,
          ⟨[1], [], [], Fct.val 30 (.int .i64 (sb i609 1))⟩,
          ⟨[0, 2], [], [], Fct.val 31 (.pointer (some ((adr A456).add ((sb i609 1 : Int).toNat * R34.s))))⟩,
          ⟨[3], [], [], Fct.val 32 (.agg #[.int .i64 x859.1, .int .i64 x859.2])⟩,
          ⟨[], [0], [], Fct.val 33 (.slice A456 r455.length cA456)⟩,
          ⟨[], [5], [], Fct.val 34 (.int .i64 i609)⟩,
          ⟨[5, 6], [], [], Fct.val 35 (.pointer (some ((adr A456).add ((i609 : Int).toNat * R34.s))))⟩,
          ⟨[7], [], [], Fct.val 36 (.agg #[.int .i64 x860.1, .int .i64 x860.2])⟩,
          ⟨[], [], [], Fct.blk 862 6 (fun g => .pointer (some ⟨g, 0, none⟩)) 34 #[.int .i64 0, .int .i64 0]⟩,
          ⟨[], [], [], Fct.blk 864 7 (fun g => .pointer (some ⟨g, 0, none⟩)) 34 #[.int .i64 0, .int .i64 0]⟩,
          ⟨[9, 4], [], [862], Fct.blk 865 6 (fun g => .pointer (some ⟨g, 0, none⟩)) 34 #[.int .i64 x859.1, .int .i64 x859.2]⟩,
          ⟨[10, 8], [], [864], Fct.blk 866 7 (fun g => .pointer (some ⟨g, 0, none⟩)) 34 #[.int .i64 x860.1, .int .i64 x860.2]⟩]) (by kernel_rfl) hz753 hd753 (fun _ h => nomatch h) ?_ ?_
      · refine steps_cons (fun own a wx hf hsl hE => ?_) ?_
        · obtain ⟨s_0, -⟩ := hsl
          exact sg_plain rfl rfl (or_move (s_0.trans e753_0))
        refine steps_cons (fun own a wx hf hsl hE => ?_) ?_
        · obtain ⟨s_5, -⟩ := hsl
          exact sg_plain rfl rfl (or_move (s_5.trans e753_5))
        refine steps_cons (fun own a wx hf hsl hE => ?_) ?_
        · obtain ⟨(f_29 : a.eval (.tmp 29) = .int .i64 i609), -⟩ := hf
          exact sg_plain rfl rfl (or_sub f_29 rfl rfl)
        refine steps_cons (fun own a wx hf hsl hE => ?_) ?_
        · obtain ⟨(f_28 : a.eval (.tmp 28) = .slice A456 r455.length cA456), (f_30 : a.eval (.tmp 30) = .int .i64 (sb i609 1)), -⟩ := hf
          exact sg_plain rfl rfl (or_index (R := R34) (l := r455) tl24 f_28 f_30 (RdO.some_ b753_A456 hx859) hx859)
        refine steps_cons (fun own a wx hf hsl hE => ?_) ?_
        · obtain ⟨(f_31 : a.eval (.tmp 31) = .pointer (some ((adr A456).add ((sb i609 1 : Int).toNat * R34.s)))), -⟩ := hf
          exact sg_plain rfl rfl (or_load (l := E34.f x859) ta34 f_31 (RdO.cells (F := E34) (RdO.evo rfl hE b753_A456) hx859) rfl)
        refine steps_cons (fun own a wx hf hsl hE => ?_) ?_
        · obtain ⟨s_0, -⟩ := hsl
          exact sg_plain rfl rfl (or_move (s_0.trans e753_0))
        refine steps_cons (fun own a wx hf hsl hE => ?_) ?_
        · obtain ⟨s_5, -⟩ := hsl
          exact sg_plain rfl rfl (or_move (s_5.trans e753_5))
        refine steps_cons (fun own a wx hf hsl hE => ?_) ?_
        · obtain ⟨(f_33 : a.eval (.tmp 33) = .slice A456 r455.length cA456), (f_34 : a.eval (.tmp 34) = .int .i64 i609), -⟩ := hf
          exact sg_plain rfl rfl (or_index (R := R34) (l := r455) tl24 f_33 f_34 (RdO.some_ b753_A456 hx860) hx860)
        refine steps_cons (fun own a wx hf hsl hE => ?_) ?_
        · obtain ⟨(f_35 : a.eval (.tmp 35) = .pointer (some ((adr A456).add ((i609 : Int).toNat * R34.s)))), -⟩ := hf
          exact sg_plain rfl rfl (or_load (l := E34.f x860) ta34 f_35 (RdO.cells (F := E34) (RdO.evo rfl hE b753_A456) hx860) rfl)
        refine steps_cons (fun own a wx hf hsl hE => ?_) ?_
        · exact sg_plain rfl rfl (or_new [] rfl rfl trivial (by kernel_rfl))
        refine steps_cons (fun own a wx hf hsl hE => ?_) ?_
        · exact sg_plain rfl rfl (or_new [] rfl rfl trivial (by kernel_rfl))
        refine steps_cons (fun own a wx hf hsl hE => ?_) ?_
        · obtain ⟨⟨g861, (f_6 : a.eval (.tmp 6) = .pointer (some ⟨g861, 0, none⟩)), (b_g861 : BlkO own 862 wx g861 34 #[.int .i64 0, .int .i64 0])⟩, (f_32 : a.eval (.tmp 32) = .agg #[.int .i64 x859.1, .int .i64 x859.2]), -⟩ := hf
          exact sg_plain rfl rfl (or_store (l := #[.int .i64 x859.1, .int .i64 x859.2]) (lab := 862) (lab2 := 865) ts34 f_6 f_32 b_g861 (by simp) (by kernel_rfl) (mem_of rfl) (by decide) (by kernel_rfl) (fun own' a' w' ha hb => ⟨_, (ha 6).trans f_6, hb⟩))
        refine steps_cons (fun own a wx hf hsl hE => ?_) ?_
        · obtain ⟨⟨g863, (f_7 : a.eval (.tmp 7) = .pointer (some ⟨g863, 0, none⟩)), (b_g863 : BlkO own 864 wx g863 34 #[.int .i64 0, .int .i64 0])⟩, (f_36 : a.eval (.tmp 36) = .agg #[.int .i64 x860.1, .int .i64 x860.2]), -⟩ := hf
          exact sg_plain rfl rfl (or_store (l := #[.int .i64 x860.1, .int .i64 x860.2]) (lab := 864) (lab2 := 866) ts34 f_7 f_36 b_g863 (by simp) (by kernel_rfl) (mem_of rfl) (by decide) (by kernel_rfl) (fun own' a' w' ha hb => ⟨_, (ha 7).trans f_7, hb⟩))
        exact steps_nil
      intro own867 a867 w867 hd867 hz867 hk867 hf867 hE867
      have e867_0 : a867.eval (.tmp 0) = .slice A456 r455.length cA456 := (hk867 0 rfl).trans e753_0
      have e867_3 : a867.eval (.tmp 3) = .pointer (some ⟨g452, 0, none⟩) := (hk867 3 rfl).trans e753_3
      have e867_5 : a867.eval (.tmp 5) = .int .i64 i609 := (hk867 5 rfl).trans e753_5
      obtain ⟨⟨g861, (f_6 : a867.eval (.tmp 6) = .pointer (some ⟨g861, 0, none⟩)), (b_g861 : BlkO own867 865 w867 g861 34 #[.int .i64 x859.1, .int .i64 x859.2])⟩, ⟨g863, (f_7 : a867.eval (.tmp 7) = .pointer (some ⟨g863, 0, none⟩)), (b_g863 : BlkO own867 866 w867 g863 34 #[.int .i64 x860.1, .int .i64 x860.2])⟩, -⟩ := hf867 [11, 12] rfl
      have e867_6 := f_6
      have e867_7 := f_7
      have hX867 := Evo.step hX753 (fun _ => Nat.le_refl 0) hE867 rfl
      have b867_A456 := RdO.evo rfl hE867 b753_A456
      have b867_g452 := BlkO.evo (by decide) hE867 b753_g452
      have b867_g861 := b_g861
      have b867_g863 := b_g863
      obtain ⟨r868, hr868, hs⟩ := obind hs
      refine rg_plain_seq (n := 106) (rs := []) (own0 := own867) (K := [])
          (bs := [0, 0, 0, 4, 12, 31, 63, 127, 127, 255, 1023])
          (ds := [⟨[], [6], [], Fct.val 38 (.agg #[.int .i64 x859.1, .int .i64 x859.2])⟩,
          ⟨[], [7], [], Fct.val 39 (.agg #[.int .i64 x860.1, .int .i64 x860.2])⟩,
          ⟨[], [3], [], Fct.val 40 (.pointer (some ⟨g452, 0, none⟩))⟩,
          ⟨[2], [], [], Fct.val 41 (.pointer (some ⟨g452, 0, none⟩))⟩,
          ⟨[3], [], [], Fct.val 42 (.int .i64 b2.1.1)⟩,
          ⟨[0, 1, 4], [], [], Fct.val 43 (.tuple #[.int .i64 r868.1, .bool r868.2])⟩,
          ⟨[5], [], [], Fct.val 37 (.tuple #[.int .i64 r868.1, .bool r868.2])⟩,
          ⟨[6], [], [], Fct.val 44 (.int .i64 r868.1)⟩,
          ⟨[6], [], [], Fct.val 45 (.bool r868.2)⟩,
          ⟨[7], [], [], Fct.val 8 (.int .i64 r868.1)⟩,
          ⟨[8], [], [], Fct.val 9 (.bool r868.2)⟩]) (by kernel_rfl) hz867 hd867 (fun _ h => nomatch h) ?_ ?_
      · refine steps_cons (fun own a wx hf hsl hE => ?_) ?_
        · obtain ⟨s_6, -⟩ := hsl
          exact sg_plain rfl rfl (or_load (l := [.int .i64 x859.1, .int .i64 x859.2]) ta34 (s_6.trans e867_6) (Blk.cellsFrom (BlkO.evo (by decide) hE b867_g861).2 0 rfl) rfl)
        refine steps_cons (fun own a wx hf hsl hE => ?_) ?_
        · obtain ⟨s_7, -⟩ := hsl
          exact sg_plain rfl rfl (or_load (l := [.int .i64 x860.1, .int .i64 x860.2]) ta34 (s_7.trans e867_7) (Blk.cellsFrom (BlkO.evo (by decide) hE b867_g863).2 0 rfl) rfl)
        refine steps_cons (fun own a wx hf hsl hE => ?_) ?_
        · obtain ⟨s_3, -⟩ := hsl
          exact sg_plain rfl rfl (or_field fo36_0 (s_3.trans e867_3) (by rfl))
        refine steps_cons (fun own a wx hf hsl hE => ?_) ?_
        · obtain ⟨(f_40 : a.eval (.tmp 40) = .pointer (some ⟨g452, 0, none⟩)), -⟩ := hf
          exact sg_plain rfl rfl (or_field fo34_0 f_40 (by rfl))
        refine steps_cons (fun own a wx hf hsl hE => ?_) ?_
        · obtain ⟨(f_41 : a.eval (.tmp 41) = .pointer (some ⟨g452, 0, none⟩)), -⟩ := hf
          exact sg_plain rfl rfl (or_load1 to3 f_41 (Blk.at_ (BlkO.evo (by decide) hE b867_g452).2 0 rfl))
        refine steps_cons (fun own a wx hf hsl hE => ?_) ?_
        · obtain ⟨(f_38 : a.eval (.tmp 38) = .agg #[.int .i64 x859.1, .int .i64 x859.2]), (f_39 : a.eval (.tmp 39) = .agg #[.int .i64 x860.1, .int .i64 x860.2]), (f_42 : a.eval (.tmp 42) = .int .i64 b2.1.1), -⟩ := hf
          exact sg_plain rfl rfl (or_call cf23 (args3 f_38 f_39 f_42) (seg_AtX_w _ x859 x860 b2.1.1  r868 hr868) post_val)
        refine steps_cons (fun own a wx hf hsl hE => ?_) ?_
        · obtain ⟨(f_43 : a.eval (.tmp 43) = .tuple #[.int .i64 r868.1, .bool r868.2]), -⟩ := hf
          exact sg_plain rfl rfl (or_move f_43)
        refine steps_cons (fun own a wx hf hsl hE => ?_) ?_
        · obtain ⟨(f_37 : a.eval (.tmp 37) = .tuple #[.int .i64 r868.1, .bool r868.2]), -⟩ := hf
          exact sg_plain rfl rfl (or_k [(37, .tuple #[.int .i64 r868.1, .bool r868.2])] rfl rfl ⟨f_37, trivial⟩ (by kernel_rfl))
        refine steps_cons (fun own a wx hf hsl hE => ?_) ?_
        · obtain ⟨(f_37 : a.eval (.tmp 37) = .tuple #[.int .i64 r868.1, .bool r868.2]), -⟩ := hf
          exact sg_plain rfl rfl (or_k [(37, .tuple #[.int .i64 r868.1, .bool r868.2])] rfl rfl ⟨f_37, trivial⟩ (by kernel_rfl))
        refine steps_cons (fun own a wx hf hsl hE => ?_) ?_
        · obtain ⟨(f_44 : a.eval (.tmp 44) = .int .i64 r868.1), -⟩ := hf
          exact sg_plain rfl rfl (or_assign f_44)
        refine steps_cons (fun own a wx hf hsl hE => ?_) ?_
        · obtain ⟨(f_45 : a.eval (.tmp 45) = .bool r868.2), -⟩ := hf
          exact sg_plain rfl rfl (or_assign f_45)
        exact steps_nil
      intro own869 a869 w869 hd869 hz869 hk869 hf869 hE869
      have e869_0 : a869.eval (.tmp 0) = .slice A456 r455.length cA456 := (hk869 0 rfl).trans e867_0
      have e869_3 : a869.eval (.tmp 3) = .pointer (some ⟨g452, 0, none⟩) := (hk869 3 rfl).trans e867_3
      have e869_5 : a869.eval (.tmp 5) = .int .i64 i609 := (hk869 5 rfl).trans e867_5
      have e869_6 : a869.eval (.tmp 6) = .pointer (some ⟨g861, 0, none⟩) := (hk869 6 rfl).trans e867_6
      have e869_7 : a869.eval (.tmp 7) = .pointer (some ⟨g863, 0, none⟩) := (hk869 7 rfl).trans e867_7
      obtain ⟨(f_9 : a869.eval (.tmp 9) = .bool r868.2), -⟩ := hf869 [10] rfl
      have e869_9 := f_9
      have hX869 := Evo.step hX867 (fun _ => Nat.le_refl 0) hE869 rfl
      have b869_A456 := RdO.evo rfl hE869 b867_A456
      have b869_g452 := BlkO.evo (by decide) hE869 b867_g452
      have b869_g861 := BlkO.evo (by decide) hE869 b867_g861
      have b869_g863 := BlkO.evo (by decide) hE869 b867_g863
      obtain ⟨r870, hr870, hs⟩ := obind hs
      refine rg_plain_seq (n := 106) (rs := []) (own0 := own869) (K := [])
          (bs := [0, 0, 0, 4, 12, 31, 63, 127, 127, 255, 1023])
          (ds := [⟨[], [6], [], Fct.val 47 (.agg #[.int .i64 x859.1, .int .i64 x859.2])⟩,
          ⟨[], [7], [], Fct.val 48 (.agg #[.int .i64 x860.1, .int .i64 x860.2])⟩,
          ⟨[], [3], [], Fct.val 49 (.pointer (some ⟨g452, 2, none⟩))⟩,
          ⟨[2], [], [], Fct.val 50 (.pointer (some ⟨g452, 2, none⟩))⟩,
          ⟨[3], [], [], Fct.val 51 (.int .i64 b2.2.1)⟩,
          ⟨[0, 1, 4], [], [], Fct.val 52 (.tuple #[.int .i64 r870.1, .bool r870.2])⟩,
          ⟨[5], [], [], Fct.val 46 (.tuple #[.int .i64 r870.1, .bool r870.2])⟩,
          ⟨[6], [], [], Fct.val 53 (.int .i64 r870.1)⟩,
          ⟨[6], [], [], Fct.val 54 (.bool r870.2)⟩,
          ⟨[7], [], [], Fct.val 10 (.int .i64 r870.1)⟩,
          ⟨[8], [], [], Fct.val 11 (.bool r870.2)⟩]) (by kernel_rfl) hz869 hd869 (fun _ h => nomatch h) ?_ ?_
      · refine steps_cons (fun own a wx hf hsl hE => ?_) ?_
        · obtain ⟨s_6, -⟩ := hsl
          exact sg_plain rfl rfl (or_load (l := [.int .i64 x859.1, .int .i64 x859.2]) ta34 (s_6.trans e869_6) (Blk.cellsFrom (BlkO.evo (by decide) hE b869_g861).2 0 rfl) rfl)
        refine steps_cons (fun own a wx hf hsl hE => ?_) ?_
        · obtain ⟨s_7, -⟩ := hsl
          exact sg_plain rfl rfl (or_load (l := [.int .i64 x860.1, .int .i64 x860.2]) ta34 (s_7.trans e869_7) (Blk.cellsFrom (BlkO.evo (by decide) hE b869_g863).2 0 rfl) rfl)
        refine steps_cons (fun own a wx hf hsl hE => ?_) ?_
        · obtain ⟨s_3, -⟩ := hsl
          exact sg_plain rfl rfl (or_field fo36_1 (s_3.trans e869_3) (by rfl))
        refine steps_cons (fun own a wx hf hsl hE => ?_) ?_
        · obtain ⟨(f_49 : a.eval (.tmp 49) = .pointer (some ⟨g452, 2, none⟩)), -⟩ := hf
          exact sg_plain rfl rfl (or_field fo34_0 f_49 (by rfl))
        refine steps_cons (fun own a wx hf hsl hE => ?_) ?_
        · obtain ⟨(f_50 : a.eval (.tmp 50) = .pointer (some ⟨g452, 2, none⟩)), -⟩ := hf
          exact sg_plain rfl rfl (or_load1 to3 f_50 (Blk.at_ (BlkO.evo (by decide) hE b869_g452).2 2 rfl))
        refine steps_cons (fun own a wx hf hsl hE => ?_) ?_
        · obtain ⟨(f_47 : a.eval (.tmp 47) = .agg #[.int .i64 x859.1, .int .i64 x859.2]), (f_48 : a.eval (.tmp 48) = .agg #[.int .i64 x860.1, .int .i64 x860.2]), (f_51 : a.eval (.tmp 51) = .int .i64 b2.2.1), -⟩ := hf
          exact sg_plain rfl rfl (or_call cf23 (args3 f_47 f_48 f_51) (seg_AtX_w _ x859 x860 b2.2.1  r870 hr870) post_val)
        refine steps_cons (fun own a wx hf hsl hE => ?_) ?_
        · obtain ⟨(f_52 : a.eval (.tmp 52) = .tuple #[.int .i64 r870.1, .bool r870.2]), -⟩ := hf
          exact sg_plain rfl rfl (or_move f_52)
        refine steps_cons (fun own a wx hf hsl hE => ?_) ?_
        · obtain ⟨(f_46 : a.eval (.tmp 46) = .tuple #[.int .i64 r870.1, .bool r870.2]), -⟩ := hf
          exact sg_plain rfl rfl (or_k [(46, .tuple #[.int .i64 r870.1, .bool r870.2])] rfl rfl ⟨f_46, trivial⟩ (by kernel_rfl))
        refine steps_cons (fun own a wx hf hsl hE => ?_) ?_
        · obtain ⟨(f_46 : a.eval (.tmp 46) = .tuple #[.int .i64 r870.1, .bool r870.2]), -⟩ := hf
          exact sg_plain rfl rfl (or_k [(46, .tuple #[.int .i64 r870.1, .bool r870.2])] rfl rfl ⟨f_46, trivial⟩ (by kernel_rfl))
        refine steps_cons (fun own a wx hf hsl hE => ?_) ?_
        · obtain ⟨(f_53 : a.eval (.tmp 53) = .int .i64 r870.1), -⟩ := hf
          exact sg_plain rfl rfl (or_assign f_53)
        refine steps_cons (fun own a wx hf hsl hE => ?_) ?_
        · obtain ⟨(f_54 : a.eval (.tmp 54) = .bool r870.2), -⟩ := hf
          exact sg_plain rfl rfl (or_assign f_54)
        exact steps_nil
      intro own871 a871 w871 hd871 hz871 hk871 hf871 hE871
      have e871_0 : a871.eval (.tmp 0) = .slice A456 r455.length cA456 := (hk871 0 rfl).trans e869_0
      have e871_3 : a871.eval (.tmp 3) = .pointer (some ⟨g452, 0, none⟩) := (hk871 3 rfl).trans e869_3
      have e871_5 : a871.eval (.tmp 5) = .int .i64 i609 := (hk871 5 rfl).trans e869_5
      have e871_6 : a871.eval (.tmp 6) = .pointer (some ⟨g861, 0, none⟩) := (hk871 6 rfl).trans e869_6
      have e871_7 : a871.eval (.tmp 7) = .pointer (some ⟨g863, 0, none⟩) := (hk871 7 rfl).trans e869_7
      have e871_9 : a871.eval (.tmp 9) = .bool r868.2 := (hk871 9 rfl).trans e869_9
      obtain ⟨(f_11 : a871.eval (.tmp 11) = .bool r870.2), -⟩ := hf871 [10] rfl
      have e871_11 := f_11
      have hX871 := Evo.step hX869 (fun _ => Nat.le_refl 0) hE871 rfl
      have b871_A456 := RdO.evo rfl hE871 b869_A456
      have b871_g452 := BlkO.evo (by decide) hE871 b869_g452
      have b871_g861 := BlkO.evo (by decide) hE871 b869_g861
      have b871_g863 := BlkO.evo (by decide) hE871 b869_g863
      obtain ⟨r872, hr872, hs⟩ := obind hs
      refine rg_plain_seq (n := 106) (rs := []) (own0 := own871) (K := [])
          (bs := [0, 0, 0, 4, 12, 31, 63, 127, 127, 255, 1023])
          (ds := [⟨[], [6], [], Fct.val 56 (.agg #[.int .i64 x859.1, .int .i64 x859.2])⟩,
          ⟨[], [7], [], Fct.val 57 (.agg #[.int .i64 x860.1, .int .i64 x860.2])⟩,
          ⟨[], [3], [], Fct.val 58 (.pointer (some ⟨g452, 0, none⟩))⟩,
          ⟨[2], [], [], Fct.val 59 (.pointer (some ⟨g452, 1, none⟩))⟩,
          ⟨[3], [], [], Fct.val 60 (.int .i64 b2.1.2)⟩,
          ⟨[0, 1, 4], [], [], Fct.val 61 (.tuple #[.int .i64 r872.1, .bool r872.2])⟩,
          ⟨[5], [], [], Fct.val 55 (.tuple #[.int .i64 r872.1, .bool r872.2])⟩,
          ⟨[6], [], [], Fct.val 62 (.int .i64 r872.1)⟩,
          ⟨[6], [], [], Fct.val 63 (.bool r872.2)⟩,
          ⟨[7], [], [], Fct.val 12 (.int .i64 r872.1)⟩,
          ⟨[8], [], [], Fct.val 13 (.bool r872.2)⟩]) (by kernel_rfl) hz871 hd871 (fun _ h => nomatch h) ?_ ?_
      · refine steps_cons (fun own a wx hf hsl hE => ?_) ?_
        · obtain ⟨s_6, -⟩ := hsl
          exact sg_plain rfl rfl (or_load (l := [.int .i64 x859.1, .int .i64 x859.2]) ta34 (s_6.trans e871_6) (Blk.cellsFrom (BlkO.evo (by decide) hE b871_g861).2 0 rfl) rfl)
        refine steps_cons (fun own a wx hf hsl hE => ?_) ?_
        · obtain ⟨s_7, -⟩ := hsl
          exact sg_plain rfl rfl (or_load (l := [.int .i64 x860.1, .int .i64 x860.2]) ta34 (s_7.trans e871_7) (Blk.cellsFrom (BlkO.evo (by decide) hE b871_g863).2 0 rfl) rfl)
        refine steps_cons (fun own a wx hf hsl hE => ?_) ?_
        · obtain ⟨s_3, -⟩ := hsl
          exact sg_plain rfl rfl (or_field fo36_0 (s_3.trans e871_3) (by rfl))
        refine steps_cons (fun own a wx hf hsl hE => ?_) ?_
        · obtain ⟨(f_58 : a.eval (.tmp 58) = .pointer (some ⟨g452, 0, none⟩)), -⟩ := hf
          exact sg_plain rfl rfl (or_field fo34_1 f_58 (by rfl))
        refine steps_cons (fun own a wx hf hsl hE => ?_) ?_
        · obtain ⟨(f_59 : a.eval (.tmp 59) = .pointer (some ⟨g452, 1, none⟩)), -⟩ := hf
          exact sg_plain rfl rfl (or_load1 to3 f_59 (Blk.at_ (BlkO.evo (by decide) hE b871_g452).2 1 rfl))
        refine steps_cons (fun own a wx hf hsl hE => ?_) ?_
        · obtain ⟨(f_56 : a.eval (.tmp 56) = .agg #[.int .i64 x859.1, .int .i64 x859.2]), (f_57 : a.eval (.tmp 57) = .agg #[.int .i64 x860.1, .int .i64 x860.2]), (f_60 : a.eval (.tmp 60) = .int .i64 b2.1.2), -⟩ := hf
          exact sg_plain rfl rfl (or_call cf24 (args3 f_56 f_57 f_60) (seg_AtY_w _ x859 x860 b2.1.2  r872 hr872) post_val)
        refine steps_cons (fun own a wx hf hsl hE => ?_) ?_
        · obtain ⟨(f_61 : a.eval (.tmp 61) = .tuple #[.int .i64 r872.1, .bool r872.2]), -⟩ := hf
          exact sg_plain rfl rfl (or_move f_61)
        refine steps_cons (fun own a wx hf hsl hE => ?_) ?_
        · obtain ⟨(f_55 : a.eval (.tmp 55) = .tuple #[.int .i64 r872.1, .bool r872.2]), -⟩ := hf
          exact sg_plain rfl rfl (or_k [(55, .tuple #[.int .i64 r872.1, .bool r872.2])] rfl rfl ⟨f_55, trivial⟩ (by kernel_rfl))
        refine steps_cons (fun own a wx hf hsl hE => ?_) ?_
        · obtain ⟨(f_55 : a.eval (.tmp 55) = .tuple #[.int .i64 r872.1, .bool r872.2]), -⟩ := hf
          exact sg_plain rfl rfl (or_k [(55, .tuple #[.int .i64 r872.1, .bool r872.2])] rfl rfl ⟨f_55, trivial⟩ (by kernel_rfl))
        refine steps_cons (fun own a wx hf hsl hE => ?_) ?_
        · obtain ⟨(f_62 : a.eval (.tmp 62) = .int .i64 r872.1), -⟩ := hf
          exact sg_plain rfl rfl (or_assign f_62)
        refine steps_cons (fun own a wx hf hsl hE => ?_) ?_
        · obtain ⟨(f_63 : a.eval (.tmp 63) = .bool r872.2), -⟩ := hf
          exact sg_plain rfl rfl (or_assign f_63)
        exact steps_nil
      intro own873 a873 w873 hd873 hz873 hk873 hf873 hE873
      have e873_0 : a873.eval (.tmp 0) = .slice A456 r455.length cA456 := (hk873 0 rfl).trans e871_0
      have e873_3 : a873.eval (.tmp 3) = .pointer (some ⟨g452, 0, none⟩) := (hk873 3 rfl).trans e871_3
      have e873_5 : a873.eval (.tmp 5) = .int .i64 i609 := (hk873 5 rfl).trans e871_5
      have e873_6 : a873.eval (.tmp 6) = .pointer (some ⟨g861, 0, none⟩) := (hk873 6 rfl).trans e871_6
      have e873_7 : a873.eval (.tmp 7) = .pointer (some ⟨g863, 0, none⟩) := (hk873 7 rfl).trans e871_7
      have e873_9 : a873.eval (.tmp 9) = .bool r868.2 := (hk873 9 rfl).trans e871_9
      have e873_11 : a873.eval (.tmp 11) = .bool r870.2 := (hk873 11 rfl).trans e871_11
      obtain ⟨(f_13 : a873.eval (.tmp 13) = .bool r872.2), -⟩ := hf873 [10] rfl
      have e873_13 := f_13
      have hX873 := Evo.step hX871 (fun _ => Nat.le_refl 0) hE873 rfl
      have b873_A456 := RdO.evo rfl hE873 b871_A456
      have b873_g452 := BlkO.evo (by decide) hE873 b871_g452
      have b873_g861 := BlkO.evo (by decide) hE873 b871_g861
      have b873_g863 := BlkO.evo (by decide) hE873 b871_g863
      obtain ⟨r874, hr874, hs⟩ := obind hs
      refine rg_plain_seq (n := 106) (rs := []) (own0 := own873) (K := [])
          (bs := [0, 0, 0, 4, 12, 31, 63, 127, 127, 255, 1023])
          (ds := [⟨[], [6], [], Fct.val 65 (.agg #[.int .i64 x859.1, .int .i64 x859.2])⟩,
          ⟨[], [7], [], Fct.val 66 (.agg #[.int .i64 x860.1, .int .i64 x860.2])⟩,
          ⟨[], [3], [], Fct.val 67 (.pointer (some ⟨g452, 2, none⟩))⟩,
          ⟨[2], [], [], Fct.val 68 (.pointer (some ⟨g452, 3, none⟩))⟩,
          ⟨[3], [], [], Fct.val 69 (.int .i64 b2.2.2)⟩,
          ⟨[0, 1, 4], [], [], Fct.val 70 (.tuple #[.int .i64 r874.1, .bool r874.2])⟩,
          ⟨[5], [], [], Fct.val 64 (.tuple #[.int .i64 r874.1, .bool r874.2])⟩,
          ⟨[6], [], [], Fct.val 71 (.int .i64 r874.1)⟩,
          ⟨[6], [], [], Fct.val 72 (.bool r874.2)⟩,
          ⟨[7], [], [], Fct.val 14 (.int .i64 r874.1)⟩,
          ⟨[8], [], [], Fct.val 15 (.bool r874.2)⟩]) (by kernel_rfl) hz873 hd873 (fun _ h => nomatch h) ?_ ?_
      · refine steps_cons (fun own a wx hf hsl hE => ?_) ?_
        · obtain ⟨s_6, -⟩ := hsl
          exact sg_plain rfl rfl (or_load (l := [.int .i64 x859.1, .int .i64 x859.2]) ta34 (s_6.trans e873_6) (Blk.cellsFrom (BlkO.evo (by decide) hE b873_g861).2 0 rfl) rfl)
        refine steps_cons (fun own a wx hf hsl hE => ?_) ?_
        · obtain ⟨s_7, -⟩ := hsl
          exact sg_plain rfl rfl (or_load (l := [.int .i64 x860.1, .int .i64 x860.2]) ta34 (s_7.trans e873_7) (Blk.cellsFrom (BlkO.evo (by decide) hE b873_g863).2 0 rfl) rfl)
        refine steps_cons (fun own a wx hf hsl hE => ?_) ?_
        · obtain ⟨s_3, -⟩ := hsl
          exact sg_plain rfl rfl (or_field fo36_1 (s_3.trans e873_3) (by rfl))
        refine steps_cons (fun own a wx hf hsl hE => ?_) ?_
        · obtain ⟨(f_67 : a.eval (.tmp 67) = .pointer (some ⟨g452, 2, none⟩)), -⟩ := hf
          exact sg_plain rfl rfl (or_field fo34_1 f_67 (by rfl))
        refine steps_cons (fun own a wx hf hsl hE => ?_) ?_
        · obtain ⟨(f_68 : a.eval (.tmp 68) = .pointer (some ⟨g452, 3, none⟩)), -⟩ := hf
          exact sg_plain rfl rfl (or_load1 to3 f_68 (Blk.at_ (BlkO.evo (by decide) hE b873_g452).2 3 rfl))
        refine steps_cons (fun own a wx hf hsl hE => ?_) ?_
        · obtain ⟨(f_65 : a.eval (.tmp 65) = .agg #[.int .i64 x859.1, .int .i64 x859.2]), (f_66 : a.eval (.tmp 66) = .agg #[.int .i64 x860.1, .int .i64 x860.2]), (f_69 : a.eval (.tmp 69) = .int .i64 b2.2.2), -⟩ := hf
          exact sg_plain rfl rfl (or_call cf24 (args3 f_65 f_66 f_69) (seg_AtY_w _ x859 x860 b2.2.2  r874 hr874) post_val)
        refine steps_cons (fun own a wx hf hsl hE => ?_) ?_
        · obtain ⟨(f_70 : a.eval (.tmp 70) = .tuple #[.int .i64 r874.1, .bool r874.2]), -⟩ := hf
          exact sg_plain rfl rfl (or_move f_70)
        refine steps_cons (fun own a wx hf hsl hE => ?_) ?_
        · obtain ⟨(f_64 : a.eval (.tmp 64) = .tuple #[.int .i64 r874.1, .bool r874.2]), -⟩ := hf
          exact sg_plain rfl rfl (or_k [(64, .tuple #[.int .i64 r874.1, .bool r874.2])] rfl rfl ⟨f_64, trivial⟩ (by kernel_rfl))
        refine steps_cons (fun own a wx hf hsl hE => ?_) ?_
        · obtain ⟨(f_64 : a.eval (.tmp 64) = .tuple #[.int .i64 r874.1, .bool r874.2]), -⟩ := hf
          exact sg_plain rfl rfl (or_k [(64, .tuple #[.int .i64 r874.1, .bool r874.2])] rfl rfl ⟨f_64, trivial⟩ (by kernel_rfl))
        refine steps_cons (fun own a wx hf hsl hE => ?_) ?_
        · obtain ⟨(f_71 : a.eval (.tmp 71) = .int .i64 r874.1), -⟩ := hf
          exact sg_plain rfl rfl (or_assign f_71)
        refine steps_cons (fun own a wx hf hsl hE => ?_) ?_
        · obtain ⟨(f_72 : a.eval (.tmp 72) = .bool r874.2), -⟩ := hf
          exact sg_plain rfl rfl (or_assign f_72)
        exact steps_nil
      intro own875 a875 w875 hd875 hz875 hk875 hf875 hE875
      have e875_0 : a875.eval (.tmp 0) = .slice A456 r455.length cA456 := (hk875 0 rfl).trans e873_0
      have e875_3 : a875.eval (.tmp 3) = .pointer (some ⟨g452, 0, none⟩) := (hk875 3 rfl).trans e873_3
      have e875_5 : a875.eval (.tmp 5) = .int .i64 i609 := (hk875 5 rfl).trans e873_5
      have e875_6 : a875.eval (.tmp 6) = .pointer (some ⟨g861, 0, none⟩) := (hk875 6 rfl).trans e873_6
      have e875_7 : a875.eval (.tmp 7) = .pointer (some ⟨g863, 0, none⟩) := (hk875 7 rfl).trans e873_7
      have e875_9 : a875.eval (.tmp 9) = .bool r868.2 := (hk875 9 rfl).trans e873_9
      have e875_11 : a875.eval (.tmp 11) = .bool r870.2 := (hk875 11 rfl).trans e873_11
      have e875_13 : a875.eval (.tmp 13) = .bool r872.2 := (hk875 13 rfl).trans e873_13
      obtain ⟨(f_15 : a875.eval (.tmp 15) = .bool r874.2), -⟩ := hf875 [10] rfl
      have e875_15 := f_15
      have hX875 := Evo.step hX873 (fun _ => Nat.le_refl 0) hE875 rfl
      have b875_A456 := RdO.evo rfl hE875 b873_A456
      have b875_g452 := BlkO.evo (by decide) hE875 b873_g452
      have b875_g861 := BlkO.evo (by decide) hE875 b873_g861
      have b875_g863 := BlkO.evo (by decide) hE875 b873_g863
      refine fl_seq (fun Q876 hn876 hp876 => ?_)
      obtain ⟨x877, hx877, hs⟩ := obind hs
      obtain ⟨r878, hr878, hs⟩ := obind hs
      obtain ⟨r879, hr879, hs⟩ := obind hs
      obtain ⟨r880, hr880, hs⟩ := obind hs
      obtain ⟨r881, hr881, hs⟩ := obind hs
      refine rg_plain_seq (n := 106) (rs := []) (own0 := own875) (K := [])
          (bs := [0, 1, 3, 7, 15, 31, 63, 127, 255, 511, 1023, 2047, 4095, 8191, 16383, 32767, 65535, 131071, 262143, 524287, 1048575, 2097151])
          (ds := [⟨[], [9], [], Fct.val 73 (.bool r868.2)⟩,
          ⟨[0], [], [], Fct.val 74 (.bool r868.2)⟩,
          ⟨[1], [11], [], Fct.cond (!r868.2) (some 75) (Fct.val 75 (.bool r870.2))⟩,
          ⟨[1, 2], [], [], Fct.val 76 (.bool (r868.2 || r870.2))⟩,
          ⟨[3], [], [], Fct.val 77 (.bool (r868.2 || r870.2))⟩,
          ⟨[4], [13], [], Fct.cond (!(r868.2 || r870.2)) (some 78) (Fct.val 78 (.bool r872.2))⟩,
          ⟨[4, 5], [], [], Fct.val 79 (.bool ((r868.2 || r870.2) || r872.2))⟩,
          ⟨[6], [], [], Fct.val 80 (.bool ((r868.2 || r870.2) || r872.2))⟩,
          ⟨[7], [15], [], Fct.cond (!((r868.2 || r870.2) || r872.2)) (some 81) (Fct.val 81 (.bool r874.2))⟩,
          ⟨[7, 8], [], [], Fct.val 82 (.bool x877)⟩,
          ⟨[9], [], [], Fct.val 83 (.bool x877)⟩,
          ⟨[10], [6], [], Fct.cond (!x877) (some 84) (Fct.val 84 (.agg #[.int .i64 x859.1, .int .i64 x859.2]))⟩,
          ⟨[10, 11], [], [], Fct.cond (!x877) (some 85) (Fct.val 85 (.agg #[.int .i64 r878.1, .int .i64 r878.2]))⟩,
          ⟨[10, 12], [], [], Fct.cond (!x877) (some 86) (Fct.val 86 (.bool r879))⟩,
          ⟨[10, 13], [], [], Fct.cond (!x877) (some 87) (Fct.val 87 (.bool (!r879)))⟩,
          ⟨[10, 14], [], [], Fct.val 88 (.bool (x877 || (!r879)))⟩,
          ⟨[15], [], [], Fct.val 89 (.bool (x877 || (!r879)))⟩,
          ⟨[16], [7], [], Fct.cond (!(x877 || (!r879))) (some 90) (Fct.val 90 (.agg #[.int .i64 x860.1, .int .i64 x860.2]))⟩,
          ⟨[16, 17], [], [], Fct.cond (!(x877 || (!r879))) (some 91) (Fct.val 91 (.agg #[.int .i64 r880.1, .int .i64 r880.2]))⟩,
          ⟨[16, 18], [], [], Fct.cond (!(x877 || (!r879))) (some 92) (Fct.val 92 (.bool r881))⟩,
          ⟨[16, 19], [], [], Fct.cond (!(x877 || (!r879))) (some 93) (Fct.val 93 (.bool (!r881)))⟩,
          ⟨[16, 20], [], [], Fct.val 94 (.bool ((x877 || (!r879)) || (!r881)))⟩]) (by kernel_rfl) hz875 hd875 (fun _ h => nomatch h) ?_ ?_
      · refine steps_cons (fun own a wx hf hsl hE => ?_) ?_
        · obtain ⟨s_9, -⟩ := hsl
          exact sg_plain rfl rfl (or_move (s_9.trans e875_9))
        refine steps_cons (fun own a wx hf hsl hE => ?_) ?_
        · obtain ⟨(f_73 : a.eval (.tmp 73) = .bool r868.2), -⟩ := hf
          exact sg_plain rfl rfl (or_move f_73)
        refine steps_cons (fun own a wx hf hsl hE => ?_) ?_
        · obtain ⟨(f_74 : a.eval (.tmp 74) = .bool r868.2), -⟩ := hf
          obtain ⟨s_11, -⟩ := hsl
          refine sg_f rfl rfl rfl f_74 (fun hg => ?_)
          exact or_move (s_11.trans e875_11)
        refine steps_cons (fun own a wx hf hsl hE => ?_) ?_
        · obtain ⟨(f_74 : a.eval (.tmp 74) = .bool r868.2), c_75, -⟩ := hf
          exact sg_plain rfl rfl (or_or f_74 rfl (fun hx => c_75.1 hx) rfl)
        refine steps_cons (fun own a wx hf hsl hE => ?_) ?_
        · obtain ⟨(f_76 : a.eval (.tmp 76) = .bool (r868.2 || r870.2)), -⟩ := hf
          exact sg_plain rfl rfl (or_move f_76)
        refine steps_cons (fun own a wx hf hsl hE => ?_) ?_
        · obtain ⟨(f_77 : a.eval (.tmp 77) = .bool (r868.2 || r870.2)), -⟩ := hf
          obtain ⟨s_13, -⟩ := hsl
          refine sg_f rfl rfl rfl f_77 (fun hg => ?_)
          exact or_move (s_13.trans e875_13)
        refine steps_cons (fun own a wx hf hsl hE => ?_) ?_
        · obtain ⟨(f_77 : a.eval (.tmp 77) = .bool (r868.2 || r870.2)), c_78, -⟩ := hf
          exact sg_plain rfl rfl (or_or f_77 rfl (fun hx => c_78.1 hx) rfl)
        refine steps_cons (fun own a wx hf hsl hE => ?_) ?_
        · obtain ⟨(f_79 : a.eval (.tmp 79) = .bool ((r868.2 || r870.2) || r872.2)), -⟩ := hf
          exact sg_plain rfl rfl (or_move f_79)
        refine steps_cons (fun own a wx hf hsl hE => ?_) ?_
        · obtain ⟨(f_80 : a.eval (.tmp 80) = .bool ((r868.2 || r870.2) || r872.2)), -⟩ := hf
          obtain ⟨s_15, -⟩ := hsl
          refine sg_f rfl rfl rfl f_80 (fun hg => ?_)
          exact or_move (s_15.trans e875_15)
        refine steps_cons (fun own a wx hf hsl hE => ?_) ?_
        · obtain ⟨(f_80 : a.eval (.tmp 80) = .bool ((r868.2 || r870.2) || r872.2)), c_81, -⟩ := hf
          exact sg_plain rfl rfl (or_or f_80 rfl (fun hx => c_81.1 hx) (osome hx877).symm)
        refine steps_cons (fun own a wx hf hsl hE => ?_) ?_
        · obtain ⟨(f_82 : a.eval (.tmp 82) = .bool x877), -⟩ := hf
          exact sg_plain rfl rfl (or_move f_82)
        refine steps_cons (fun own a wx hf hsl hE => ?_) ?_
        · obtain ⟨(f_83 : a.eval (.tmp 83) = .bool x877), -⟩ := hf
          obtain ⟨s_6, -⟩ := hsl
          refine sg_f rfl rfl rfl f_83 (fun hg => ?_)
          exact or_load (l := [.int .i64 x859.1, .int .i64 x859.2]) ta34 (s_6.trans e875_6) (Blk.cellsFrom (BlkO.evo (by decide) hE b875_g861).2 0 rfl) rfl
        refine steps_cons (fun own a wx hf hsl hE => ?_) ?_
        · obtain ⟨(f_83 : a.eval (.tmp 83) = .bool x877), c_84, -⟩ := hf
          refine sg_f rfl rfl rfl f_83 (fun hg => ?_)
          have f_84 : a.eval (.tmp 84) = .agg #[.int .i64 x859.1, .int .i64 x859.2] := c_84.1 hg
          exact or_call cf26 (args1 f_84) (law01_Of_w _ x859  r878 (gd_t hr878 hg)) post_val
        refine steps_cons (fun own a wx hf hsl hE => ?_) ?_
        · obtain ⟨(f_83 : a.eval (.tmp 83) = .bool x877), c_85, -⟩ := hf
          refine sg_f rfl rfl rfl f_83 (fun hg => ?_)
          have f_85 : a.eval (.tmp 85) = .agg #[.int .i64 r878.1, .int .i64 r878.2] := c_85.1 hg
          exact or_call cf25 (args1 f_85) (ref01_May_w _ r878  r879 (gd_t hr879 hg)) post_val
        refine steps_cons (fun own a wx hf hsl hE => ?_) ?_
        · obtain ⟨(f_83 : a.eval (.tmp 83) = .bool x877), c_86, -⟩ := hf
          refine sg_f rfl rfl rfl f_83 (fun hg => ?_)
          have f_86 : a.eval (.tmp 86) = .bool r879 := c_86.1 hg
          exact or_not f_86 rfl
        refine steps_cons (fun own a wx hf hsl hE => ?_) ?_
        · obtain ⟨(f_83 : a.eval (.tmp 83) = .bool x877), c_87, -⟩ := hf
          exact sg_plain rfl rfl (or_or f_83 rfl (fun hx => c_87.1 hx) rfl)
        refine steps_cons (fun own a wx hf hsl hE => ?_) ?_
        · obtain ⟨(f_88 : a.eval (.tmp 88) = .bool (x877 || (!r879))), -⟩ := hf
          exact sg_plain rfl rfl (or_move f_88)
        refine steps_cons (fun own a wx hf hsl hE => ?_) ?_
        · obtain ⟨(f_89 : a.eval (.tmp 89) = .bool (x877 || (!r879))), -⟩ := hf
          obtain ⟨s_7, -⟩ := hsl
          refine sg_f rfl rfl rfl f_89 (fun hg => ?_)
          exact or_load (l := [.int .i64 x860.1, .int .i64 x860.2]) ta34 (s_7.trans e875_7) (Blk.cellsFrom (BlkO.evo (by decide) hE b875_g863).2 0 rfl) rfl
        refine steps_cons (fun own a wx hf hsl hE => ?_) ?_
        · obtain ⟨(f_89 : a.eval (.tmp 89) = .bool (x877 || (!r879))), c_90, -⟩ := hf
          refine sg_f rfl rfl rfl f_89 (fun hg => ?_)
          have f_90 : a.eval (.tmp 90) = .agg #[.int .i64 x860.1, .int .i64 x860.2] := c_90.1 hg
          exact or_call cf26 (args1 f_90) (law01_Of_w _ x860  r880 (gd_t hr880 hg)) post_val
        refine steps_cons (fun own a wx hf hsl hE => ?_) ?_
        · obtain ⟨(f_89 : a.eval (.tmp 89) = .bool (x877 || (!r879))), c_91, -⟩ := hf
          refine sg_f rfl rfl rfl f_89 (fun hg => ?_)
          have f_91 : a.eval (.tmp 91) = .agg #[.int .i64 r880.1, .int .i64 r880.2] := c_91.1 hg
          exact or_call cf25 (args1 f_91) (ref01_May_w _ r880  r881 (gd_t hr881 hg)) post_val
        refine steps_cons (fun own a wx hf hsl hE => ?_) ?_
        · obtain ⟨(f_89 : a.eval (.tmp 89) = .bool (x877 || (!r879))), c_92, -⟩ := hf
          refine sg_f rfl rfl rfl f_89 (fun hg => ?_)
          have f_92 : a.eval (.tmp 92) = .bool r881 := c_92.1 hg
          exact or_not f_92 rfl
        refine steps_cons (fun own a wx hf hsl hE => ?_) ?_
        · obtain ⟨(f_89 : a.eval (.tmp 89) = .bool (x877 || (!r879))), c_93, -⟩ := hf
          exact sg_plain rfl rfl (or_or f_89 rfl (fun hx => c_93.1 hx) rfl)
        exact steps_nil
      intro own882 a882 w882 hd882 hz882 hk882 hf882 hE882
      have e882_0 : a882.eval (.tmp 0) = .slice A456 r455.length cA456 := (hk882 0 rfl).trans e875_0
      have e882_3 : a882.eval (.tmp 3) = .pointer (some ⟨g452, 0, none⟩) := (hk882 3 rfl).trans e875_3
      have e882_5 : a882.eval (.tmp 5) = .int .i64 i609 := (hk882 5 rfl).trans e875_5
      have e882_6 : a882.eval (.tmp 6) = .pointer (some ⟨g861, 0, none⟩) := (hk882 6 rfl).trans e875_6
      have e882_7 : a882.eval (.tmp 7) = .pointer (some ⟨g863, 0, none⟩) := (hk882 7 rfl).trans e875_7
      obtain ⟨(f_94 : a882.eval (.tmp 94) = .bool ((x877 || (!r879)) || (!r881))), -⟩ := hf882 [21] rfl
      have e882_94 := f_94
      have hX882 := Evo.step hX875 (fun _ => Nat.le_refl 0) hE882 rfl
      have b882_A456 := RdO.evo rfl hE882 b875_A456
      have b882_g452 := BlkO.evo (by decide) hE882 b875_g452
      have b882_g861 := BlkO.evo (by decide) hE882 b875_g861
      have b882_g863 := BlkO.evo (by decide) hE882 b875_g863
      refine fl_cond e882_94 hs (fun c883 hs => ?_) (fun c883 hs => ?_)
      · refine fl_exit ?_
        refine hp876 _ _ _ rfl ?_
        exact (K856 _ _ own882  hd882 hz882 e882_0 e882_3 e882_5 hX882 b882_A456 b882_g452 hs).2
      refine fl_skip ?_
      refine hn876 _ _ ?_
      obtain ⟨r886, hr886, hs⟩ := obind hs
      obtain ⟨r887, hr887, hs⟩ := obind hs
      refine rg_draw_seq g_mixed (n := 106) (rs := []) (own0 := own882) (K := [])
          (bs := [0, 0, 3, 0, 15, 0, 0, 0, 255, 511])
          (ds := [⟨[], [6], [], Fct.val 95 (.agg #[.int .i64 x859.1, .int .i64 x859.2])⟩,
          ⟨[], [7], [], Fct.val 96 (.agg #[.int .i64 x860.1, .int .i64 x860.2])⟩,
          ⟨[0, 1], [], [], Fct.row 885 [] 97 34 R34 [x859, x860]⟩,
          ⟨[], [3], [], Fct.val 98 (.agg #[.int .i64 b2.1.1, .int .i64 b2.1.2, .int .i64 b2.2.1, .int .i64 b2.2.2])⟩,
          ⟨[2, 3], [], [], Fct.val 99 (.bool r886)⟩,
          ⟨[], [6], [], Fct.val 100 (.agg #[.int .i64 x859.1, .int .i64 x859.2])⟩,
          ⟨[], [7], [], Fct.val 101 (.agg #[.int .i64 x860.1, .int .i64 x860.2])⟩,
          ⟨[], [3], [], Fct.val 102 (.agg #[.int .i64 b2.1.1, .int .i64 b2.1.2, .int .i64 b2.2.1, .int .i64 b2.2.2])⟩,
          ⟨[5, 6, 7], [], [], Fct.val 103 (.bool r887)⟩,
          ⟨[4, 8], [], [], Fct.val 104 (.bool (!(r886 == r887)))⟩]) (by kernel_rfl) hz882 hd882 (fun _ h => nomatch h) ?_ ?_
      · refine steps_cons (fun own a wx hf hsl hE => ?_) ?_
        · obtain ⟨s_6, -⟩ := hsl
          exact sg_plain rfl rfl (or_load (l := [.int .i64 x859.1, .int .i64 x859.2]) ta34 (s_6.trans e882_6) (Blk.cellsFrom (BlkO.evo (by decide) hE b882_g861).2 0 rfl) rfl)
        refine steps_cons (fun own a wx hf hsl hE => ?_) ?_
        · obtain ⟨s_7, -⟩ := hsl
          exact sg_plain rfl rfl (or_load (l := [.int .i64 x860.1, .int .i64 x860.2]) ta34 (s_7.trans e882_7) (Blk.cellsFrom (BlkO.evo (by decide) hE b882_g863).2 0 rfl) rfl)
        refine steps_cons (fun own a wx hf hsl hE => ?_) ?_
        · obtain ⟨(f_95 : a.eval (.tmp 95) = .agg #[.int .i64 x859.1, .int .i64 x859.2]), (f_96 : a.eval (.tmp 96) = .agg #[.int .i64 x860.1, .int .i64 x860.2]), -⟩ := hf
          exact sg_plain rfl rfl (or_lit (lab := 885) (e := 34) (cs := #[.int .i64 x859.1, .int .i64 x859.2, .int .i64 x860.1, .int .i64 x860.2]) (F := E34) (or_new [(95, .agg #[.int .i64 x859.1, .int .i64 x859.2]), (96, .agg #[.int .i64 x860.1, .int .i64 x860.2])] rfl rfl ⟨f_95, f_96, trivial⟩ (by kernel_rfl)) rfl rfl (show 2 ≤ maxLen by decide))
        refine steps_cons (fun own a wx hf hsl hE => ?_) ?_
        · obtain ⟨s_3, -⟩ := hsl
          exact sg_plain rfl rfl (or_load (l := [.int .i64 b2.1.1, .int .i64 b2.1.2, .int .i64 b2.2.1, .int .i64 b2.2.2]) ta36 (s_3.trans e882_3) (Blk.cellsFrom (BlkO.evo (by decide) hE b882_g452).2 0 rfl) rfl)
        refine steps_cons (fun own a wx hf hsl hE => ?_) ?_
        · obtain ⟨⟨⟨A884, cA884⟩, (f_97 : a.eval (.tmp 97) = .slice A884 [x859, x860].length cA884), (b_A884 : RwO own 885 [] wx 34 R34 A884 cA884 [x859, x860])⟩, (f_98 : a.eval (.tmp 98) = .agg #[.int .i64 b2.1.1, .int .i64 b2.1.2, .int .i64 b2.2.1, .int .i64 b2.2.2]), -⟩ := hf
          exact sg_plain rfl rfl (or_call cf19 (args2 f_97 f_98) (lineclip_Meets_w _ [x859, x860] A884 cA884 b2 (RdO.zero (RwO.rd b_A884)) r886 hr886) post_val)
        refine steps_cons (fun own a wx hf hsl hE => ?_) ?_
        · obtain ⟨s_6, -⟩ := hsl
          exact sg_plain rfl rfl (or_load (l := [.int .i64 x859.1, .int .i64 x859.2]) ta34 (s_6.trans e882_6) (Blk.cellsFrom (BlkO.evo (by decide) hE b882_g861).2 0 rfl) rfl)
        refine steps_cons (fun own a wx hf hsl hE => ?_) ?_
        · obtain ⟨s_7, -⟩ := hsl
          exact sg_plain rfl rfl (or_load (l := [.int .i64 x860.1, .int .i64 x860.2]) ta34 (s_7.trans e882_7) (Blk.cellsFrom (BlkO.evo (by decide) hE b882_g863).2 0 rfl) rfl)
        refine steps_cons (fun own a wx hf hsl hE => ?_) ?_
        · obtain ⟨s_3, -⟩ := hsl
          exact sg_plain rfl rfl (or_load (l := [.int .i64 b2.1.1, .int .i64 b2.1.2, .int .i64 b2.2.1, .int .i64 b2.2.2]) ta36 (s_3.trans e882_3) (Blk.cellsFrom (BlkO.evo (by decide) hE b882_g452).2 0 rfl) rfl)
        refine steps_cons (fun own a wx hf hsl hE => ?_) ?_
        · obtain ⟨(f_100 : a.eval (.tmp 100) = .agg #[.int .i64 x859.1, .int .i64 x859.2]), (f_101 : a.eval (.tmp 101) = .agg #[.int .i64 x860.1, .int .i64 x860.2]), (f_102 : a.eval (.tmp 102) = .agg #[.int .i64 b2.1.1, .int .i64 b2.1.2, .int .i64 b2.2.1, .int .i64 b2.2.2]), -⟩ := hf
          exact sg_plain rfl rfl (or_call cf15 (args3 f_100 f_101 f_102) (lineclip_Shown_w _ x859 x860 b2  r887 hr887) post_val)
        refine steps_cons (fun own a wx hf hsl hE => ?_) ?_
        · obtain ⟨(f_99 : a.eval (.tmp 99) = .bool r886), (f_103 : a.eval (.tmp 103) = .bool r887), -⟩ := hf
          exact sg_plain rfl rfl (or_neqb tb4 f_99 f_103 rfl)
        exact steps_nil
      intro own888 a888 w888 hd888 hz888 hk888 hf888 hE888
      have e888_0 : a888.eval (.tmp 0) = .slice A456 r455.length cA456 := (hk888 0 rfl).trans e882_0
      have e888_3 : a888.eval (.tmp 3) = .pointer (some ⟨g452, 0, none⟩) := (hk888 3 rfl).trans e882_3
      have e888_5 : a888.eval (.tmp 5) = .int .i64 i609 := (hk888 5 rfl).trans e882_5
      obtain ⟨(f_104 : a888.eval (.tmp 104) = .bool (!(r886 == r887))), -⟩ := hf888 [9] rfl
      have e888_104 := f_104
      have hX888 := Evo.step hX882 (fun _ => Nat.le_refl 0) hE888 rfl
      have b888_A456 := RdO.evo rfl hE888 b882_A456
      have b888_g452 := BlkO.evo (by decide) hE888 b882_g452
      refine fl_cond e888_104 hs (fun c889 hs => ?_) (fun c889 hs => ?_)
      · refine rg_plain_seq (n := 106) (rs := []) (own0 := own888) (K := [])
            (bs := [0])
            (ds := [⟨[], [], [], Fct.val 4 (.bool false)⟩]) (by kernel_rfl) hz888 hd888 (fun _ h => nomatch h) ?_ ?_
        · refine steps_cons (fun own a wx hf hsl hE => ?_) ?_
          · exact sg_plain rfl rfl (or_assign rfl)
          exact steps_nil
        intro own890 a890 w890 hd890 hz890 hk890 hf890 hE890
        obtain ⟨(f_4 : a890.eval (.tmp 4) = .bool false), -⟩ := hf890 [0] rfl
        have e890_4 := f_4
        have hX890 := Evo.step hX888 (fun _ => Nat.le_refl 0) hE890 rfl
        refine fl_ret ?_
        refine hp823 _ _ _ rfl ?_
        refine hp755 _ _ _ rfl ?_
        replace hs := hz750 _ hs
        refine hp750 _ _ _ rfl ?_
        refine hp468 _ _ _ rfl ?_
        refine hp466 _ _ _ rfl ?_
        obtain rfl := osome hs
        exact hret _ _ _ _ (.inl rfl) hd890 (results1_ rfl (RVal.tmp_ e890_4)) ⟨own890, rfl, hX890⟩
      refine fl_skip ?_
      exact (K856 _ _ own888  hd888 hz888 e888_0 e888_3 e888_5 hX888 b888_A456 b888_g452 hs).1
    refine fl_exit ?_
    refine hp752 _ _ _ rfl ?_
    replace hs := hz750 _ hs
    refine hp750 _ _ _ rfl ?_
    refine hx468 _ _ ?_
    refine hn466 _ _ ?_
    obtain ⟨r891, hr891, hs⟩ := obind hs
    refine rg_plain_seq (n := 106) (rs := []) (own0 := own753) (K := [])
        (bs := [0, 1])
        (ds := [⟨[], [], [], Fct.val 105 (.bool r891)⟩,
        ⟨[0], [], [], Fct.val 4 (.bool r891)⟩]) (by kernel_rfl) hz753 hd753 (fun _ h => nomatch h) ?_ ?_
    · refine steps_cons (fun own a wx hf hsl hE => ?_) ?_
      · exact sg_plain rfl rfl (or_call cf10 (args0) (law22_known_w _   r891 hr891) post_val)
      refine steps_cons (fun own a wx hf hsl hE => ?_) ?_
      · obtain ⟨(f_105 : a.eval (.tmp 105) = .bool r891), -⟩ := hf
        exact sg_plain rfl rfl (or_assign f_105)
      exact steps_nil
    intro own892 a892 w892 hd892 hz892 hk892 hf892 hE892
    obtain ⟨(f_4 : a892.eval (.tmp 4) = .bool r891), -⟩ := hf892 [1] rfl
    have e892_4 := f_4
    have hX892 := Evo.step hX753 (fun _ => Nat.le_refl 0) hE892 rfl
    refine fl_ret ?_
    obtain rfl := (osome hs).symm
    exact hret _ _ _ _ (.inl rfl) hd892 (results1_ rfl (RVal.tmp_ e892_4)) ⟨own892, rfl, hX892⟩

end Go.Proofs.Ythjcpojcpafbjaa
