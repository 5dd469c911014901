/-
  Chapter 04. The walks.
-/
import Derived.Test.YthbjlgklmamhjaaBase
import Derived.Test.YthbjlgklmamhjaaTy
import Derived.Test.YthbjlgklmamhjaaSp1
namespace Go.Proofs.Ythbjlgklmamhjaa
open Go.RowKit
set_option linter.unusedVariables false
set_option maxHeartbeats 2000000 in
theorem order_Find_w (w : World) (l1 : List Int) (Al1 : Option Addr) (cl1 : Nat) (n2 : Int) (hl1 : RdO (fun _ => 0) [0] w R3 Al1 cl1 l1) (r : Int × Bool) (hs : order_Find l1 n2 = some r) :
    Calls Try.prog 9 #[.slice Al1 l1.length cl1, .int .i64 n2] w fun e w' => ∃ own' : Own, e = .returned (.tuple #[.int .i64 r.1, .bool r.2]) ∧ Evo [] (fun _ => 0) own' w w' := by
  refine fl_enter (n := 42) rfl rfl rfl (Nat.le_of_ble_eq_true rfl) ?_
  intro a0 Q hd0 hz0 harg hret
  have ha0 := harg 0 _ rfl
  have ha1 := harg 1 _ rfl
  clear harg
  have hE0 : Evo [] (fun _ => 0) (fun _ => 0) w w := Evo.refl _ _ _
  refine rg_plain_seq (n := 42) (rs := []) (own0 := (fun _ => 0)) (K := [])
      (bs := [0, 1])
      (ds := [⟨[], [], [], Fct.val 4 (.int .i64 0)⟩,
      ⟨[], [], [], Fct.val 5 (.bool false)⟩]) (by kernel_rfl) hz0 hd0 (fun _ h => nomatch h) ?_ ?_
  · refine steps_cons (fun own a wx hf hsl hE => ?_) ?_
    · exact sg_plain rfl rfl (or_assign rfl)
    refine steps_cons (fun own a wx hf hsl hE => ?_) ?_
    · exact sg_plain rfl rfl (or_assign rfl)
    exact steps_nil
  intro own124 a124 w124 hd124 hz124 hk124 hf124 hE124
  have e124_0 : a124.eval (.tmp 0) = .slice Al1 l1.length cl1 := (hk124 0 rfl).trans ha0
  have e124_1 : a124.eval (.tmp 1) = .int .i64 n2 := (hk124 1 rfl).trans ha1
  have hX124 := Evo.step hE0 (fun _ => Nat.le_refl 0) hE124 rfl
  have b124_Al1 := RdO.evo rfl hE124 hl1
  refine fl_scope (S := (Int × Int)) (body := (fun s => order_Find_b1_0 l1 n2 s.1 s.2)) (z := r) (fun _ => 0) ?_ (fun s a wx => ((fun (s : Int × Int) => match s with | (low152, high153) => ∃ (ox : Own), a.defers = [] ∧ a.tmps.size = 42 ∧ a.eval (.tmp 0) = .slice Al1 l1.length cl1 ∧ a.eval (.tmp 1) = .int .i64 n2 ∧ a.eval (.tmp 6) = .int .i64 low152 ∧ a.eval (.tmp 7) = .int .i64 high153 ∧ Evo [] (fun _ => 0) ox w wx ∧ RdO ox [0] wx R3 Al1 cl1 l1) : ((Int × Int)) → Prop) s) ?_ ?_
  · intro s; rfl
  · intro Q181 hj181 hp181
    refine rg_plain_seq (n := 42) (rs := []) (own0 := own124) (K := [])
        (bs := [0, 1, 0, 7])
        (ds := [⟨[], [0], [], Fct.val 9 (.slice Al1 l1.length cl1)⟩,
        ⟨[0], [], [], Fct.val 10 (.int .i64 (l1.length : Int))⟩,
        ⟨[], [], [], Fct.val 6 (.int .i64 0)⟩,
        ⟨[1], [], [], Fct.val 7 (.int .i64 (l1.length : Int))⟩]) (by kernel_rfl) hz124 hd124 (fun _ h => nomatch h) ?_ ?_
    · refine steps_cons (fun own a wx hf hsl hE => ?_) ?_
      · obtain ⟨s_0, -⟩ := hsl
        exact sg_plain rfl rfl (or_move (s_0.trans e124_0))
      refine steps_cons (fun own a wx hf hsl hE => ?_) ?_
      · obtain ⟨(f_9 : a.eval (.tmp 9) = .slice Al1 l1.length cl1), -⟩ := hf
        exact sg_plain rfl rfl (or_len tu22 f_9 rfl)
      refine steps_cons (fun own a wx hf hsl hE => ?_) ?_
      · exact sg_plain rfl rfl (or_assign rfl)
      refine steps_cons (fun own a wx hf hsl hE => ?_) ?_
      · obtain ⟨(f_10 : a.eval (.tmp 10) = .int .i64 (l1.length : Int)), -⟩ := hf
        exact sg_plain rfl rfl (or_assign f_10)
      exact steps_nil
    intro own210 a210 w210 hd210 hz210 hk210 hf210 hE210
    have e210_0 : a210.eval (.tmp 0) = .slice Al1 l1.length cl1 := (hk210 0 rfl).trans e124_0
    have e210_1 : a210.eval (.tmp 1) = .int .i64 n2 := (hk210 1 rfl).trans e124_1
    obtain ⟨(f_6 : a210.eval (.tmp 6) = .int .i64 0), (f_7 : a210.eval (.tmp 7) = .int .i64 (l1.length : Int)), -⟩ := hf210 [2, 3] rfl
    have e210_6 := f_6
    have e210_7 := f_7
    have hX210 := Evo.step hX124 (fun _ => Nat.le_refl 0) hE210 rfl
    have b210_Al1 := RdO.evo rfl hE210 b124_Al1
    refine fl_seq (fun Q211 hn211 hp211 => ?_)
    refine fl_label ?_
    refine hn211 _ _ ?_
    refine fl_seq (fun Q212 hn212 hp212 => ?_)
    refine rg_plain_seq (n := 42) (rs := []) (own0 := own210) (K := [])
        (bs := [0, 0, 3])
        (ds := [⟨[], [6], [], Fct.val 11 (.int .i64 0)⟩,
        ⟨[], [7], [], Fct.val 12 (.int .i64 (l1.length : Int))⟩,
        ⟨[0, 1], [], [], Fct.val 13 (.bool (decide (0 = (l1.length : Int))))⟩]) (by kernel_rfl) hz210 hd210 (fun _ h => nomatch h) ?_ ?_
    · refine steps_cons (fun own a wx hf hsl hE => ?_) ?_
      · obtain ⟨s_6, -⟩ := hsl
        exact sg_plain rfl rfl (or_move (s_6.trans e210_6))
      refine steps_cons (fun own a wx hf hsl hE => ?_) ?_
      · obtain ⟨s_7, -⟩ := hsl
        exact sg_plain rfl rfl (or_move (s_7.trans e210_7))
      refine steps_cons (fun own a wx hf hsl hE => ?_) ?_
      · obtain ⟨(f_11 : a.eval (.tmp 11) = .int .i64 0), (f_12 : a.eval (.tmp 12) = .int .i64 (l1.length : Int)), -⟩ := hf
        exact sg_plain rfl rfl (or_eql f_11 f_12 rfl)
      exact steps_nil
    intro own213 a213 w213 hd213 hz213 hk213 hf213 hE213
    have e213_0 : a213.eval (.tmp 0) = .slice Al1 l1.length cl1 := (hk213 0 rfl).trans e210_0
    have e213_1 : a213.eval (.tmp 1) = .int .i64 n2 := (hk213 1 rfl).trans e210_1
    have e213_6 : a213.eval (.tmp 6) = .int .i64 0 := (hk213 6 rfl).trans e210_6
    have e213_7 : a213.eval (.tmp 7) = .int .i64 (l1.length : Int) := (hk213 7 rfl).trans e210_7
    obtain ⟨(f_13 : a213.eval (.tmp 13) = .bool (decide (0 = (l1.length : Int)))), -⟩ := hf213 [2] rfl
    have e213_13 := f_13
    have hX213 := Evo.step hX210 (fun _ => Nat.le_refl 0) hE213 rfl
    have b213_Al1 := RdO.evo rfl hE213 b210_Al1
    refine fl_cond e213_13 hs (fun c214 hs => ?_) (fun c214 hs => ?_)
    · obtain ⟨x215, hx215, hs⟩ := obind hs
      obtain ⟨x216, hx216, hs⟩ := obind hs
      refine rg_draw_seq g_mixed (n := 42) (rs := []) (own0 := own213) (K := [])
          (bs := [0, 0, 0, 4, 14, 30, 62, 62, 254, 510, 62, 2046, 4094, 63, 16383])
          (ds := [⟨[], [6], [], Fct.val 14 (.int .i64 0)⟩,
          ⟨[], [6], [], Fct.val 15 (.int .i64 0)⟩,
          ⟨[], [0], [], Fct.val 16 (.slice Al1 l1.length cl1)⟩,
          ⟨[2], [], [], Fct.val 17 (.int .i64 (l1.length : Int))⟩,
          ⟨[1, 3], [], [], Fct.val 18 (.bool (decide (0 < (l1.length : Int))))⟩,
          ⟨[4], [], [], Fct.val 19 (.bool (decide (0 < (l1.length : Int))))⟩,
          ⟨[5], [0], [], Fct.cond (decide (0 < (l1.length : Int))) (some 20) (Fct.val 20 (.slice Al1 l1.length cl1))⟩,
          ⟨[5], [6], [], Fct.cond (decide (0 < (l1.length : Int))) (some 21) (Fct.val 21 (.int .i64 0))⟩,
          ⟨[5, 6, 7], [], [], Fct.cond (decide (0 < (l1.length : Int))) (some 22) (Fct.val 22 (.pointer (some ((adr Al1).add ((0 : Int).toNat * R3.s)))))⟩,
          ⟨[5, 8], [], [], Fct.cond (decide (0 < (l1.length : Int))) (some 23) (Fct.val 23 (.int .i64 x215))⟩,
          ⟨[5], [1], [], Fct.cond (decide (0 < (l1.length : Int))) (some 24) (Fct.val 24 (.int .i64 n2))⟩,
          ⟨[5, 9, 10], [], [], Fct.cond (decide (0 < (l1.length : Int))) (some 25) (Fct.val 25 (.bool (decide (x215 = n2))))⟩,
          ⟨[5, 11], [], [], Fct.val 26 (.bool x216)⟩,
          ⟨[0], [], [], Fct.val 4 (.int .i64 0)⟩,
          ⟨[12], [], [], Fct.val 5 (.bool x216)⟩]) (by kernel_rfl) hz213 hd213 (fun _ h => nomatch h) ?_ ?_
      · refine steps_cons (fun own a wx hf hsl hE => ?_) ?_
        · obtain ⟨s_6, -⟩ := hsl
          exact sg_plain rfl rfl (or_move (s_6.trans e213_6))
        refine steps_cons (fun own a wx hf hsl hE => ?_) ?_
        · obtain ⟨s_6, -⟩ := hsl
          exact sg_plain rfl rfl (or_move (s_6.trans e213_6))
        refine steps_cons (fun own a wx hf hsl hE => ?_) ?_
        · obtain ⟨s_0, -⟩ := hsl
          exact sg_plain rfl rfl (or_move (s_0.trans e213_0))
        refine steps_cons (fun own a wx hf hsl hE => ?_) ?_
        · obtain ⟨(f_16 : a.eval (.tmp 16) = .slice Al1 l1.length cl1), -⟩ := hf
          exact sg_plain rfl rfl (or_len tu22 f_16 rfl)
        refine steps_cons (fun own a wx hf hsl hE => ?_) ?_
        · obtain ⟨(f_15 : a.eval (.tmp 15) = .int .i64 0), (f_17 : a.eval (.tmp 17) = .int .i64 (l1.length : Int)), -⟩ := hf
          exact sg_plain rfl rfl (or_lss f_15 f_17 rfl)
        refine steps_cons (fun own a wx hf hsl hE => ?_) ?_
        · obtain ⟨(f_18 : a.eval (.tmp 18) = .bool (decide (0 < (l1.length : Int)))), -⟩ := hf
          exact sg_plain rfl rfl (or_move f_18)
        refine steps_cons (fun own a wx hf hsl hE => ?_) ?_
        · obtain ⟨(f_19 : a.eval (.tmp 19) = .bool (decide (0 < (l1.length : Int)))), -⟩ := hf
          obtain ⟨s_0, -⟩ := hsl
          refine sg_t rfl rfl rfl f_19 (fun hg => ?_)
          exact or_move (s_0.trans e213_0)
        refine steps_cons (fun own a wx hf hsl hE => ?_) ?_
        · obtain ⟨(f_19 : a.eval (.tmp 19) = .bool (decide (0 < (l1.length : Int)))), -⟩ := hf
          obtain ⟨s_6, -⟩ := hsl
          refine sg_t rfl rfl rfl f_19 (fun hg => ?_)
          exact or_move (s_6.trans e213_6)
        refine steps_cons (fun own a wx hf hsl hE => ?_) ?_
        · obtain ⟨(f_19 : a.eval (.tmp 19) = .bool (decide (0 < (l1.length : Int)))), c_20, c_21, -⟩ := hf
          refine sg_t rfl rfl rfl f_19 (fun hg => ?_)
          have f_20 : a.eval (.tmp 20) = .slice Al1 l1.length cl1 := c_20.1 hg
          have f_21 : a.eval (.tmp 21) = .int .i64 0 := c_21.1 hg
          exact or_index (R := R3) (l := l1) tl22 f_20 f_21 (RdO.some_ b213_Al1 (gd_t hx215 hg)) (gd_t hx215 hg)
        refine steps_cons (fun own a wx hf hsl hE => ?_) ?_
        · obtain ⟨(f_19 : a.eval (.tmp 19) = .bool (decide (0 < (l1.length : Int)))), c_22, -⟩ := hf
          refine sg_t rfl rfl rfl f_19 (fun hg => ?_)
          have f_22 : a.eval (.tmp 22) = .pointer (some ((adr Al1).add ((0 : Int).toNat * R3.s))) := c_22.1 hg
          exact or_load1 to3 f_22 (CellsAt.zero (RdO.cells (F := E3) (RdO.evo rfl hE b213_Al1) (gd_t hx215 hg)) rfl)
        refine steps_cons (fun own a wx hf hsl hE => ?_) ?_
        · obtain ⟨(f_19 : a.eval (.tmp 19) = .bool (decide (0 < (l1.length : Int)))), -⟩ := hf
          obtain ⟨s_1, -⟩ := hsl
          refine sg_t rfl rfl rfl f_19 (fun hg => ?_)
          exact or_move (s_1.trans e213_1)
        refine steps_cons (fun own a wx hf hsl hE => ?_) ?_
        · obtain ⟨(f_19 : a.eval (.tmp 19) = .bool (decide (0 < (l1.length : Int)))), c_23, c_24, -⟩ := hf
          refine sg_t rfl rfl rfl f_19 (fun hg => ?_)
          have f_23 : a.eval (.tmp 23) = .int .i64 x215 := c_23.1 hg
          have f_24 : a.eval (.tmp 24) = .int .i64 n2 := c_24.1 hg
          exact or_eql f_23 f_24 rfl
        refine steps_cons (fun own a wx hf hsl hE => ?_) ?_
        · obtain ⟨(f_19 : a.eval (.tmp 19) = .bool (decide (0 < (l1.length : Int)))), c_25, -⟩ := hf
          exact sg_plain rfl rfl (or_and f_19 (fun hx => c_25.1 hx) rfl (osome hx216).symm)
        refine steps_cons (fun own a wx hf hsl hE => ?_) ?_
        · obtain ⟨(f_14 : a.eval (.tmp 14) = .int .i64 0), -⟩ := hf
          exact sg_plain rfl rfl (or_assign f_14)
        refine steps_cons (fun own a wx hf hsl hE => ?_) ?_
        · obtain ⟨(f_26 : a.eval (.tmp 26) = .bool x216), -⟩ := hf
          exact sg_plain rfl rfl (or_assign f_26)
        exact steps_nil
      intro own217 a217 w217 hd217 hz217 hk217 hf217 hE217
      obtain ⟨(f_4 : a217.eval (.tmp 4) = .int .i64 0), (f_5 : a217.eval (.tmp 5) = .bool x216), -⟩ := hf217 [13, 14] rfl
      have e217_4 := f_4
      have e217_5 := f_5
      have hX217 := Evo.step hX213 (fun _ => Nat.le_refl 0) hE217 rfl
      refine fl_ret ?_
      refine hp212 _ _ _ rfl ?_
      refine hp181.leaves _ _ _ rfl ?_
      obtain rfl := osome hs
      exact hret _ _ _ _ (.inl rfl) hd217 (results2_ rfl (RVal.tmp_ e217_4) (RVal.tmp_ e217_5)) ⟨own217, rfl, hX217⟩
    refine fl_skip ?_
    refine hn212 _ _ ?_
    refine fl_seq (fun Q218 hn218 hp218 => ?_)
    have K228 : ∀ (a228 : Act) (w228 : World) (own228 : Own) (low226 : Int) (high227 : Int), a228.defers = [] → a228.tmps.size = 42 → a228.eval (.tmp 0) = .slice Al1 l1.length cl1 → a228.eval (.tmp 1) = .int .i64 n2 → a228.eval (.tmp 6) = .int .i64 low226 → a228.eval (.tmp 7) = .int .i64 high227 → Evo [] (fun _ => 0) own228 w w228 → RdO own228 [0] w228 R3 Al1 cl1 l1 → order_Find_k3 l1 n2 low226 high227 = some r → Q218 .normal a228 w228 := by
      intro a228 w228 own228 low226 high227 hd229 hz229 e229_0 e229_1 e229_6 e229_7 hE229 b229_Al1 hs
      refine hn218 _ _ ?_
      refine fl_goto ?_
      exact hj181 (low226, high227) _ _ (show loopO _ _ = _ from hs) ⟨own228, hd229, hz229, e229_0, e229_1, e229_6, e229_7, hE229, b229_Al1⟩
    obtain ⟨x230, hx230, hs⟩ := obind hs
    refine rg_plain_seq (n := 42) (rs := []) (own0 := own213) (K := [])
        (bs := [0, 0, 0, 6, 14, 31, 63])
        (ds := [⟨[], [6], [], Fct.val 27 (.int .i64 0)⟩,
        ⟨[], [7], [], Fct.val 28 (.int .i64 (l1.length : Int))⟩,
        ⟨[], [6], [], Fct.val 29 (.int .i64 0)⟩,
        ⟨[1, 2], [], [], Fct.val 30 (.int .i64 (sb (l1.length : Int) 0))⟩,
        ⟨[3], [], [], Fct.val 31 (.int .i64 x230)⟩,
        ⟨[0, 4], [], [], Fct.val 32 (.int .i64 (ad 0 x230))⟩,
        ⟨[5], [], [], Fct.val 8 (.int .i64 (ad 0 x230))⟩]) (by kernel_rfl) hz213 hd213 (fun _ h => nomatch h) ?_ ?_
    · refine steps_cons (fun own a wx hf hsl hE => ?_) ?_
      · obtain ⟨s_6, -⟩ := hsl
        exact sg_plain rfl rfl (or_move (s_6.trans e213_6))
      refine steps_cons (fun own a wx hf hsl hE => ?_) ?_
      · obtain ⟨s_7, -⟩ := hsl
        exact sg_plain rfl rfl (or_move (s_7.trans e213_7))
      refine steps_cons (fun own a wx hf hsl hE => ?_) ?_
      · obtain ⟨s_6, -⟩ := hsl
        exact sg_plain rfl rfl (or_move (s_6.trans e213_6))
      refine steps_cons (fun own a wx hf hsl hE => ?_) ?_
      · obtain ⟨(f_28 : a.eval (.tmp 28) = .int .i64 (l1.length : Int)), (f_29 : a.eval (.tmp 29) = .int .i64 0), -⟩ := hf
        exact sg_plain rfl rfl (or_sub f_28 f_29 rfl)
      refine steps_cons (fun own a wx hf hsl hE => ?_) ?_
      · obtain ⟨(f_30 : a.eval (.tmp 30) = .int .i64 (sb (l1.length : Int) 0)), -⟩ := hf
        exact sg_plain rfl rfl (or_quo f_30 rfl hx230)
      refine steps_cons (fun own a wx hf hsl hE => ?_) ?_
      · obtain ⟨(f_27 : a.eval (.tmp 27) = .int .i64 0), (f_31 : a.eval (.tmp 31) = .int .i64 x230), -⟩ := hf
        exact sg_plain rfl rfl (or_add f_27 f_31 rfl)
      refine steps_cons (fun own a wx hf hsl hE => ?_) ?_
      · obtain ⟨(f_32 : a.eval (.tmp 32) = .int .i64 (ad 0 x230)), -⟩ := hf
        exact sg_plain rfl rfl (or_assign f_32)
      exact steps_nil
    intro own231 a231 w231 hd231 hz231 hk231 hf231 hE231
    have e231_0 : a231.eval (.tmp 0) = .slice Al1 l1.length cl1 := (hk231 0 rfl).trans e213_0
    have e231_1 : a231.eval (.tmp 1) = .int .i64 n2 := (hk231 1 rfl).trans e213_1
    have e231_6 : a231.eval (.tmp 6) = .int .i64 0 := (hk231 6 rfl).trans e213_6
    have e231_7 : a231.eval (.tmp 7) = .int .i64 (l1.length : Int) := (hk231 7 rfl).trans e213_7
    obtain ⟨(f_8 : a231.eval (.tmp 8) = .int .i64 (ad 0 x230)), -⟩ := hf231 [6] rfl
    have e231_8 := f_8
    have hX231 := Evo.step hX213 (fun _ => Nat.le_refl 0) hE231 rfl
    have b231_Al1 := RdO.evo rfl hE231 b213_Al1
    obtain ⟨x232, hx232, hs⟩ := obind hs
    refine rg_plain_seq (n := 42) (rs := []) (own0 := own231) (K := [])
        (bs := [0, 0, 3, 7, 0, 31])
        (ds := [⟨[], [0], [], Fct.val 33 (.slice Al1 l1.length cl1)⟩,
        ⟨[], [8], [], Fct.val 34 (.int .i64 (ad 0 x230))⟩,
        ⟨[0, 1], [], [], Fct.val 35 (.pointer (some ((adr Al1).add ((ad 0 x230 : Int).toNat * R3.s))))⟩,
        ⟨[2], [], [], Fct.val 36 (.int .i64 x232)⟩,
        ⟨[], [1], [], Fct.val 37 (.int .i64 n2)⟩,
        ⟨[3, 4], [], [], Fct.val 38 (.bool (decide (x232 < n2)))⟩]) (by kernel_rfl) hz231 hd231 (fun _ h => nomatch h) ?_ ?_
    · refine steps_cons (fun own a wx hf hsl hE => ?_) ?_
      · obtain ⟨s_0, -⟩ := hsl
        exact sg_plain rfl rfl (or_move (s_0.trans e231_0))
      refine steps_cons (fun own a wx hf hsl hE => ?_) ?_
      · obtain ⟨s_8, -⟩ := hsl
        exact sg_plain rfl rfl (or_move (s_8.trans e231_8))
      refine steps_cons (fun own a wx hf hsl hE => ?_) ?_
      · obtain ⟨(f_33 : a.eval (.tmp 33) = .slice Al1 l1.length cl1), (f_34 : a.eval (.tmp 34) = .int .i64 (ad 0 x230)), -⟩ := hf
        exact sg_plain rfl rfl (or_index (R := R3) (l := l1) tl22 f_33 f_34 (RdO.some_ b231_Al1 hx232) hx232)
      refine steps_cons (fun own a wx hf hsl hE => ?_) ?_
      · obtain ⟨(f_35 : a.eval (.tmp 35) = .pointer (some ((adr Al1).add ((ad 0 x230 : Int).toNat * R3.s)))), -⟩ := hf
        exact sg_plain rfl rfl (or_load1 to3 f_35 (CellsAt.zero (RdO.cells (F := E3) (RdO.evo rfl hE b231_Al1) hx232) rfl))
      refine steps_cons (fun own a wx hf hsl hE => ?_) ?_
      · obtain ⟨s_1, -⟩ := hsl
        exact sg_plain rfl rfl (or_move (s_1.trans e231_1))
      refine steps_cons (fun own a wx hf hsl hE => ?_) ?_
      · obtain ⟨(f_36 : a.eval (.tmp 36) = .int .i64 x232), (f_37 : a.eval (.tmp 37) = .int .i64 n2), -⟩ := hf
        exact sg_plain rfl rfl (or_lss f_36 f_37 rfl)
      exact steps_nil
    intro own233 a233 w233 hd233 hz233 hk233 hf233 hE233
    have e233_0 : a233.eval (.tmp 0) = .slice Al1 l1.length cl1 := (hk233 0 rfl).trans e231_0
    have e233_1 : a233.eval (.tmp 1) = .int .i64 n2 := (hk233 1 rfl).trans e231_1
    have e233_6 : a233.eval (.tmp 6) = .int .i64 0 := (hk233 6 rfl).trans e231_6
    have e233_7 : a233.eval (.tmp 7) = .int .i64 (l1.length : Int) := (hk233 7 rfl).trans e231_7
    have e233_8 : a233.eval (.tmp 8) = .int .i64 (ad 0 x230) := (hk233 8 rfl).trans e231_8
    obtain ⟨(f_38 : a233.eval (.tmp 38) = .bool (decide (x232 < n2))), -⟩ := hf233 [5] rfl
    have e233_38 := f_38
    have hX233 := Evo.step hX231 (fun _ => Nat.le_refl 0) hE233 rfl
    have b233_Al1 := RdO.evo rfl hE233 b231_Al1
    refine fl_cond e233_38 hs (fun c234 hs => ?_) (fun c234 hs => ?_)
    · refine rg_plain (n := 42) (rs := []) (own0 := own233) (K := [])
          (bs := [0, 1, 3])
          (ds := [⟨[], [8], [], Fct.val 39 (.int .i64 (ad 0 x230))⟩,
          ⟨[0], [], [], Fct.val 40 (.int .i64 (ad (ad 0 x230) 1))⟩,
          ⟨[1], [], [], Fct.val 6 (.int .i64 (ad (ad 0 x230) 1))⟩]) (by kernel_rfl) hz233 hd233 (fun _ h => nomatch h) ?_ ?_
      · refine steps_cons (fun own a wx hf hsl hE => ?_) ?_
        · obtain ⟨s_8, -⟩ := hsl
          exact sg_plain rfl rfl (or_move (s_8.trans e233_8))
        refine steps_cons (fun own a wx hf hsl hE => ?_) ?_
        · obtain ⟨(f_39 : a.eval (.tmp 39) = .int .i64 (ad 0 x230)), -⟩ := hf
          exact sg_plain rfl rfl (or_add f_39 rfl rfl)
        refine steps_cons (fun own a wx hf hsl hE => ?_) ?_
        · obtain ⟨(f_40 : a.eval (.tmp 40) = .int .i64 (ad (ad 0 x230) 1)), -⟩ := hf
          exact sg_plain rfl rfl (or_assign f_40)
        exact steps_nil
      intro own235 a235 w235 hd235 hz235 hk235 hf235 hE235
      have e235_0 : a235.eval (.tmp 0) = .slice Al1 l1.length cl1 := (hk235 0 rfl).trans e233_0
      have e235_1 : a235.eval (.tmp 1) = .int .i64 n2 := (hk235 1 rfl).trans e233_1
      have e235_7 : a235.eval (.tmp 7) = .int .i64 (l1.length : Int) := (hk235 7 rfl).trans e233_7
      obtain ⟨(f_6 : a235.eval (.tmp 6) = .int .i64 (ad (ad 0 x230) 1)), -⟩ := hf235 [2] rfl
      have e235_6 := f_6
      have hX235 := Evo.step hX233 (fun _ => Nat.le_refl 0) hE235 rfl
      have b235_Al1 := RdO.evo rfl hE235 b233_Al1
      exact (K228 _ _ own235 _ _ hd235 hz235 e235_0 e235_1 e235_6 e235_7 hX235 b235_Al1 hs)
    refine rg_plain (n := 42) (rs := []) (own0 := own233) (K := [])
        (bs := [0, 1])
        (ds := [⟨[], [8], [], Fct.val 41 (.int .i64 (ad 0 x230))⟩,
        ⟨[0], [], [], Fct.val 7 (.int .i64 (ad 0 x230))⟩]) (by kernel_rfl) hz233 hd233 (fun _ h => nomatch h) ?_ ?_
    · refine steps_cons (fun own a wx hf hsl hE => ?_) ?_
      · obtain ⟨s_8, -⟩ := hsl
        exact sg_plain rfl rfl (or_move (s_8.trans e233_8))
      refine steps_cons (fun own a wx hf hsl hE => ?_) ?_
      · obtain ⟨(f_41 : a.eval (.tmp 41) = .int .i64 (ad 0 x230)), -⟩ := hf
        exact sg_plain rfl rfl (or_assign f_41)
      exact steps_nil
    intro own236 a236 w236 hd236 hz236 hk236 hf236 hE236
    have e236_0 : a236.eval (.tmp 0) = .slice Al1 l1.length cl1 := (hk236 0 rfl).trans e233_0
    have e236_1 : a236.eval (.tmp 1) = .int .i64 n2 := (hk236 1 rfl).trans e233_1
    have e236_6 : a236.eval (.tmp 6) = .int .i64 0 := (hk236 6 rfl).trans e233_6
    obtain ⟨(f_7 : a236.eval (.tmp 7) = .int .i64 (ad 0 x230)), -⟩ := hf236 [1] rfl
    have e236_7 := f_7
    have hX236 := Evo.step hX233 (fun _ => Nat.le_refl 0) hE236 rfl
    have b236_Al1 := RdO.evo rfl hE236 b233_Al1
    exact (K228 _ _ own236 _ _ hd236 hz236 e236_0 e236_1 e236_6 e236_7 hX236 b236_Al1 hs)
  · rintro ⟨low152, high153⟩
    rintro zz181 a182 w182 ⟨own182, hd183, hz183, e183_0, e183_1, e183_6, e183_7, hE183, b183_Al1⟩ hs Q182 hj182 hp182 hz182
    have hs : order_Find_b1_0 l1 n2 low152 high153 = some zz181 := hs
    conv => arg 4; whnf
    refine fl_seq (fun Q184 hn184 hp184 => ?_)
    refine fl_skip ?_
    refine hn184 _ _ ?_
    refine fl_seq (fun Q185 hn185 hp185 => ?_)
    refine rg_plain_seq (n := 42) (rs := []) (own0 := own182) (K := [])
        (bs := [0, 0, 3])
        (ds := [⟨[], [6], [], Fct.val 11 (.int .i64 low152)⟩,
        ⟨[], [7], [], Fct.val 12 (.int .i64 high153)⟩,
        ⟨[0, 1], [], [], Fct.val 13 (.bool (decide (low152 = high153)))⟩]) (by kernel_rfl) hz183 hd183 (fun _ h => nomatch h) ?_ ?_
    · refine steps_cons (fun own a wx hf hsl hE => ?_) ?_
      · obtain ⟨s_6, -⟩ := hsl
        exact sg_plain rfl rfl (or_move (s_6.trans e183_6))
      refine steps_cons (fun own a wx hf hsl hE => ?_) ?_
      · obtain ⟨s_7, -⟩ := hsl
        exact sg_plain rfl rfl (or_move (s_7.trans e183_7))
      refine steps_cons (fun own a wx hf hsl hE => ?_) ?_
      · obtain ⟨(f_11 : a.eval (.tmp 11) = .int .i64 low152), (f_12 : a.eval (.tmp 12) = .int .i64 high153), -⟩ := hf
        exact sg_plain rfl rfl (or_eql f_11 f_12 rfl)
      exact steps_nil
    intro own186 a186 w186 hd186 hz186 hk186 hf186 hE186
    have e186_0 : a186.eval (.tmp 0) = .slice Al1 l1.length cl1 := (hk186 0 rfl).trans e183_0
    have e186_1 : a186.eval (.tmp 1) = .int .i64 n2 := (hk186 1 rfl).trans e183_1
    have e186_6 : a186.eval (.tmp 6) = .int .i64 low152 := (hk186 6 rfl).trans e183_6
    have e186_7 : a186.eval (.tmp 7) = .int .i64 high153 := (hk186 7 rfl).trans e183_7
    obtain ⟨(f_13 : a186.eval (.tmp 13) = .bool (decide (low152 = high153))), -⟩ := hf186 [2] rfl
    have e186_13 := f_13
    have hX186 := Evo.step hE183 (fun _ => Nat.le_refl 0) hE186 rfl
    have b186_Al1 := RdO.evo rfl hE186 b183_Al1
    refine fl_cond e186_13 hs (fun c187 hs => ?_) (fun c187 hs => ?_)
    · obtain ⟨x188, hx188, hs⟩ := obind hs
      obtain ⟨x189, hx189, hs⟩ := obind hs
      refine rg_draw_seq g_mixed (n := 42) (rs := []) (own0 := own186) (K := [])
          (bs := [0, 0, 0, 4, 14, 30, 62, 62, 254, 510, 62, 2046, 4094, 63, 16383])
          (ds := [⟨[], [6], [], Fct.val 14 (.int .i64 low152)⟩,
          ⟨[], [6], [], Fct.val 15 (.int .i64 low152)⟩,
          ⟨[], [0], [], Fct.val 16 (.slice Al1 l1.length cl1)⟩,
          ⟨[2], [], [], Fct.val 17 (.int .i64 (l1.length : Int))⟩,
          ⟨[1, 3], [], [], Fct.val 18 (.bool (decide (low152 < (l1.length : Int))))⟩,
          ⟨[4], [], [], Fct.val 19 (.bool (decide (low152 < (l1.length : Int))))⟩,
          ⟨[5], [0], [], Fct.cond (decide (low152 < (l1.length : Int))) (some 20) (Fct.val 20 (.slice Al1 l1.length cl1))⟩,
          ⟨[5], [6], [], Fct.cond (decide (low152 < (l1.length : Int))) (some 21) (Fct.val 21 (.int .i64 low152))⟩,
          ⟨[5, 6, 7], [], [], Fct.cond (decide (low152 < (l1.length : Int))) (some 22) (Fct.val 22 (.pointer (some ((adr Al1).add ((low152 : Int).toNat * R3.s)))))⟩,
          ⟨[5, 8], [], [], Fct.cond (decide (low152 < (l1.length : Int))) (some 23) (Fct.val 23 (.int .i64 x188))⟩,
          ⟨[5], [1], [], Fct.cond (decide (low152 < (l1.length : Int))) (some 24) (Fct.val 24 (.int .i64 n2))⟩,
          ⟨[5, 9, 10], [], [], Fct.cond (decide (low152 < (l1.length : Int))) (some 25) (Fct.val 25 (.bool (decide (x188 = n2))))⟩,
          ⟨[5, 11], [], [], Fct.val 26 (.bool x189)⟩,
          ⟨[0], [], [], Fct.val 4 (.int .i64 low152)⟩,
          ⟨[12], [], [], Fct.val 5 (.bool x189)⟩]) (by kernel_rfl) hz186 hd186 (fun _ h => nomatch h) ?_ ?_
      · refine steps_cons (fun own a wx hf hsl hE => ?_) ?_
        · obtain ⟨s_6, -⟩ := hsl
          exact sg_plain rfl rfl (or_move (s_6.trans e186_6))
        refine steps_cons (fun own a wx hf hsl hE => ?_) ?_
        · obtain ⟨s_6, -⟩ := hsl
          exact sg_plain rfl rfl (or_move (s_6.trans e186_6))
        refine steps_cons (fun own a wx hf hsl hE => ?_) ?_
        · obtain ⟨s_0, -⟩ := hsl
          exact sg_plain rfl rfl (or_move (s_0.trans e186_0))
        refine steps_cons (fun own a wx hf hsl hE => ?_) ?_
        · obtain ⟨(f_16 : a.eval (.tmp 16) = .slice Al1 l1.length cl1), -⟩ := hf
          exact sg_plain rfl rfl (or_len tu22 f_16 rfl)
        refine steps_cons (fun own a wx hf hsl hE => ?_) ?_
        · obtain ⟨(f_15 : a.eval (.tmp 15) = .int .i64 low152), (f_17 : a.eval (.tmp 17) = .int .i64 (l1.length : Int)), -⟩ := hf
          exact sg_plain rfl rfl (or_lss f_15 f_17 rfl)
        refine steps_cons (fun own a wx hf hsl hE => ?_) ?_
        · obtain ⟨(f_18 : a.eval (.tmp 18) = .bool (decide (low152 < (l1.length : Int)))), -⟩ := hf
          exact sg_plain rfl rfl (or_move f_18)
        refine steps_cons (fun own a wx hf hsl hE => ?_) ?_
        · obtain ⟨(f_19 : a.eval (.tmp 19) = .bool (decide (low152 < (l1.length : Int)))), -⟩ := hf
          obtain ⟨s_0, -⟩ := hsl
          refine sg_t rfl rfl rfl f_19 (fun hg => ?_)
          exact or_move (s_0.trans e186_0)
        refine steps_cons (fun own a wx hf hsl hE => ?_) ?_
        · obtain ⟨(f_19 : a.eval (.tmp 19) = .bool (decide (low152 < (l1.length : Int)))), -⟩ := hf
          obtain ⟨s_6, -⟩ := hsl
          refine sg_t rfl rfl rfl f_19 (fun hg => ?_)
          exact or_move (s_6.trans e186_6)
        refine steps_cons (fun own a wx hf hsl hE => ?_) ?_
        · obtain ⟨(f_19 : a.eval (.tmp 19) = .bool (decide (low152 < (l1.length : Int)))), c_20, c_21, -⟩ := hf
          refine sg_t rfl rfl rfl f_19 (fun hg => ?_)
          have f_20 : a.eval (.tmp 20) = .slice Al1 l1.length cl1 := c_20.1 hg
          have f_21 : a.eval (.tmp 21) = .int .i64 low152 := c_21.1 hg
          exact or_index (R := R3) (l := l1) tl22 f_20 f_21 (RdO.some_ b186_Al1 (gd_t hx188 hg)) (gd_t hx188 hg)
        refine steps_cons (fun own a wx hf hsl hE => ?_) ?_
        · obtain ⟨(f_19 : a.eval (.tmp 19) = .bool (decide (low152 < (l1.length : Int)))), c_22, -⟩ := hf
          refine sg_t rfl rfl rfl f_19 (fun hg => ?_)
          have f_22 : a.eval (.tmp 22) = .pointer (some ((adr Al1).add ((low152 : Int).toNat * R3.s))) := c_22.1 hg
          exact or_load1 to3 f_22 (CellsAt.zero (RdO.cells (F := E3) (RdO.evo rfl hE b186_Al1) (gd_t hx188 hg)) rfl)
        refine steps_cons (fun own a wx hf hsl hE => ?_) ?_
        · obtain ⟨(f_19 : a.eval (.tmp 19) = .bool (decide (low152 < (l1.length : Int)))), -⟩ := hf
          obtain ⟨s_1, -⟩ := hsl
          refine sg_t rfl rfl rfl f_19 (fun hg => ?_)
          exact or_move (s_1.trans e186_1)
        refine steps_cons (fun own a wx hf hsl hE => ?_) ?_
        · obtain ⟨(f_19 : a.eval (.tmp 19) = .bool (decide (low152 < (l1.length : Int)))), c_23, c_24, -⟩ := hf
          refine sg_t rfl rfl rfl f_19 (fun hg => ?_)
          have f_23 : a.eval (.tmp 23) = .int .i64 x188 := c_23.1 hg
          have f_24 : a.eval (.tmp 24) = .int .i64 n2 := c_24.1 hg
          exact or_eql f_23 f_24 rfl
        refine steps_cons (fun own a wx hf hsl hE => ?_) ?_
        · obtain ⟨(f_19 : a.eval (.tmp 19) = .bool (decide (low152 < (l1.length : Int)))), c_25, -⟩ := hf
          exact sg_plain rfl rfl (or_and f_19 (fun hx => c_25.1 hx) rfl (osome hx189).symm)
        refine steps_cons (fun own a wx hf hsl hE => ?_) ?_
        · obtain ⟨(f_14 : a.eval (.tmp 14) = .int .i64 low152), -⟩ := hf
          exact sg_plain rfl rfl (or_assign f_14)
        refine steps_cons (fun own a wx hf hsl hE => ?_) ?_
        · obtain ⟨(f_26 : a.eval (.tmp 26) = .bool x189), -⟩ := hf
          exact sg_plain rfl rfl (or_assign f_26)
        exact steps_nil
      intro own190 a190 w190 hd190 hz190 hk190 hf190 hE190
      obtain ⟨(f_4 : a190.eval (.tmp 4) = .int .i64 low152), (f_5 : a190.eval (.tmp 5) = .bool x189), -⟩ := hf190 [13, 14] rfl
      have e190_4 := f_4
      have e190_5 := f_5
      have hX190 := Evo.step hX186 (fun _ => Nat.le_refl 0) hE190 rfl
      refine fl_ret ?_
      refine hp185 _ _ _ rfl ?_
      replace hs := hz182 _ hs
      refine hp182.leaves _ _ _ rfl ?_
      obtain rfl := osome hs
      exact hret _ _ _ _ (.inl rfl) hd190 (results2_ rfl (RVal.tmp_ e190_4) (RVal.tmp_ e190_5)) ⟨own190, rfl, hX190⟩
    refine fl_skip ?_
    refine hn185 _ _ ?_
    refine fl_seq (fun Q191 hn191 hp191 => ?_)
    have K201 : ∀ (a201 : Act) (w201 : World) (own201 : Own) (low199 : Int) (high200 : Int), a201.defers = [] → a201.tmps.size = 42 → a201.eval (.tmp 0) = .slice Al1 l1.length cl1 → a201.eval (.tmp 1) = .int .i64 n2 → a201.eval (.tmp 6) = .int .i64 low199 → a201.eval (.tmp 7) = .int .i64 high200 → Evo [] (fun _ => 0) own201 w w201 → RdO own201 [0] w201 R3 Al1 cl1 l1 → order_Find_k2 low199 high200 = some zz181 → Q191 .normal a201 w201 := by
      intro a201 w201 own201 low199 high200 hd202 hz202 e202_0 e202_1 e202_6 e202_7 hE202 b202_Al1 hs
      refine hn191 _ _ ?_
      refine fl_goto ?_
      exact hj182 (low199, high200) _ _ hs ⟨own201, hd202, hz202, e202_0, e202_1, e202_6, e202_7, hE202, b202_Al1⟩
    obtain ⟨x203, hx203, hs⟩ := obind hs
    refine rg_plain_seq (n := 42) (rs := []) (own0 := own186) (K := [])
        (bs := [0, 0, 0, 6, 14, 31, 63])
        (ds := [⟨[], [6], [], Fct.val 27 (.int .i64 low152)⟩,
        ⟨[], [7], [], Fct.val 28 (.int .i64 high153)⟩,
        ⟨[], [6], [], Fct.val 29 (.int .i64 low152)⟩,
        ⟨[1, 2], [], [], Fct.val 30 (.int .i64 (sb high153 low152))⟩,
        ⟨[3], [], [], Fct.val 31 (.int .i64 x203)⟩,
        ⟨[0, 4], [], [], Fct.val 32 (.int .i64 (ad low152 x203))⟩,
        ⟨[5], [], [], Fct.val 8 (.int .i64 (ad low152 x203))⟩]) (by kernel_rfl) hz186 hd186 (fun _ h => nomatch h) ?_ ?_
    · refine steps_cons (fun own a wx hf hsl hE => ?_) ?_
      · obtain ⟨s_6, -⟩ := hsl
        exact sg_plain rfl rfl (or_move (s_6.trans e186_6))
      refine steps_cons (fun own a wx hf hsl hE => ?_) ?_
      · obtain ⟨s_7, -⟩ := hsl
        exact sg_plain rfl rfl (or_move (s_7.trans e186_7))
      refine steps_cons (fun own a wx hf hsl hE => ?_) ?_
      · obtain ⟨s_6, -⟩ := hsl
        exact sg_plain rfl rfl (or_move (s_6.trans e186_6))
      refine steps_cons (fun own a wx hf hsl hE => ?_) ?_
      · obtain ⟨(f_28 : a.eval (.tmp 28) = .int .i64 high153), (f_29 : a.eval (.tmp 29) = .int .i64 low152), -⟩ := hf
        exact sg_plain rfl rfl (or_sub f_28 f_29 rfl)
      refine steps_cons (fun own a wx hf hsl hE => ?_) ?_
      · obtain ⟨(f_30 : a.eval (.tmp 30) = .int .i64 (sb high153 low152)), -⟩ := hf
        exact sg_plain rfl rfl (or_quo f_30 rfl hx203)
      refine steps_cons (fun own a wx hf hsl hE => ?_) ?_
      · obtain ⟨(f_27 : a.eval (.tmp 27) = .int .i64 low152), (f_31 : a.eval (.tmp 31) = .int .i64 x203), -⟩ := hf
        exact sg_plain rfl rfl (or_add f_27 f_31 rfl)
      refine steps_cons (fun own a wx hf hsl hE => ?_) ?_
      · obtain ⟨(f_32 : a.eval (.tmp 32) = .int .i64 (ad low152 x203)), -⟩ := hf
        exact sg_plain rfl rfl (or_assign f_32)
      exact steps_nil
    intro own204 a204 w204 hd204 hz204 hk204 hf204 hE204
    have e204_0 : a204.eval (.tmp 0) = .slice Al1 l1.length cl1 := (hk204 0 rfl).trans e186_0
    have e204_1 : a204.eval (.tmp 1) = .int .i64 n2 := (hk204 1 rfl).trans e186_1
    have e204_6 : a204.eval (.tmp 6) = .int .i64 low152 := (hk204 6 rfl).trans e186_6
    have e204_7 : a204.eval (.tmp 7) = .int .i64 high153 := (hk204 7 rfl).trans e186_7
    obtain ⟨(f_8 : a204.eval (.tmp 8) = .int .i64 (ad low152 x203)), -⟩ := hf204 [6] rfl
    have e204_8 := f_8
    have hX204 := Evo.step hX186 (fun _ => Nat.le_refl 0) hE204 rfl
    have b204_Al1 := RdO.evo rfl hE204 b186_Al1
    obtain ⟨x205, hx205, hs⟩ := obind hs
    refine rg_plain_seq (n := 42) (rs := []) (own0 := own204) (K := [])
        (bs := [0, 0, 3, 7, 0, 31])
        (ds := [⟨[], [0], [], Fct.val 33 (.slice Al1 l1.length cl1)⟩,
        ⟨[], [8], [], Fct.val 34 (.int .i64 (ad low152 x203))⟩,
        ⟨[0, 1], [], [], Fct.val 35 (.pointer (some ((adr Al1).add ((ad low152 x203 : Int).toNat * R3.s))))⟩,
        ⟨[2], [], [], Fct.val 36 (.int .i64 x205)⟩,
        ⟨[], [1], [], Fct.val 37 (.int .i64 n2)⟩,
        ⟨[3, 4], [], [], Fct.val 38 (.bool (decide (x205 < n2)))⟩]) (by kernel_rfl) hz204 hd204 (fun _ h => nomatch h) ?_ ?_
    · refine steps_cons (fun own a wx hf hsl hE => ?_) ?_
      · obtain ⟨s_0, -⟩ := hsl
        exact sg_plain rfl rfl (or_move (s_0.trans e204_0))
      refine steps_cons (fun own a wx hf hsl hE => ?_) ?_
      · obtain ⟨s_8, -⟩ := hsl
        exact sg_plain rfl rfl (or_move (s_8.trans e204_8))
      refine steps_cons (fun own a wx hf hsl hE => ?_) ?_
      · obtain ⟨(f_33 : a.eval (.tmp 33) = .slice Al1 l1.length cl1), (f_34 : a.eval (.tmp 34) = .int .i64 (ad low152 x203)), -⟩ := hf
        exact sg_plain rfl rfl (or_index (R := R3) (l := l1) tl22 f_33 f_34 (RdO.some_ b204_Al1 hx205) hx205)
      refine steps_cons (fun own a wx hf hsl hE => ?_) ?_
      · obtain ⟨(f_35 : a.eval (.tmp 35) = .pointer (some ((adr Al1).add ((ad low152 x203 : Int).toNat * R3.s)))), -⟩ := hf
        exact sg_plain rfl rfl (or_load1 to3 f_35 (CellsAt.zero (RdO.cells (F := E3) (RdO.evo rfl hE b204_Al1) hx205) rfl))
      refine steps_cons (fun own a wx hf hsl hE => ?_) ?_
      · obtain ⟨s_1, -⟩ := hsl
        exact sg_plain rfl rfl (or_move (s_1.trans e204_1))
      refine steps_cons (fun own a wx hf hsl hE => ?_) ?_
      · obtain ⟨(f_36 : a.eval (.tmp 36) = .int .i64 x205), (f_37 : a.eval (.tmp 37) = .int .i64 n2), -⟩ := hf
        exact sg_plain rfl rfl (or_lss f_36 f_37 rfl)
      exact steps_nil
    intro own206 a206 w206 hd206 hz206 hk206 hf206 hE206
    have e206_0 : a206.eval (.tmp 0) = .slice Al1 l1.length cl1 := (hk206 0 rfl).trans e204_0
    have e206_1 : a206.eval (.tmp 1) = .int .i64 n2 := (hk206 1 rfl).trans e204_1
    have e206_6 : a206.eval (.tmp 6) = .int .i64 low152 := (hk206 6 rfl).trans e204_6
    have e206_7 : a206.eval (.tmp 7) = .int .i64 high153 := (hk206 7 rfl).trans e204_7
    have e206_8 : a206.eval (.tmp 8) = .int .i64 (ad low152 x203) := (hk206 8 rfl).trans e204_8
    obtain ⟨(f_38 : a206.eval (.tmp 38) = .bool (decide (x205 < n2))), -⟩ := hf206 [5] rfl
    have e206_38 := f_38
    have hX206 := Evo.step hX204 (fun _ => Nat.le_refl 0) hE206 rfl
    have b206_Al1 := RdO.evo rfl hE206 b204_Al1
    refine fl_cond e206_38 hs (fun c207 hs => ?_) (fun c207 hs => ?_)
    · refine rg_plain (n := 42) (rs := []) (own0 := own206) (K := [])
          (bs := [0, 1, 3])
          (ds := [⟨[], [8], [], Fct.val 39 (.int .i64 (ad low152 x203))⟩,
          ⟨[0], [], [], Fct.val 40 (.int .i64 (ad (ad low152 x203) 1))⟩,
          ⟨[1], [], [], Fct.val 6 (.int .i64 (ad (ad low152 x203) 1))⟩]) (by kernel_rfl) hz206 hd206 (fun _ h => nomatch h) ?_ ?_
      · refine steps_cons (fun own a wx hf hsl hE => ?_) ?_
        · obtain ⟨s_8, -⟩ := hsl
          exact sg_plain rfl rfl (or_move (s_8.trans e206_8))
        refine steps_cons (fun own a wx hf hsl hE => ?_) ?_
        · obtain ⟨(f_39 : a.eval (.tmp 39) = .int .i64 (ad low152 x203)), -⟩ := hf
          exact sg_plain rfl rfl (or_add f_39 rfl rfl)
        refine steps_cons (fun own a wx hf hsl hE => ?_) ?_
        · obtain ⟨(f_40 : a.eval (.tmp 40) = .int .i64 (ad (ad low152 x203) 1)), -⟩ := hf
          exact sg_plain rfl rfl (or_assign f_40)
        exact steps_nil
      intro own208 a208 w208 hd208 hz208 hk208 hf208 hE208
      have e208_0 : a208.eval (.tmp 0) = .slice Al1 l1.length cl1 := (hk208 0 rfl).trans e206_0
      have e208_1 : a208.eval (.tmp 1) = .int .i64 n2 := (hk208 1 rfl).trans e206_1
      have e208_7 : a208.eval (.tmp 7) = .int .i64 high153 := (hk208 7 rfl).trans e206_7
      obtain ⟨(f_6 : a208.eval (.tmp 6) = .int .i64 (ad (ad low152 x203) 1)), -⟩ := hf208 [2] rfl
      have e208_6 := f_6
      have hX208 := Evo.step hX206 (fun _ => Nat.le_refl 0) hE208 rfl
      have b208_Al1 := RdO.evo rfl hE208 b206_Al1
      exact (K201 _ _ own208 _ _ hd208 hz208 e208_0 e208_1 e208_6 e208_7 hX208 b208_Al1 hs)
    refine rg_plain (n := 42) (rs := []) (own0 := own206) (K := [])
        (bs := [0, 1])
        (ds := [⟨[], [8], [], Fct.val 41 (.int .i64 (ad low152 x203))⟩,
        ⟨[0], [], [], Fct.val 7 (.int .i64 (ad low152 x203))⟩]) (by kernel_rfl) hz206 hd206 (fun _ h => nomatch h) ?_ ?_
    · refine steps_cons (fun own a wx hf hsl hE => ?_) ?_
      · obtain ⟨s_8, -⟩ := hsl
        exact sg_plain rfl rfl (or_move (s_8.trans e206_8))
      refine steps_cons (fun own a wx hf hsl hE => ?_) ?_
      · obtain ⟨(f_41 : a.eval (.tmp 41) = .int .i64 (ad low152 x203)), -⟩ := hf
        exact sg_plain rfl rfl (or_assign f_41)
      exact steps_nil
    intro own209 a209 w209 hd209 hz209 hk209 hf209 hE209
    have e209_0 : a209.eval (.tmp 0) = .slice Al1 l1.length cl1 := (hk209 0 rfl).trans e206_0
    have e209_1 : a209.eval (.tmp 1) = .int .i64 n2 := (hk209 1 rfl).trans e206_1
    have e209_6 : a209.eval (.tmp 6) = .int .i64 low152 := (hk209 6 rfl).trans e206_6
    obtain ⟨(f_7 : a209.eval (.tmp 7) = .int .i64 (ad low152 x203)), -⟩ := hf209 [1] rfl
    have e209_7 := f_7
    have hX209 := Evo.step hX206 (fun _ => Nat.le_refl 0) hE209 rfl
    have b209_Al1 := RdO.evo rfl hE209 b206_Al1
    exact (K201 _ _ own209 _ _ hd209 hz209 e209_0 e209_1 e209_6 e209_7 hX209 b209_Al1 hs)

theorem order_Strips_w (w : World) (l1 : List Int) (Al1 : Option Addr) (cl1 : Nat) (n2 : Int) (hl1 : RdO (fun _ => 0) [0] w R3 Al1 cl1 l1) (r : Int × Int) (hs : order_Strips l1 n2 = some r) :
    Calls Try.prog 8 #[.slice Al1 l1.length cl1, .int .i64 n2] w fun e w' => ∃ own' : Own, e = .returned (.tuple #[.int .i64 r.1, .int .i64 r.2]) ∧ Evo [] (fun _ => 0) own' w w' := by
  refine fl_enter (n := 35) rfl rfl rfl (Nat.le_of_ble_eq_true rfl) ?_
  intro a0 Q hd0 hz0 harg hret
  have ha0 := harg 0 _ rfl
  have ha1 := harg 1 _ rfl
  clear harg
  have hE0 : Evo [] (fun _ => 0) (fun _ => 0) w w := Evo.refl _ _ _
  refine rg_plain_seq (n := 35) (rs := []) (own0 := (fun _ => 0)) (K := [])
      (bs := [0, 1])
      (ds := [⟨[], [], [], Fct.val 4 (.int .i64 0)⟩,
      ⟨[], [], [], Fct.val 5 (.int .i64 0)⟩]) (by kernel_rfl) hz0 hd0 (fun _ h => nomatch h) ?_ ?_
  · refine steps_cons (fun own a wx hf hsl hE => ?_) ?_
    · exact sg_plain rfl rfl (or_assign rfl)
    refine steps_cons (fun own a wx hf hsl hE => ?_) ?_
    · exact sg_plain rfl rfl (or_assign rfl)
    exact steps_nil
  intro own44 a44 w44 hd44 hz44 hk44 hf44 hE44
  have e44_0 : a44.eval (.tmp 0) = .slice Al1 l1.length cl1 := (hk44 0 rfl).trans ha0
  have e44_1 : a44.eval (.tmp 1) = .int .i64 n2 := (hk44 1 rfl).trans ha1
  have hX44 := Evo.step hE0 (fun _ => Nat.le_refl 0) hE44 rfl
  have b44_Al1 := RdO.evo rfl hE44 hl1
  obtain ⟨r45, hr45, hs⟩ := obind hs
  refine rg_plain_seq (n := 35) (rs := []) (own0 := own44) (K := [])
      (bs := [0, 0, 3, 7, 15, 15, 31, 127])
      (ds := [⟨[], [0], [], Fct.val 10 (.slice Al1 l1.length cl1)⟩,
      ⟨[], [1], [], Fct.val 11 (.int .i64 n2)⟩,
      ⟨[0, 1], [], [], Fct.val 12 (.tuple #[.int .i64 r45.1, .bool r45.2])⟩,
      ⟨[2], [], [], Fct.val 9 (.tuple #[.int .i64 r45.1, .bool r45.2])⟩,
      ⟨[3], [], [], Fct.val 13 (.int .i64 r45.1)⟩,
      ⟨[3], [], [], Fct.val 14 (.bool r45.2)⟩,
      ⟨[4], [], [], Fct.val 6 (.int .i64 r45.1)⟩,
      ⟨[5], [], [], Fct.val 7 (.bool r45.2)⟩]) (by kernel_rfl) hz44 hd44 (fun _ h => nomatch h) ?_ ?_
  · refine steps_cons (fun own a wx hf hsl hE => ?_) ?_
    · obtain ⟨s_0, -⟩ := hsl
      exact sg_plain rfl rfl (or_move (s_0.trans e44_0))
    refine steps_cons (fun own a wx hf hsl hE => ?_) ?_
    · obtain ⟨s_1, -⟩ := hsl
      exact sg_plain rfl rfl (or_move (s_1.trans e44_1))
    refine steps_cons (fun own a wx hf hsl hE => ?_) ?_
    · obtain ⟨(f_10 : a.eval (.tmp 10) = .slice Al1 l1.length cl1), (f_11 : a.eval (.tmp 11) = .int .i64 n2), -⟩ := hf
      exact sg_plain rfl rfl (or_call cf9 (args2 f_10 f_11) (order_Find_w _ l1 Al1 cl1 n2 (RdO.zero (RdO.evo rfl hE b44_Al1)) r45 hr45) post_val)
    refine steps_cons (fun own a wx hf hsl hE => ?_) ?_
    · obtain ⟨(f_12 : a.eval (.tmp 12) = .tuple #[.int .i64 r45.1, .bool r45.2]), -⟩ := hf
      exact sg_plain rfl rfl (or_move f_12)
    refine steps_cons (fun own a wx hf hsl hE => ?_) ?_
    · obtain ⟨(f_9 : a.eval (.tmp 9) = .tuple #[.int .i64 r45.1, .bool r45.2]), -⟩ := hf
      exact sg_plain rfl rfl (or_k [(9, .tuple #[.int .i64 r45.1, .bool r45.2])] rfl rfl ⟨f_9, trivial⟩ (by kernel_rfl))
    refine steps_cons (fun own a wx hf hsl hE => ?_) ?_
    · obtain ⟨(f_9 : a.eval (.tmp 9) = .tuple #[.int .i64 r45.1, .bool r45.2]), -⟩ := hf
      exact sg_plain rfl rfl (or_k [(9, .tuple #[.int .i64 r45.1, .bool r45.2])] rfl rfl ⟨f_9, trivial⟩ (by kernel_rfl))
    refine steps_cons (fun own a wx hf hsl hE => ?_) ?_
    · obtain ⟨(f_13 : a.eval (.tmp 13) = .int .i64 r45.1), -⟩ := hf
      exact sg_plain rfl rfl (or_assign f_13)
    refine steps_cons (fun own a wx hf hsl hE => ?_) ?_
    · obtain ⟨(f_14 : a.eval (.tmp 14) = .bool r45.2), -⟩ := hf
      exact sg_plain rfl rfl (or_assign f_14)
    exact steps_nil
  intro own46 a46 w46 hd46 hz46 hk46 hf46 hE46
  have e46_0 : a46.eval (.tmp 0) = .slice Al1 l1.length cl1 := (hk46 0 rfl).trans e44_0
  have e46_1 : a46.eval (.tmp 1) = .int .i64 n2 := (hk46 1 rfl).trans e44_1
  obtain ⟨(f_6 : a46.eval (.tmp 6) = .int .i64 r45.1), (f_7 : a46.eval (.tmp 7) = .bool r45.2), -⟩ := hf46 [6, 7] rfl
  have e46_6 := f_6
  have e46_7 := f_7
  have hX46 := Evo.step hX44 (fun _ => Nat.le_refl 0) hE46 rfl
  have b46_Al1 := RdO.evo rfl hE46 b44_Al1
  refine rg_plain_seq (n := 35) (rs := []) (own0 := own46) (K := [])
      (bs := [0, 1])
      (ds := [⟨[], [6], [], Fct.val 15 (.int .i64 r45.1)⟩,
      ⟨[0], [], [], Fct.val 8 (.int .i64 r45.1)⟩]) (by kernel_rfl) hz46 hd46 (fun _ h => nomatch h) ?_ ?_
  · refine steps_cons (fun own a wx hf hsl hE => ?_) ?_
    · obtain ⟨s_6, -⟩ := hsl
      exact sg_plain rfl rfl (or_move (s_6.trans e46_6))
    refine steps_cons (fun own a wx hf hsl hE => ?_) ?_
    · obtain ⟨(f_15 : a.eval (.tmp 15) = .int .i64 r45.1), -⟩ := hf
      exact sg_plain rfl rfl (or_assign f_15)
    exact steps_nil
  intro own47 a47 w47 hd47 hz47 hk47 hf47 hE47
  have e47_0 : a47.eval (.tmp 0) = .slice Al1 l1.length cl1 := (hk47 0 rfl).trans e46_0
  have e47_1 : a47.eval (.tmp 1) = .int .i64 n2 := (hk47 1 rfl).trans e46_1
  have e47_6 : a47.eval (.tmp 6) = .int .i64 r45.1 := (hk47 6 rfl).trans e46_6
  have e47_7 : a47.eval (.tmp 7) = .bool r45.2 := (hk47 7 rfl).trans e46_7
  obtain ⟨(f_8 : a47.eval (.tmp 8) = .int .i64 r45.1), -⟩ := hf47 [1] rfl
  have e47_8 := f_8
  have hX47 := Evo.step hX46 (fun _ => Nat.le_refl 0) hE47 rfl
  have b47_Al1 := RdO.evo rfl hE47 b46_Al1
  refine fl_seq (fun Q48 hn48 hp48 => ?_)
  refine fl_block (fun Q49 hn49 hx49 hp49 => ?_)
  refine fl_loop (body := (fun s => order_Strips_b1 l1 n2 r45 s)) (z := r) (show loopO _ _ = _ from hs) (fun (last58 : Int) a wx => ∃ (ox : Own), a.defers = [] ∧ a.tmps.size = 35 ∧ a.eval (.tmp 0) = .slice Al1 l1.length cl1 ∧ a.eval (.tmp 1) = .int .i64 n2 ∧ a.eval (.tmp 6) = .int .i64 r45.1 ∧ a.eval (.tmp 7) = .bool r45.2 ∧ a.eval (.tmp 8) = .int .i64 last58 ∧ Evo [] (fun _ => 0) ox w wx ∧ RdO ox [0] wx R3 Al1 cl1 l1) ?_ ?_
  · exact ⟨own47, hd47, hz47, e47_0, e47_1, e47_6, e47_7, e47_8, hX47, b47_Al1⟩
  · rintro last58 zz67 a67 w67 ⟨own67, hd68, hz68, e68_0, e68_1, e68_6, e68_7, e68_8, hE68, b68_Al1⟩ hs Q67 hn67 hp67 hz67
    have hs : order_Strips_b1 l1 n2 r45 last58 = some zz67 := hs
    refine fl_seq (fun Q69 hn69 hp69 => ?_)
    obtain ⟨x70, hx70, hs⟩ := obind hs
    obtain ⟨x71, hx71, hs⟩ := obind hs
    refine rg_plain_seq (n := 35) (rs := []) (own0 := own67) (K := [])
        (bs := [0, 1, 3, 3, 11, 31, 63, 127, 255, 255, 1023, 2047, 255, 8191, 16383])
        (ds := [⟨[], [7], [], Fct.val 16 (.bool r45.2)⟩,
        ⟨[0], [], [], Fct.val 17 (.bool r45.2)⟩,
        ⟨[1], [8], [], Fct.cond r45.2 (some 18) (Fct.val 18 (.int .i64 last58))⟩,
        ⟨[1], [0], [], Fct.cond r45.2 (some 19) (Fct.val 19 (.slice Al1 l1.length cl1))⟩,
        ⟨[1, 3], [], [], Fct.cond r45.2 (some 20) (Fct.val 20 (.int .i64 (l1.length : Int)))⟩,
        ⟨[1, 2, 4], [], [], Fct.cond r45.2 (some 21) (Fct.val 21 (.bool (decide (last58 < (l1.length : Int)))))⟩,
        ⟨[1, 5], [], [], Fct.val 22 (.bool x70)⟩,
        ⟨[6], [], [], Fct.val 23 (.bool x70)⟩,
        ⟨[7], [0], [], Fct.cond x70 (some 24) (Fct.val 24 (.slice Al1 l1.length cl1))⟩,
        ⟨[7], [8], [], Fct.cond x70 (some 25) (Fct.val 25 (.int .i64 last58))⟩,
        ⟨[7, 8, 9], [], [], Fct.cond x70 (some 26) (Fct.val 26 (.pointer (some ((adr Al1).add ((last58 : Int).toNat * R3.s)))))⟩,
        ⟨[7, 10], [], [], Fct.cond x70 (some 27) (Fct.val 27 (.int .i64 x71))⟩,
        ⟨[7], [1], [], Fct.cond x70 (some 28) (Fct.val 28 (.int .i64 n2))⟩,
        ⟨[7, 11, 12], [], [], Fct.cond x70 (some 29) (Fct.val 29 (.bool (decide (x71 = n2))))⟩,
        ⟨[7, 13], [], [], Fct.val 30 (.bool (x70 && (decide (x71 = n2))))⟩]) (by kernel_rfl) hz68 hd68 (fun _ h => nomatch h) ?_ ?_
    · refine steps_cons (fun own a wx hf hsl hE => ?_) ?_
      · obtain ⟨s_7, -⟩ := hsl
        exact sg_plain rfl rfl (or_move (s_7.trans e68_7))
      refine steps_cons (fun own a wx hf hsl hE => ?_) ?_
      · obtain ⟨(f_16 : a.eval (.tmp 16) = .bool r45.2), -⟩ := hf
        exact sg_plain rfl rfl (or_move f_16)
      refine steps_cons (fun own a wx hf hsl hE => ?_) ?_
      · obtain ⟨(f_17 : a.eval (.tmp 17) = .bool r45.2), -⟩ := hf
        obtain ⟨s_8, -⟩ := hsl
        refine sg_t rfl rfl rfl f_17 (fun hg => ?_)
        exact or_move (s_8.trans e68_8)
      refine steps_cons (fun own a wx hf hsl hE => ?_) ?_
      · obtain ⟨(f_17 : a.eval (.tmp 17) = .bool r45.2), -⟩ := hf
        obtain ⟨s_0, -⟩ := hsl
        refine sg_t rfl rfl rfl f_17 (fun hg => ?_)
        exact or_move (s_0.trans e68_0)
      refine steps_cons (fun own a wx hf hsl hE => ?_) ?_
      · obtain ⟨(f_17 : a.eval (.tmp 17) = .bool r45.2), c_19, -⟩ := hf
        refine sg_t rfl rfl rfl f_17 (fun hg => ?_)
        have f_19 : a.eval (.tmp 19) = .slice Al1 l1.length cl1 := c_19.1 hg
        exact or_len tu22 f_19 rfl
      refine steps_cons (fun own a wx hf hsl hE => ?_) ?_
      · obtain ⟨(f_17 : a.eval (.tmp 17) = .bool r45.2), c_18, c_20, -⟩ := hf
        refine sg_t rfl rfl rfl f_17 (fun hg => ?_)
        have f_18 : a.eval (.tmp 18) = .int .i64 last58 := c_18.1 hg
        have f_20 : a.eval (.tmp 20) = .int .i64 (l1.length : Int) := c_20.1 hg
        exact or_lss f_18 f_20 rfl
      refine steps_cons (fun own a wx hf hsl hE => ?_) ?_
      · obtain ⟨(f_17 : a.eval (.tmp 17) = .bool r45.2), c_21, -⟩ := hf
        exact sg_plain rfl rfl (or_and f_17 (fun hx => c_21.1 hx) rfl (osome hx70).symm)
      refine steps_cons (fun own a wx hf hsl hE => ?_) ?_
      · obtain ⟨(f_22 : a.eval (.tmp 22) = .bool x70), -⟩ := hf
        exact sg_plain rfl rfl (or_move f_22)
      refine steps_cons (fun own a wx hf hsl hE => ?_) ?_
      · obtain ⟨(f_23 : a.eval (.tmp 23) = .bool x70), -⟩ := hf
        obtain ⟨s_0, -⟩ := hsl
        refine sg_t rfl rfl rfl f_23 (fun hg => ?_)
        exact or_move (s_0.trans e68_0)
      refine steps_cons (fun own a wx hf hsl hE => ?_) ?_
      · obtain ⟨(f_23 : a.eval (.tmp 23) = .bool x70), -⟩ := hf
        obtain ⟨s_8, -⟩ := hsl
        refine sg_t rfl rfl rfl f_23 (fun hg => ?_)
        exact or_move (s_8.trans e68_8)
      refine steps_cons (fun own a wx hf hsl hE => ?_) ?_
      · obtain ⟨(f_23 : a.eval (.tmp 23) = .bool x70), c_24, c_25, -⟩ := hf
        refine sg_t rfl rfl rfl f_23 (fun hg => ?_)
        have f_24 : a.eval (.tmp 24) = .slice Al1 l1.length cl1 := c_24.1 hg
        have f_25 : a.eval (.tmp 25) = .int .i64 last58 := c_25.1 hg
        exact or_index (R := R3) (l := l1) tl22 f_24 f_25 (RdO.some_ b68_Al1 (gd_t hx71 hg)) (gd_t hx71 hg)
      refine steps_cons (fun own a wx hf hsl hE => ?_) ?_
      · obtain ⟨(f_23 : a.eval (.tmp 23) = .bool x70), c_26, -⟩ := hf
        refine sg_t rfl rfl rfl f_23 (fun hg => ?_)
        have f_26 : a.eval (.tmp 26) = .pointer (some ((adr Al1).add ((last58 : Int).toNat * R3.s))) := c_26.1 hg
        exact or_load1 to3 f_26 (CellsAt.zero (RdO.cells (F := E3) (RdO.evo rfl hE b68_Al1) (gd_t hx71 hg)) rfl)
      refine steps_cons (fun own a wx hf hsl hE => ?_) ?_
      · obtain ⟨(f_23 : a.eval (.tmp 23) = .bool x70), -⟩ := hf
        obtain ⟨s_1, -⟩ := hsl
        refine sg_t rfl rfl rfl f_23 (fun hg => ?_)
        exact or_move (s_1.trans e68_1)
      refine steps_cons (fun own a wx hf hsl hE => ?_) ?_
      · obtain ⟨(f_23 : a.eval (.tmp 23) = .bool x70), c_27, c_28, -⟩ := hf
        refine sg_t rfl rfl rfl f_23 (fun hg => ?_)
        have f_27 : a.eval (.tmp 27) = .int .i64 x71 := c_27.1 hg
        have f_28 : a.eval (.tmp 28) = .int .i64 n2 := c_28.1 hg
        exact or_eql f_27 f_28 rfl
      refine steps_cons (fun own a wx hf hsl hE => ?_) ?_
      · obtain ⟨(f_23 : a.eval (.tmp 23) = .bool x70), c_29, -⟩ := hf
        exact sg_plain rfl rfl (or_and f_23 (fun hx => c_29.1 hx) rfl rfl)
      exact steps_nil
    intro own72 a72 w72 hd72 hz72 hk72 hf72 hE72
    have e72_0 : a72.eval (.tmp 0) = .slice Al1 l1.length cl1 := (hk72 0 rfl).trans e68_0
    have e72_1 : a72.eval (.tmp 1) = .int .i64 n2 := (hk72 1 rfl).trans e68_1
    have e72_6 : a72.eval (.tmp 6) = .int .i64 r45.1 := (hk72 6 rfl).trans e68_6
    have e72_7 : a72.eval (.tmp 7) = .bool r45.2 := (hk72 7 rfl).trans e68_7
    have e72_8 : a72.eval (.tmp 8) = .int .i64 last58 := (hk72 8 rfl).trans e68_8
    obtain ⟨(f_30 : a72.eval (.tmp 30) = .bool (x70 && (decide (x71 = n2)))), -⟩ := hf72 [14] rfl
    have e72_30 := f_30
    have hX72 := Evo.step hE68 (fun _ => Nat.le_refl 0) hE72 rfl
    have b72_Al1 := RdO.evo rfl hE72 b68_Al1
    refine fl_cond e72_30 hs (fun c73 hs => ?_) (fun c73 hs => ?_)
    · refine fl_skip ?_
      refine hn69 _ _ ?_
      refine fl_block (fun Q74 hn74 hx74 hp74 => ?_)
      refine rg_plain (n := 35) (rs := []) (own0 := own72) (K := [])
          (bs := [0, 1, 3])
          (ds := [⟨[], [8], [], Fct.val 31 (.int .i64 last58)⟩,
          ⟨[0], [], [], Fct.val 32 (.int .i64 (ad last58 1))⟩,
          ⟨[1], [], [], Fct.val 8 (.int .i64 (ad last58 1))⟩]) (by kernel_rfl) hz72 hd72 (fun _ h => nomatch h) ?_ ?_
      · refine steps_cons (fun own a wx hf hsl hE => ?_) ?_
        · obtain ⟨s_8, -⟩ := hsl
          exact sg_plain rfl rfl (or_move (s_8.trans e72_8))
        refine steps_cons (fun own a wx hf hsl hE => ?_) ?_
        · obtain ⟨(f_31 : a.eval (.tmp 31) = .int .i64 last58), -⟩ := hf
          exact sg_plain rfl rfl (or_add f_31 rfl rfl)
        refine steps_cons (fun own a wx hf hsl hE => ?_) ?_
        · obtain ⟨(f_32 : a.eval (.tmp 32) = .int .i64 (ad last58 1)), -⟩ := hf
          exact sg_plain rfl rfl (or_assign f_32)
        exact steps_nil
      intro own75 a75 w75 hd75 hz75 hk75 hf75 hE75
      have e75_0 : a75.eval (.tmp 0) = .slice Al1 l1.length cl1 := (hk75 0 rfl).trans e72_0
      have e75_1 : a75.eval (.tmp 1) = .int .i64 n2 := (hk75 1 rfl).trans e72_1
      have e75_6 : a75.eval (.tmp 6) = .int .i64 r45.1 := (hk75 6 rfl).trans e72_6
      have e75_7 : a75.eval (.tmp 7) = .bool r45.2 := (hk75 7 rfl).trans e72_7
      obtain ⟨(f_8 : a75.eval (.tmp 8) = .int .i64 (ad last58 1)), -⟩ := hf75 [2] rfl
      have e75_8 := f_8
      have hX75 := Evo.step hX72 (fun _ => Nat.le_refl 0) hE75 rfl
      have b75_Al1 := RdO.evo rfl hE75 b72_Al1
      refine hn74 _ _ ?_
      exact hn67 _ _ _ hs ⟨own75, hd75, hz75, e75_0, e75_1, e75_6, e75_7, e75_8, hX75, b75_Al1⟩
    refine fl_exit ?_
    refine hp69 _ _ _ rfl ?_
    replace hs := hz67 _ hs
    refine hp67 _ _ _ rfl ?_
    refine hx49 _ _ ?_
    refine hn48 _ _ ?_
    refine rg_plain_seq (n := 35) (rs := []) (own0 := own72) (K := [])
        (bs := [0, 0, 1, 7])
        (ds := [⟨[], [6], [], Fct.val 33 (.int .i64 r45.1)⟩,
        ⟨[], [8], [], Fct.val 34 (.int .i64 last58)⟩,
        ⟨[0], [], [], Fct.val 4 (.int .i64 r45.1)⟩,
        ⟨[1], [], [], Fct.val 5 (.int .i64 last58)⟩]) (by kernel_rfl) hz72 hd72 (fun _ h => nomatch h) ?_ ?_
    · refine steps_cons (fun own a wx hf hsl hE => ?_) ?_
      · obtain ⟨s_6, -⟩ := hsl
        exact sg_plain rfl rfl (or_move (s_6.trans e72_6))
      refine steps_cons (fun own a wx hf hsl hE => ?_) ?_
      · obtain ⟨s_8, -⟩ := hsl
        exact sg_plain rfl rfl (or_move (s_8.trans e72_8))
      refine steps_cons (fun own a wx hf hsl hE => ?_) ?_
      · obtain ⟨(f_33 : a.eval (.tmp 33) = .int .i64 r45.1), -⟩ := hf
        exact sg_plain rfl rfl (or_assign f_33)
      refine steps_cons (fun own a wx hf hsl hE => ?_) ?_
      · obtain ⟨(f_34 : a.eval (.tmp 34) = .int .i64 last58), -⟩ := hf
        exact sg_plain rfl rfl (or_assign f_34)
      exact steps_nil
    intro own76 a76 w76 hd76 hz76 hk76 hf76 hE76
    obtain ⟨(f_4 : a76.eval (.tmp 4) = .int .i64 r45.1), (f_5 : a76.eval (.tmp 5) = .int .i64 last58), -⟩ := hf76 [2, 3] rfl
    have e76_4 := f_4
    have e76_5 := f_5
    have hX76 := Evo.step hX72 (fun _ => Nat.le_refl 0) hE76 rfl
    refine fl_ret ?_
    obtain rfl := osome hs
    exact hret _ _ _ _ (.inl rfl) hd76 (results2_ rfl (RVal.tmp_ e76_4) (RVal.tmp_ e76_5)) ⟨own76, rfl, hX76⟩

theorem order_Common_w (w : World) (l1 : List Int) (Al1 : Option Addr) (cl1 : Nat) (x2 : Int) (b3 : Int) (hl1 : RdO (fun _ => 0) [0] w R3 Al1 cl1 l1) (r : Bool) (hs : order_Common l1 x2 b3 = some r) :
    Calls Try.prog 11 #[.slice Al1 l1.length cl1, .int .i64 x2, .int .i64 b3] w fun e w' => ∃ own' : Own, e = .returned (.bool r) ∧ Evo [] (fun _ => 0) own' w w' := by
  refine fl_enter (n := 31) rfl rfl rfl (Nat.le_of_ble_eq_true rfl) ?_
  intro a0 Q hd0 hz0 harg hret
  have ha0 := harg 0 _ rfl
  have ha1 := harg 1 _ rfl
  have ha2 := harg 2 _ rfl
  clear harg
  have hE0 : Evo [] (fun _ => 0) (fun _ => 0) w w := Evo.refl _ _ _
  refine rg_plain_seq (n := 31) (rs := []) (own0 := (fun _ => 0)) (K := [])
      (bs := [0])
      (ds := [⟨[], [], [], Fct.val 6 (.bool false)⟩]) (by kernel_rfl) hz0 hd0 (fun _ h => nomatch h) ?_ ?_
  · refine steps_cons (fun own a wx hf hsl hE => ?_) ?_
    · exact sg_plain rfl rfl (or_assign rfl)
    exact steps_nil
  intro own18 a18 w18 hd18 hz18 hk18 hf18 hE18
  have e18_0 : a18.eval (.tmp 0) = .slice Al1 l1.length cl1 := (hk18 0 rfl).trans ha0
  have e18_1 : a18.eval (.tmp 1) = .int .i64 x2 := (hk18 1 rfl).trans ha1
  have e18_2 : a18.eval (.tmp 2) = .int .i64 b3 := (hk18 2 rfl).trans ha2
  have hX18 := Evo.step hE0 (fun _ => Nat.le_refl 0) hE18 rfl
  have b18_Al1 := RdO.evo rfl hE18 hl1
  obtain ⟨r19, hr19, hs⟩ := obind hs
  refine rg_plain_seq (n := 31) (rs := []) (own0 := own18) (K := [])
      (bs := [0, 0, 3, 7, 15, 15, 31, 127])
      (ds := [⟨[], [0], [], Fct.val 12 (.slice Al1 l1.length cl1)⟩,
      ⟨[], [1], [], Fct.val 13 (.int .i64 x2)⟩,
      ⟨[0, 1], [], [], Fct.val 14 (.tuple #[.int .i64 r19.1, .int .i64 r19.2])⟩,
      ⟨[2], [], [], Fct.val 11 (.tuple #[.int .i64 r19.1, .int .i64 r19.2])⟩,
      ⟨[3], [], [], Fct.val 15 (.int .i64 r19.1)⟩,
      ⟨[3], [], [], Fct.val 16 (.int .i64 r19.2)⟩,
      ⟨[4], [], [], Fct.val 7 (.int .i64 r19.1)⟩,
      ⟨[5], [], [], Fct.val 8 (.int .i64 r19.2)⟩]) (by kernel_rfl) hz18 hd18 (fun _ h => nomatch h) ?_ ?_
  · refine steps_cons (fun own a wx hf hsl hE => ?_) ?_
    · obtain ⟨s_0, -⟩ := hsl
      exact sg_plain rfl rfl (or_move (s_0.trans e18_0))
    refine steps_cons (fun own a wx hf hsl hE => ?_) ?_
    · obtain ⟨s_1, -⟩ := hsl
      exact sg_plain rfl rfl (or_move (s_1.trans e18_1))
    refine steps_cons (fun own a wx hf hsl hE => ?_) ?_
    · obtain ⟨(f_12 : a.eval (.tmp 12) = .slice Al1 l1.length cl1), (f_13 : a.eval (.tmp 13) = .int .i64 x2), -⟩ := hf
      exact sg_plain rfl rfl (or_call cf8 (args2 f_12 f_13) (order_Strips_w _ l1 Al1 cl1 x2 (RdO.zero (RdO.evo rfl hE b18_Al1)) r19 hr19) post_val)
    refine steps_cons (fun own a wx hf hsl hE => ?_) ?_
    · obtain ⟨(f_14 : a.eval (.tmp 14) = .tuple #[.int .i64 r19.1, .int .i64 r19.2]), -⟩ := hf
      exact sg_plain rfl rfl (or_move f_14)
    refine steps_cons (fun own a wx hf hsl hE => ?_) ?_
    · obtain ⟨(f_11 : a.eval (.tmp 11) = .tuple #[.int .i64 r19.1, .int .i64 r19.2]), -⟩ := hf
      exact sg_plain rfl rfl (or_k [(11, .tuple #[.int .i64 r19.1, .int .i64 r19.2])] rfl rfl ⟨f_11, trivial⟩ (by kernel_rfl))
    refine steps_cons (fun own a wx hf hsl hE => ?_) ?_
    · obtain ⟨(f_11 : a.eval (.tmp 11) = .tuple #[.int .i64 r19.1, .int .i64 r19.2]), -⟩ := hf
      exact sg_plain rfl rfl (or_k [(11, .tuple #[.int .i64 r19.1, .int .i64 r19.2])] rfl rfl ⟨f_11, trivial⟩ (by kernel_rfl))
    refine steps_cons (fun own a wx hf hsl hE => ?_) ?_
    · obtain ⟨(f_15 : a.eval (.tmp 15) = .int .i64 r19.1), -⟩ := hf
      exact sg_plain rfl rfl (or_assign f_15)
    refine steps_cons (fun own a wx hf hsl hE => ?_) ?_
    · obtain ⟨(f_16 : a.eval (.tmp 16) = .int .i64 r19.2), -⟩ := hf
      exact sg_plain rfl rfl (or_assign f_16)
    exact steps_nil
  intro own20 a20 w20 hd20 hz20 hk20 hf20 hE20
  have e20_0 : a20.eval (.tmp 0) = .slice Al1 l1.length cl1 := (hk20 0 rfl).trans e18_0
  have e20_2 : a20.eval (.tmp 2) = .int .i64 b3 := (hk20 2 rfl).trans e18_2
  obtain ⟨(f_7 : a20.eval (.tmp 7) = .int .i64 r19.1), (f_8 : a20.eval (.tmp 8) = .int .i64 r19.2), -⟩ := hf20 [6, 7] rfl
  have e20_7 := f_7
  have e20_8 := f_8
  have hX20 := Evo.step hX18 (fun _ => Nat.le_refl 0) hE20 rfl
  have b20_Al1 := RdO.evo rfl hE20 b18_Al1
  obtain ⟨r21, hr21, hs⟩ := obind hs
  refine rg_plain_seq (n := 31) (rs := []) (own0 := own20) (K := [])
      (bs := [0, 0, 3, 7, 15, 15, 31, 127])
      (ds := [⟨[], [0], [], Fct.val 18 (.slice Al1 l1.length cl1)⟩,
      ⟨[], [2], [], Fct.val 19 (.int .i64 b3)⟩,
      ⟨[0, 1], [], [], Fct.val 20 (.tuple #[.int .i64 r21.1, .int .i64 r21.2])⟩,
      ⟨[2], [], [], Fct.val 17 (.tuple #[.int .i64 r21.1, .int .i64 r21.2])⟩,
      ⟨[3], [], [], Fct.val 21 (.int .i64 r21.1)⟩,
      ⟨[3], [], [], Fct.val 22 (.int .i64 r21.2)⟩,
      ⟨[4], [], [], Fct.val 9 (.int .i64 r21.1)⟩,
      ⟨[5], [], [], Fct.val 10 (.int .i64 r21.2)⟩]) (by kernel_rfl) hz20 hd20 (fun _ h => nomatch h) ?_ ?_
  · refine steps_cons (fun own a wx hf hsl hE => ?_) ?_
    · obtain ⟨s_0, -⟩ := hsl
      exact sg_plain rfl rfl (or_move (s_0.trans e20_0))
    refine steps_cons (fun own a wx hf hsl hE => ?_) ?_
    · obtain ⟨s_2, -⟩ := hsl
      exact sg_plain rfl rfl (or_move (s_2.trans e20_2))
    refine steps_cons (fun own a wx hf hsl hE => ?_) ?_
    · obtain ⟨(f_18 : a.eval (.tmp 18) = .slice Al1 l1.length cl1), (f_19 : a.eval (.tmp 19) = .int .i64 b3), -⟩ := hf
      exact sg_plain rfl rfl (or_call cf8 (args2 f_18 f_19) (order_Strips_w _ l1 Al1 cl1 b3 (RdO.zero (RdO.evo rfl hE b20_Al1)) r21 hr21) post_val)
    refine steps_cons (fun own a wx hf hsl hE => ?_) ?_
    · obtain ⟨(f_20 : a.eval (.tmp 20) = .tuple #[.int .i64 r21.1, .int .i64 r21.2]), -⟩ := hf
      exact sg_plain rfl rfl (or_move f_20)
    refine steps_cons (fun own a wx hf hsl hE => ?_) ?_
    · obtain ⟨(f_17 : a.eval (.tmp 17) = .tuple #[.int .i64 r21.1, .int .i64 r21.2]), -⟩ := hf
      exact sg_plain rfl rfl (or_k [(17, .tuple #[.int .i64 r21.1, .int .i64 r21.2])] rfl rfl ⟨f_17, trivial⟩ (by kernel_rfl))
    refine steps_cons (fun own a wx hf hsl hE => ?_) ?_
    · obtain ⟨(f_17 : a.eval (.tmp 17) = .tuple #[.int .i64 r21.1, .int .i64 r21.2]), -⟩ := hf
      exact sg_plain rfl rfl (or_k [(17, .tuple #[.int .i64 r21.1, .int .i64 r21.2])] rfl rfl ⟨f_17, trivial⟩ (by kernel_rfl))
    refine steps_cons (fun own a wx hf hsl hE => ?_) ?_
    · obtain ⟨(f_21 : a.eval (.tmp 21) = .int .i64 r21.1), -⟩ := hf
      exact sg_plain rfl rfl (or_assign f_21)
    refine steps_cons (fun own a wx hf hsl hE => ?_) ?_
    · obtain ⟨(f_22 : a.eval (.tmp 22) = .int .i64 r21.2), -⟩ := hf
      exact sg_plain rfl rfl (or_assign f_22)
    exact steps_nil
  intro own22 a22 w22 hd22 hz22 hk22 hf22 hE22
  have e22_7 : a22.eval (.tmp 7) = .int .i64 r19.1 := (hk22 7 rfl).trans e20_7
  have e22_8 : a22.eval (.tmp 8) = .int .i64 r19.2 := (hk22 8 rfl).trans e20_8
  obtain ⟨(f_9 : a22.eval (.tmp 9) = .int .i64 r21.1), (f_10 : a22.eval (.tmp 10) = .int .i64 r21.2), -⟩ := hf22 [6, 7] rfl
  have e22_9 := f_9
  have e22_10 := f_10
  have hX22 := Evo.step hX20 (fun _ => Nat.le_refl 0) hE22 rfl
  obtain ⟨x23, hx23, hs⟩ := obind hs
  refine rg_plain_seq (n := 31) (rs := []) (own0 := own22) (K := [])
      (bs := [0, 0, 3, 7, 15, 15, 63, 127, 255])
      (ds := [⟨[], [7], [], Fct.val 23 (.int .i64 r19.1)⟩,
      ⟨[], [10], [], Fct.val 24 (.int .i64 r21.2)⟩,
      ⟨[0, 1], [], [], Fct.val 25 (.bool (decide (r19.1 ≤ r21.2)))⟩,
      ⟨[2], [], [], Fct.val 26 (.bool (decide (r19.1 ≤ r21.2)))⟩,
      ⟨[3], [9], [], Fct.cond (decide (r19.1 ≤ r21.2)) (some 27) (Fct.val 27 (.int .i64 r21.1))⟩,
      ⟨[3], [8], [], Fct.cond (decide (r19.1 ≤ r21.2)) (some 28) (Fct.val 28 (.int .i64 r19.2))⟩,
      ⟨[3, 4, 5], [], [], Fct.cond (decide (r19.1 ≤ r21.2)) (some 29) (Fct.val 29 (.bool (decide (r21.1 ≤ r19.2))))⟩,
      ⟨[3, 6], [], [], Fct.val 30 (.bool x23)⟩,
      ⟨[7], [], [], Fct.val 6 (.bool x23)⟩]) (by kernel_rfl) hz22 hd22 (fun _ h => nomatch h) ?_ ?_
  · refine steps_cons (fun own a wx hf hsl hE => ?_) ?_
    · obtain ⟨s_7, -⟩ := hsl
      exact sg_plain rfl rfl (or_move (s_7.trans e22_7))
    refine steps_cons (fun own a wx hf hsl hE => ?_) ?_
    · obtain ⟨s_10, -⟩ := hsl
      exact sg_plain rfl rfl (or_move (s_10.trans e22_10))
    refine steps_cons (fun own a wx hf hsl hE => ?_) ?_
    · obtain ⟨(f_23 : a.eval (.tmp 23) = .int .i64 r19.1), (f_24 : a.eval (.tmp 24) = .int .i64 r21.2), -⟩ := hf
      exact sg_plain rfl rfl (or_leq f_23 f_24 rfl)
    refine steps_cons (fun own a wx hf hsl hE => ?_) ?_
    · obtain ⟨(f_25 : a.eval (.tmp 25) = .bool (decide (r19.1 ≤ r21.2))), -⟩ := hf
      exact sg_plain rfl rfl (or_move f_25)
    refine steps_cons (fun own a wx hf hsl hE => ?_) ?_
    · obtain ⟨(f_26 : a.eval (.tmp 26) = .bool (decide (r19.1 ≤ r21.2))), -⟩ := hf
      obtain ⟨s_9, -⟩ := hsl
      refine sg_t rfl rfl rfl f_26 (fun hg => ?_)
      exact or_move (s_9.trans e22_9)
    refine steps_cons (fun own a wx hf hsl hE => ?_) ?_
    · obtain ⟨(f_26 : a.eval (.tmp 26) = .bool (decide (r19.1 ≤ r21.2))), -⟩ := hf
      obtain ⟨s_8, -⟩ := hsl
      refine sg_t rfl rfl rfl f_26 (fun hg => ?_)
      exact or_move (s_8.trans e22_8)
    refine steps_cons (fun own a wx hf hsl hE => ?_) ?_
    · obtain ⟨(f_26 : a.eval (.tmp 26) = .bool (decide (r19.1 ≤ r21.2))), c_27, c_28, -⟩ := hf
      refine sg_t rfl rfl rfl f_26 (fun hg => ?_)
      have f_27 : a.eval (.tmp 27) = .int .i64 r21.1 := c_27.1 hg
      have f_28 : a.eval (.tmp 28) = .int .i64 r19.2 := c_28.1 hg
      exact or_leq f_27 f_28 rfl
    refine steps_cons (fun own a wx hf hsl hE => ?_) ?_
    · obtain ⟨(f_26 : a.eval (.tmp 26) = .bool (decide (r19.1 ≤ r21.2))), c_29, -⟩ := hf
      exact sg_plain rfl rfl (or_and f_26 (fun hx => c_29.1 hx) rfl (osome hx23).symm)
    refine steps_cons (fun own a wx hf hsl hE => ?_) ?_
    · obtain ⟨(f_30 : a.eval (.tmp 30) = .bool x23), -⟩ := hf
      exact sg_plain rfl rfl (or_assign f_30)
    exact steps_nil
  intro own24 a24 w24 hd24 hz24 hk24 hf24 hE24
  obtain ⟨(f_6 : a24.eval (.tmp 6) = .bool x23), -⟩ := hf24 [8] rfl
  have e24_6 := f_6
  have hX24 := Evo.step hX22 (fun _ => Nat.le_refl 0) hE24 rfl
  refine fl_ret ?_
  obtain rfl := (osome hs).symm
  exact hret _ _ _ _ (.inl rfl) hd24 (results1_ rfl (RVal.tmp_ e24_6)) ⟨own24, rfl, hX24⟩

theorem slices_Clone_int_int_w (w : World) (s1 : List Int) (As1 : Option Addr) (cs1 : Nat) (hs1 : RdO (fun _ => 0) [0] w R3 As1 cs1 s1) (r : List Int) (hs : slices_Clone_int_int s1 = some r) :
    Calls Try.prog 42 #[.slice As1 s1.length cs1] w fun e w' => ∃ (own' : Own) (x : Option Addr × Nat), e = .returned (.slice x.1 r.length x.2) ∧ Evo [] (fun _ => 0) own' w w' ∧ RwO own' 1 [] w' 3 R3 x.1 x.2 r := by
  refine fl_enter (n := 8) rfl rfl rfl (Nat.le_of_ble_eq_true rfl) ?_
  intro a0 Q hd0 hz0 harg hret
  have ha0 := harg 0 _ rfl
  clear harg
  have hE0 : Evo [] (fun _ => 0) (fun _ => 0) w w := Evo.refl _ _ _
  refine rg_plain_seq (n := 8) (rs := []) (own0 := (fun _ => 0)) (K := [])
      (bs := [0])
      (ds := [⟨[], [], [], Fct.val 2 (.slice none 0 0)⟩]) (by kernel_rfl) hz0 hd0 (fun _ h => nomatch h) ?_ ?_
  · refine steps_cons (fun own a wx hf hsl hE => ?_) ?_
    · exact sg_plain rfl rfl (or_assign rfl)
    exact steps_nil
  intro own22 a22 w22 hd22 hz22 hk22 hf22 hE22
  have e22_0 : a22.eval (.tmp 0) = .slice As1 s1.length cs1 := (hk22 0 rfl).trans ha0
  have hX22 := Evo.step hE0 (fun _ => Nat.le_refl 0) hE22 rfl
  have b22_As1 := RdO.evo rfl hE22 hs1
  refine fl_seq (fun Q23 hn23 hp23 => ?_)
  refine rg_plain_seq (n := 8) (rs := []) (own0 := own22) (K := [])
      (bs := [0, 1])
      (ds := [⟨[], [0], [], Fct.val 3 (.slice As1 s1.length cs1)⟩,
      ⟨[0], [], [], Fct.val 4 (.bool As1.isNone)⟩]) (by kernel_rfl) hz22 hd22 (fun _ h => nomatch h) ?_ ?_
  · refine steps_cons (fun own a wx hf hsl hE => ?_) ?_
    · obtain ⟨s_0, -⟩ := hsl
      exact sg_plain rfl rfl (or_move (s_0.trans e22_0))
    refine steps_cons (fun own a wx hf hsl hE => ?_) ?_
    · obtain ⟨(f_3 : a.eval (.tmp 3) = .slice As1 s1.length cs1), -⟩ := hf
      exact sg_plain rfl rfl (or_eqlNil tu22 f_3 rfl)
    exact steps_nil
  intro own24 a24 w24 hd24 hz24 hk24 hf24 hE24
  have e24_0 : a24.eval (.tmp 0) = .slice As1 s1.length cs1 := (hk24 0 rfl).trans e22_0
  obtain ⟨(f_4 : a24.eval (.tmp 4) = .bool As1.isNone), -⟩ := hf24 [1] rfl
  have e24_4 := f_4
  have hX24 := Evo.step hX22 (fun _ => Nat.le_refl 0) hE24 rfl
  have b24_As1 := RdO.evo rfl hE24 b22_As1
  refine wpIn_cond_split e24_4 (fun hA25 => ?_) (fun hA25 => ?_)
  · have hl25 : s1 = [] := RdO.nil_of b24_As1 hA25
    have hs0 : ((app ([] : List Int) s1).bind fun x28 => some x28) = some r := hs
    have hs : (some ([] : List Int)) = some r := by simpa [hl25, app, cut, capB] using hs0
    refine rg_plain_seq (n := 8) (rs := []) (own0 := own24) (K := [])
        (bs := [0])
        (ds := [⟨[], [], [], Fct.val 2 (.slice none 0 0)⟩]) (by kernel_rfl) hz24 hd24 (fun _ h => nomatch h) ?_ ?_
    · refine steps_cons (fun own a wx hf hsl hE => ?_) ?_
      · exact sg_plain rfl rfl (or_assign rfl)
      exact steps_nil
    intro own32 a32 w32 hd32 hz32 hk32 hf32 hE32
    obtain ⟨(f_2 : a32.eval (.tmp 2) = .slice none 0 0), -⟩ := hf32 [0] rfl
    have e32_2 := f_2
    have hX32 := Evo.step hX24 (fun _ => Nat.le_refl 0) hE32 rfl
    refine fl_ret ?_
    refine hp23 _ _ _ rfl ?_
    obtain rfl := osome hs
    exact hret _ _ _ _ (.inl rfl) hd32 (results1_ rfl (RVal.tmp_ e32_2)) ⟨own32, (none, 0), rfl, hX32, RwO.nil_⟩
  refine fl_skip ?_
  refine hn23 _ _ ?_
  obtain ⟨x28, hx28, hs⟩ := obind hs
  refine rg_plain_seq (n := 8) (rs := []) (own0 := own24) (K := [27])
      (bs := [0, 0, 3, 7])
      (ds := [⟨[], [], [], Fct.row 27 [] 5 3 R3 ([] : List Int)⟩,
      ⟨[], [0], [], Fct.val 6 (.slice As1 s1.length cs1)⟩,
      ⟨[0, 1], [], [27], Fct.row 29 [] 7 3 R3 x28⟩,
      ⟨[2], [], [], Fct.rel [2, 7] (fun l => ∀ (A30 : Option Addr) (cA30 : Nat), l.getD 1 undef = .slice A30 x28.length cA30 → l.getD 0 undef = .slice A30 x28.length cA30)⟩]) (by kernel_rfl) hz24 hd24 (fun _ h => nomatch h) ?_ ?_
  · refine steps_cons (fun own a wx hf hsl hE => ?_) ?_
    · exact sg_plain rfl rfl (or_lit (lab := 27) (e := 3) (cs := #[]) (F := E3) (or_new [] rfl rfl trivial (by kernel_rfl)) rfl rfl (show 0 ≤ maxLen by decide))
    refine steps_cons (fun own a wx hf hsl hE => ?_) ?_
    · obtain ⟨s_0, -⟩ := hsl
      exact sg_plain rfl rfl (or_move (s_0.trans e24_0))
    refine steps_cons (fun own a wx hf hsl hE => ?_) ?_
    · obtain ⟨⟨⟨A26, cA26⟩, (f_5 : a.eval (.tmp 5) = .slice A26 ([] : List Int).length cA26), (b_A26 : RwO own 27 [] wx 3 R3 A26 cA26 ([] : List Int))⟩, (f_6 : a.eval (.tmp 6) = .slice As1 s1.length cs1), -⟩ := hf
      exact sg_plain rfl rfl (or_append (R := R3) (lab := 27) (lab2 := 29) (L := []) (L3 := []) tp22 f_5 b_A26 (by decide) f_6 (RdO.evo rfl hE b24_As1) hx28 (by decide) (by decide) (mem_of rfl) (.inl (Rep.fl_flat _)))
    refine steps_cons (fun own a wx hf hsl hE => ?_) ?_
    · obtain ⟨⟨⟨A30, cA30⟩, (f_7 : a.eval (.tmp 7) = .slice A30 x28.length cA30), (b_A30 : RwO own 29 [] wx 3 R3 A30 cA30 x28)⟩, -⟩ := hf
      exact sg_plain rfl rfl (or_mono (f := Fct.val 2 (.slice A30 x28.length cA30)) (or_assign f_7) (fun own' a' w' v' hp h => fun _ _ h0' => by cases (f_7.symm.trans ((hp.2 7 (by decide)).symm.trans h0')); exact h))
    exact steps_nil
  intro own31 a31 w31 hd31 hz31 hk31 hf31 hE31
  obtain ⟨⟨⟨A30, cA30⟩, (f_7 : a31.eval (.tmp 7) = .slice A30 x28.length cA30), (b_A30 : RwO own31 29 [] w31 3 R3 A30 cA30 x28)⟩, (q_2 : ∀ (A30 : Option Addr) (cA30 : Nat), a31.eval (.tmp 7) = .slice A30 x28.length cA30 → a31.eval (.tmp 2) = .slice A30 x28.length cA30), -⟩ := hf31 [2, 3] rfl
  have f_2 := q_2 _ _ f_7
  have e31_2 := f_2
  have hX31 := Evo.step hX24 (fun _ => Nat.le_refl 0) hE31 rfl
  have b31_A30 := b_A30
  refine fl_ret ?_
  obtain rfl := (osome hs).symm
  exact hret _ _ _ _ (.inl rfl) hd31 (results1_ rfl (RVal.tmp_ e31_2)) ⟨(rl [(29, 1)] own31), (A30, cA30), rfl, (Evo.rl_ hX31 (fun _ => Nat.le_refl 0) rfl), (RwO.rl_ (mm := [(29, 1)]) b31_A30)⟩

theorem cmp_isNaN_int_w (w : World) (x1 : Int) (r : Bool) (hs : cmp_isNaN_int x1 = some r) :
    Calls Try.prog 43 #[.int .i64 x1] w fun e w' => ∃ own' : Own, e = .returned (.bool r) ∧ Evo [] (fun _ => 0) own' w w' := by
  refine fl_enter (n := 6) rfl rfl rfl (Nat.le_of_ble_eq_true rfl) ?_
  intro a0 Q hd0 hz0 harg hret
  have ha0 := harg 0 _ rfl
  clear harg
  have hE0 : Evo [] (fun _ => 0) (fun _ => 0) w w := Evo.refl _ _ _
  refine rg_plain_seq (n := 6) (rs := []) (own0 := (fun _ => 0)) (K := [])
      (bs := [0])
      (ds := [⟨[], [], [], Fct.val 2 (.bool false)⟩]) (by kernel_rfl) hz0 hd0 (fun _ h => nomatch h) ?_ ?_
  · refine steps_cons (fun own a wx hf hsl hE => ?_) ?_
    · exact sg_plain rfl rfl (or_assign rfl)
    exact steps_nil
  intro own13 a13 w13 hd13 hz13 hk13 hf13 hE13
  have e13_0 : a13.eval (.tmp 0) = .int .i64 x1 := (hk13 0 rfl).trans ha0
  have hX13 := Evo.step hE0 (fun _ => Nat.le_refl 0) hE13 rfl
  refine rg_plain_seq (n := 6) (rs := []) (own0 := own13) (K := [])
      (bs := [0, 0, 3, 7])
      (ds := [⟨[], [0], [], Fct.val 3 (.int .i64 x1)⟩,
      ⟨[], [0], [], Fct.val 4 (.int .i64 x1)⟩,
      ⟨[0, 1], [], [], Fct.val 5 (.bool (!decide (x1 = x1)))⟩,
      ⟨[2], [], [], Fct.val 2 (.bool (!decide (x1 = x1)))⟩]) (by kernel_rfl) hz13 hd13 (fun _ h => nomatch h) ?_ ?_
  · refine steps_cons (fun own a wx hf hsl hE => ?_) ?_
    · obtain ⟨s_0, -⟩ := hsl
      exact sg_plain rfl rfl (or_move (s_0.trans e13_0))
    refine steps_cons (fun own a wx hf hsl hE => ?_) ?_
    · obtain ⟨s_0, -⟩ := hsl
      exact sg_plain rfl rfl (or_move (s_0.trans e13_0))
    refine steps_cons (fun own a wx hf hsl hE => ?_) ?_
    · obtain ⟨(f_3 : a.eval (.tmp 3) = .int .i64 x1), (f_4 : a.eval (.tmp 4) = .int .i64 x1), -⟩ := hf
      exact sg_plain rfl rfl (or_neq f_3 f_4 rfl)
    refine steps_cons (fun own a wx hf hsl hE => ?_) ?_
    · obtain ⟨(f_5 : a.eval (.tmp 5) = .bool (!decide (x1 = x1))), -⟩ := hf
      exact sg_plain rfl rfl (or_assign f_5)
    exact steps_nil
  intro own14 a14 w14 hd14 hz14 hk14 hf14 hE14
  obtain ⟨(f_2 : a14.eval (.tmp 2) = .bool (!decide (x1 = x1))), -⟩ := hf14 [3] rfl
  have e14_2 := f_2
  have hX14 := Evo.step hX13 (fun _ => Nat.le_refl 0) hE14 rfl
  refine fl_ret ?_
  obtain rfl := osome hs
  exact hret _ _ _ _ (.inl rfl) hd14 (results1_ rfl (RVal.tmp_ e14_2)) ⟨own14, rfl, hX14⟩

theorem cmp_Compare_int_w (w : World) (x1 : Int) (y2 : Int) (r : Int) (hs : cmp_Compare_int x1 y2 = some r) :
    Calls Try.prog 39 #[.int .i64 x1, .int .i64 y2] w fun e w' => ∃ own' : Own, e = .returned (.int .i64 r) ∧ Evo [] (fun _ => 0) own' w w' := by
  refine fl_enter (n := 20) rfl rfl rfl (Nat.le_of_ble_eq_true rfl) ?_
  intro a0 Q hd0 hz0 harg hret
  have ha0 := harg 0 _ rfl
  have ha1 := harg 1 _ rfl
  clear harg
  have hE0 : Evo [] (fun _ => 0) (fun _ => 0) w w := Evo.refl _ _ _
  refine rg_plain_seq (n := 20) (rs := []) (own0 := (fun _ => 0)) (K := [])
      (bs := [0])
      (ds := [⟨[], [], [], Fct.val 4 (.int .i64 0)⟩]) (by kernel_rfl) hz0 hd0 (fun _ h => nomatch h) ?_ ?_
  · refine steps_cons (fun own a wx hf hsl hE => ?_) ?_
    · exact sg_plain rfl rfl (or_assign rfl)
    exact steps_nil
  intro own37 a37 w37 hd37 hz37 hk37 hf37 hE37
  have e37_0 : a37.eval (.tmp 0) = .int .i64 x1 := (hk37 0 rfl).trans ha0
  have e37_1 : a37.eval (.tmp 1) = .int .i64 y2 := (hk37 1 rfl).trans ha1
  have hX37 := Evo.step hE0 (fun _ => Nat.le_refl 0) hE37 rfl
  obtain ⟨r38, hr38, hs⟩ := obind hs
  refine rg_plain_seq (n := 20) (rs := []) (own0 := own37) (K := [])
      (bs := [0, 1, 3])
      (ds := [⟨[], [0], [], Fct.val 7 (.int .i64 x1)⟩,
      ⟨[0], [], [], Fct.val 8 (.bool r38)⟩,
      ⟨[1], [], [], Fct.val 5 (.bool r38)⟩]) (by kernel_rfl) hz37 hd37 (fun _ h => nomatch h) ?_ ?_
  · refine steps_cons (fun own a wx hf hsl hE => ?_) ?_
    · obtain ⟨s_0, -⟩ := hsl
      exact sg_plain rfl rfl (or_move (s_0.trans e37_0))
    refine steps_cons (fun own a wx hf hsl hE => ?_) ?_
    · obtain ⟨(f_7 : a.eval (.tmp 7) = .int .i64 x1), -⟩ := hf
      exact sg_plain rfl rfl (or_call cf43 (args1 f_7) (cmp_isNaN_int_w _ x1  r38 hr38) post_val)
    refine steps_cons (fun own a wx hf hsl hE => ?_) ?_
    · obtain ⟨(f_8 : a.eval (.tmp 8) = .bool r38), -⟩ := hf
      exact sg_plain rfl rfl (or_assign f_8)
    exact steps_nil
  intro own39 a39 w39 hd39 hz39 hk39 hf39 hE39
  have e39_0 : a39.eval (.tmp 0) = .int .i64 x1 := (hk39 0 rfl).trans e37_0
  have e39_1 : a39.eval (.tmp 1) = .int .i64 y2 := (hk39 1 rfl).trans e37_1
  obtain ⟨(f_5 : a39.eval (.tmp 5) = .bool r38), -⟩ := hf39 [2] rfl
  have e39_5 := f_5
  have hX39 := Evo.step hX37 (fun _ => Nat.le_refl 0) hE39 rfl
  obtain ⟨r40, hr40, hs⟩ := obind hs
  refine rg_plain_seq (n := 20) (rs := []) (own0 := own39) (K := [])
      (bs := [0, 1, 3])
      (ds := [⟨[], [1], [], Fct.val 9 (.int .i64 y2)⟩,
      ⟨[0], [], [], Fct.val 10 (.bool r40)⟩,
      ⟨[1], [], [], Fct.val 6 (.bool r40)⟩]) (by kernel_rfl) hz39 hd39 (fun _ h => nomatch h) ?_ ?_
  · refine steps_cons (fun own a wx hf hsl hE => ?_) ?_
    · obtain ⟨s_1, -⟩ := hsl
      exact sg_plain rfl rfl (or_move (s_1.trans e39_1))
    refine steps_cons (fun own a wx hf hsl hE => ?_) ?_
    · obtain ⟨(f_9 : a.eval (.tmp 9) = .int .i64 y2), -⟩ := hf
      exact sg_plain rfl rfl (or_call cf43 (args1 f_9) (cmp_isNaN_int_w _ y2  r40 hr40) post_val)
    refine steps_cons (fun own a wx hf hsl hE => ?_) ?_
    · obtain ⟨(f_10 : a.eval (.tmp 10) = .bool r40), -⟩ := hf
      exact sg_plain rfl rfl (or_assign f_10)
    exact steps_nil
  intro own41 a41 w41 hd41 hz41 hk41 hf41 hE41
  have e41_0 : a41.eval (.tmp 0) = .int .i64 x1 := (hk41 0 rfl).trans e39_0
  have e41_1 : a41.eval (.tmp 1) = .int .i64 y2 := (hk41 1 rfl).trans e39_1
  have e41_5 : a41.eval (.tmp 5) = .bool r38 := (hk41 5 rfl).trans e39_5
  obtain ⟨(f_6 : a41.eval (.tmp 6) = .bool r40), -⟩ := hf41 [2] rfl
  have e41_6 := f_6
  have hX41 := Evo.step hX39 (fun _ => Nat.le_refl 0) hE41 rfl
  refine fl_seq (fun Q42 hn42 hp42 => ?_)
  refine rg_plain_seq (n := 20) (rs := []) (own0 := own41) (K := [])
      (bs := [0])
      (ds := [⟨[], [5], [], Fct.val 11 (.bool r38)⟩]) (by kernel_rfl) hz41 hd41 (fun _ h => nomatch h) ?_ ?_
  · refine steps_cons (fun own a wx hf hsl hE => ?_) ?_
    · obtain ⟨s_5, -⟩ := hsl
      exact sg_plain rfl rfl (or_move (s_5.trans e41_5))
    exact steps_nil
  intro own43 a43 w43 hd43 hz43 hk43 hf43 hE43
  have e43_0 : a43.eval (.tmp 0) = .int .i64 x1 := (hk43 0 rfl).trans e41_0
  have e43_1 : a43.eval (.tmp 1) = .int .i64 y2 := (hk43 1 rfl).trans e41_1
  have e43_6 : a43.eval (.tmp 6) = .bool r40 := (hk43 6 rfl).trans e41_6
  obtain ⟨(f_11 : a43.eval (.tmp 11) = .bool r38), -⟩ := hf43 [0] rfl
  have e43_11 := f_11
  have hX43 := Evo.step hX41 (fun _ => Nat.le_refl 0) hE43 rfl
  refine fl_cond e43_11 hs (fun c44 hs => ?_) (fun c44 hs => ?_)
  · refine fl_seq (fun Q45 hn45 hp45 => ?_)
    refine rg_plain_seq (n := 20) (rs := []) (own0 := own43) (K := [])
        (bs := [0])
        (ds := [⟨[], [6], [], Fct.val 12 (.bool r40)⟩]) (by kernel_rfl) hz43 hd43 (fun _ h => nomatch h) ?_ ?_
    · refine steps_cons (fun own a wx hf hsl hE => ?_) ?_
      · obtain ⟨s_6, -⟩ := hsl
        exact sg_plain rfl rfl (or_move (s_6.trans e43_6))
      exact steps_nil
    intro own46 a46 w46 hd46 hz46 hk46 hf46 hE46
    obtain ⟨(f_12 : a46.eval (.tmp 12) = .bool r40), -⟩ := hf46 [0] rfl
    have e46_12 := f_12
    have hX46 := Evo.step hX43 (fun _ => Nat.le_refl 0) hE46 rfl
    refine fl_cond e46_12 hs (fun c47 hs => ?_) (fun c47 hs => ?_)
    · refine rg_plain_seq (n := 20) (rs := []) (own0 := own46) (K := [])
          (bs := [0])
          (ds := [⟨[], [], [], Fct.val 4 (.int .i64 0)⟩]) (by kernel_rfl) hz46 hd46 (fun _ h => nomatch h) ?_ ?_
      · refine steps_cons (fun own a wx hf hsl hE => ?_) ?_
        · exact sg_plain rfl rfl (or_assign rfl)
        exact steps_nil
      intro own48 a48 w48 hd48 hz48 hk48 hf48 hE48
      obtain ⟨(f_4 : a48.eval (.tmp 4) = .int .i64 0), -⟩ := hf48 [0] rfl
      have e48_4 := f_4
      have hX48 := Evo.step hX46 (fun _ => Nat.le_refl 0) hE48 rfl
      refine fl_ret ?_
      refine hp45 _ _ _ rfl ?_
      refine hp42 _ _ _ rfl ?_
      obtain rfl := osome hs
      exact hret _ _ _ _ (.inl rfl) hd48 (results1_ rfl (RVal.tmp_ e48_4)) ⟨own48, rfl, hX48⟩
    refine fl_skip ?_
    refine hn45 _ _ ?_
    refine rg_plain_seq (n := 20) (rs := []) (own0 := own46) (K := [])
        (bs := [0])
        (ds := [⟨[], [], [], Fct.val 4 (.int .i64 (-1))⟩]) (by kernel_rfl) hz46 hd46 (fun _ h => nomatch h) ?_ ?_
    · refine steps_cons (fun own a wx hf hsl hE => ?_) ?_
      · exact sg_plain rfl rfl (or_assign rfl)
      exact steps_nil
    intro own49 a49 w49 hd49 hz49 hk49 hf49 hE49
    obtain ⟨(f_4 : a49.eval (.tmp 4) = .int .i64 (-1)), -⟩ := hf49 [0] rfl
    have e49_4 := f_4
    have hX49 := Evo.step hX46 (fun _ => Nat.le_refl 0) hE49 rfl
    refine fl_ret ?_
    refine hp42 _ _ _ rfl ?_
    obtain rfl := osome hs
    exact hret _ _ _ _ (.inl rfl) hd49 (results1_ rfl (RVal.tmp_ e49_4)) ⟨own49, rfl, hX49⟩
  refine fl_skip ?_
  refine hn42 _ _ ?_
  refine fl_seq (fun Q50 hn50 hp50 => ?_)
  refine rg_plain_seq (n := 20) (rs := []) (own0 := own43) (K := [])
      (bs := [0])
      (ds := [⟨[], [6], [], Fct.val 13 (.bool r40)⟩]) (by kernel_rfl) hz43 hd43 (fun _ h => nomatch h) ?_ ?_
  · refine steps_cons (fun own a wx hf hsl hE => ?_) ?_
    · obtain ⟨s_6, -⟩ := hsl
      exact sg_plain rfl rfl (or_move (s_6.trans e43_6))
    exact steps_nil
  intro own51 a51 w51 hd51 hz51 hk51 hf51 hE51
  have e51_0 : a51.eval (.tmp 0) = .int .i64 x1 := (hk51 0 rfl).trans e43_0
  have e51_1 : a51.eval (.tmp 1) = .int .i64 y2 := (hk51 1 rfl).trans e43_1
  obtain ⟨(f_13 : a51.eval (.tmp 13) = .bool r40), -⟩ := hf51 [0] rfl
  have e51_13 := f_13
  have hX51 := Evo.step hX43 (fun _ => Nat.le_refl 0) hE51 rfl
  refine fl_cond e51_13 hs (fun c52 hs => ?_) (fun c52 hs => ?_)
  · refine rg_plain_seq (n := 20) (rs := []) (own0 := own51) (K := [])
        (bs := [0])
        (ds := [⟨[], [], [], Fct.val 4 (.int .i64 1)⟩]) (by kernel_rfl) hz51 hd51 (fun _ h => nomatch h) ?_ ?_
    · refine steps_cons (fun own a wx hf hsl hE => ?_) ?_
      · exact sg_plain rfl rfl (or_assign rfl)
      exact steps_nil
    intro own53 a53 w53 hd53 hz53 hk53 hf53 hE53
    obtain ⟨(f_4 : a53.eval (.tmp 4) = .int .i64 1), -⟩ := hf53 [0] rfl
    have e53_4 := f_4
    have hX53 := Evo.step hX51 (fun _ => Nat.le_refl 0) hE53 rfl
    refine fl_ret ?_
    refine hp50 _ _ _ rfl ?_
    obtain rfl := osome hs
    exact hret _ _ _ _ (.inl rfl) hd53 (results1_ rfl (RVal.tmp_ e53_4)) ⟨own53, rfl, hX53⟩
  refine fl_skip ?_
  refine hn50 _ _ ?_
  refine fl_seq (fun Q54 hn54 hp54 => ?_)
  refine rg_plain_seq (n := 20) (rs := []) (own0 := own51) (K := [])
      (bs := [0, 0, 3])
      (ds := [⟨[], [0], [], Fct.val 14 (.int .i64 x1)⟩,
      ⟨[], [1], [], Fct.val 15 (.int .i64 y2)⟩,
      ⟨[0, 1], [], [], Fct.val 16 (.bool (decide (x1 < y2)))⟩]) (by kernel_rfl) hz51 hd51 (fun _ h => nomatch h) ?_ ?_
  · refine steps_cons (fun own a wx hf hsl hE => ?_) ?_
    · obtain ⟨s_0, -⟩ := hsl
      exact sg_plain rfl rfl (or_move (s_0.trans e51_0))
    refine steps_cons (fun own a wx hf hsl hE => ?_) ?_
    · obtain ⟨s_1, -⟩ := hsl
      exact sg_plain rfl rfl (or_move (s_1.trans e51_1))
    refine steps_cons (fun own a wx hf hsl hE => ?_) ?_
    · obtain ⟨(f_14 : a.eval (.tmp 14) = .int .i64 x1), (f_15 : a.eval (.tmp 15) = .int .i64 y2), -⟩ := hf
      exact sg_plain rfl rfl (or_lss f_14 f_15 rfl)
    exact steps_nil
  intro own55 a55 w55 hd55 hz55 hk55 hf55 hE55
  have e55_0 : a55.eval (.tmp 0) = .int .i64 x1 := (hk55 0 rfl).trans e51_0
  have e55_1 : a55.eval (.tmp 1) = .int .i64 y2 := (hk55 1 rfl).trans e51_1
  obtain ⟨(f_16 : a55.eval (.tmp 16) = .bool (decide (x1 < y2))), -⟩ := hf55 [2] rfl
  have e55_16 := f_16
  have hX55 := Evo.step hX51 (fun _ => Nat.le_refl 0) hE55 rfl
  refine fl_cond e55_16 hs (fun c56 hs => ?_) (fun c56 hs => ?_)
  · refine rg_plain_seq (n := 20) (rs := []) (own0 := own55) (K := [])
        (bs := [0])
        (ds := [⟨[], [], [], Fct.val 4 (.int .i64 (-1))⟩]) (by kernel_rfl) hz55 hd55 (fun _ h => nomatch h) ?_ ?_
    · refine steps_cons (fun own a wx hf hsl hE => ?_) ?_
      · exact sg_plain rfl rfl (or_assign rfl)
      exact steps_nil
    intro own57 a57 w57 hd57 hz57 hk57 hf57 hE57
    obtain ⟨(f_4 : a57.eval (.tmp 4) = .int .i64 (-1)), -⟩ := hf57 [0] rfl
    have e57_4 := f_4
    have hX57 := Evo.step hX55 (fun _ => Nat.le_refl 0) hE57 rfl
    refine fl_ret ?_
    refine hp54 _ _ _ rfl ?_
    obtain rfl := osome hs
    exact hret _ _ _ _ (.inl rfl) hd57 (results1_ rfl (RVal.tmp_ e57_4)) ⟨own57, rfl, hX57⟩
  refine fl_skip ?_
  refine hn54 _ _ ?_
  refine fl_seq (fun Q58 hn58 hp58 => ?_)
  refine rg_plain_seq (n := 20) (rs := []) (own0 := own55) (K := [])
      (bs := [0, 0, 3])
      (ds := [⟨[], [0], [], Fct.val 17 (.int .i64 x1)⟩,
      ⟨[], [1], [], Fct.val 18 (.int .i64 y2)⟩,
      ⟨[0, 1], [], [], Fct.val 19 (.bool (decide (y2 < x1)))⟩]) (by kernel_rfl) hz55 hd55 (fun _ h => nomatch h) ?_ ?_
  · refine steps_cons (fun own a wx hf hsl hE => ?_) ?_
    · obtain ⟨s_0, -⟩ := hsl
      exact sg_plain rfl rfl (or_move (s_0.trans e55_0))
    refine steps_cons (fun own a wx hf hsl hE => ?_) ?_
    · obtain ⟨s_1, -⟩ := hsl
      exact sg_plain rfl rfl (or_move (s_1.trans e55_1))
    refine steps_cons (fun own a wx hf hsl hE => ?_) ?_
    · obtain ⟨(f_17 : a.eval (.tmp 17) = .int .i64 x1), (f_18 : a.eval (.tmp 18) = .int .i64 y2), -⟩ := hf
      exact sg_plain rfl rfl (or_gtr f_17 f_18 rfl)
    exact steps_nil
  intro own59 a59 w59 hd59 hz59 hk59 hf59 hE59
  obtain ⟨(f_19 : a59.eval (.tmp 19) = .bool (decide (y2 < x1))), -⟩ := hf59 [2] rfl
  have e59_19 := f_19
  have hX59 := Evo.step hX55 (fun _ => Nat.le_refl 0) hE59 rfl
  refine fl_cond e59_19 hs (fun c60 hs => ?_) (fun c60 hs => ?_)
  · refine rg_plain_seq (n := 20) (rs := []) (own0 := own59) (K := [])
        (bs := [0])
        (ds := [⟨[], [], [], Fct.val 4 (.int .i64 1)⟩]) (by kernel_rfl) hz59 hd59 (fun _ h => nomatch h) ?_ ?_
    · refine steps_cons (fun own a wx hf hsl hE => ?_) ?_
      · exact sg_plain rfl rfl (or_assign rfl)
      exact steps_nil
    intro own61 a61 w61 hd61 hz61 hk61 hf61 hE61
    obtain ⟨(f_4 : a61.eval (.tmp 4) = .int .i64 1), -⟩ := hf61 [0] rfl
    have e61_4 := f_4
    have hX61 := Evo.step hX59 (fun _ => Nat.le_refl 0) hE61 rfl
    refine fl_ret ?_
    refine hp58 _ _ _ rfl ?_
    obtain rfl := osome hs
    exact hret _ _ _ _ (.inl rfl) hd61 (results1_ rfl (RVal.tmp_ e61_4)) ⟨own61, rfl, hX61⟩
  refine fl_skip ?_
  refine hn58 _ _ ?_
  refine rg_plain_seq (n := 20) (rs := []) (own0 := own59) (K := [])
      (bs := [0])
      (ds := [⟨[], [], [], Fct.val 4 (.int .i64 0)⟩]) (by kernel_rfl) hz59 hd59 (fun _ h => nomatch h) ?_ ?_
  · refine steps_cons (fun own a wx hf hsl hE => ?_) ?_
    · exact sg_plain rfl rfl (or_assign rfl)
    exact steps_nil
  intro own62 a62 w62 hd62 hz62 hk62 hf62 hE62
  obtain ⟨(f_4 : a62.eval (.tmp 4) = .int .i64 0), -⟩ := hf62 [0] rfl
  have e62_4 := f_4
  have hX62 := Evo.step hX59 (fun _ => Nat.le_refl 0) hE62 rfl
  refine fl_ret ?_
  obtain rfl := osome hs
  exact hret _ _ _ _ (.inl rfl) hd62 (results1_ rfl (RVal.tmp_ e62_4)) ⟨own62, rfl, hX62⟩

theorem slices_Compare_int_int_w (w : World) (s1 : List Int) (As1 : Option Addr) (cs1 : Nat) (s2 : List Int) (As2 : Option Addr) (cs2 : Nat) (hs1 : RdO (fun _ => 0) [0] w R3 As1 cs1 s1) (hs2 : RdO (fun _ => 0) [0] w R3 As2 cs2 s2) (r : Int) (hs : slices_Compare_int_int s1 s2 = some r) :
    Calls Try.prog 28 #[.slice As1 s1.length cs1, .slice As2 s2.length cs2] w fun e w' => ∃ own' : Own, e = .returned (.int .i64 r) ∧ Evo [] (fun _ => 0) own' w w' := by
  refine fl_enter (n := 36) rfl rfl rfl (Nat.le_of_ble_eq_true rfl) ?_
  intro a0 Q hd0 hz0 harg hret
  have ha0 := harg 0 _ rfl
  have ha1 := harg 1 _ rfl
  clear harg
  have hE0 : Evo [] (fun _ => 0) (fun _ => 0) w w := Evo.refl _ _ _
  refine rg_plain_seq (n := 36) (rs := []) (own0 := (fun _ => 0)) (K := [])
      (bs := [0])
      (ds := [⟨[], [], [], Fct.val 4 (.int .i64 0)⟩]) (by kernel_rfl) hz0 hd0 (fun _ h => nomatch h) ?_ ?_
  · refine steps_cons (fun own a wx hf hsl hE => ?_) ?_
    · exact sg_plain rfl rfl (or_assign rfl)
    exact steps_nil
  intro own82 a82 w82 hd82 hz82 hk82 hf82 hE82
  have e82_0 : a82.eval (.tmp 0) = .slice As1 s1.length cs1 := (hk82 0 rfl).trans ha0
  have e82_1 : a82.eval (.tmp 1) = .slice As2 s2.length cs2 := (hk82 1 rfl).trans ha1
  have hX82 := Evo.step hE0 (fun _ => Nat.le_refl 0) hE82 rfl
  have b82_As1 := RdO.evo rfl hE82 hs1
  have b82_As2 := RdO.evo rfl hE82 hs2
  refine fl_seq (fun Q83 hn83 hp83 => ?_)
  refine rg_plain_seq (n := 36) (rs := []) (own0 := own82) (K := [])
      (bs := [0, 1, 0])
      (ds := [⟨[], [0], [], Fct.val 9 (.slice As1 s1.length cs1)⟩,
      ⟨[0], [], [], Fct.val 10 (.int .i64 (s1.length : Int))⟩,
      ⟨[], [], [], Fct.val 11 (.int .i64 0)⟩]) (by kernel_rfl) hz82 hd82 (fun _ h => nomatch h) ?_ ?_
  · refine steps_cons (fun own a wx hf hsl hE => ?_) ?_
    · obtain ⟨s_0, -⟩ := hsl
      exact sg_plain rfl rfl (or_move (s_0.trans e82_0))
    refine steps_cons (fun own a wx hf hsl hE => ?_) ?_
    · obtain ⟨(f_9 : a.eval (.tmp 9) = .slice As1 s1.length cs1), -⟩ := hf
      exact sg_plain rfl rfl (or_len tu22 f_9 rfl)
    refine steps_cons (fun own a wx hf hsl hE => ?_) ?_
    · exact sg_plain rfl rfl (or_move rfl)
    exact steps_nil
  intro own84 a84 w84 hd84 hz84 hk84 hf84 hE84
  have e84_0 : a84.eval (.tmp 0) = .slice As1 s1.length cs1 := (hk84 0 rfl).trans e82_0
  have e84_1 : a84.eval (.tmp 1) = .slice As2 s2.length cs2 := (hk84 1 rfl).trans e82_1
  obtain ⟨(f_9 : a84.eval (.tmp 9) = .slice As1 s1.length cs1), (f_10 : a84.eval (.tmp 10) = .int .i64 (s1.length : Int)), (f_11 : a84.eval (.tmp 11) = .int .i64 0), -⟩ := hf84 [0, 1, 2] rfl
  have e84_9 := f_9
  have e84_10 := f_10
  have e84_11 := f_11
  have hX84 := Evo.step hX82 (fun _ => Nat.le_refl 0) hE84 rfl
  have b84_As1 := RdO.evo rfl hE84 b82_As1
  have b84_As2 := RdO.evo rfl hE84 b82_As2
  refine fl_block (fun Q85 hn85 hx85 hp85 => ?_)
  refine fl_loop (body := (fun s => slices_Compare_int_int_b1 s1 s2 s)) (z := r) (show loopO _ _ = _ from hs) (fun (x106 : Int) a wx => ∃ (ox : Own), a.defers = [] ∧ a.tmps.size = 36 ∧ a.eval (.tmp 0) = .slice As1 s1.length cs1 ∧ a.eval (.tmp 1) = .slice As2 s2.length cs2 ∧ a.eval (.tmp 9) = .slice As1 s1.length cs1 ∧ a.eval (.tmp 10) = .int .i64 (s1.length : Int) ∧ a.eval (.tmp 11) = .int .i64 x106 ∧ Evo [] (fun _ => 0) ox w wx ∧ RdO ox [0] wx R3 As1 cs1 s1 ∧ RdO ox [0] wx R3 As2 cs2 s2) ?_ ?_
  · exact ⟨own84, hd84, hz84, e84_0, e84_1, e84_9, e84_10, e84_11, hX84, b84_As1, b84_As2⟩
  · rintro x106 zz127 a127 w127 ⟨own127, hd128, hz128, e128_0, e128_1, e128_9, e128_10, e128_11, hE128, b128_As1, b128_As2⟩ hs Q127 hn127 hp127 hz127
    have hs : slices_Compare_int_int_b1 s1 s2 x106 = some zz127 := hs
    refine rg_plain_seq (n := 36) (rs := []) (own0 := own127) (K := [])
        (bs := [0])
        (ds := [⟨[], [11, 10], [], Fct.val 12 (.bool (decide (x106 < (s1.length : Int))))⟩]) (by kernel_rfl) hz128 hd128 (fun _ h => nomatch h) ?_ ?_
    · refine steps_cons (fun own a wx hf hsl hE => ?_) ?_
      · obtain ⟨s_11, s_10, -⟩ := hsl
        exact sg_plain rfl rfl (or_lss (s_11.trans e128_11) (s_10.trans e128_10) rfl)
      exact steps_nil
    intro own129 a129 w129 hd129 hz129 hk129 hf129 hE129
    have e129_0 : a129.eval (.tmp 0) = .slice As1 s1.length cs1 := (hk129 0 rfl).trans e128_0
    have e129_1 : a129.eval (.tmp 1) = .slice As2 s2.length cs2 := (hk129 1 rfl).trans e128_1
    have e129_9 : a129.eval (.tmp 9) = .slice As1 s1.length cs1 := (hk129 9 rfl).trans e128_9
    have e129_10 : a129.eval (.tmp 10) = .int .i64 (s1.length : Int) := (hk129 10 rfl).trans e128_10
    have e129_11 : a129.eval (.tmp 11) = .int .i64 x106 := (hk129 11 rfl).trans e128_11
    obtain ⟨(f_12 : a129.eval (.tmp 12) = .bool (decide (x106 < (s1.length : Int)))), -⟩ := hf129 [0] rfl
    have e129_12 := f_12
    have hX129 := Evo.step hE128 (fun _ => Nat.le_refl 0) hE129 rfl
    have b129_As1 := RdO.evo rfl hE129 b128_As1
    have b129_As2 := RdO.evo rfl hE129 b128_As2
    refine fl_seq (fun Q130 hn130 hp130 => ?_)
    refine fl_cond e129_12 hs (fun c131 hs => ?_) (fun c131 hs => ?_)
    · refine fl_skip ?_
      refine hn130 _ _ ?_
      refine fl_seq (fun Q132 hn132 hp132 => ?_)
      refine fl_block (fun Q133 hn133 hx133 hp133 => ?_)
      obtain ⟨x134, hx134, hs⟩ := obind hs
      refine rg_plain_seq (n := 36) (rs := []) (own0 := own129) (K := [])
          (bs := [0, 0, 2, 7, 15])
          (ds := [⟨[], [11], [], Fct.val 13 (.int .i64 x106)⟩,
          ⟨[], [9, 11], [], Fct.val 14 (.pointer (some ((adr As1).add ((x106 : Int).toNat * R3.s))))⟩,
          ⟨[1], [], [], Fct.val 15 (.int .i64 x134)⟩,
          ⟨[0], [], [], Fct.val 5 (.int .i64 x106)⟩,
          ⟨[2], [], [], Fct.val 6 (.int .i64 x134)⟩]) (by kernel_rfl) hz129 hd129 (fun _ h => nomatch h) ?_ ?_
      · refine steps_cons (fun own a wx hf hsl hE => ?_) ?_
        · obtain ⟨s_11, -⟩ := hsl
          exact sg_plain rfl rfl (or_move (s_11.trans e129_11))
        refine steps_cons (fun own a wx hf hsl hE => ?_) ?_
        · obtain ⟨s_9, s_11, -⟩ := hsl
          exact sg_plain rfl rfl (or_index (R := R3) (l := s1) tl22 (s_9.trans e129_9) (s_11.trans e129_11) (RdO.some_ b129_As1 hx134) hx134)
        refine steps_cons (fun own a wx hf hsl hE => ?_) ?_
        · obtain ⟨(f_14 : a.eval (.tmp 14) = .pointer (some ((adr As1).add ((x106 : Int).toNat * R3.s)))), -⟩ := hf
          exact sg_plain rfl rfl (or_load1 to3 f_14 (CellsAt.zero (RdO.cells (F := E3) (RdO.evo rfl hE b129_As1) hx134) rfl))
        refine steps_cons (fun own a wx hf hsl hE => ?_) ?_
        · obtain ⟨(f_13 : a.eval (.tmp 13) = .int .i64 x106), -⟩ := hf
          exact sg_plain rfl rfl (or_assign f_13)
        refine steps_cons (fun own a wx hf hsl hE => ?_) ?_
        · obtain ⟨(f_15 : a.eval (.tmp 15) = .int .i64 x134), -⟩ := hf
          exact sg_plain rfl rfl (or_assign f_15)
        exact steps_nil
      intro own135 a135 w135 hd135 hz135 hk135 hf135 hE135
      have e135_0 : a135.eval (.tmp 0) = .slice As1 s1.length cs1 := (hk135 0 rfl).trans e129_0
      have e135_1 : a135.eval (.tmp 1) = .slice As2 s2.length cs2 := (hk135 1 rfl).trans e129_1
      have e135_9 : a135.eval (.tmp 9) = .slice As1 s1.length cs1 := (hk135 9 rfl).trans e129_9
      have e135_10 : a135.eval (.tmp 10) = .int .i64 (s1.length : Int) := (hk135 10 rfl).trans e129_10
      have e135_11 : a135.eval (.tmp 11) = .int .i64 x106 := (hk135 11 rfl).trans e129_11
      obtain ⟨(f_5 : a135.eval (.tmp 5) = .int .i64 x106), (f_6 : a135.eval (.tmp 6) = .int .i64 x134), -⟩ := hf135 [3, 4] rfl
      have e135_5 := f_5
      have e135_6 := f_6
      have hX135 := Evo.step hX129 (fun _ => Nat.le_refl 0) hE135 rfl
      have b135_As1 := RdO.evo rfl hE135 b129_As1
      have b135_As2 := RdO.evo rfl hE135 b129_As2
      refine fl_seq (fun Q136 hn136 hp136 => ?_)
      refine rg_plain_seq (n := 36) (rs := []) (own0 := own135) (K := [])
          (bs := [0, 0, 2, 7])
          (ds := [⟨[], [5], [], Fct.val 16 (.int .i64 x106)⟩,
          ⟨[], [1], [], Fct.val 17 (.slice As2 s2.length cs2)⟩,
          ⟨[1], [], [], Fct.val 18 (.int .i64 (s2.length : Int))⟩,
          ⟨[0, 2], [], [], Fct.val 19 (.bool (decide ((s2.length : Int) ≤ x106)))⟩]) (by kernel_rfl) hz135 hd135 (fun _ h => nomatch h) ?_ ?_
      · refine steps_cons (fun own a wx hf hsl hE => ?_) ?_
        · obtain ⟨s_5, -⟩ := hsl
          exact sg_plain rfl rfl (or_move (s_5.trans e135_5))
        refine steps_cons (fun own a wx hf hsl hE => ?_) ?_
        · obtain ⟨s_1, -⟩ := hsl
          exact sg_plain rfl rfl (or_move (s_1.trans e135_1))
        refine steps_cons (fun own a wx hf hsl hE => ?_) ?_
        · obtain ⟨(f_17 : a.eval (.tmp 17) = .slice As2 s2.length cs2), -⟩ := hf
          exact sg_plain rfl rfl (or_len tu22 f_17 rfl)
        refine steps_cons (fun own a wx hf hsl hE => ?_) ?_
        · obtain ⟨(f_16 : a.eval (.tmp 16) = .int .i64 x106), (f_18 : a.eval (.tmp 18) = .int .i64 (s2.length : Int)), -⟩ := hf
          exact sg_plain rfl rfl (or_geq f_16 f_18 rfl)
        exact steps_nil
      intro own137 a137 w137 hd137 hz137 hk137 hf137 hE137
      have e137_0 : a137.eval (.tmp 0) = .slice As1 s1.length cs1 := (hk137 0 rfl).trans e135_0
      have e137_1 : a137.eval (.tmp 1) = .slice As2 s2.length cs2 := (hk137 1 rfl).trans e135_1
      have e137_5 : a137.eval (.tmp 5) = .int .i64 x106 := (hk137 5 rfl).trans e135_5
      have e137_6 : a137.eval (.tmp 6) = .int .i64 x134 := (hk137 6 rfl).trans e135_6
      have e137_9 : a137.eval (.tmp 9) = .slice As1 s1.length cs1 := (hk137 9 rfl).trans e135_9
      have e137_10 : a137.eval (.tmp 10) = .int .i64 (s1.length : Int) := (hk137 10 rfl).trans e135_10
      have e137_11 : a137.eval (.tmp 11) = .int .i64 x106 := (hk137 11 rfl).trans e135_11
      obtain ⟨(f_19 : a137.eval (.tmp 19) = .bool (decide ((s2.length : Int) ≤ x106))), -⟩ := hf137 [3] rfl
      have e137_19 := f_19
      have hX137 := Evo.step hX135 (fun _ => Nat.le_refl 0) hE137 rfl
      have b137_As1 := RdO.evo rfl hE137 b135_As1
      have b137_As2 := RdO.evo rfl hE137 b135_As2
      refine fl_cond e137_19 hs (fun c138 hs => ?_) (fun c138 hs => ?_)
      · refine rg_plain_seq (n := 36) (rs := []) (own0 := own137) (K := [])
            (bs := [0])
            (ds := [⟨[], [], [], Fct.val 4 (.int .i64 1)⟩]) (by kernel_rfl) hz137 hd137 (fun _ h => nomatch h) ?_ ?_
        · refine steps_cons (fun own a wx hf hsl hE => ?_) ?_
          · exact sg_plain rfl rfl (or_assign rfl)
          exact steps_nil
        intro own139 a139 w139 hd139 hz139 hk139 hf139 hE139
        obtain ⟨(f_4 : a139.eval (.tmp 4) = .int .i64 1), -⟩ := hf139 [0] rfl
        have e139_4 := f_4
        have hX139 := Evo.step hX137 (fun _ => Nat.le_refl 0) hE139 rfl
        refine fl_ret ?_
        refine hp136 _ _ _ rfl ?_
        refine hp133 _ _ _ rfl ?_
        refine hp132 _ _ _ rfl ?_
        replace hs := hz127 _ hs
        refine hp127 _ _ _ rfl ?_
        refine hp85 _ _ _ rfl ?_
        refine hp83 _ _ _ rfl ?_
        obtain rfl := osome hs
        exact hret _ _ _ _ (.inl rfl) hd139 (results1_ rfl (RVal.tmp_ e139_4)) ⟨own139, rfl, hX139⟩
      refine fl_skip ?_
      refine hn136 _ _ ?_
      obtain ⟨x140, hx140, hs⟩ := obind hs
      refine rg_plain_seq (n := 36) (rs := []) (own0 := own137) (K := [])
          (bs := [0, 0, 3, 7, 15])
          (ds := [⟨[], [1], [], Fct.val 20 (.slice As2 s2.length cs2)⟩,
          ⟨[], [5], [], Fct.val 21 (.int .i64 x106)⟩,
          ⟨[0, 1], [], [], Fct.val 22 (.pointer (some ((adr As2).add ((x106 : Int).toNat * R3.s))))⟩,
          ⟨[2], [], [], Fct.val 23 (.int .i64 x140)⟩,
          ⟨[3], [], [], Fct.val 7 (.int .i64 x140)⟩]) (by kernel_rfl) hz137 hd137 (fun _ h => nomatch h) ?_ ?_
      · refine steps_cons (fun own a wx hf hsl hE => ?_) ?_
        · obtain ⟨s_1, -⟩ := hsl
          exact sg_plain rfl rfl (or_move (s_1.trans e137_1))
        refine steps_cons (fun own a wx hf hsl hE => ?_) ?_
        · obtain ⟨s_5, -⟩ := hsl
          exact sg_plain rfl rfl (or_move (s_5.trans e137_5))
        refine steps_cons (fun own a wx hf hsl hE => ?_) ?_
        · obtain ⟨(f_20 : a.eval (.tmp 20) = .slice As2 s2.length cs2), (f_21 : a.eval (.tmp 21) = .int .i64 x106), -⟩ := hf
          exact sg_plain rfl rfl (or_index (R := R3) (l := s2) tl22 f_20 f_21 (RdO.some_ b137_As2 hx140) hx140)
        refine steps_cons (fun own a wx hf hsl hE => ?_) ?_
        · obtain ⟨(f_22 : a.eval (.tmp 22) = .pointer (some ((adr As2).add ((x106 : Int).toNat * R3.s)))), -⟩ := hf
          exact sg_plain rfl rfl (or_load1 to3 f_22 (CellsAt.zero (RdO.cells (F := E3) (RdO.evo rfl hE b137_As2) hx140) rfl))
        refine steps_cons (fun own a wx hf hsl hE => ?_) ?_
        · obtain ⟨(f_23 : a.eval (.tmp 23) = .int .i64 x140), -⟩ := hf
          exact sg_plain rfl rfl (or_assign f_23)
        exact steps_nil
      intro own141 a141 w141 hd141 hz141 hk141 hf141 hE141
      have e141_0 : a141.eval (.tmp 0) = .slice As1 s1.length cs1 := (hk141 0 rfl).trans e137_0
      have e141_1 : a141.eval (.tmp 1) = .slice As2 s2.length cs2 := (hk141 1 rfl).trans e137_1
      have e141_6 : a141.eval (.tmp 6) = .int .i64 x134 := (hk141 6 rfl).trans e137_6
      have e141_9 : a141.eval (.tmp 9) = .slice As1 s1.length cs1 := (hk141 9 rfl).trans e137_9
      have e141_10 : a141.eval (.tmp 10) = .int .i64 (s1.length : Int) := (hk141 10 rfl).trans e137_10
      have e141_11 : a141.eval (.tmp 11) = .int .i64 x106 := (hk141 11 rfl).trans e137_11
      obtain ⟨(f_7 : a141.eval (.tmp 7) = .int .i64 x140), -⟩ := hf141 [4] rfl
      have e141_7 := f_7
      have hX141 := Evo.step hX137 (fun _ => Nat.le_refl 0) hE141 rfl
      have b141_As1 := RdO.evo rfl hE141 b137_As1
      have b141_As2 := RdO.evo rfl hE141 b137_As2
      obtain ⟨r142, hr142, hs⟩ := obind hs
      refine rg_plain_seq (n := 36) (rs := []) (own0 := own141) (K := [])
          (bs := [0, 0, 3, 7])
          (ds := [⟨[], [6], [], Fct.val 24 (.int .i64 x134)⟩,
          ⟨[], [7], [], Fct.val 25 (.int .i64 x140)⟩,
          ⟨[0, 1], [], [], Fct.val 26 (.int .i64 r142)⟩,
          ⟨[2], [], [], Fct.val 8 (.int .i64 r142)⟩]) (by kernel_rfl) hz141 hd141 (fun _ h => nomatch h) ?_ ?_
      · refine steps_cons (fun own a wx hf hsl hE => ?_) ?_
        · obtain ⟨s_6, -⟩ := hsl
          exact sg_plain rfl rfl (or_move (s_6.trans e141_6))
        refine steps_cons (fun own a wx hf hsl hE => ?_) ?_
        · obtain ⟨s_7, -⟩ := hsl
          exact sg_plain rfl rfl (or_move (s_7.trans e141_7))
        refine steps_cons (fun own a wx hf hsl hE => ?_) ?_
        · obtain ⟨(f_24 : a.eval (.tmp 24) = .int .i64 x134), (f_25 : a.eval (.tmp 25) = .int .i64 x140), -⟩ := hf
          exact sg_plain rfl rfl (or_call cf39 (args2 f_24 f_25) (cmp_Compare_int_w _ x134 x140  r142 hr142) post_val)
        refine steps_cons (fun own a wx hf hsl hE => ?_) ?_
        · obtain ⟨(f_26 : a.eval (.tmp 26) = .int .i64 r142), -⟩ := hf
          exact sg_plain rfl rfl (or_assign f_26)
        exact steps_nil
      intro own143 a143 w143 hd143 hz143 hk143 hf143 hE143
      have e143_0 : a143.eval (.tmp 0) = .slice As1 s1.length cs1 := (hk143 0 rfl).trans e141_0
      have e143_1 : a143.eval (.tmp 1) = .slice As2 s2.length cs2 := (hk143 1 rfl).trans e141_1
      have e143_9 : a143.eval (.tmp 9) = .slice As1 s1.length cs1 := (hk143 9 rfl).trans e141_9
      have e143_10 : a143.eval (.tmp 10) = .int .i64 (s1.length : Int) := (hk143 10 rfl).trans e141_10
      have e143_11 : a143.eval (.tmp 11) = .int .i64 x106 := (hk143 11 rfl).trans e141_11
      obtain ⟨(f_8 : a143.eval (.tmp 8) = .int .i64 r142), -⟩ := hf143 [3] rfl
      have e143_8 := f_8
      have hX143 := Evo.step hX141 (fun _ => Nat.le_refl 0) hE143 rfl
      have b143_As1 := RdO.evo rfl hE143 b141_As1
      have b143_As2 := RdO.evo rfl hE143 b141_As2
      refine rg_plain_seq (n := 36) (rs := []) (own0 := own143) (K := [])
          (bs := [0, 1])
          (ds := [⟨[], [8], [], Fct.val 27 (.int .i64 r142)⟩,
          ⟨[0], [], [], Fct.val 28 (.bool (!decide (r142 = 0)))⟩]) (by kernel_rfl) hz143 hd143 (fun _ h => nomatch h) ?_ ?_
      · refine steps_cons (fun own a wx hf hsl hE => ?_) ?_
        · obtain ⟨s_8, -⟩ := hsl
          exact sg_plain rfl rfl (or_move (s_8.trans e143_8))
        refine steps_cons (fun own a wx hf hsl hE => ?_) ?_
        · obtain ⟨(f_27 : a.eval (.tmp 27) = .int .i64 r142), -⟩ := hf
          exact sg_plain rfl rfl (or_neq f_27 rfl rfl)
        exact steps_nil
      intro own144 a144 w144 hd144 hz144 hk144 hf144 hE144
      have e144_0 : a144.eval (.tmp 0) = .slice As1 s1.length cs1 := (hk144 0 rfl).trans e143_0
      have e144_1 : a144.eval (.tmp 1) = .slice As2 s2.length cs2 := (hk144 1 rfl).trans e143_1
      have e144_8 : a144.eval (.tmp 8) = .int .i64 r142 := (hk144 8 rfl).trans e143_8
      have e144_9 : a144.eval (.tmp 9) = .slice As1 s1.length cs1 := (hk144 9 rfl).trans e143_9
      have e144_10 : a144.eval (.tmp 10) = .int .i64 (s1.length : Int) := (hk144 10 rfl).trans e143_10
      have e144_11 : a144.eval (.tmp 11) = .int .i64 x106 := (hk144 11 rfl).trans e143_11
      obtain ⟨(f_28 : a144.eval (.tmp 28) = .bool (!decide (r142 = 0))), -⟩ := hf144 [1] rfl
      have e144_28 := f_28
      have hX144 := Evo.step hX143 (fun _ => Nat.le_refl 0) hE144 rfl
      have b144_As1 := RdO.evo rfl hE144 b143_As1
      have b144_As2 := RdO.evo rfl hE144 b143_As2
      refine fl_cond e144_28 hs (fun c145 hs => ?_) (fun c145 hs => ?_)
      · refine rg_plain_seq (n := 36) (rs := []) (own0 := own144) (K := [])
            (bs := [0, 1])
            (ds := [⟨[], [8], [], Fct.val 29 (.int .i64 r142)⟩,
            ⟨[0], [], [], Fct.val 4 (.int .i64 r142)⟩]) (by kernel_rfl) hz144 hd144 (fun _ h => nomatch h) ?_ ?_
        · refine steps_cons (fun own a wx hf hsl hE => ?_) ?_
          · obtain ⟨s_8, -⟩ := hsl
            exact sg_plain rfl rfl (or_move (s_8.trans e144_8))
          refine steps_cons (fun own a wx hf hsl hE => ?_) ?_
          · obtain ⟨(f_29 : a.eval (.tmp 29) = .int .i64 r142), -⟩ := hf
            exact sg_plain rfl rfl (or_assign f_29)
          exact steps_nil
        intro own146 a146 w146 hd146 hz146 hk146 hf146 hE146
        obtain ⟨(f_4 : a146.eval (.tmp 4) = .int .i64 r142), -⟩ := hf146 [1] rfl
        have e146_4 := f_4
        have hX146 := Evo.step hX144 (fun _ => Nat.le_refl 0) hE146 rfl
        refine fl_ret ?_
        refine hp133 _ _ _ rfl ?_
        refine hp132 _ _ _ rfl ?_
        replace hs := hz127 _ hs
        refine hp127 _ _ _ rfl ?_
        refine hp85 _ _ _ rfl ?_
        refine hp83 _ _ _ rfl ?_
        obtain rfl := (osome hs).symm
        exact hret _ _ _ _ (.inl rfl) hd146 (results1_ rfl (RVal.tmp_ e146_4)) ⟨own146, rfl, hX146⟩
      refine fl_skip ?_
      refine hn133 _ _ ?_
      refine hn132 _ _ ?_
      refine rg_plain (n := 36) (rs := []) (own0 := own144) (K := [])
          (bs := [0, 1])
          (ds := [⟨[], [11], [], Fct.val 30 (.int .i64 (ad x106 1))⟩,
          ⟨[0], [], [], Fct.val 11 (.int .i64 (ad x106 1))⟩]) (by kernel_rfl) hz144 hd144 (fun _ h => nomatch h) ?_ ?_
      · refine steps_cons (fun own a wx hf hsl hE => ?_) ?_
        · obtain ⟨s_11, -⟩ := hsl
          exact sg_plain rfl rfl (or_add (s_11.trans e144_11) rfl rfl)
        refine steps_cons (fun own a wx hf hsl hE => ?_) ?_
        · obtain ⟨(f_30 : a.eval (.tmp 30) = .int .i64 (ad x106 1)), -⟩ := hf
          exact sg_plain rfl rfl (or_move f_30)
        exact steps_nil
      intro own147 a147 w147 hd147 hz147 hk147 hf147 hE147
      have e147_0 : a147.eval (.tmp 0) = .slice As1 s1.length cs1 := (hk147 0 rfl).trans e144_0
      have e147_1 : a147.eval (.tmp 1) = .slice As2 s2.length cs2 := (hk147 1 rfl).trans e144_1
      have e147_9 : a147.eval (.tmp 9) = .slice As1 s1.length cs1 := (hk147 9 rfl).trans e144_9
      have e147_10 : a147.eval (.tmp 10) = .int .i64 (s1.length : Int) := (hk147 10 rfl).trans e144_10
      obtain ⟨(f_11 : a147.eval (.tmp 11) = .int .i64 (ad x106 1)), -⟩ := hf147 [1] rfl
      have e147_11 := f_11
      have hX147 := Evo.step hX144 (fun _ => Nat.le_refl 0) hE147 rfl
      have b147_As1 := RdO.evo rfl hE147 b144_As1
      have b147_As2 := RdO.evo rfl hE147 b144_As2
      exact hn127 _ _ _ hs ⟨own147, hd147, hz147, e147_0, e147_1, e147_9, e147_10, e147_11, hX147, b147_As1, b147_As2⟩
    refine fl_exit ?_
    refine hp130 _ _ _ rfl ?_
    replace hs := hz127 _ hs
    refine hp127 _ _ _ rfl ?_
    refine hx85 _ _ ?_
    refine hn83 _ _ ?_
    refine fl_seq (fun Q148 hn148 hp148 => ?_)
    refine rg_plain_seq (n := 36) (rs := []) (own0 := own129) (K := [])
        (bs := [0, 1, 0, 4, 15])
        (ds := [⟨[], [0], [], Fct.val 31 (.slice As1 s1.length cs1)⟩,
        ⟨[0], [], [], Fct.val 32 (.int .i64 (s1.length : Int))⟩,
        ⟨[], [1], [], Fct.val 33 (.slice As2 s2.length cs2)⟩,
        ⟨[2], [], [], Fct.val 34 (.int .i64 (s2.length : Int))⟩,
        ⟨[1, 3], [], [], Fct.val 35 (.bool (decide ((s1.length : Int) < (s2.length : Int))))⟩]) (by kernel_rfl) hz129 hd129 (fun _ h => nomatch h) ?_ ?_
    · refine steps_cons (fun own a wx hf hsl hE => ?_) ?_
      · obtain ⟨s_0, -⟩ := hsl
        exact sg_plain rfl rfl (or_move (s_0.trans e129_0))
      refine steps_cons (fun own a wx hf hsl hE => ?_) ?_
      · obtain ⟨(f_31 : a.eval (.tmp 31) = .slice As1 s1.length cs1), -⟩ := hf
        exact sg_plain rfl rfl (or_len tu22 f_31 rfl)
      refine steps_cons (fun own a wx hf hsl hE => ?_) ?_
      · obtain ⟨s_1, -⟩ := hsl
        exact sg_plain rfl rfl (or_move (s_1.trans e129_1))
      refine steps_cons (fun own a wx hf hsl hE => ?_) ?_
      · obtain ⟨(f_33 : a.eval (.tmp 33) = .slice As2 s2.length cs2), -⟩ := hf
        exact sg_plain rfl rfl (or_len tu22 f_33 rfl)
      refine steps_cons (fun own a wx hf hsl hE => ?_) ?_
      · obtain ⟨(f_32 : a.eval (.tmp 32) = .int .i64 (s1.length : Int)), (f_34 : a.eval (.tmp 34) = .int .i64 (s2.length : Int)), -⟩ := hf
        exact sg_plain rfl rfl (or_lss f_32 f_34 rfl)
      exact steps_nil
    intro own149 a149 w149 hd149 hz149 hk149 hf149 hE149
    obtain ⟨(f_35 : a149.eval (.tmp 35) = .bool (decide ((s1.length : Int) < (s2.length : Int)))), -⟩ := hf149 [4] rfl
    have e149_35 := f_35
    have hX149 := Evo.step hX129 (fun _ => Nat.le_refl 0) hE149 rfl
    refine fl_cond e149_35 hs (fun c150 hs => ?_) (fun c150 hs => ?_)
    · refine rg_plain_seq (n := 36) (rs := []) (own0 := own149) (K := [])
          (bs := [0])
          (ds := [⟨[], [], [], Fct.val 4 (.int .i64 (-1))⟩]) (by kernel_rfl) hz149 hd149 (fun _ h => nomatch h) ?_ ?_
      · refine steps_cons (fun own a wx hf hsl hE => ?_) ?_
        · exact sg_plain rfl rfl (or_assign rfl)
        exact steps_nil
      intro own151 a151 w151 hd151 hz151 hk151 hf151 hE151
      obtain ⟨(f_4 : a151.eval (.tmp 4) = .int .i64 (-1)), -⟩ := hf151 [0] rfl
      have e151_4 := f_4
      have hX151 := Evo.step hX149 (fun _ => Nat.le_refl 0) hE151 rfl
      refine fl_ret ?_
      refine hp148 _ _ _ rfl ?_
      obtain rfl := osome hs
      exact hret _ _ _ _ (.inl rfl) hd151 (results1_ rfl (RVal.tmp_ e151_4)) ⟨own151, rfl, hX151⟩
    refine fl_skip ?_
    refine hn148 _ _ ?_
    refine rg_plain_seq (n := 36) (rs := []) (own0 := own149) (K := [])
        (bs := [0])
        (ds := [⟨[], [], [], Fct.val 4 (.int .i64 0)⟩]) (by kernel_rfl) hz149 hd149 (fun _ h => nomatch h) ?_ ?_
    · refine steps_cons (fun own a wx hf hsl hE => ?_) ?_
      · exact sg_plain rfl rfl (or_assign rfl)
      exact steps_nil
    intro own152 a152 w152 hd152 hz152 hk152 hf152 hE152
    obtain ⟨(f_4 : a152.eval (.tmp 4) = .int .i64 0), -⟩ := hf152 [0] rfl
    have e152_4 := f_4
    have hX152 := Evo.step hX149 (fun _ => Nat.le_refl 0) hE152 rfl
    refine fl_ret ?_
    obtain rfl := osome hs
    exact hret _ _ _ _ (.inl rfl) hd152 (results1_ rfl (RVal.tmp_ e152_4)) ⟨own152, rfl, hX152⟩

end Go.Proofs.Ythbjlgklmamhjaa
