/-
  Chapter 20. The walks.
-/
import Derived.Test.YtehmjkdgakinbaaWp2
import Derived.Test.YtehmjkdgakinbaaWp3
import Derived.Test.YtehmjkdgakinbaaWp4
import Derived.Test.YtehmjkdgakinbaaSp11
namespace Go.Proofs.Ytehmjkdgakinbaa
open Go.RowKit
set_option linter.unusedVariables false
theorem law03_Cut_w (w : World) (own : Own) (l1 : List (Int × Int)) (Al1 : Option Addr) (cl1 : Nat) (hown : ∀ b, own b ≤ 1) (hl1 : RdO own [1] w R23 Al1 cl1 l1) (r : List (Int × Int)) (hs : law03_Cut l1 = some r) :
    Calls Try.prog 26 #[.slice Al1 l1.length cl1] w fun e w' => ∃ (own' : Own) (x : Option Addr × Nat), e = .returned (.slice x.1 r.length x.2) ∧ Evo [] own own' w w' ∧ RdO own' [1, 2] w' R23 x.1 x.2 r := by
  refine fl_enter (n := 8) rfl rfl rfl (Nat.le_of_ble_eq_true rfl) ?_
  intro a0 Q hd0 hz0 harg hret
  have ha0 := harg 0 _ rfl
  clear harg
  have hE0 : Evo [] own own w w := Evo.refl _ _ _
  refine rg_plain_seq (n := 8) (rs := []) (own0 := own) (K := [])
      (bs := [0])
      (ds := [⟨[], [], [], Fct.val 2 (.slice none 0 0)⟩]) (by kernel_rfl) hz0 hd0 (fun _ h => nomatch h) ?_ ?_
  · refine steps_cons (fun own a wx hf hsl hE => ?_) ?_
    · exact sg_plain rfl rfl (or_assign rfl)
    exact steps_nil
  intro own16 a16 w16 hd16 hz16 hk16 hf16 hE16
  have e16_0 : a16.eval (.tmp 0) = .slice Al1 l1.length cl1 := (hk16 0 rfl).trans ha0
  have hX16 := Evo.step hE0 hown hE16 rfl
  have b16_Al1 := RdO.evo rfl hE16 hl1
  obtain ⟨x17, hx17, hs⟩ := obind hs
  refine rg_plain_seq (n := 8) (rs := []) (own0 := own16) (K := [])
      (bs := [0, 0, 2, 6, 15, 31])
      (ds := [⟨[], [0], [], Fct.val 3 (.slice Al1 l1.length cl1)⟩,
      ⟨[], [0], [], Fct.val 4 (.slice Al1 l1.length cl1)⟩,
      ⟨[1], [], [], Fct.val 5 (.int .i64 (l1.length : Int))⟩,
      ⟨[2], [], [], Fct.val 6 (.int .i64 (mn (l1.length : Int) 40))⟩,
      ⟨[0, 3], [], [], Fct.view [1] 7 R23 x17⟩,
      ⟨[4], [], [], Fct.rel [2, 7] (fun l => ∀ (A18 : Option Addr) (cA18 : Nat), l.getD 1 undef = .slice A18 x17.length cA18 → l.getD 0 undef = .slice A18 x17.length cA18)⟩]) (by kernel_rfl) hz16 hd16 (fun _ h => nomatch h) ?_ ?_
  · refine steps_cons (fun own a wx hf hsl hE => ?_) ?_
    · obtain ⟨s_0, -⟩ := hsl
      exact sg_plain rfl rfl (or_move (s_0.trans e16_0))
    refine steps_cons (fun own a wx hf hsl hE => ?_) ?_
    · obtain ⟨s_0, -⟩ := hsl
      exact sg_plain rfl rfl (or_move (s_0.trans e16_0))
    refine steps_cons (fun own a wx hf hsl hE => ?_) ?_
    · obtain ⟨(f_4 : a.eval (.tmp 4) = .slice Al1 l1.length cl1), -⟩ := hf
      exact sg_plain rfl rfl (or_len tu60 f_4 rfl)
    refine steps_cons (fun own a wx hf hsl hE => ?_) ?_
    · obtain ⟨(f_5 : a.eval (.tmp 5) = .int .i64 (l1.length : Int)), -⟩ := hf
      exact sg_plain rfl rfl (or_min f_5 rfl)
    refine steps_cons (fun own a wx hf hsl hE => ?_) ?_
    · obtain ⟨(f_3 : a.eval (.tmp 3) = .slice Al1 l1.length cl1), (f_6 : a.eval (.tmp 6) = .int .i64 (mn (l1.length : Int) 40)), -⟩ := hf
      exact sg_plain rfl rfl (or_view (R := R23) (l := l1) (L := [1]) tu60 ts23 f_3 Bnd.none_ (Bnd.some_ f_6) Bnd.none_ (RdO.evo rfl hE b16_Al1) hx17 (.inl rfl) (by simp))
    refine steps_cons (fun own a wx hf hsl hE => ?_) ?_
    · obtain ⟨⟨⟨A18, cA18⟩, (f_7 : a.eval (.tmp 7) = .slice A18 x17.length cA18), (b_A18 : RdO own [1] wx R23 A18 cA18 x17)⟩, -⟩ := hf
      exact sg_plain rfl rfl (or_mono (f := Fct.val 2 (.slice A18 x17.length cA18)) (or_assign f_7) (fun own' a' w' v' hp h => fun _ _ h0' => by cases (f_7.symm.trans ((hp.2 7 (by decide)).symm.trans h0')); exact h))
    exact steps_nil
  intro own19 a19 w19 hd19 hz19 hk19 hf19 hE19
  obtain ⟨⟨⟨A18, cA18⟩, (f_7 : a19.eval (.tmp 7) = .slice A18 x17.length cA18), (b_A18 : RdO own19 [1] w19 R23 A18 cA18 x17)⟩, (q_2 : ∀ (A18 : Option Addr) (cA18 : Nat), a19.eval (.tmp 7) = .slice A18 x17.length cA18 → a19.eval (.tmp 2) = .slice A18 x17.length cA18), -⟩ := hf19 [4, 5] rfl
  have f_2 := q_2 _ _ f_7
  have e19_2 := f_2
  have hX19 := Evo.step hX16 hown hE19 rfl
  have b19_A18 := b_A18
  refine fl_ret ?_
  obtain rfl := (osome hs).symm
  exact hret _ _ _ _ (.inl rfl) hd19 (results1_ rfl (RVal.tmp_ e19_2)) ⟨own19, (A18, cA18), rfl, hX19, (RdO.more b19_A18 (by decide))⟩

theorem slices_Clone_api_Point_api_Point_w (w : World) (s1 : List (Int × Int)) (As1 : Option Addr) (cs1 : Nat) (hs1 : RdO (fun _ => 0) [0] w R23 As1 cs1 s1) (r : List (Int × Int)) (hs : slices_Clone_api_Point_api_Point s1 = some r) :
    Calls Try.prog 47 #[.slice As1 s1.length cs1] w fun e w' => ∃ (own' : Own) (x : Option Addr × Nat), e = .returned (.slice x.1 r.length x.2) ∧ Evo [] (fun _ => 0) own' w w' ∧ RwO own' 1 [] w' 23 R23 x.1 x.2 r := by
  refine fl_enter (n := 8) rfl rfl rfl (Nat.le_of_ble_eq_true rfl) ?_
  intro a0 Q hd0 hz0 harg hret
  have ha0 := harg 0 _ rfl
  clear harg
  have hE0 : Evo [] (fun _ => 0) (fun _ => 0) w w := Evo.refl _ _ _
  refine rg_plain_seq (n := 8) (rs := []) (own0 := (fun _ => 0)) (K := [])
      (bs := [0])
      (ds := [⟨[], [], [], Fct.val 2 (.slice none 0 0)⟩]) (by kernel_rfl) hz0 hd0 (fun _ h => nomatch h) ?_ ?_
  · refine steps_cons (fun own a wx hf hsl hE => ?_) ?_
    · exact sg_plain rfl rfl (or_assign rfl)
    exact steps_nil
  intro own22 a22 w22 hd22 hz22 hk22 hf22 hE22
  have e22_0 : a22.eval (.tmp 0) = .slice As1 s1.length cs1 := (hk22 0 rfl).trans ha0
  have hX22 := Evo.step hE0 (fun _ => Nat.le_refl 0) hE22 rfl
  have b22_As1 := RdO.evo rfl hE22 hs1
  refine fl_seq (fun Q23 hn23 hp23 => ?_)
  refine rg_plain_seq (n := 8) (rs := []) (own0 := own22) (K := [])
      (bs := [0, 1])
      (ds := [⟨[], [0], [], Fct.val 3 (.slice As1 s1.length cs1)⟩,
      ⟨[0], [], [], Fct.val 4 (.bool As1.isNone)⟩]) (by kernel_rfl) hz22 hd22 (fun _ h => nomatch h) ?_ ?_
  · refine steps_cons (fun own a wx hf hsl hE => ?_) ?_
    · obtain ⟨s_0, -⟩ := hsl
      exact sg_plain rfl rfl (or_move (s_0.trans e22_0))
    refine steps_cons (fun own a wx hf hsl hE => ?_) ?_
    · obtain ⟨(f_3 : a.eval (.tmp 3) = .slice As1 s1.length cs1), -⟩ := hf
      exact sg_plain rfl rfl (or_eqlNil tu60 f_3 rfl)
    exact steps_nil
  intro own24 a24 w24 hd24 hz24 hk24 hf24 hE24
  have e24_0 : a24.eval (.tmp 0) = .slice As1 s1.length cs1 := (hk24 0 rfl).trans e22_0
  obtain ⟨(f_4 : a24.eval (.tmp 4) = .bool As1.isNone), -⟩ := hf24 [1] rfl
  have e24_4 := f_4
  have hX24 := Evo.step hX22 (fun _ => Nat.le_refl 0) hE24 rfl
  have b24_As1 := RdO.evo rfl hE24 b22_As1
  refine wpIn_cond_split e24_4 (fun hA25 => ?_) (fun hA25 => ?_)
  · have hl25 : s1 = [] := RdO.nil_of b24_As1 hA25
    have hs0 : ((app ([] : List (Int × Int)) s1).bind fun x28 => some x28) = some r := hs
    have hs : (some ([] : List (Int × Int))) = some r := by simpa [hl25, app, cut, capB] using hs0
    refine rg_plain_seq (n := 8) (rs := []) (own0 := own24) (K := [])
        (bs := [0])
        (ds := [⟨[], [], [], Fct.val 2 (.slice none 0 0)⟩]) (by kernel_rfl) hz24 hd24 (fun _ h => nomatch h) ?_ ?_
    · refine steps_cons (fun own a wx hf hsl hE => ?_) ?_
      · exact sg_plain rfl rfl (or_assign rfl)
      exact steps_nil
    intro own32 a32 w32 hd32 hz32 hk32 hf32 hE32
    obtain ⟨(f_2 : a32.eval (.tmp 2) = .slice none 0 0), -⟩ := hf32 [0] rfl
    have e32_2 := f_2
    have hX32 := Evo.step hX24 (fun _ => Nat.le_refl 0) hE32 rfl
    refine fl_ret ?_
    refine hp23 _ _ _ rfl ?_
    obtain rfl := osome hs
    exact hret _ _ _ _ (.inl rfl) hd32 (results1_ rfl (RVal.tmp_ e32_2)) ⟨own32, (none, 0), rfl, hX32, RwO.nil_⟩
  refine fl_skip ?_
  refine hn23 _ _ ?_
  obtain ⟨x28, hx28, hs⟩ := obind hs
  refine rg_plain_seq (n := 8) (rs := []) (own0 := own24) (K := [27])
      (bs := [0, 0, 3, 7])
      (ds := [⟨[], [], [], Fct.row 27 [] 5 23 R23 ([] : List (Int × Int))⟩,
      ⟨[], [0], [], Fct.val 6 (.slice As1 s1.length cs1)⟩,
      ⟨[0, 1], [], [27], Fct.row 29 [] 7 23 R23 x28⟩,
      ⟨[2], [], [], Fct.rel [2, 7] (fun l => ∀ (A30 : Option Addr) (cA30 : Nat), l.getD 1 undef = .slice A30 x28.length cA30 → l.getD 0 undef = .slice A30 x28.length cA30)⟩]) (by kernel_rfl) hz24 hd24 (fun _ h => nomatch h) ?_ ?_
  · refine steps_cons (fun own a wx hf hsl hE => ?_) ?_
    · exact sg_plain rfl rfl (or_lit (lab := 27) (e := 23) (cs := #[]) (F := E23) (or_new [] rfl rfl trivial (by kernel_rfl)) rfl rfl (show 0 ≤ maxLen by decide))
    refine steps_cons (fun own a wx hf hsl hE => ?_) ?_
    · obtain ⟨s_0, -⟩ := hsl
      exact sg_plain rfl rfl (or_move (s_0.trans e24_0))
    refine steps_cons (fun own a wx hf hsl hE => ?_) ?_
    · obtain ⟨⟨⟨A26, cA26⟩, (f_5 : a.eval (.tmp 5) = .slice A26 ([] : List (Int × Int)).length cA26), (b_A26 : RwO own 27 [] wx 23 R23 A26 cA26 ([] : List (Int × Int)))⟩, (f_6 : a.eval (.tmp 6) = .slice As1 s1.length cs1), -⟩ := hf
      exact sg_plain rfl rfl (or_append (R := R23) (lab := 27) (lab2 := 29) (L := []) (L3 := []) tp60 f_5 b_A26 (by decide) f_6 (RdO.evo rfl hE b24_As1) hx28 (by decide) (by decide) (mem_of rfl) (.inl (Rep.fl_flat _)))
    refine steps_cons (fun own a wx hf hsl hE => ?_) ?_
    · obtain ⟨⟨⟨A30, cA30⟩, (f_7 : a.eval (.tmp 7) = .slice A30 x28.length cA30), (b_A30 : RwO own 29 [] wx 23 R23 A30 cA30 x28)⟩, -⟩ := hf
      exact sg_plain rfl rfl (or_mono (f := Fct.val 2 (.slice A30 x28.length cA30)) (or_assign f_7) (fun own' a' w' v' hp h => fun _ _ h0' => by cases (f_7.symm.trans ((hp.2 7 (by decide)).symm.trans h0')); exact h))
    exact steps_nil
  intro own31 a31 w31 hd31 hz31 hk31 hf31 hE31
  obtain ⟨⟨⟨A30, cA30⟩, (f_7 : a31.eval (.tmp 7) = .slice A30 x28.length cA30), (b_A30 : RwO own31 29 [] w31 23 R23 A30 cA30 x28)⟩, (q_2 : ∀ (A30 : Option Addr) (cA30 : Nat), a31.eval (.tmp 7) = .slice A30 x28.length cA30 → a31.eval (.tmp 2) = .slice A30 x28.length cA30), -⟩ := hf31 [2, 3] rfl
  have f_2 := q_2 _ _ f_7
  have e31_2 := f_2
  have hX31 := Evo.step hX24 (fun _ => Nat.le_refl 0) hE31 rfl
  have b31_A30 := b_A30
  refine fl_ret ?_
  obtain rfl := (osome hs).symm
  exact hret _ _ _ _ (.inl rfl) hd31 (results1_ rfl (RVal.tmp_ e31_2)) ⟨(rl [(29, 1)] own31), (A30, cA30), rfl, (Evo.rl_ hX31 (fun _ => Nat.le_refl 0) rfl), (RwO.rl_ (mm := [(29, 1)]) b31_A30)⟩

theorem window_moved_w (w : World) (l1 : List (Int × Int)) (Al1 : Option Addr) (cl1 : Nat) (x2 : Int) (y3 : Int) (hl1 : RdO (fun _ => 0) [0] w R23 Al1 cl1 l1) (r : List (Int × Int)) (hs : window_moved l1 x2 y3 = some r) :
    Calls Try.prog 41 #[.slice Al1 l1.length cl1, .int .i64 x2, .int .i64 y3] w fun e w' => ∃ (own' : Own) (x : Option Addr × Nat), e = .returned (.slice x.1 r.length x.2) ∧ Evo [] (fun _ => 0) own' w w' ∧ RwO own' 1 [] w' 23 R23 x.1 x.2 r := by
  refine fl_enter (n := 36) rfl rfl rfl (Nat.le_of_ble_eq_true rfl) ?_
  intro a0 Q hd0 hz0 harg hret
  have ha0 := harg 0 _ rfl
  have ha1 := harg 1 _ rfl
  have ha2 := harg 2 _ rfl
  clear harg
  have hE0 : Evo [] (fun _ => 0) (fun _ => 0) w w := Evo.refl _ _ _
  refine rg_plain_seq (n := 36) (rs := []) (own0 := (fun _ => 0)) (K := [])
      (bs := [0])
      (ds := [⟨[], [], [], Fct.val 6 (.slice none 0 0)⟩]) (by kernel_rfl) hz0 hd0 (fun _ h => nomatch h) ?_ ?_
  · refine steps_cons (fun own a wx hf hsl hE => ?_) ?_
    · exact sg_plain rfl rfl (or_assign rfl)
    exact steps_nil
  intro own78 a78 w78 hd78 hz78 hk78 hf78 hE78
  have e78_0 : a78.eval (.tmp 0) = .slice Al1 l1.length cl1 := (hk78 0 rfl).trans ha0
  have e78_1 : a78.eval (.tmp 1) = .int .i64 x2 := (hk78 1 rfl).trans ha1
  have e78_2 : a78.eval (.tmp 2) = .int .i64 y3 := (hk78 2 rfl).trans ha2
  have hX78 := Evo.step hE0 (fun _ => Nat.le_refl 0) hE78 rfl
  have b78_Al1 := RdO.evo rfl hE78 hl1
  obtain ⟨r79, hr79, hs⟩ := obind hs
  refine rg_plain_seq (n := 36) (rs := []) (own0 := own78) (K := [])
      (bs := [0, 1, 3])
      (ds := [⟨[], [0], [], Fct.val 9 (.slice Al1 l1.length cl1)⟩,
      ⟨[0], [], [], Fct.row 81 [] 10 23 R23 r79⟩,
      ⟨[1], [], [], Fct.rel [7, 10] (fun l => ∀ (A80 : Option Addr) (cA80 : Nat), l.getD 1 undef = .slice A80 r79.length cA80 → l.getD 0 undef = .slice A80 r79.length cA80)⟩]) (by kernel_rfl) hz78 hd78 (fun _ h => nomatch h) ?_ ?_
  · refine steps_cons (fun own a wx hf hsl hE => ?_) ?_
    · obtain ⟨s_0, -⟩ := hsl
      exact sg_plain rfl rfl (or_move (s_0.trans e78_0))
    refine steps_cons (fun own a wx hf hsl hE => ?_) ?_
    · obtain ⟨(f_9 : a.eval (.tmp 9) = .slice Al1 l1.length cl1), -⟩ := hf
      exact sg_plain rfl rfl (or_call cf47 (args1 f_9) (slices_Clone_api_Point_api_Point_w _ l1 Al1 cl1 (RdO.zero (RdO.evo rfl hE b78_Al1)) r79 hr79) (post_row (m' := (look0 [(1, 81)])) (.inl (Rep.fl_flat _)) rfl rfl (fun _ => rfl)))
    refine steps_cons (fun own a wx hf hsl hE => ?_) ?_
    · obtain ⟨⟨⟨A80, cA80⟩, (f_10 : a.eval (.tmp 10) = .slice A80 r79.length cA80), (b_A80 : RwO own 81 [] wx 23 R23 A80 cA80 r79)⟩, -⟩ := hf
      exact sg_plain rfl rfl (or_mono (f := Fct.val 7 (.slice A80 r79.length cA80)) (or_assign f_10) (fun own' a' w' v' hp h => fun _ _ h0' => by cases (f_10.symm.trans ((hp.2 10 (by decide)).symm.trans h0')); exact h))
    exact steps_nil
  intro own82 a82 w82 hd82 hz82 hk82 hf82 hE82
  have e82_1 : a82.eval (.tmp 1) = .int .i64 x2 := (hk82 1 rfl).trans e78_1
  have e82_2 : a82.eval (.tmp 2) = .int .i64 y3 := (hk82 2 rfl).trans e78_2
  obtain ⟨⟨⟨A80, cA80⟩, (f_10 : a82.eval (.tmp 10) = .slice A80 r79.length cA80), (b_A80 : RwO own82 81 [] w82 23 R23 A80 cA80 r79)⟩, (q_7 : ∀ (A80 : Option Addr) (cA80 : Nat), a82.eval (.tmp 10) = .slice A80 r79.length cA80 → a82.eval (.tmp 7) = .slice A80 r79.length cA80), -⟩ := hf82 [1, 2] rfl
  have f_7 := q_7 _ _ f_10
  have e82_7 := f_7
  have hX82 := Evo.step hX78 (fun _ => Nat.le_refl 0) hE82 rfl
  have b82_A80 := b_A80
  refine fl_seq (fun Q83 hn83 hp83 => ?_)
  refine rg_plain_seq (n := 36) (rs := []) (own0 := own82) (K := [])
      (bs := [0, 1, 0])
      (ds := [⟨[], [7], [], Fct.val 11 (.slice A80 r79.length cA80)⟩,
      ⟨[0], [], [], Fct.val 12 (.int .i64 (r79.length : Int))⟩,
      ⟨[], [], [], Fct.val 13 (.int .i64 0)⟩]) (by kernel_rfl) hz82 hd82 (fun _ h => nomatch h) ?_ ?_
  · refine steps_cons (fun own a wx hf hsl hE => ?_) ?_
    · obtain ⟨s_7, -⟩ := hsl
      exact sg_plain rfl rfl (or_move (s_7.trans e82_7))
    refine steps_cons (fun own a wx hf hsl hE => ?_) ?_
    · obtain ⟨(f_11 : a.eval (.tmp 11) = .slice A80 r79.length cA80), -⟩ := hf
      exact sg_plain rfl rfl (or_len tu60 f_11 rfl)
    refine steps_cons (fun own a wx hf hsl hE => ?_) ?_
    · exact sg_plain rfl rfl (or_move rfl)
    exact steps_nil
  intro own84 a84 w84 hd84 hz84 hk84 hf84 hE84
  have e84_1 : a84.eval (.tmp 1) = .int .i64 x2 := (hk84 1 rfl).trans e82_1
  have e84_2 : a84.eval (.tmp 2) = .int .i64 y3 := (hk84 2 rfl).trans e82_2
  have e84_7 : a84.eval (.tmp 7) = .slice A80 r79.length cA80 := (hk84 7 rfl).trans e82_7
  obtain ⟨(f_12 : a84.eval (.tmp 12) = .int .i64 (r79.length : Int)), (f_13 : a84.eval (.tmp 13) = .int .i64 0), -⟩ := hf84 [1, 2] rfl
  have e84_12 := f_12
  have e84_13 := f_13
  have hX84 := Evo.step hX82 (fun _ => Nat.le_refl 0) hE84 rfl
  have b84_A80 := RwO.evo rfl hE84 b82_A80
  refine fl_block (fun Q85 hn85 hx85 hp85 => ?_)
  refine fl_loop (body := (fun s => window_moved_b1 x2 y3 r79 s.1 s.2)) (z := r) (show loopO _ _ = _ from hs) (fun (s : (List (Int × Int)) × Int) a wx => match s with | (out104, x106) => ∃ (ox : Own), a.defers = [] ∧ a.tmps.size = 36 ∧ a.eval (.tmp 1) = .int .i64 x2 ∧ a.eval (.tmp 2) = .int .i64 y3 ∧ a.eval (.tmp 7) = .slice A80 out104.length cA80 ∧ a.eval (.tmp 12) = .int .i64 (r79.length : Int) ∧ a.eval (.tmp 13) = .int .i64 x106 ∧ Evo [] (fun _ => 0) ox w wx ∧ RwO ox 105 [] wx 23 R23 A80 cA80 out104) ?_ ?_
  · exact ⟨(rl [(81, 105)] own84), hd84, hz84, e84_1, e84_2, e84_7, e84_12, e84_13, (Evo.rl_ hX84 (fun _ => Nat.le_refl 0) rfl), (RwO.rl_ (mm := [(81, 105)]) b84_A80)⟩
  · rintro ⟨out104, x106⟩ zz125 a125 w125 ⟨own125, hd126, hz126, e126_1, e126_2, e126_7, e126_12, e126_13, hE126, b126_A80⟩ hs Q125 hn125 hp125 hz125
    have hs : window_moved_b1 x2 y3 r79 out104 x106 = some zz125 := hs
    refine rg_plain_seq (n := 36) (rs := []) (own0 := own125) (K := [])
        (bs := [0])
        (ds := [⟨[], [13, 12], [], Fct.val 14 (.bool (decide (x106 < (r79.length : Int))))⟩]) (by kernel_rfl) hz126 hd126 (fun _ h => nomatch h) ?_ ?_
    · refine steps_cons (fun own a wx hf hsl hE => ?_) ?_
      · obtain ⟨s_13, s_12, -⟩ := hsl
        exact sg_plain rfl rfl (or_lss (s_13.trans e126_13) (s_12.trans e126_12) rfl)
      exact steps_nil
    intro own127 a127 w127 hd127 hz127 hk127 hf127 hE127
    have e127_1 : a127.eval (.tmp 1) = .int .i64 x2 := (hk127 1 rfl).trans e126_1
    have e127_2 : a127.eval (.tmp 2) = .int .i64 y3 := (hk127 2 rfl).trans e126_2
    have e127_7 : a127.eval (.tmp 7) = .slice A80 out104.length cA80 := (hk127 7 rfl).trans e126_7
    have e127_12 : a127.eval (.tmp 12) = .int .i64 (r79.length : Int) := (hk127 12 rfl).trans e126_12
    have e127_13 : a127.eval (.tmp 13) = .int .i64 x106 := (hk127 13 rfl).trans e126_13
    obtain ⟨(f_14 : a127.eval (.tmp 14) = .bool (decide (x106 < (r79.length : Int)))), -⟩ := hf127 [0] rfl
    have e127_14 := f_14
    have hX127 := Evo.step hE126 (fun _ => Nat.le_refl 0) hE127 rfl
    have b127_A80 := RwO.evo rfl hE127 b126_A80
    refine fl_seq (fun Q128 hn128 hp128 => ?_)
    refine fl_cond e127_14 hs (fun c129 hs => ?_) (fun c129 hs => ?_)
    · refine fl_skip ?_
      refine hn128 _ _ ?_
      refine fl_seq (fun Q130 hn130 hp130 => ?_)
      refine fl_block (fun Q131 hn131 hx131 hp131 => ?_)
      refine rg_plain_seq (n := 36) (rs := []) (own0 := own127) (K := [])
          (bs := [0, 1])
          (ds := [⟨[], [13], [], Fct.val 15 (.int .i64 x106)⟩,
          ⟨[0], [], [], Fct.val 8 (.int .i64 x106)⟩]) (by kernel_rfl) hz127 hd127 (fun _ h => nomatch h) ?_ ?_
      · refine steps_cons (fun own a wx hf hsl hE => ?_) ?_
        · obtain ⟨s_13, -⟩ := hsl
          exact sg_plain rfl rfl (or_move (s_13.trans e127_13))
        refine steps_cons (fun own a wx hf hsl hE => ?_) ?_
        · obtain ⟨(f_15 : a.eval (.tmp 15) = .int .i64 x106), -⟩ := hf
          exact sg_plain rfl rfl (or_assign f_15)
        exact steps_nil
      intro own132 a132 w132 hd132 hz132 hk132 hf132 hE132
      have e132_1 : a132.eval (.tmp 1) = .int .i64 x2 := (hk132 1 rfl).trans e127_1
      have e132_2 : a132.eval (.tmp 2) = .int .i64 y3 := (hk132 2 rfl).trans e127_2
      have e132_7 : a132.eval (.tmp 7) = .slice A80 out104.length cA80 := (hk132 7 rfl).trans e127_7
      have e132_12 : a132.eval (.tmp 12) = .int .i64 (r79.length : Int) := (hk132 12 rfl).trans e127_12
      have e132_13 : a132.eval (.tmp 13) = .int .i64 x106 := (hk132 13 rfl).trans e127_13
      obtain ⟨(f_8 : a132.eval (.tmp 8) = .int .i64 x106), -⟩ := hf132 [1] rfl
      have e132_8 := f_8
      have hX132 := Evo.step hX127 (fun _ => Nat.le_refl 0) hE132 rfl
      have b132_A80 := RwO.evo rfl hE132 b127_A80
      obtain ⟨x136, hx136, hs⟩ := obind hs
      obtain ⟨x137, hx137, hs⟩ := obind hs
      obtain ⟨x138, hx138, hs⟩ := obind hs
      obtain ⟨l139, hl139, hs⟩ := obind hs
      refine rg_draw g_mixed (n := 36) (rs := [Fct.rowAt 105 [] 23 R23 A80 cA80 out104]) (own0 := own132) (K := [105])
          (bs := [0, 0, 0, 0, 12, 28, 60, 0, 252, 0, 0, 1536, 3584, 7680, 0, 32256, 65532, 131071, 262143])
          (ds := [⟨[], [7], [], Fct.val 16 (.slice A80 out104.length cA80)⟩,
          ⟨[], [8], [], Fct.val 17 (.int .i64 x106)⟩,
          ⟨[], [7], [], Fct.val 18 (.slice A80 out104.length cA80)⟩,
          ⟨[], [8], [], Fct.val 19 (.int .i64 x106)⟩,
          ⟨[2, 3], [], [], Fct.val 20 (.pointer (some ((adr A80).add ((x106 : Int).toNat * R23.s))))⟩,
          ⟨[4], [], [], Fct.val 21 (.pointer (some ((adr A80).add ((x106 : Int).toNat * R23.s))))⟩,
          ⟨[5, 19], [], [], Fct.val 22 (.int .i64 x136.1)⟩,
          ⟨[], [1], [], Fct.val 23 (.int .i64 x2)⟩,
          ⟨[6, 7], [], [], Fct.val 24 (.int .i64 (ad x136.1 x2))⟩,
          ⟨[], [7], [], Fct.val 25 (.slice A80 out104.length cA80)⟩,
          ⟨[], [8], [], Fct.val 26 (.int .i64 x106)⟩,
          ⟨[9, 10], [], [], Fct.val 27 (.pointer (some ((adr A80).add ((x106 : Int).toNat * R23.s))))⟩,
          ⟨[11], [], [], Fct.val 28 (.pointer (some (((adr A80).add ((x106 : Int).toNat * R23.s)).add 1)))⟩,
          ⟨[12, 19], [], [], Fct.val 29 (.int .i64 x137.2)⟩,
          ⟨[], [2], [], Fct.val 30 (.int .i64 y3)⟩,
          ⟨[13, 14], [], [], Fct.val 31 (.int .i64 (ad x137.2 y3))⟩,
          ⟨[8, 15], [], [], Fct.val 32 (.agg #[.int .i64 (ad x136.1 x2), .int .i64 (ad x137.2 y3)])⟩,
          ⟨[0, 1], [], [], Fct.val 33 (.pointer (some ((adr A80).add ((x106 : Int).toNat * R23.s))))⟩,
          ⟨[17, 16, 19], [], [105], Fct.rowAt 140 [] 23 R23 A80 cA80 l139⟩]) (by kernel_rfl) hz132 hd132 (by simp only [List.forall_mem_cons]; exact ⟨b132_A80, fun _ h => nomatch h⟩) ?_ ?_
      · refine steps_cons (fun own a wx hf hsl hE => ?_) ?_
        · obtain ⟨s_7, -⟩ := hsl
          exact sg_plain rfl rfl (or_move (s_7.trans e132_7))
        refine steps_cons (fun own a wx hf hsl hE => ?_) ?_
        · obtain ⟨s_8, -⟩ := hsl
          exact sg_plain rfl rfl (or_move (s_8.trans e132_8))
        refine steps_cons (fun own a wx hf hsl hE => ?_) ?_
        · obtain ⟨s_7, -⟩ := hsl
          exact sg_plain rfl rfl (or_move (s_7.trans e132_7))
        refine steps_cons (fun own a wx hf hsl hE => ?_) ?_
        · obtain ⟨s_8, -⟩ := hsl
          exact sg_plain rfl rfl (or_move (s_8.trans e132_8))
        refine steps_cons (fun own a wx hf hsl hE => ?_) ?_
        · obtain ⟨(f_18 : a.eval (.tmp 18) = .slice A80 out104.length cA80), (f_19 : a.eval (.tmp 19) = .int .i64 x106), -⟩ := hf
          exact sg_plain rfl rfl (or_index (R := R23) (l := out104) tl60 f_18 f_19 (RdO.some_ (RwO.rd b132_A80) hx136) hx136)
        refine steps_cons (fun own a wx hf hsl hE => ?_) ?_
        · obtain ⟨(f_20 : a.eval (.tmp 20) = .pointer (some ((adr A80).add ((x106 : Int).toNat * R23.s)))), -⟩ := hf
          exact sg_plain rfl rfl (or_field fo23_0 f_20 (Addr.add_zero' _))
        refine steps_cons (fun own a wx hf hsl hE => ?_) ?_
        · obtain ⟨(f_21 : a.eval (.tmp 21) = .pointer (some ((adr A80).add ((x106 : Int).toNat * R23.s)))), (b_A80 : RwO own 105 [] wx 23 R23 A80 cA80 out104), -⟩ := hf
          exact sg_plain rfl rfl (or_load1 to3 f_21 (CellsAt.zero (RdO.cells (F := E23) (RwO.rd b_A80) hx136) rfl))
        refine steps_cons (fun own a wx hf hsl hE => ?_) ?_
        · obtain ⟨s_1, -⟩ := hsl
          exact sg_plain rfl rfl (or_move (s_1.trans e132_1))
        refine steps_cons (fun own a wx hf hsl hE => ?_) ?_
        · obtain ⟨(f_22 : a.eval (.tmp 22) = .int .i64 x136.1), (f_23 : a.eval (.tmp 23) = .int .i64 x2), -⟩ := hf
          exact sg_plain rfl rfl (or_add f_22 f_23 rfl)
        refine steps_cons (fun own a wx hf hsl hE => ?_) ?_
        · obtain ⟨s_7, -⟩ := hsl
          exact sg_plain rfl rfl (or_move (s_7.trans e132_7))
        refine steps_cons (fun own a wx hf hsl hE => ?_) ?_
        · obtain ⟨s_8, -⟩ := hsl
          exact sg_plain rfl rfl (or_move (s_8.trans e132_8))
        refine steps_cons (fun own a wx hf hsl hE => ?_) ?_
        · obtain ⟨(f_25 : a.eval (.tmp 25) = .slice A80 out104.length cA80), (f_26 : a.eval (.tmp 26) = .int .i64 x106), -⟩ := hf
          exact sg_plain rfl rfl (or_index (R := R23) (l := out104) tl60 f_25 f_26 (RdO.some_ (RwO.rd b132_A80) hx137) hx137)
        refine steps_cons (fun own a wx hf hsl hE => ?_) ?_
        · obtain ⟨(f_27 : a.eval (.tmp 27) = .pointer (some ((adr A80).add ((x106 : Int).toNat * R23.s)))), -⟩ := hf
          exact sg_plain rfl rfl (or_field fo23_1 f_27 rfl)
        refine steps_cons (fun own a wx hf hsl hE => ?_) ?_
        · obtain ⟨(f_28 : a.eval (.tmp 28) = .pointer (some (((adr A80).add ((x106 : Int).toNat * R23.s)).add 1))), (b_A80 : RwO own 105 [] wx 23 R23 A80 cA80 out104), -⟩ := hf
          exact sg_plain rfl rfl (or_load1 to3 f_28 (CellsAt.one (RdO.cells (F := E23) (RwO.rd b_A80) hx137) rfl))
        refine steps_cons (fun own a wx hf hsl hE => ?_) ?_
        · obtain ⟨s_2, -⟩ := hsl
          exact sg_plain rfl rfl (or_move (s_2.trans e132_2))
        refine steps_cons (fun own a wx hf hsl hE => ?_) ?_
        · obtain ⟨(f_29 : a.eval (.tmp 29) = .int .i64 x137.2), (f_30 : a.eval (.tmp 30) = .int .i64 y3), -⟩ := hf
          exact sg_plain rfl rfl (or_add f_29 f_30 rfl)
        refine steps_cons (fun own a wx hf hsl hE => ?_) ?_
        · obtain ⟨(f_24 : a.eval (.tmp 24) = .int .i64 (ad x136.1 x2)), (f_31 : a.eval (.tmp 31) = .int .i64 (ad x137.2 y3)), -⟩ := hf
          exact sg_plain rfl rfl (or_k [(24, .int .i64 (ad x136.1 x2)), (31, .int .i64 (ad x137.2 y3))] rfl rfl ⟨f_24, f_31, trivial⟩ (by kernel_rfl))
        refine steps_cons (fun own a wx hf hsl hE => ?_) ?_
        · obtain ⟨(f_16 : a.eval (.tmp 16) = .slice A80 out104.length cA80), (f_17 : a.eval (.tmp 17) = .int .i64 x106), -⟩ := hf
          exact sg_plain rfl rfl (or_index (R := R23) (l := out104) tl60 f_16 f_17 (RdO.some_ (RwO.rd b132_A80) hx138) hx138)
        refine steps_cons (fun own a wx hf hsl hE => ?_) ?_
        · obtain ⟨(f_33 : a.eval (.tmp 33) = .pointer (some ((adr A80).add ((x106 : Int).toNat * R23.s)))), (f_32 : a.eval (.tmp 32) = .agg #[.int .i64 (ad x136.1 x2), .int .i64 (ad x137.2 y3)]), (b_A80 : RwO own 105 [] wx 23 R23 A80 cA80 out104), -⟩ := hf
          exact sg_plain rfl rfl (or_storeIx (R := R23) (lab := 105) (lab2 := 140) (cs := [.int .i64 (ad x136.1 x2), .int .i64 (ad x137.2 y3)]) (v := (ad x136.1 x2, ad x137.2 y3)) ts23 f_33 f_32 rfl (Rep.fl_flat _) (fun _ _ => rfl) b_A80 hl139 (mem_of rfl) (by decide) (fun own' a' w' ha hb => hb))
        exact steps_nil
      intro own141 a141 w141 hd141 hz141 hk141 hf141 hE141
      have e141_1 : a141.eval (.tmp 1) = .int .i64 x2 := (hk141 1 rfl).trans e132_1
      have e141_2 : a141.eval (.tmp 2) = .int .i64 y3 := (hk141 2 rfl).trans e132_2
      have e141_7 : a141.eval (.tmp 7) = .slice A80 out104.length cA80 := (hk141 7 rfl).trans e132_7
      have e141_12 : a141.eval (.tmp 12) = .int .i64 (r79.length : Int) := (hk141 12 rfl).trans e132_12
      have e141_13 : a141.eval (.tmp 13) = .int .i64 x106 := (hk141 13 rfl).trans e132_13
      obtain ⟨(b_A80 : RwO own141 140 [] w141 23 R23 A80 cA80 l139), -⟩ := hf141 [18] rfl
      have hX141 := Evo.step hX132 (fun _ => Nat.le_refl 0) hE141 rfl
      have b141_A80 := b_A80
      have m142_7 : a141.eval (.tmp 7) = .slice A80 l139.length cA80 := e141_7.trans (by rw [put_len hl139])
      refine hn131 _ _ ?_
      refine hn130 _ _ ?_
      refine rg_plain (n := 36) (rs := []) (own0 := own141) (K := [])
          (bs := [0, 1])
          (ds := [⟨[], [13], [], Fct.val 34 (.int .i64 (ad x106 1))⟩,
          ⟨[0], [], [], Fct.val 13 (.int .i64 (ad x106 1))⟩]) (by kernel_rfl) hz141 hd141 (fun _ h => nomatch h) ?_ ?_
      · refine steps_cons (fun own a wx hf hsl hE => ?_) ?_
        · obtain ⟨s_13, -⟩ := hsl
          exact sg_plain rfl rfl (or_add (s_13.trans e141_13) rfl rfl)
        refine steps_cons (fun own a wx hf hsl hE => ?_) ?_
        · obtain ⟨(f_34 : a.eval (.tmp 34) = .int .i64 (ad x106 1)), -⟩ := hf
          exact sg_plain rfl rfl (or_move f_34)
        exact steps_nil
      intro own143 a143 w143 hd143 hz143 hk143 hf143 hE143
      have e143_1 : a143.eval (.tmp 1) = .int .i64 x2 := (hk143 1 rfl).trans e141_1
      have e143_2 : a143.eval (.tmp 2) = .int .i64 y3 := (hk143 2 rfl).trans e141_2
      have e143_7 : a143.eval (.tmp 7) = .slice A80 l139.length cA80 := (hk143 7 rfl).trans m142_7
      have e143_12 : a143.eval (.tmp 12) = .int .i64 (r79.length : Int) := (hk143 12 rfl).trans e141_12
      obtain ⟨(f_13 : a143.eval (.tmp 13) = .int .i64 (ad x106 1)), -⟩ := hf143 [1] rfl
      have e143_13 := f_13
      have hX143 := Evo.step hX141 (fun _ => Nat.le_refl 0) hE143 rfl
      have b143_A80 := RwO.evo rfl hE143 b141_A80
      exact hn125 _ _ _ hs ⟨(rl [(140, 105)] own143), hd143, hz143, e143_1, e143_2, e143_7, e143_12, e143_13, (Evo.rl_ hX143 (fun _ => Nat.le_refl 0) rfl), (RwO.rl_ (mm := [(140, 105)]) b143_A80)⟩
    refine fl_exit ?_
    refine hp128 _ _ _ rfl ?_
    replace hs := hz125 _ hs
    refine hp125 _ _ _ rfl ?_
    refine hx85 _ _ ?_
    refine hn83 _ _ ?_
    refine rg_plain_seq (n := 36) (rs := []) (own0 := own127) (K := [])
        (bs := [0, 1])
        (ds := [⟨[], [7], [], Fct.val 35 (.slice A80 out104.length cA80)⟩,
        ⟨[0], [], [], Fct.val 6 (.slice A80 out104.length cA80)⟩]) (by kernel_rfl) hz127 hd127 (fun _ h => nomatch h) ?_ ?_
    · refine steps_cons (fun own a wx hf hsl hE => ?_) ?_
      · obtain ⟨s_7, -⟩ := hsl
        exact sg_plain rfl rfl (or_move (s_7.trans e127_7))
      refine steps_cons (fun own a wx hf hsl hE => ?_) ?_
      · obtain ⟨(f_35 : a.eval (.tmp 35) = .slice A80 out104.length cA80), -⟩ := hf
        exact sg_plain rfl rfl (or_assign f_35)
      exact steps_nil
    intro own144 a144 w144 hd144 hz144 hk144 hf144 hE144
    obtain ⟨(f_6 : a144.eval (.tmp 6) = .slice A80 out104.length cA80), -⟩ := hf144 [1] rfl
    have e144_6 := f_6
    have hX144 := Evo.step hX127 (fun _ => Nat.le_refl 0) hE144 rfl
    have b144_A80 := RwO.evo rfl hE144 b127_A80
    refine fl_ret ?_
    obtain rfl := (osome hs).symm
    exact hret _ _ _ _ (.inl rfl) hd144 (results1_ rfl (RVal.tmp_ e144_6)) ⟨(rl [(105, 1)] own144), (A80, cA80), rfl, (Evo.rl_ hX144 (fun _ => Nat.le_refl 0) rfl), (RwO.rl_ (mm := [(105, 1)]) b144_A80)⟩

theorem window_Local_w (w : World) (t1 : Int × Int × Int) (l2 : List (Int × Int)) (Al2 : Option Addr) (cl2 : Nat) (hl2 : RdO (fun _ => 0) [0] w R23 Al2 cl2 l2) (r : List (Int × Int)) (hs : window_Local t1 l2 = some r) :
    Calls Try.prog 27 #[.agg #[.int .i64 t1.1, .int .i64 t1.2.1, .int .i64 t1.2.2], .slice Al2 l2.length cl2] w fun e w' => ∃ (own' : Own) (x : Option Addr × Nat), e = .returned (.slice x.1 r.length x.2) ∧ Evo [] (fun _ => 0) own' w w' ∧ RwO own' 1 [] w' 23 R23 x.1 x.2 r := by
  refine fl_enter (n := 16) rfl rfl rfl (Nat.le_of_ble_eq_true rfl) ?_
  intro a0 Q hd0 hz0 harg hret
  have ha0 := harg 0 _ rfl
  have ha1 := harg 1 _ rfl
  clear harg
  have hE0 : Evo [] (fun _ => 0) (fun _ => 0) w w := Evo.refl _ _ _
  refine rg_plain_seq (n := 16) (rs := []) (own0 := (fun _ => 0)) (K := [])
      (bs := [0, 0])
      (ds := [⟨[], [0], [], Fct.blk 24 2 (fun g => .pointer (some ⟨g, 0, none⟩)) 27 #[.int .i64 t1.1, .int .i64 t1.2.1, .int .i64 t1.2.2]⟩,
      ⟨[], [], [], Fct.val 4 (.slice none 0 0)⟩]) (by kernel_rfl) hz0 hd0 (fun _ h => nomatch h) ?_ ?_
  · refine steps_cons (fun own a wx hf hsl hE => ?_) ?_
    · obtain ⟨s_0, -⟩ := hsl
      exact sg_plain rfl rfl (or_new [(0, .agg #[.int .i64 t1.1, .int .i64 t1.2.1, .int .i64 t1.2.2])] rfl rfl ⟨(s_0.trans ha0), trivial⟩ (by kernel_rfl))
    refine steps_cons (fun own a wx hf hsl hE => ?_) ?_
    · exact sg_plain rfl rfl (or_assign rfl)
    exact steps_nil
  intro own25 a25 w25 hd25 hz25 hk25 hf25 hE25
  have e25_1 : a25.eval (.tmp 1) = .slice Al2 l2.length cl2 := (hk25 1 rfl).trans ha1
  obtain ⟨⟨g23, (f_2 : a25.eval (.tmp 2) = .pointer (some ⟨g23, 0, none⟩)), (b_g23 : BlkO own25 24 w25 g23 27 #[.int .i64 t1.1, .int .i64 t1.2.1, .int .i64 t1.2.2])⟩, -⟩ := hf25 [0] rfl
  have e25_2 := f_2
  have hX25 := Evo.step hE0 (fun _ => Nat.le_refl 0) hE25 rfl
  have b25_Al2 := RdO.evo rfl hE25 hl2
  have b25_g23 := b_g23
  refine fl_seq (fun Q26 hn26 hp26 => ?_)
  obtain ⟨r27, hr27, hs⟩ := obind hs
  refine rg_plain_seq (n := 16) (rs := []) (own0 := own25) (K := [])
      (bs := [0, 1, 3])
      (ds := [⟨[], [2], [], Fct.val 5 (.agg #[.int .i64 t1.1, .int .i64 t1.2.1, .int .i64 t1.2.2])⟩,
      ⟨[0], [], [], Fct.val 6 (.bool r27)⟩,
      ⟨[1], [], [], Fct.val 7 (.bool (!r27))⟩]) (by kernel_rfl) hz25 hd25 (fun _ h => nomatch h) ?_ ?_
  · refine steps_cons (fun own a wx hf hsl hE => ?_) ?_
    · obtain ⟨s_2, -⟩ := hsl
      exact sg_plain rfl rfl (or_load (l := [.int .i64 t1.1, .int .i64 t1.2.1, .int .i64 t1.2.2]) ta27 (s_2.trans e25_2) (Blk.cellsFrom (BlkO.evo (by decide) hE b25_g23).2 0 rfl) rfl)
    refine steps_cons (fun own a wx hf hsl hE => ?_) ?_
    · obtain ⟨(f_5 : a.eval (.tmp 5) = .agg #[.int .i64 t1.1, .int .i64 t1.2.1, .int .i64 t1.2.2]), -⟩ := hf
      exact sg_plain rfl rfl (or_call cf20 (args1 f_5) (window_Right_w _ t1  r27 hr27) post_val)
    refine steps_cons (fun own a wx hf hsl hE => ?_) ?_
    · obtain ⟨(f_6 : a.eval (.tmp 6) = .bool r27), -⟩ := hf
      exact sg_plain rfl rfl (or_not f_6 rfl)
    exact steps_nil
  intro own28 a28 w28 hd28 hz28 hk28 hf28 hE28
  have e28_1 : a28.eval (.tmp 1) = .slice Al2 l2.length cl2 := (hk28 1 rfl).trans e25_1
  have e28_2 : a28.eval (.tmp 2) = .pointer (some ⟨g23, 0, none⟩) := (hk28 2 rfl).trans e25_2
  obtain ⟨(f_7 : a28.eval (.tmp 7) = .bool (!r27)), -⟩ := hf28 [2] rfl
  have e28_7 := f_7
  have hX28 := Evo.step hX25 (fun _ => Nat.le_refl 0) hE28 rfl
  have b28_Al2 := RdO.evo rfl hE28 b25_Al2
  have b28_g23 := BlkO.evo (by decide) hE28 b25_g23
  refine fl_cond e28_7 hs (fun c29 hs => ?_) (fun c29 hs => ?_)
  · refine rg_plain_seq (n := 16) (rs := []) (own0 := own28) (K := [])
        (bs := [0])
        (ds := [⟨[], [], [], Fct.val 4 (.slice none 0 0)⟩]) (by kernel_rfl) hz28 hd28 (fun _ h => nomatch h) ?_ ?_
    · refine steps_cons (fun own a wx hf hsl hE => ?_) ?_
      · exact sg_plain rfl rfl (or_assign rfl)
      exact steps_nil
    intro own30 a30 w30 hd30 hz30 hk30 hf30 hE30
    obtain ⟨(f_4 : a30.eval (.tmp 4) = .slice none 0 0), -⟩ := hf30 [0] rfl
    have e30_4 := f_4
    have hX30 := Evo.step hX28 (fun _ => Nat.le_refl 0) hE30 rfl
    refine fl_ret ?_
    refine hp26 _ _ _ rfl ?_
    obtain rfl := osome hs
    exact hret _ _ _ _ (.inl rfl) hd30 (results1_ rfl (RVal.tmp_ e30_4)) ⟨own30, (none, 0), rfl, hX30, RwO.nil_⟩
  refine fl_skip ?_
  refine hn26 _ _ ?_
  obtain ⟨r31, hr31, hs⟩ := obind hs
  refine rg_plain_seq (n := 16) (rs := []) (own0 := own28) (K := [])
      (bs := [0, 0, 2, 6, 0, 16, 48, 127, 255])
      (ds := [⟨[], [1], [], Fct.val 8 (.slice Al2 l2.length cl2)⟩,
      ⟨[], [2], [], Fct.val 9 (.pointer (some ⟨g23, 1, none⟩))⟩,
      ⟨[1], [], [], Fct.val 10 (.int .i64 t1.2.1)⟩,
      ⟨[2], [], [], Fct.val 11 (.int .i64 (ml (-4096) t1.2.1))⟩,
      ⟨[], [2], [], Fct.val 12 (.pointer (some ⟨g23, 2, none⟩))⟩,
      ⟨[4], [], [], Fct.val 13 (.int .i64 t1.2.2)⟩,
      ⟨[5], [], [], Fct.val 14 (.int .i64 (ml (-4096) t1.2.2))⟩,
      ⟨[0, 3, 6], [], [], Fct.row 33 [] 15 23 R23 r31⟩,
      ⟨[7], [], [], Fct.rel [4, 15] (fun l => ∀ (A32 : Option Addr) (cA32 : Nat), l.getD 1 undef = .slice A32 r31.length cA32 → l.getD 0 undef = .slice A32 r31.length cA32)⟩]) (by kernel_rfl) hz28 hd28 (fun _ h => nomatch h) ?_ ?_
  · refine steps_cons (fun own a wx hf hsl hE => ?_) ?_
    · obtain ⟨s_1, -⟩ := hsl
      exact sg_plain rfl rfl (or_move (s_1.trans e28_1))
    refine steps_cons (fun own a wx hf hsl hE => ?_) ?_
    · obtain ⟨s_2, -⟩ := hsl
      exact sg_plain rfl rfl (or_field fo27_1 (s_2.trans e28_2) (by rfl))
    refine steps_cons (fun own a wx hf hsl hE => ?_) ?_
    · obtain ⟨(f_9 : a.eval (.tmp 9) = .pointer (some ⟨g23, 1, none⟩)), -⟩ := hf
      exact sg_plain rfl rfl (or_load1 to3 f_9 (Blk.at_ (BlkO.evo (by decide) hE b28_g23).2 1 rfl))
    refine steps_cons (fun own a wx hf hsl hE => ?_) ?_
    · obtain ⟨(f_10 : a.eval (.tmp 10) = .int .i64 t1.2.1), -⟩ := hf
      exact sg_plain rfl rfl (or_mul rfl f_10 rfl)
    refine steps_cons (fun own a wx hf hsl hE => ?_) ?_
    · obtain ⟨s_2, -⟩ := hsl
      exact sg_plain rfl rfl (or_field fo27_2 (s_2.trans e28_2) (by rfl))
    refine steps_cons (fun own a wx hf hsl hE => ?_) ?_
    · obtain ⟨(f_12 : a.eval (.tmp 12) = .pointer (some ⟨g23, 2, none⟩)), -⟩ := hf
      exact sg_plain rfl rfl (or_load1 to3 f_12 (Blk.at_ (BlkO.evo (by decide) hE b28_g23).2 2 rfl))
    refine steps_cons (fun own a wx hf hsl hE => ?_) ?_
    · obtain ⟨(f_13 : a.eval (.tmp 13) = .int .i64 t1.2.2), -⟩ := hf
      exact sg_plain rfl rfl (or_mul rfl f_13 rfl)
    refine steps_cons (fun own a wx hf hsl hE => ?_) ?_
    · obtain ⟨(f_8 : a.eval (.tmp 8) = .slice Al2 l2.length cl2), (f_11 : a.eval (.tmp 11) = .int .i64 (ml (-4096) t1.2.1)), (f_14 : a.eval (.tmp 14) = .int .i64 (ml (-4096) t1.2.2)), -⟩ := hf
      exact sg_plain rfl rfl (or_call cf41 (args3 f_8 f_11 f_14) (window_moved_w _ l2 Al2 cl2 (ml (-4096) t1.2.1) (ml (-4096) t1.2.2) (RdO.zero (RdO.evo rfl hE b28_Al2)) r31 hr31) (post_row (m' := (look0 [(1, 33)])) (.inl (Rep.fl_flat _)) rfl rfl (fun _ => rfl)))
    refine steps_cons (fun own a wx hf hsl hE => ?_) ?_
    · obtain ⟨⟨⟨A32, cA32⟩, (f_15 : a.eval (.tmp 15) = .slice A32 r31.length cA32), (b_A32 : RwO own 33 [] wx 23 R23 A32 cA32 r31)⟩, -⟩ := hf
      exact sg_plain rfl rfl (or_mono (f := Fct.val 4 (.slice A32 r31.length cA32)) (or_assign f_15) (fun own' a' w' v' hp h => fun _ _ h0' => by cases (f_15.symm.trans ((hp.2 15 (by decide)).symm.trans h0')); exact h))
    exact steps_nil
  intro own34 a34 w34 hd34 hz34 hk34 hf34 hE34
  obtain ⟨⟨⟨A32, cA32⟩, (f_15 : a34.eval (.tmp 15) = .slice A32 r31.length cA32), (b_A32 : RwO own34 33 [] w34 23 R23 A32 cA32 r31)⟩, (q_4 : ∀ (A32 : Option Addr) (cA32 : Nat), a34.eval (.tmp 15) = .slice A32 r31.length cA32 → a34.eval (.tmp 4) = .slice A32 r31.length cA32), -⟩ := hf34 [7, 8] rfl
  have f_4 := q_4 _ _ f_15
  have e34_4 := f_4
  have hX34 := Evo.step hX28 (fun _ => Nat.le_refl 0) hE34 rfl
  have b34_A32 := b_A32
  refine fl_ret ?_
  obtain rfl := (osome hs).symm
  exact hret _ _ _ _ (.inl rfl) hd34 (results1_ rfl (RVal.tmp_ e34_4)) ⟨(rl [(33, 1)] own34), (A32, cA32), rfl, (Evo.rl_ hX34 (fun _ => Nat.le_refl 0) rfl), (RwO.rl_ (mm := [(33, 1)]) b34_A32)⟩

theorem window_World_w (w : World) (t1 : Int × Int × Int) (l2 : List (Int × Int)) (Al2 : Option Addr) (cl2 : Nat) (hl2 : RdO (fun _ => 0) [0] w R23 Al2 cl2 l2) (r : List (Int × Int)) (hs : window_World t1 l2 = some r) :
    Calls Try.prog 28 #[.agg #[.int .i64 t1.1, .int .i64 t1.2.1, .int .i64 t1.2.2], .slice Al2 l2.length cl2] w fun e w' => ∃ (own' : Own) (x : Option Addr × Nat), e = .returned (.slice x.1 r.length x.2) ∧ Evo [] (fun _ => 0) own' w w' ∧ RwO own' 1 [] w' 23 R23 x.1 x.2 r := by
  refine fl_enter (n := 16) rfl rfl rfl (Nat.le_of_ble_eq_true rfl) ?_
  intro a0 Q hd0 hz0 harg hret
  have ha0 := harg 0 _ rfl
  have ha1 := harg 1 _ rfl
  clear harg
  have hE0 : Evo [] (fun _ => 0) (fun _ => 0) w w := Evo.refl _ _ _
  refine rg_plain_seq (n := 16) (rs := []) (own0 := (fun _ => 0)) (K := [])
      (bs := [0, 0])
      (ds := [⟨[], [0], [], Fct.blk 24 2 (fun g => .pointer (some ⟨g, 0, none⟩)) 27 #[.int .i64 t1.1, .int .i64 t1.2.1, .int .i64 t1.2.2]⟩,
      ⟨[], [], [], Fct.val 4 (.slice none 0 0)⟩]) (by kernel_rfl) hz0 hd0 (fun _ h => nomatch h) ?_ ?_
  · refine steps_cons (fun own a wx hf hsl hE => ?_) ?_
    · obtain ⟨s_0, -⟩ := hsl
      exact sg_plain rfl rfl (or_new [(0, .agg #[.int .i64 t1.1, .int .i64 t1.2.1, .int .i64 t1.2.2])] rfl rfl ⟨(s_0.trans ha0), trivial⟩ (by kernel_rfl))
    refine steps_cons (fun own a wx hf hsl hE => ?_) ?_
    · exact sg_plain rfl rfl (or_assign rfl)
    exact steps_nil
  intro own25 a25 w25 hd25 hz25 hk25 hf25 hE25
  have e25_1 : a25.eval (.tmp 1) = .slice Al2 l2.length cl2 := (hk25 1 rfl).trans ha1
  obtain ⟨⟨g23, (f_2 : a25.eval (.tmp 2) = .pointer (some ⟨g23, 0, none⟩)), (b_g23 : BlkO own25 24 w25 g23 27 #[.int .i64 t1.1, .int .i64 t1.2.1, .int .i64 t1.2.2])⟩, -⟩ := hf25 [0] rfl
  have e25_2 := f_2
  have hX25 := Evo.step hE0 (fun _ => Nat.le_refl 0) hE25 rfl
  have b25_Al2 := RdO.evo rfl hE25 hl2
  have b25_g23 := b_g23
  refine fl_seq (fun Q26 hn26 hp26 => ?_)
  obtain ⟨r27, hr27, hs⟩ := obind hs
  refine rg_plain_seq (n := 16) (rs := []) (own0 := own25) (K := [])
      (bs := [0, 1, 3])
      (ds := [⟨[], [2], [], Fct.val 5 (.agg #[.int .i64 t1.1, .int .i64 t1.2.1, .int .i64 t1.2.2])⟩,
      ⟨[0], [], [], Fct.val 6 (.bool r27)⟩,
      ⟨[1], [], [], Fct.val 7 (.bool (!r27))⟩]) (by kernel_rfl) hz25 hd25 (fun _ h => nomatch h) ?_ ?_
  · refine steps_cons (fun own a wx hf hsl hE => ?_) ?_
    · obtain ⟨s_2, -⟩ := hsl
      exact sg_plain rfl rfl (or_load (l := [.int .i64 t1.1, .int .i64 t1.2.1, .int .i64 t1.2.2]) ta27 (s_2.trans e25_2) (Blk.cellsFrom (BlkO.evo (by decide) hE b25_g23).2 0 rfl) rfl)
    refine steps_cons (fun own a wx hf hsl hE => ?_) ?_
    · obtain ⟨(f_5 : a.eval (.tmp 5) = .agg #[.int .i64 t1.1, .int .i64 t1.2.1, .int .i64 t1.2.2]), -⟩ := hf
      exact sg_plain rfl rfl (or_call cf20 (args1 f_5) (window_Right_w _ t1  r27 hr27) post_val)
    refine steps_cons (fun own a wx hf hsl hE => ?_) ?_
    · obtain ⟨(f_6 : a.eval (.tmp 6) = .bool r27), -⟩ := hf
      exact sg_plain rfl rfl (or_not f_6 rfl)
    exact steps_nil
  intro own28 a28 w28 hd28 hz28 hk28 hf28 hE28
  have e28_1 : a28.eval (.tmp 1) = .slice Al2 l2.length cl2 := (hk28 1 rfl).trans e25_1
  have e28_2 : a28.eval (.tmp 2) = .pointer (some ⟨g23, 0, none⟩) := (hk28 2 rfl).trans e25_2
  obtain ⟨(f_7 : a28.eval (.tmp 7) = .bool (!r27)), -⟩ := hf28 [2] rfl
  have e28_7 := f_7
  have hX28 := Evo.step hX25 (fun _ => Nat.le_refl 0) hE28 rfl
  have b28_Al2 := RdO.evo rfl hE28 b25_Al2
  have b28_g23 := BlkO.evo (by decide) hE28 b25_g23
  refine fl_cond e28_7 hs (fun c29 hs => ?_) (fun c29 hs => ?_)
  · refine rg_plain_seq (n := 16) (rs := []) (own0 := own28) (K := [])
        (bs := [0])
        (ds := [⟨[], [], [], Fct.val 4 (.slice none 0 0)⟩]) (by kernel_rfl) hz28 hd28 (fun _ h => nomatch h) ?_ ?_
    · refine steps_cons (fun own a wx hf hsl hE => ?_) ?_
      · exact sg_plain rfl rfl (or_assign rfl)
      exact steps_nil
    intro own30 a30 w30 hd30 hz30 hk30 hf30 hE30
    obtain ⟨(f_4 : a30.eval (.tmp 4) = .slice none 0 0), -⟩ := hf30 [0] rfl
    have e30_4 := f_4
    have hX30 := Evo.step hX28 (fun _ => Nat.le_refl 0) hE30 rfl
    refine fl_ret ?_
    refine hp26 _ _ _ rfl ?_
    obtain rfl := osome hs
    exact hret _ _ _ _ (.inl rfl) hd30 (results1_ rfl (RVal.tmp_ e30_4)) ⟨own30, (none, 0), rfl, hX30, RwO.nil_⟩
  refine fl_skip ?_
  refine hn26 _ _ ?_
  obtain ⟨r31, hr31, hs⟩ := obind hs
  refine rg_plain_seq (n := 16) (rs := []) (own0 := own28) (K := [])
      (bs := [0, 0, 2, 6, 0, 16, 48, 127, 255])
      (ds := [⟨[], [1], [], Fct.val 8 (.slice Al2 l2.length cl2)⟩,
      ⟨[], [2], [], Fct.val 9 (.pointer (some ⟨g23, 1, none⟩))⟩,
      ⟨[1], [], [], Fct.val 10 (.int .i64 t1.2.1)⟩,
      ⟨[2], [], [], Fct.val 11 (.int .i64 (ml 4096 t1.2.1))⟩,
      ⟨[], [2], [], Fct.val 12 (.pointer (some ⟨g23, 2, none⟩))⟩,
      ⟨[4], [], [], Fct.val 13 (.int .i64 t1.2.2)⟩,
      ⟨[5], [], [], Fct.val 14 (.int .i64 (ml 4096 t1.2.2))⟩,
      ⟨[0, 3, 6], [], [], Fct.row 33 [] 15 23 R23 r31⟩,
      ⟨[7], [], [], Fct.rel [4, 15] (fun l => ∀ (A32 : Option Addr) (cA32 : Nat), l.getD 1 undef = .slice A32 r31.length cA32 → l.getD 0 undef = .slice A32 r31.length cA32)⟩]) (by kernel_rfl) hz28 hd28 (fun _ h => nomatch h) ?_ ?_
  · refine steps_cons (fun own a wx hf hsl hE => ?_) ?_
    · obtain ⟨s_1, -⟩ := hsl
      exact sg_plain rfl rfl (or_move (s_1.trans e28_1))
    refine steps_cons (fun own a wx hf hsl hE => ?_) ?_
    · obtain ⟨s_2, -⟩ := hsl
      exact sg_plain rfl rfl (or_field fo27_1 (s_2.trans e28_2) (by rfl))
    refine steps_cons (fun own a wx hf hsl hE => ?_) ?_
    · obtain ⟨(f_9 : a.eval (.tmp 9) = .pointer (some ⟨g23, 1, none⟩)), -⟩ := hf
      exact sg_plain rfl rfl (or_load1 to3 f_9 (Blk.at_ (BlkO.evo (by decide) hE b28_g23).2 1 rfl))
    refine steps_cons (fun own a wx hf hsl hE => ?_) ?_
    · obtain ⟨(f_10 : a.eval (.tmp 10) = .int .i64 t1.2.1), -⟩ := hf
      exact sg_plain rfl rfl (or_mul rfl f_10 rfl)
    refine steps_cons (fun own a wx hf hsl hE => ?_) ?_
    · obtain ⟨s_2, -⟩ := hsl
      exact sg_plain rfl rfl (or_field fo27_2 (s_2.trans e28_2) (by rfl))
    refine steps_cons (fun own a wx hf hsl hE => ?_) ?_
    · obtain ⟨(f_12 : a.eval (.tmp 12) = .pointer (some ⟨g23, 2, none⟩)), -⟩ := hf
      exact sg_plain rfl rfl (or_load1 to3 f_12 (Blk.at_ (BlkO.evo (by decide) hE b28_g23).2 2 rfl))
    refine steps_cons (fun own a wx hf hsl hE => ?_) ?_
    · obtain ⟨(f_13 : a.eval (.tmp 13) = .int .i64 t1.2.2), -⟩ := hf
      exact sg_plain rfl rfl (or_mul rfl f_13 rfl)
    refine steps_cons (fun own a wx hf hsl hE => ?_) ?_
    · obtain ⟨(f_8 : a.eval (.tmp 8) = .slice Al2 l2.length cl2), (f_11 : a.eval (.tmp 11) = .int .i64 (ml 4096 t1.2.1)), (f_14 : a.eval (.tmp 14) = .int .i64 (ml 4096 t1.2.2)), -⟩ := hf
      exact sg_plain rfl rfl (or_call cf41 (args3 f_8 f_11 f_14) (window_moved_w _ l2 Al2 cl2 (ml 4096 t1.2.1) (ml 4096 t1.2.2) (RdO.zero (RdO.evo rfl hE b28_Al2)) r31 hr31) (post_row (m' := (look0 [(1, 33)])) (.inl (Rep.fl_flat _)) rfl rfl (fun _ => rfl)))
    refine steps_cons (fun own a wx hf hsl hE => ?_) ?_
    · obtain ⟨⟨⟨A32, cA32⟩, (f_15 : a.eval (.tmp 15) = .slice A32 r31.length cA32), (b_A32 : RwO own 33 [] wx 23 R23 A32 cA32 r31)⟩, -⟩ := hf
      exact sg_plain rfl rfl (or_mono (f := Fct.val 4 (.slice A32 r31.length cA32)) (or_assign f_15) (fun own' a' w' v' hp h => fun _ _ h0' => by cases (f_15.symm.trans ((hp.2 15 (by decide)).symm.trans h0')); exact h))
    exact steps_nil
  intro own34 a34 w34 hd34 hz34 hk34 hf34 hE34
  obtain ⟨⟨⟨A32, cA32⟩, (f_15 : a34.eval (.tmp 15) = .slice A32 r31.length cA32), (b_A32 : RwO own34 33 [] w34 23 R23 A32 cA32 r31)⟩, (q_4 : ∀ (A32 : Option Addr) (cA32 : Nat), a34.eval (.tmp 15) = .slice A32 r31.length cA32 → a34.eval (.tmp 4) = .slice A32 r31.length cA32), -⟩ := hf34 [7, 8] rfl
  have f_4 := q_4 _ _ f_15
  have e34_4 := f_4
  have hX34 := Evo.step hX28 (fun _ => Nat.le_refl 0) hE34 rfl
  have b34_A32 := b_A32
  refine fl_ret ?_
  obtain rfl := (osome hs).symm
  exact hret _ _ _ _ (.inl rfl) hd34 (results1_ rfl (RVal.tmp_ e34_4)) ⟨(rl [(33, 1)] own34), (A32, cA32), rfl, (Evo.rl_ hX34 (fun _ => Nat.le_refl 0) rfl), (RwO.rl_ (mm := [(33, 1)]) b34_A32)⟩

theorem law01_Ofs_w (w : World) (l1 : List (Int × Int)) (Al1 : Option Addr) (cl1 : Nat) (hl1 : RdO (fun _ => 0) [0] w R23 Al1 cl1 l1) (r : List (Int × Int)) (hs : law01_Ofs l1 = some r) :
    Calls Try.prog 30 #[.slice Al1 l1.length cl1] w fun e w' => ∃ (own' : Own) (x : Option Addr × Nat), e = .returned (.slice x.1 r.length x.2) ∧ Evo [] (fun _ => 0) own' w w' ∧ RwO own' 1 [] w' 33 R33 x.1 x.2 r := by
  refine fl_enter (n := 20) rfl rfl rfl (Nat.le_of_ble_eq_true rfl) ?_
  intro a0 Q hd0 hz0 harg hret
  have ha0 := harg 0 _ rfl
  clear harg
  have hE0 : Evo [] (fun _ => 0) (fun _ => 0) w w := Evo.refl _ _ _
  refine rg_plain_seq (n := 20) (rs := []) (own0 := (fun _ => 0)) (K := [])
      (bs := [0])
      (ds := [⟨[], [], [], Fct.val 2 (.slice none 0 0)⟩]) (by kernel_rfl) hz0 hd0 (fun _ h => nomatch h) ?_ ?_
  · refine steps_cons (fun own a wx hf hsl hE => ?_) ?_
    · exact sg_plain rfl rfl (or_assign rfl)
    exact steps_nil
  intro own77 a77 w77 hd77 hz77 hk77 hf77 hE77
  have e77_0 : a77.eval (.tmp 0) = .slice Al1 l1.length cl1 := (hk77 0 rfl).trans ha0
  have hX77 := Evo.step hE0 (fun _ => Nat.le_refl 0) hE77 rfl
  have b77_Al1 := RdO.evo rfl hE77 hl1
  refine rg_plain_seq (n := 20) (rs := []) (own0 := own77) (K := [])
      (bs := [0])
      (ds := [⟨[], [], [], Fct.val 3 (.slice none 0 0)⟩]) (by kernel_rfl) hz77 hd77 (fun _ h => nomatch h) ?_ ?_
  · refine steps_cons (fun own a wx hf hsl hE => ?_) ?_
    · exact sg_plain rfl rfl (or_assign rfl)
    exact steps_nil
  intro own78 a78 w78 hd78 hz78 hk78 hf78 hE78
  have e78_0 : a78.eval (.tmp 0) = .slice Al1 l1.length cl1 := (hk78 0 rfl).trans e77_0
  obtain ⟨(f_3 : a78.eval (.tmp 3) = .slice none 0 0), -⟩ := hf78 [0] rfl
  have e78_3 := f_3
  have hX78 := Evo.step hX77 (fun _ => Nat.le_refl 0) hE78 rfl
  have b78_Al1 := RdO.evo rfl hE78 b77_Al1
  refine fl_seq (fun Q79 hn79 hp79 => ?_)
  refine rg_plain_seq (n := 20) (rs := []) (own0 := own78) (K := [])
      (bs := [0])
      (ds := [⟨[], [], [], Fct.val 4 (.int .i64 0)⟩]) (by kernel_rfl) hz78 hd78 (fun _ h => nomatch h) ?_ ?_
  · refine steps_cons (fun own a wx hf hsl hE => ?_) ?_
    · exact sg_plain rfl rfl (or_assign rfl)
    exact steps_nil
  intro own80 a80 w80 hd80 hz80 hk80 hf80 hE80
  have e80_0 : a80.eval (.tmp 0) = .slice Al1 l1.length cl1 := (hk80 0 rfl).trans e78_0
  have e80_3 : a80.eval (.tmp 3) = .slice none 0 0 := (hk80 3 rfl).trans e78_3
  obtain ⟨(f_4 : a80.eval (.tmp 4) = .int .i64 0), -⟩ := hf80 [0] rfl
  have e80_4 := f_4
  have hX80 := Evo.step hX78 (fun _ => Nat.le_refl 0) hE80 rfl
  have b80_Al1 := RdO.evo rfl hE80 b78_Al1
  refine fl_block (fun Q81 hn81 hx81 hp81 => ?_)
  refine fl_loop (body := (fun s => law01_Ofs_b1 l1 s.1 s.2)) (z := r) (show loopO _ _ = _ from hs) (fun (s : (List (Int × Int)) × Int) a wx => match s with | (out100, i102) => ∃ (ox : Own) (A98 : Option Addr) (c99 : Nat), a.defers = [] ∧ a.tmps.size = 20 ∧ a.eval (.tmp 0) = .slice Al1 l1.length cl1 ∧ a.eval (.tmp 3) = .slice A98 out100.length c99 ∧ a.eval (.tmp 4) = .int .i64 i102 ∧ Evo [] (fun _ => 0) ox w wx ∧ RdO ox [0] wx R23 Al1 cl1 l1 ∧ RwO ox 101 [] wx 33 R33 A98 c99 out100) ?_ ?_
  · exact ⟨own80, none, 0, hd80, hz80, e80_0, e80_3, e80_4, hX80, b80_Al1, RwO.nil_⟩
  · rintro ⟨out100, i102⟩ zz122 a122 w122 ⟨own122, A98, c99, hd123, hz123, e123_0, e123_3, e123_4, hE123, b123_Al1, b123_A98⟩ hs Q122 hn122 hp122 hz122
    have hs : law01_Ofs_b1 l1 out100 i102 = some zz122 := hs
    refine fl_seq (fun Q124 hn124 hp124 => ?_)
    refine rg_plain_seq (n := 20) (rs := []) (own0 := own122) (K := [])
        (bs := [0, 0, 2, 7])
        (ds := [⟨[], [4], [], Fct.val 5 (.int .i64 i102)⟩,
        ⟨[], [0], [], Fct.val 6 (.slice Al1 l1.length cl1)⟩,
        ⟨[1], [], [], Fct.val 7 (.int .i64 (l1.length : Int))⟩,
        ⟨[0, 2], [], [], Fct.val 8 (.bool (decide (i102 < (l1.length : Int))))⟩]) (by kernel_rfl) hz123 hd123 (fun _ h => nomatch h) ?_ ?_
    · refine steps_cons (fun own a wx hf hsl hE => ?_) ?_
      · obtain ⟨s_4, -⟩ := hsl
        exact sg_plain rfl rfl (or_move (s_4.trans e123_4))
      refine steps_cons (fun own a wx hf hsl hE => ?_) ?_
      · obtain ⟨s_0, -⟩ := hsl
        exact sg_plain rfl rfl (or_move (s_0.trans e123_0))
      refine steps_cons (fun own a wx hf hsl hE => ?_) ?_
      · obtain ⟨(f_6 : a.eval (.tmp 6) = .slice Al1 l1.length cl1), -⟩ := hf
        exact sg_plain rfl rfl (or_len tu60 f_6 rfl)
      refine steps_cons (fun own a wx hf hsl hE => ?_) ?_
      · obtain ⟨(f_5 : a.eval (.tmp 5) = .int .i64 i102), (f_7 : a.eval (.tmp 7) = .int .i64 (l1.length : Int)), -⟩ := hf
        exact sg_plain rfl rfl (or_lss f_5 f_7 rfl)
      exact steps_nil
    intro own125 a125 w125 hd125 hz125 hk125 hf125 hE125
    have e125_0 : a125.eval (.tmp 0) = .slice Al1 l1.length cl1 := (hk125 0 rfl).trans e123_0
    have e125_3 : a125.eval (.tmp 3) = .slice A98 out100.length c99 := (hk125 3 rfl).trans e123_3
    have e125_4 : a125.eval (.tmp 4) = .int .i64 i102 := (hk125 4 rfl).trans e123_4
    obtain ⟨(f_8 : a125.eval (.tmp 8) = .bool (decide (i102 < (l1.length : Int)))), -⟩ := hf125 [3] rfl
    have e125_8 := f_8
    have hX125 := Evo.step hE123 (fun _ => Nat.le_refl 0) hE125 rfl
    have b125_Al1 := RdO.evo rfl hE125 b123_Al1
    have b125_A98 := RwO.evo rfl hE125 b123_A98
    refine fl_cond e125_8 hs (fun c126 hs => ?_) (fun c126 hs => ?_)
    · refine fl_skip ?_
      refine hn124 _ _ ?_
      refine fl_seq (fun Q127 hn127 hp127 => ?_)
      refine fl_block (fun Q128 hn128 hx128 hp128 => ?_)
      obtain ⟨x133, hx133, hs⟩ := obind hs
      obtain ⟨r134, hr134, hs⟩ := obind hs
      obtain ⟨x137, hx137, hs⟩ := obind hs
      refine rg_plain (n := 20) (rs := [Fct.rowAt 101 [] 33 R33 A98 c99 out100]) (own0 := own125) (K := [101])
          (bs := [0, 0, 0, 6, 14, 30, 62, 127, 255])
          (ds := [⟨[], [3], [], Fct.val 11 (.slice A98 out100.length c99)⟩,
          ⟨[], [0], [], Fct.val 12 (.slice Al1 l1.length cl1)⟩,
          ⟨[], [4], [], Fct.val 13 (.int .i64 i102)⟩,
          ⟨[1, 2], [], [], Fct.val 14 (.pointer (some ((adr Al1).add ((i102 : Int).toNat * R23.s))))⟩,
          ⟨[3], [], [], Fct.val 15 (.agg #[.int .i64 x133.1, .int .i64 x133.2])⟩,
          ⟨[4], [], [], Fct.val 16 (.agg #[.int .i64 r134.1, .int .i64 r134.2])⟩,
          ⟨[5], [], [], Fct.row 136 [] 17 33 R33 [r134]⟩,
          ⟨[0, 6, 9], [], [101], Fct.row 138 [] 18 33 R33 x137⟩,
          ⟨[7], [], [], Fct.rel [3, 18] (fun l => ∀ (A139 : Option Addr) (cA139 : Nat), l.getD 1 undef = .slice A139 x137.length cA139 → l.getD 0 undef = .slice A139 x137.length cA139)⟩]) (by kernel_rfl) hz125 hd125 (by simp only [List.forall_mem_cons]; exact ⟨b125_A98, fun _ h => nomatch h⟩) ?_ ?_
      · refine steps_cons (fun own a wx hf hsl hE => ?_) ?_
        · obtain ⟨s_3, -⟩ := hsl
          exact sg_plain rfl rfl (or_move (s_3.trans e125_3))
        refine steps_cons (fun own a wx hf hsl hE => ?_) ?_
        · obtain ⟨s_0, -⟩ := hsl
          exact sg_plain rfl rfl (or_move (s_0.trans e125_0))
        refine steps_cons (fun own a wx hf hsl hE => ?_) ?_
        · obtain ⟨s_4, -⟩ := hsl
          exact sg_plain rfl rfl (or_move (s_4.trans e125_4))
        refine steps_cons (fun own a wx hf hsl hE => ?_) ?_
        · obtain ⟨(f_12 : a.eval (.tmp 12) = .slice Al1 l1.length cl1), (f_13 : a.eval (.tmp 13) = .int .i64 i102), -⟩ := hf
          exact sg_plain rfl rfl (or_index (R := R23) (l := l1) tl60 f_12 f_13 (RdO.some_ b125_Al1 hx133) hx133)
        refine steps_cons (fun own a wx hf hsl hE => ?_) ?_
        · obtain ⟨(f_14 : a.eval (.tmp 14) = .pointer (some ((adr Al1).add ((i102 : Int).toNat * R23.s)))), -⟩ := hf
          exact sg_plain rfl rfl (or_load (l := E23.f x133) ta23 f_14 (RdO.cells (F := E23) (RdO.evo rfl hE b125_Al1) hx133) rfl)
        refine steps_cons (fun own a wx hf hsl hE => ?_) ?_
        · obtain ⟨(f_15 : a.eval (.tmp 15) = .agg #[.int .i64 x133.1, .int .i64 x133.2]), -⟩ := hf
          exact sg_plain rfl rfl (or_call cf9 (args1 f_15) (law01_Of_w _ x133  r134 hr134) post_val)
        refine steps_cons (fun own a wx hf hsl hE => ?_) ?_
        · obtain ⟨(f_16 : a.eval (.tmp 16) = .agg #[.int .i64 r134.1, .int .i64 r134.2]), -⟩ := hf
          exact sg_plain rfl rfl (or_lit (lab := 136) (e := 33) (cs := #[.int .i64 r134.1, .int .i64 r134.2]) (F := E33) (or_new [(16, .agg #[.int .i64 r134.1, .int .i64 r134.2])] rfl rfl ⟨f_16, trivial⟩ (by kernel_rfl)) rfl rfl (show 1 ≤ maxLen by decide))
        refine steps_cons (fun own a wx hf hsl hE => ?_) ?_
        · obtain ⟨(f_11 : a.eval (.tmp 11) = .slice A98 out100.length c99), ⟨⟨A135, cA135⟩, (f_17 : a.eval (.tmp 17) = .slice A135 [r134].length cA135), (b_A135 : RwO own 136 [] wx 33 R33 A135 cA135 [r134])⟩, (b_A98 : RwO own 101 [] wx 33 R33 A98 c99 out100), -⟩ := hf
          exact sg_plain rfl rfl (or_append (R := R33) (lab := 101) (lab2 := 138) (L := []) (L3 := []) tp64 f_11 b_A98 (by decide) f_17 (RwO.rd b_A135) hx137 (by decide) (by decide) (mem_of rfl) (.inl (Rep.fl_flat _)))
        refine steps_cons (fun own a wx hf hsl hE => ?_) ?_
        · obtain ⟨⟨⟨A139, cA139⟩, (f_18 : a.eval (.tmp 18) = .slice A139 x137.length cA139), (b_A139 : RwO own 138 [] wx 33 R33 A139 cA139 x137)⟩, -⟩ := hf
          exact sg_plain rfl rfl (or_mono (f := Fct.val 3 (.slice A139 x137.length cA139)) (or_assign f_18) (fun own' a' w' v' hp h => fun _ _ h0' => by cases (f_18.symm.trans ((hp.2 18 (by decide)).symm.trans h0')); exact h))
        exact steps_nil
      intro own140 a140 w140 hd140 hz140 hk140 hf140 hE140
      have e140_0 : a140.eval (.tmp 0) = .slice Al1 l1.length cl1 := (hk140 0 rfl).trans e125_0
      have e140_4 : a140.eval (.tmp 4) = .int .i64 i102 := (hk140 4 rfl).trans e125_4
      obtain ⟨⟨⟨A139, cA139⟩, (f_18 : a140.eval (.tmp 18) = .slice A139 x137.length cA139), (b_A139 : RwO own140 138 [] w140 33 R33 A139 cA139 x137)⟩, (q_3 : ∀ (A139 : Option Addr) (cA139 : Nat), a140.eval (.tmp 18) = .slice A139 x137.length cA139 → a140.eval (.tmp 3) = .slice A139 x137.length cA139), -⟩ := hf140 [7, 8] rfl
      have f_3 := q_3 _ _ f_18
      have e140_3 := f_3
      have hX140 := Evo.step hX125 (fun _ => Nat.le_refl 0) hE140 rfl
      have b140_Al1 := RdO.evo rfl hE140 b125_Al1
      have b140_A139 := b_A139
      refine hn128 _ _ ?_
      refine hn127 _ _ ?_
      refine rg_plain (n := 20) (rs := []) (own0 := own140) (K := [])
          (bs := [0, 1, 3])
          (ds := [⟨[], [4], [], Fct.val 9 (.int .i64 i102)⟩,
          ⟨[0], [], [], Fct.val 10 (.int .i64 (ad i102 1))⟩,
          ⟨[1], [], [], Fct.val 4 (.int .i64 (ad i102 1))⟩]) (by kernel_rfl) hz140 hd140 (fun _ h => nomatch h) ?_ ?_
      · refine steps_cons (fun own a wx hf hsl hE => ?_) ?_
        · obtain ⟨s_4, -⟩ := hsl
          exact sg_plain rfl rfl (or_move (s_4.trans e140_4))
        refine steps_cons (fun own a wx hf hsl hE => ?_) ?_
        · obtain ⟨(f_9 : a.eval (.tmp 9) = .int .i64 i102), -⟩ := hf
          exact sg_plain rfl rfl (or_add f_9 rfl rfl)
        refine steps_cons (fun own a wx hf hsl hE => ?_) ?_
        · obtain ⟨(f_10 : a.eval (.tmp 10) = .int .i64 (ad i102 1)), -⟩ := hf
          exact sg_plain rfl rfl (or_assign f_10)
        exact steps_nil
      intro own141 a141 w141 hd141 hz141 hk141 hf141 hE141
      have e141_0 : a141.eval (.tmp 0) = .slice Al1 l1.length cl1 := (hk141 0 rfl).trans e140_0
      have e141_3 : a141.eval (.tmp 3) = .slice A139 x137.length cA139 := (hk141 3 rfl).trans e140_3
      obtain ⟨(f_4 : a141.eval (.tmp 4) = .int .i64 (ad i102 1)), -⟩ := hf141 [2] rfl
      have e141_4 := f_4
      have hX141 := Evo.step hX140 (fun _ => Nat.le_refl 0) hE141 rfl
      have b141_Al1 := RdO.evo rfl hE141 b140_Al1
      have b141_A139 := RwO.evo rfl hE141 b140_A139
      exact hn122 _ _ _ hs ⟨(rl [(138, 101)] own141), A139, cA139, hd141, hz141, e141_0, e141_3, e141_4, (Evo.rl_ hX141 (fun _ => Nat.le_refl 0) rfl), (RdO.rl_ (mm := [(138, 101)]) b141_Al1), (RwO.rl_ (mm := [(138, 101)]) b141_A139)⟩
    refine fl_exit ?_
    refine hp124 _ _ _ rfl ?_
    replace hs := hz122 _ hs
    refine hp122 _ _ _ rfl ?_
    refine hx81 _ _ ?_
    refine hn79 _ _ ?_
    refine rg_plain_seq (n := 20) (rs := []) (own0 := own125) (K := [])
        (bs := [0, 1])
        (ds := [⟨[], [3], [], Fct.val 19 (.slice A98 out100.length c99)⟩,
        ⟨[0], [], [], Fct.val 2 (.slice A98 out100.length c99)⟩]) (by kernel_rfl) hz125 hd125 (fun _ h => nomatch h) ?_ ?_
    · refine steps_cons (fun own a wx hf hsl hE => ?_) ?_
      · obtain ⟨s_3, -⟩ := hsl
        exact sg_plain rfl rfl (or_move (s_3.trans e125_3))
      refine steps_cons (fun own a wx hf hsl hE => ?_) ?_
      · obtain ⟨(f_19 : a.eval (.tmp 19) = .slice A98 out100.length c99), -⟩ := hf
        exact sg_plain rfl rfl (or_assign f_19)
      exact steps_nil
    intro own142 a142 w142 hd142 hz142 hk142 hf142 hE142
    obtain ⟨(f_2 : a142.eval (.tmp 2) = .slice A98 out100.length c99), -⟩ := hf142 [1] rfl
    have e142_2 := f_2
    have hX142 := Evo.step hX125 (fun _ => Nat.le_refl 0) hE142 rfl
    have b142_A98 := RwO.evo rfl hE142 b125_A98
    refine fl_ret ?_
    obtain rfl := (osome hs).symm
    exact hret _ _ _ _ (.inl rfl) hd142 (results1_ rfl (RVal.tmp_ e142_2)) ⟨(rl [(101, 1)] own142), (A98, c99), rfl, (Evo.rl_ hX142 (fun _ => Nat.le_refl 0) rfl), (RwO.rl_ (mm := [(101, 1)]) b142_A98)⟩

theorem ref03_Same_w (w : World) (x1 : List (Int × Int)) (Ax1 : Option Addr) (cx1 : Nat) (b2 : List (Int × Int)) (Ab2 : Option Addr) (cb2 : Nat) (hx1 : RdO (fun _ => 0) [0] w R33 Ax1 cx1 x1) (hb2 : RdO (fun _ => 0) [0] w R33 Ab2 cb2 b2) (r : Bool) (hs : ref03_Same x1 b2 = some r) :
    Calls Try.prog 42 #[.slice Ax1 x1.length cx1, .slice Ab2 b2.length cb2] w fun e w' => ∃ own' : Own, e = .returned (.bool r) ∧ Evo [] (fun _ => 0) own' w w' := by
  refine fl_enter (n := 26) rfl rfl rfl (Nat.le_of_ble_eq_true rfl) ?_
  intro a0 Q hd0 hz0 harg hret
  have ha0 := harg 0 _ rfl
  have ha1 := harg 1 _ rfl
  clear harg
  have hE0 : Evo [] (fun _ => 0) (fun _ => 0) w w := Evo.refl _ _ _
  refine rg_plain_seq (n := 26) (rs := []) (own0 := (fun _ => 0)) (K := [])
      (bs := [0])
      (ds := [⟨[], [], [], Fct.val 4 (.bool false)⟩]) (by kernel_rfl) hz0 hd0 (fun _ h => nomatch h) ?_ ?_
  · refine steps_cons (fun own a wx hf hsl hE => ?_) ?_
    · exact sg_plain rfl rfl (or_assign rfl)
    exact steps_nil
  intro own58 a58 w58 hd58 hz58 hk58 hf58 hE58
  have e58_0 : a58.eval (.tmp 0) = .slice Ax1 x1.length cx1 := (hk58 0 rfl).trans ha0
  have e58_1 : a58.eval (.tmp 1) = .slice Ab2 b2.length cb2 := (hk58 1 rfl).trans ha1
  have hX58 := Evo.step hE0 (fun _ => Nat.le_refl 0) hE58 rfl
  have b58_Ax1 := RdO.evo rfl hE58 hx1
  have b58_Ab2 := RdO.evo rfl hE58 hb2
  refine fl_seq (fun Q59 hn59 hp59 => ?_)
  refine rg_plain_seq (n := 26) (rs := []) (own0 := own58) (K := [])
      (bs := [0, 1, 0, 4, 15])
      (ds := [⟨[], [0], [], Fct.val 6 (.slice Ax1 x1.length cx1)⟩,
      ⟨[0], [], [], Fct.val 7 (.int .i64 (x1.length : Int))⟩,
      ⟨[], [1], [], Fct.val 8 (.slice Ab2 b2.length cb2)⟩,
      ⟨[2], [], [], Fct.val 9 (.int .i64 (b2.length : Int))⟩,
      ⟨[1, 3], [], [], Fct.val 10 (.bool (!decide ((x1.length : Int) = (b2.length : Int))))⟩]) (by kernel_rfl) hz58 hd58 (fun _ h => nomatch h) ?_ ?_
  · refine steps_cons (fun own a wx hf hsl hE => ?_) ?_
    · obtain ⟨s_0, -⟩ := hsl
      exact sg_plain rfl rfl (or_move (s_0.trans e58_0))
    refine steps_cons (fun own a wx hf hsl hE => ?_) ?_
    · obtain ⟨(f_6 : a.eval (.tmp 6) = .slice Ax1 x1.length cx1), -⟩ := hf
      exact sg_plain rfl rfl (or_len tu64 f_6 rfl)
    refine steps_cons (fun own a wx hf hsl hE => ?_) ?_
    · obtain ⟨s_1, -⟩ := hsl
      exact sg_plain rfl rfl (or_move (s_1.trans e58_1))
    refine steps_cons (fun own a wx hf hsl hE => ?_) ?_
    · obtain ⟨(f_8 : a.eval (.tmp 8) = .slice Ab2 b2.length cb2), -⟩ := hf
      exact sg_plain rfl rfl (or_len tu64 f_8 rfl)
    refine steps_cons (fun own a wx hf hsl hE => ?_) ?_
    · obtain ⟨(f_7 : a.eval (.tmp 7) = .int .i64 (x1.length : Int)), (f_9 : a.eval (.tmp 9) = .int .i64 (b2.length : Int)), -⟩ := hf
      exact sg_plain rfl rfl (or_neq f_7 f_9 rfl)
    exact steps_nil
  intro own60 a60 w60 hd60 hz60 hk60 hf60 hE60
  have e60_0 : a60.eval (.tmp 0) = .slice Ax1 x1.length cx1 := (hk60 0 rfl).trans e58_0
  have e60_1 : a60.eval (.tmp 1) = .slice Ab2 b2.length cb2 := (hk60 1 rfl).trans e58_1
  obtain ⟨(f_10 : a60.eval (.tmp 10) = .bool (!decide ((x1.length : Int) = (b2.length : Int)))), -⟩ := hf60 [4] rfl
  have e60_10 := f_10
  have hX60 := Evo.step hX58 (fun _ => Nat.le_refl 0) hE60 rfl
  have b60_Ax1 := RdO.evo rfl hE60 b58_Ax1
  have b60_Ab2 := RdO.evo rfl hE60 b58_Ab2
  refine fl_cond e60_10 hs (fun c61 hs => ?_) (fun c61 hs => ?_)
  · refine rg_plain_seq (n := 26) (rs := []) (own0 := own60) (K := [])
        (bs := [0])
        (ds := [⟨[], [], [], Fct.val 4 (.bool false)⟩]) (by kernel_rfl) hz60 hd60 (fun _ h => nomatch h) ?_ ?_
    · refine steps_cons (fun own a wx hf hsl hE => ?_) ?_
      · exact sg_plain rfl rfl (or_assign rfl)
      exact steps_nil
    intro own62 a62 w62 hd62 hz62 hk62 hf62 hE62
    obtain ⟨(f_4 : a62.eval (.tmp 4) = .bool false), -⟩ := hf62 [0] rfl
    have e62_4 := f_4
    have hX62 := Evo.step hX60 (fun _ => Nat.le_refl 0) hE62 rfl
    refine fl_ret ?_
    refine hp59 _ _ _ rfl ?_
    obtain rfl := osome hs
    exact hret _ _ _ _ (.inl rfl) hd62 (results1_ rfl (RVal.tmp_ e62_4)) ⟨own62, rfl, hX62⟩
  refine fl_skip ?_
  refine hn59 _ _ ?_
  refine fl_seq (fun Q63 hn63 hp63 => ?_)
  refine rg_plain_seq (n := 26) (rs := []) (own0 := own60) (K := [])
      (bs := [0])
      (ds := [⟨[], [], [], Fct.val 5 (.int .i64 0)⟩]) (by kernel_rfl) hz60 hd60 (fun _ h => nomatch h) ?_ ?_
  · refine steps_cons (fun own a wx hf hsl hE => ?_) ?_
    · exact sg_plain rfl rfl (or_assign rfl)
    exact steps_nil
  intro own64 a64 w64 hd64 hz64 hk64 hf64 hE64
  have e64_0 : a64.eval (.tmp 0) = .slice Ax1 x1.length cx1 := (hk64 0 rfl).trans e60_0
  have e64_1 : a64.eval (.tmp 1) = .slice Ab2 b2.length cb2 := (hk64 1 rfl).trans e60_1
  obtain ⟨(f_5 : a64.eval (.tmp 5) = .int .i64 0), -⟩ := hf64 [0] rfl
  have e64_5 := f_5
  have hX64 := Evo.step hX60 (fun _ => Nat.le_refl 0) hE64 rfl
  have b64_Ax1 := RdO.evo rfl hE64 b60_Ax1
  have b64_Ab2 := RdO.evo rfl hE64 b60_Ab2
  refine fl_block (fun Q65 hn65 hx65 hp65 => ?_)
  refine fl_loop (body := (fun s => ref03_Same_b1 x1 b2 s)) (z := r) (show loopO _ _ = _ from hs) (fun (i78 : Int) a wx => ∃ (ox : Own), a.defers = [] ∧ a.tmps.size = 26 ∧ a.eval (.tmp 0) = .slice Ax1 x1.length cx1 ∧ a.eval (.tmp 1) = .slice Ab2 b2.length cb2 ∧ a.eval (.tmp 5) = .int .i64 i78 ∧ Evo [] (fun _ => 0) ox w wx ∧ RdO ox [0] wx R33 Ax1 cx1 x1 ∧ RdO ox [0] wx R33 Ab2 cb2 b2) ?_ ?_
  · exact ⟨own64, hd64, hz64, e64_0, e64_1, e64_5, hX64, b64_Ax1, b64_Ab2⟩
  · rintro i78 zz91 a91 w91 ⟨own91, hd92, hz92, e92_0, e92_1, e92_5, hE92, b92_Ax1, b92_Ab2⟩ hs Q91 hn91 hp91 hz91
    have hs : ref03_Same_b1 x1 b2 i78 = some zz91 := hs
    refine fl_seq (fun Q93 hn93 hp93 => ?_)
    refine rg_plain_seq (n := 26) (rs := []) (own0 := own91) (K := [])
        (bs := [0, 0, 2, 7])
        (ds := [⟨[], [5], [], Fct.val 11 (.int .i64 i78)⟩,
        ⟨[], [0], [], Fct.val 12 (.slice Ax1 x1.length cx1)⟩,
        ⟨[1], [], [], Fct.val 13 (.int .i64 (x1.length : Int))⟩,
        ⟨[0, 2], [], [], Fct.val 14 (.bool (decide (i78 < (x1.length : Int))))⟩]) (by kernel_rfl) hz92 hd92 (fun _ h => nomatch h) ?_ ?_
    · refine steps_cons (fun own a wx hf hsl hE => ?_) ?_
      · obtain ⟨s_5, -⟩ := hsl
        exact sg_plain rfl rfl (or_move (s_5.trans e92_5))
      refine steps_cons (fun own a wx hf hsl hE => ?_) ?_
      · obtain ⟨s_0, -⟩ := hsl
        exact sg_plain rfl rfl (or_move (s_0.trans e92_0))
      refine steps_cons (fun own a wx hf hsl hE => ?_) ?_
      · obtain ⟨(f_12 : a.eval (.tmp 12) = .slice Ax1 x1.length cx1), -⟩ := hf
        exact sg_plain rfl rfl (or_len tu64 f_12 rfl)
      refine steps_cons (fun own a wx hf hsl hE => ?_) ?_
      · obtain ⟨(f_11 : a.eval (.tmp 11) = .int .i64 i78), (f_13 : a.eval (.tmp 13) = .int .i64 (x1.length : Int)), -⟩ := hf
        exact sg_plain rfl rfl (or_lss f_11 f_13 rfl)
      exact steps_nil
    intro own94 a94 w94 hd94 hz94 hk94 hf94 hE94
    have e94_0 : a94.eval (.tmp 0) = .slice Ax1 x1.length cx1 := (hk94 0 rfl).trans e92_0
    have e94_1 : a94.eval (.tmp 1) = .slice Ab2 b2.length cb2 := (hk94 1 rfl).trans e92_1
    have e94_5 : a94.eval (.tmp 5) = .int .i64 i78 := (hk94 5 rfl).trans e92_5
    obtain ⟨(f_14 : a94.eval (.tmp 14) = .bool (decide (i78 < (x1.length : Int)))), -⟩ := hf94 [3] rfl
    have e94_14 := f_14
    have hX94 := Evo.step hE92 (fun _ => Nat.le_refl 0) hE94 rfl
    have b94_Ax1 := RdO.evo rfl hE94 b92_Ax1
    have b94_Ab2 := RdO.evo rfl hE94 b92_Ab2
    refine fl_cond e94_14 hs (fun c95 hs => ?_) (fun c95 hs => ?_)
    · refine fl_skip ?_
      refine hn93 _ _ ?_
      refine fl_seq (fun Q96 hn96 hp96 => ?_)
      refine fl_block (fun Q97 hn97 hx97 hp97 => ?_)
      obtain ⟨x98, hx98, hs⟩ := obind hs
      obtain ⟨x99, hx99, hs⟩ := obind hs
      refine rg_draw_seq g_mixed (n := 26) (rs := []) (own0 := own94) (K := [])
          (bs := [0, 0, 3, 7, 0, 0, 48, 112, 255])
          (ds := [⟨[], [0], [], Fct.val 17 (.slice Ax1 x1.length cx1)⟩,
          ⟨[], [5], [], Fct.val 18 (.int .i64 i78)⟩,
          ⟨[0, 1], [], [], Fct.val 19 (.pointer (some ((adr Ax1).add ((i78 : Int).toNat * R33.s))))⟩,
          ⟨[2], [], [], Fct.val 20 (.agg #[.int .i64 x98.1, .int .i64 x98.2])⟩,
          ⟨[], [1], [], Fct.val 21 (.slice Ab2 b2.length cb2)⟩,
          ⟨[], [5], [], Fct.val 22 (.int .i64 i78)⟩,
          ⟨[4, 5], [], [], Fct.val 23 (.pointer (some ((adr Ab2).add ((i78 : Int).toNat * R33.s))))⟩,
          ⟨[6], [], [], Fct.val 24 (.agg #[.int .i64 x99.1, .int .i64 x99.2])⟩,
          ⟨[3, 7], [], [], Fct.val 25 (.bool (!decide (x98 = x99)))⟩]) (by kernel_rfl) hz94 hd94 (fun _ h => nomatch h) ?_ ?_
      · refine steps_cons (fun own a wx hf hsl hE => ?_) ?_
        · obtain ⟨s_0, -⟩ := hsl
          exact sg_plain rfl rfl (or_move (s_0.trans e94_0))
        refine steps_cons (fun own a wx hf hsl hE => ?_) ?_
        · obtain ⟨s_5, -⟩ := hsl
          exact sg_plain rfl rfl (or_move (s_5.trans e94_5))
        refine steps_cons (fun own a wx hf hsl hE => ?_) ?_
        · obtain ⟨(f_17 : a.eval (.tmp 17) = .slice Ax1 x1.length cx1), (f_18 : a.eval (.tmp 18) = .int .i64 i78), -⟩ := hf
          exact sg_plain rfl rfl (or_index (R := R33) (l := x1) tl64 f_17 f_18 (RdO.some_ b94_Ax1 hx98) hx98)
        refine steps_cons (fun own a wx hf hsl hE => ?_) ?_
        · obtain ⟨(f_19 : a.eval (.tmp 19) = .pointer (some ((adr Ax1).add ((i78 : Int).toNat * R33.s)))), -⟩ := hf
          exact sg_plain rfl rfl (or_load (l := E33.f x98) ta33 f_19 (RdO.cells (F := E33) (RdO.evo rfl hE b94_Ax1) hx98) rfl)
        refine steps_cons (fun own a wx hf hsl hE => ?_) ?_
        · obtain ⟨s_1, -⟩ := hsl
          exact sg_plain rfl rfl (or_move (s_1.trans e94_1))
        refine steps_cons (fun own a wx hf hsl hE => ?_) ?_
        · obtain ⟨s_5, -⟩ := hsl
          exact sg_plain rfl rfl (or_move (s_5.trans e94_5))
        refine steps_cons (fun own a wx hf hsl hE => ?_) ?_
        · obtain ⟨(f_21 : a.eval (.tmp 21) = .slice Ab2 b2.length cb2), (f_22 : a.eval (.tmp 22) = .int .i64 i78), -⟩ := hf
          exact sg_plain rfl rfl (or_index (R := R33) (l := b2) tl64 f_21 f_22 (RdO.some_ b94_Ab2 hx99) hx99)
        refine steps_cons (fun own a wx hf hsl hE => ?_) ?_
        · obtain ⟨(f_23 : a.eval (.tmp 23) = .pointer (some ((adr Ab2).add ((i78 : Int).toNat * R33.s)))), -⟩ := hf
          exact sg_plain rfl rfl (or_load (l := E33.f x99) ta33 f_23 (RdO.cells (F := E33) (RdO.evo rfl hE b94_Ab2) hx99) rfl)
        refine steps_cons (fun own a wx hf hsl hE => ?_) ?_
        · obtain ⟨(f_20 : a.eval (.tmp 20) = .agg #[.int .i64 x98.1, .int .i64 x98.2]), (f_24 : a.eval (.tmp 24) = .agg #[.int .i64 x99.1, .int .i64 x99.2]), -⟩ := hf
          exact sg_plain rfl rfl (or_neqA sg33 f_20 f_24 (sn33 x98.1 x98.2 x99.1 x99.2 _) rfl)
        exact steps_nil
      intro own100 a100 w100 hd100 hz100 hk100 hf100 hE100
      have e100_0 : a100.eval (.tmp 0) = .slice Ax1 x1.length cx1 := (hk100 0 rfl).trans e94_0
      have e100_1 : a100.eval (.tmp 1) = .slice Ab2 b2.length cb2 := (hk100 1 rfl).trans e94_1
      have e100_5 : a100.eval (.tmp 5) = .int .i64 i78 := (hk100 5 rfl).trans e94_5
      obtain ⟨(f_25 : a100.eval (.tmp 25) = .bool (!decide (x98 = x99))), -⟩ := hf100 [8] rfl
      have e100_25 := f_25
      have hX100 := Evo.step hX94 (fun _ => Nat.le_refl 0) hE100 rfl
      have b100_Ax1 := RdO.evo rfl hE100 b94_Ax1
      have b100_Ab2 := RdO.evo rfl hE100 b94_Ab2
      refine fl_cond e100_25 hs (fun c101 hs => ?_) (fun c101 hs => ?_)
      · refine rg_plain_seq (n := 26) (rs := []) (own0 := own100) (K := [])
            (bs := [0])
            (ds := [⟨[], [], [], Fct.val 4 (.bool false)⟩]) (by kernel_rfl) hz100 hd100 (fun _ h => nomatch h) ?_ ?_
        · refine steps_cons (fun own a wx hf hsl hE => ?_) ?_
          · exact sg_plain rfl rfl (or_assign rfl)
          exact steps_nil
        intro own102 a102 w102 hd102 hz102 hk102 hf102 hE102
        obtain ⟨(f_4 : a102.eval (.tmp 4) = .bool false), -⟩ := hf102 [0] rfl
        have e102_4 := f_4
        have hX102 := Evo.step hX100 (fun _ => Nat.le_refl 0) hE102 rfl
        refine fl_ret ?_
        refine hp97 _ _ _ rfl ?_
        refine hp96 _ _ _ rfl ?_
        replace hs := hz91 _ hs
        refine hp91 _ _ _ rfl ?_
        refine hp65 _ _ _ rfl ?_
        refine hp63 _ _ _ rfl ?_
        obtain rfl := osome hs
        exact hret _ _ _ _ (.inl rfl) hd102 (results1_ rfl (RVal.tmp_ e102_4)) ⟨own102, rfl, hX102⟩
      refine fl_skip ?_
      refine hn97 _ _ ?_
      refine hn96 _ _ ?_
      refine rg_plain (n := 26) (rs := []) (own0 := own100) (K := [])
          (bs := [0, 1, 3])
          (ds := [⟨[], [5], [], Fct.val 15 (.int .i64 i78)⟩,
          ⟨[0], [], [], Fct.val 16 (.int .i64 (ad i78 1))⟩,
          ⟨[1], [], [], Fct.val 5 (.int .i64 (ad i78 1))⟩]) (by kernel_rfl) hz100 hd100 (fun _ h => nomatch h) ?_ ?_
      · refine steps_cons (fun own a wx hf hsl hE => ?_) ?_
        · obtain ⟨s_5, -⟩ := hsl
          exact sg_plain rfl rfl (or_move (s_5.trans e100_5))
        refine steps_cons (fun own a wx hf hsl hE => ?_) ?_
        · obtain ⟨(f_15 : a.eval (.tmp 15) = .int .i64 i78), -⟩ := hf
          exact sg_plain rfl rfl (or_add f_15 rfl rfl)
        refine steps_cons (fun own a wx hf hsl hE => ?_) ?_
        · obtain ⟨(f_16 : a.eval (.tmp 16) = .int .i64 (ad i78 1)), -⟩ := hf
          exact sg_plain rfl rfl (or_assign f_16)
        exact steps_nil
      intro own103 a103 w103 hd103 hz103 hk103 hf103 hE103
      have e103_0 : a103.eval (.tmp 0) = .slice Ax1 x1.length cx1 := (hk103 0 rfl).trans e100_0
      have e103_1 : a103.eval (.tmp 1) = .slice Ab2 b2.length cb2 := (hk103 1 rfl).trans e100_1
      obtain ⟨(f_5 : a103.eval (.tmp 5) = .int .i64 (ad i78 1)), -⟩ := hf103 [2] rfl
      have e103_5 := f_5
      have hX103 := Evo.step hX100 (fun _ => Nat.le_refl 0) hE103 rfl
      have b103_Ax1 := RdO.evo rfl hE103 b100_Ax1
      have b103_Ab2 := RdO.evo rfl hE103 b100_Ab2
      exact hn91 _ _ _ hs ⟨own103, hd103, hz103, e103_0, e103_1, e103_5, hX103, b103_Ax1, b103_Ab2⟩
    refine fl_exit ?_
    refine hp93 _ _ _ rfl ?_
    replace hs := hz91 _ hs
    refine hp91 _ _ _ rfl ?_
    refine hx65 _ _ ?_
    refine hn63 _ _ ?_
    refine rg_plain_seq (n := 26) (rs := []) (own0 := own94) (K := [])
        (bs := [0])
        (ds := [⟨[], [], [], Fct.val 4 (.bool true)⟩]) (by kernel_rfl) hz94 hd94 (fun _ h => nomatch h) ?_ ?_
    · refine steps_cons (fun own a wx hf hsl hE => ?_) ?_
      · exact sg_plain rfl rfl (or_assign rfl)
      exact steps_nil
    intro own104 a104 w104 hd104 hz104 hk104 hf104 hE104
    obtain ⟨(f_4 : a104.eval (.tmp 4) = .bool true), -⟩ := hf104 [0] rfl
    have e104_4 := f_4
    have hX104 := Evo.step hX94 (fun _ => Nat.le_refl 0) hE104 rfl
    refine fl_ret ?_
    obtain rfl := osome hs
    exact hret _ _ _ _ (.inl rfl) hd104 (results1_ rfl (RVal.tmp_ e104_4)) ⟨own104, rfl, hX104⟩

theorem law03_Same_w (w : World) (l1 : List (Int × Int)) (Al1 : Option Addr) (cl1 : Nat) (x2 : List (Int × Int)) (Ax2 : Option Addr) (cx2 : Nat) (hl1 : RdO (fun _ => 0) [0] w R23 Al1 cl1 l1) (hx2 : RdO (fun _ => 0) [0] w R33 Ax2 cx2 x2) (r : Bool) (hs : law03_Same l1 x2 = some r) :
    Calls Try.prog 29 #[.slice Al1 l1.length cl1, .slice Ax2 x2.length cx2] w fun e w' => ∃ own' : Own, e = .returned (.bool r) ∧ Evo [] (fun _ => 0) own' w w' := by
  refine fl_enter (n := 9) rfl rfl rfl (Nat.le_of_ble_eq_true rfl) ?_
  intro a0 Q hd0 hz0 harg hret
  have ha0 := harg 0 _ rfl
  have ha1 := harg 1 _ rfl
  clear harg
  have hE0 : Evo [] (fun _ => 0) (fun _ => 0) w w := Evo.refl _ _ _
  refine rg_plain_seq (n := 9) (rs := []) (own0 := (fun _ => 0)) (K := [])
      (bs := [0])
      (ds := [⟨[], [], [], Fct.val 4 (.bool false)⟩]) (by kernel_rfl) hz0 hd0 (fun _ h => nomatch h) ?_ ?_
  · refine steps_cons (fun own a wx hf hsl hE => ?_) ?_
    · exact sg_plain rfl rfl (or_assign rfl)
    exact steps_nil
  intro own17 a17 w17 hd17 hz17 hk17 hf17 hE17
  have e17_0 : a17.eval (.tmp 0) = .slice Al1 l1.length cl1 := (hk17 0 rfl).trans ha0
  have e17_1 : a17.eval (.tmp 1) = .slice Ax2 x2.length cx2 := (hk17 1 rfl).trans ha1
  have hX17 := Evo.step hE0 (fun _ => Nat.le_refl 0) hE17 rfl
  have b17_Al1 := RdO.evo rfl hE17 hl1
  have b17_Ax2 := RdO.evo rfl hE17 hx2
  obtain ⟨r18, hr18, hs⟩ := obind hs
  obtain ⟨r21, hr21, hs⟩ := obind hs
  refine rg_plain_seq (n := 9) (rs := []) (own0 := own17) (K := [])
      (bs := [0, 1, 0, 7, 15])
      (ds := [⟨[], [0], [], Fct.val 5 (.slice Al1 l1.length cl1)⟩,
      ⟨[0], [], [], Fct.row 20 [] 6 33 R33 r18⟩,
      ⟨[], [1], [], Fct.val 7 (.slice Ax2 x2.length cx2)⟩,
      ⟨[1, 2], [], [], Fct.val 8 (.bool r21)⟩,
      ⟨[3], [], [], Fct.val 4 (.bool r21)⟩]) (by kernel_rfl) hz17 hd17 (fun _ h => nomatch h) ?_ ?_
  · refine steps_cons (fun own a wx hf hsl hE => ?_) ?_
    · obtain ⟨s_0, -⟩ := hsl
      exact sg_plain rfl rfl (or_move (s_0.trans e17_0))
    refine steps_cons (fun own a wx hf hsl hE => ?_) ?_
    · obtain ⟨(f_5 : a.eval (.tmp 5) = .slice Al1 l1.length cl1), -⟩ := hf
      exact sg_plain rfl rfl (or_call cf30 (args1 f_5) (law01_Ofs_w _ l1 Al1 cl1 (RdO.zero (RdO.evo rfl hE b17_Al1)) r18 hr18) (post_row (m' := (look0 [(1, 20)])) (.inl (Rep.fl_flat _)) rfl rfl (fun _ => rfl)))
    refine steps_cons (fun own a wx hf hsl hE => ?_) ?_
    · obtain ⟨s_1, -⟩ := hsl
      exact sg_plain rfl rfl (or_move (s_1.trans e17_1))
    refine steps_cons (fun own a wx hf hsl hE => ?_) ?_
    · obtain ⟨⟨⟨A19, cA19⟩, (f_6 : a.eval (.tmp 6) = .slice A19 r18.length cA19), (b_A19 : RwO own 20 [] wx 33 R33 A19 cA19 r18)⟩, (f_7 : a.eval (.tmp 7) = .slice Ax2 x2.length cx2), -⟩ := hf
      exact sg_plain rfl rfl (or_call cf42 (args2 f_6 f_7) (ref03_Same_w _ r18 A19 cA19 x2 Ax2 cx2 (RdO.zero (RwO.rd b_A19)) (RdO.zero (RdO.evo rfl hE b17_Ax2)) r21 hr21) post_val)
    refine steps_cons (fun own a wx hf hsl hE => ?_) ?_
    · obtain ⟨(f_8 : a.eval (.tmp 8) = .bool r21), -⟩ := hf
      exact sg_plain rfl rfl (or_assign f_8)
    exact steps_nil
  intro own22 a22 w22 hd22 hz22 hk22 hf22 hE22
  obtain ⟨(f_4 : a22.eval (.tmp 4) = .bool r21), -⟩ := hf22 [4] rfl
  have e22_4 := f_4
  have hX22 := Evo.step hX17 (fun _ => Nat.le_refl 0) hE22 rfl
  refine fl_ret ?_
  obtain rfl := (osome hs).symm
  exact hret _ _ _ _ (.inl rfl) hd22 (results1_ rfl (RVal.tmp_ e22_4)) ⟨own22, rfl, hX22⟩

set_option maxHeartbeats 2000000 in
theorem law20_WindowLocal_w (w : World) (t1 : Int × Int × Int) (l2 : List (Int × Int)) (Al2 : Option Addr) (cl2 : Nat) (hl2 : RdO (fun _ => 0) [0] w R23 Al2 cl2 l2) (r : Bool) (hs : law20_WindowLocal t1 l2 = some r) :
    Calls Try.prog 6 #[.agg #[.int .i64 t1.1, .int .i64 t1.2.1, .int .i64 t1.2.2], .slice Al2 l2.length cl2] w fun e w' => ∃ own' : Own, e = .returned (.bool r) ∧ Evo [] (fun _ => 0) own' w w' := by
  refine fl_enter (n := 161) rfl rfl rfl (Nat.le_of_ble_eq_true rfl) ?_
  intro a0 Q hd0 hz0 harg hret
  have ha0 := harg 0 _ rfl
  have ha1 := harg 1 _ rfl
  clear harg
  have hE0 : Evo [] (fun _ => 0) (fun _ => 0) w w := Evo.refl _ _ _
  refine rg_plain_seq (n := 161) (rs := []) (own0 := (fun _ => 0)) (K := [])
      (bs := [0, 0])
      (ds := [⟨[], [0], [], Fct.blk 139 2 (fun g => .pointer (some ⟨g, 0, none⟩)) 27 #[.int .i64 t1.1, .int .i64 t1.2.1, .int .i64 t1.2.2]⟩,
      ⟨[], [], [], Fct.val 4 (.bool false)⟩]) (by kernel_rfl) hz0 hd0 (fun _ h => nomatch h) ?_ ?_
  · refine steps_cons (fun own a wx hf hsl hE => ?_) ?_
    · obtain ⟨s_0, -⟩ := hsl
      exact sg_plain rfl rfl (or_new [(0, .agg #[.int .i64 t1.1, .int .i64 t1.2.1, .int .i64 t1.2.2])] rfl rfl ⟨(s_0.trans ha0), trivial⟩ (by kernel_rfl))
    refine steps_cons (fun own a wx hf hsl hE => ?_) ?_
    · exact sg_plain rfl rfl (or_assign rfl)
    exact steps_nil
  intro own140 a140 w140 hd140 hz140 hk140 hf140 hE140
  have e140_1 : a140.eval (.tmp 1) = .slice Al2 l2.length cl2 := (hk140 1 rfl).trans ha1
  obtain ⟨⟨g138, (f_2 : a140.eval (.tmp 2) = .pointer (some ⟨g138, 0, none⟩)), (b_g138 : BlkO own140 139 w140 g138 27 #[.int .i64 t1.1, .int .i64 t1.2.1, .int .i64 t1.2.2])⟩, -⟩ := hf140 [0] rfl
  have e140_2 := f_2
  have hX140 := Evo.step hE0 (fun _ => Nat.le_refl 0) hE140 rfl
  have b140_Al2 := RdO.evo rfl hE140 hl2
  have b140_g138 := b_g138
  obtain ⟨r141, hr141, hs⟩ := obind hs
  refine rg_plain_seq (n := 161) (rs := []) (own0 := own140) (K := [])
      (bs := [0, 1, 3])
      (ds := [⟨[], [1], [], Fct.val 11 (.slice Al2 l2.length cl2)⟩,
      ⟨[0], [], [], Fct.mems [143, 144, 0] 12 (fun (x : Option Addr × Nat) => .slice x.1 r141.length x.2) (fun (x : Option Addr × Nat) own w => RdO own [143, 144, 0] w R23 x.1 x.2 r141) (fun hk he h => RdO.evo (hits_sub hk (by decide)) he h)⟩,
      ⟨[1], [], [], Fct.rel [1, 12] (fun l => ∀ (A142 : Option Addr) (cA142 : Nat), l.getD 1 undef = .slice A142 r141.length cA142 → l.getD 0 undef = .slice A142 r141.length cA142)⟩]) (by kernel_rfl) hz140 hd140 (fun _ h => nomatch h) ?_ ?_
  · refine steps_cons (fun own a wx hf hsl hE => ?_) ?_
    · obtain ⟨s_1, -⟩ := hsl
      exact sg_plain rfl rfl (or_move (s_1.trans e140_1))
    refine steps_cons (fun own a wx hf hsl hE => ?_) ?_
    · obtain ⟨(f_11 : a.eval (.tmp 11) = .slice Al2 l2.length cl2), -⟩ := hf
      exact sg_plain rfl rfl (or_call cf26 (args1 f_11) (law03_Cut_w _ (forth own (inL [0])) l2 Al2 cl2 inL_le (RdO.alias_ (La := [0]) (RdO.evo rfl hE b140_Al2) (by decide)) r141 hr141) (post_alias (La := [0]) (m' := (look0 [(1, 143), (2, 144)])) (fun own' w' a' x ho hsz h1 h => ⟨x, h1, RdO.backN_ ho hsz h (by decide) (by decide) (by decide)⟩)))
    refine steps_cons (fun own a wx hf hsl hE => ?_) ?_
    · obtain ⟨⟨⟨A142, cA142⟩, (f_12 : a.eval (.tmp 12) = .slice A142 r141.length cA142), (b_A142 : RdO own [143, 144, 0] wx R23 A142 cA142 r141)⟩, -⟩ := hf
      exact sg_plain rfl rfl (or_mono (f := Fct.val 1 (.slice A142 r141.length cA142)) (or_assign f_12) (fun own' a' w' v' hp h => fun _ _ h0' => by cases (f_12.symm.trans ((hp.2 12 (by decide)).symm.trans h0')); exact h))
    exact steps_nil
  intro own145 a145 w145 hd145 hz145 hk145 hf145 hE145
  have e145_2 : a145.eval (.tmp 2) = .pointer (some ⟨g138, 0, none⟩) := (hk145 2 rfl).trans e140_2
  obtain ⟨⟨⟨A142, cA142⟩, (f_12 : a145.eval (.tmp 12) = .slice A142 r141.length cA142), (b_A142 : RdO own145 [143, 144, 0] w145 R23 A142 cA142 r141)⟩, (q_1 : ∀ (A142 : Option Addr) (cA142 : Nat), a145.eval (.tmp 12) = .slice A142 r141.length cA142 → a145.eval (.tmp 1) = .slice A142 r141.length cA142), -⟩ := hf145 [1, 2] rfl
  have f_1 := q_1 _ _ f_12
  have e145_1 := f_1
  have hX145 := Evo.step hX140 (fun _ => Nat.le_refl 0) hE145 rfl
  have b145_g138 := BlkO.evo (by decide) hE145 b140_g138
  have b145_A142 := b_A142
  obtain ⟨r146, hr146, hs⟩ := obind hs
  obtain ⟨r149, hr149, hs⟩ := obind hs
  refine rg_draw_seq g_mixed (n := 161) (rs := []) (own0 := own145) (K := [])
      (bs := [0, 0, 3, 0, 0, 31, 63, 127])
      (ds := [⟨[], [2], [], Fct.val 13 (.agg #[.int .i64 t1.1, .int .i64 t1.2.1, .int .i64 t1.2.2])⟩,
      ⟨[], [1], [], Fct.val 14 (.slice A142 r141.length cA142)⟩,
      ⟨[0, 1], [], [], Fct.row 148 [] 15 23 R23 r146⟩,
      ⟨[], [2], [], Fct.val 16 (.agg #[.int .i64 t1.1, .int .i64 t1.2.1, .int .i64 t1.2.2])⟩,
      ⟨[], [1], [], Fct.val 17 (.slice A142 r141.length cA142)⟩,
      ⟨[3, 4], [], [], Fct.row 151 [] 18 23 R23 r149⟩,
      ⟨[2], [], [], Fct.rel [5, 15] (fun l => ∀ (A147 : Option Addr) (cA147 : Nat), l.getD 1 undef = .slice A147 r146.length cA147 → l.getD 0 undef = .slice A147 r146.length cA147)⟩,
      ⟨[5], [], [], Fct.rel [6, 18] (fun l => ∀ (A150 : Option Addr) (cA150 : Nat), l.getD 1 undef = .slice A150 r149.length cA150 → l.getD 0 undef = .slice A150 r149.length cA150)⟩]) (by kernel_rfl) hz145 hd145 (fun _ h => nomatch h) ?_ ?_
  · refine steps_cons (fun own a wx hf hsl hE => ?_) ?_
    · obtain ⟨s_2, -⟩ := hsl
      exact sg_plain rfl rfl (or_load (l := [.int .i64 t1.1, .int .i64 t1.2.1, .int .i64 t1.2.2]) ta27 (s_2.trans e145_2) (Blk.cellsFrom (BlkO.evo (by decide) hE b145_g138).2 0 rfl) rfl)
    refine steps_cons (fun own a wx hf hsl hE => ?_) ?_
    · obtain ⟨s_1, -⟩ := hsl
      exact sg_plain rfl rfl (or_move (s_1.trans e145_1))
    refine steps_cons (fun own a wx hf hsl hE => ?_) ?_
    · obtain ⟨(f_13 : a.eval (.tmp 13) = .agg #[.int .i64 t1.1, .int .i64 t1.2.1, .int .i64 t1.2.2]), (f_14 : a.eval (.tmp 14) = .slice A142 r141.length cA142), -⟩ := hf
      exact sg_plain rfl rfl (or_call cf27 (args2 f_13 f_14) (window_Local_w _ t1 r141 A142 cA142 (RdO.zero (RdO.evo rfl hE b145_A142)) r146 hr146) (post_row (m' := (look0 [(1, 148)])) (.inl (Rep.fl_flat _)) rfl rfl (fun _ => rfl)))
    refine steps_cons (fun own a wx hf hsl hE => ?_) ?_
    · obtain ⟨s_2, -⟩ := hsl
      exact sg_plain rfl rfl (or_load (l := [.int .i64 t1.1, .int .i64 t1.2.1, .int .i64 t1.2.2]) ta27 (s_2.trans e145_2) (Blk.cellsFrom (BlkO.evo (by decide) hE b145_g138).2 0 rfl) rfl)
    refine steps_cons (fun own a wx hf hsl hE => ?_) ?_
    · obtain ⟨s_1, -⟩ := hsl
      exact sg_plain rfl rfl (or_move (s_1.trans e145_1))
    refine steps_cons (fun own a wx hf hsl hE => ?_) ?_
    · obtain ⟨(f_16 : a.eval (.tmp 16) = .agg #[.int .i64 t1.1, .int .i64 t1.2.1, .int .i64 t1.2.2]), (f_17 : a.eval (.tmp 17) = .slice A142 r141.length cA142), -⟩ := hf
      exact sg_plain rfl rfl (or_call cf28 (args2 f_16 f_17) (window_World_w _ t1 r141 A142 cA142 (RdO.zero (RdO.evo rfl hE b145_A142)) r149 hr149) (post_row (m' := (look0 [(1, 151)])) (.inl (Rep.fl_flat _)) rfl rfl (fun _ => rfl)))
    refine steps_cons (fun own a wx hf hsl hE => ?_) ?_
    · obtain ⟨⟨⟨A147, cA147⟩, (f_15 : a.eval (.tmp 15) = .slice A147 r146.length cA147), (b_A147 : RwO own 148 [] wx 23 R23 A147 cA147 r146)⟩, -⟩ := hf
      exact sg_plain rfl rfl (or_mono (f := Fct.val 5 (.slice A147 r146.length cA147)) (or_assign f_15) (fun own' a' w' v' hp h => fun _ _ h0' => by cases (f_15.symm.trans ((hp.2 15 (by decide)).symm.trans h0')); exact h))
    refine steps_cons (fun own a wx hf hsl hE => ?_) ?_
    · obtain ⟨⟨⟨A150, cA150⟩, (f_18 : a.eval (.tmp 18) = .slice A150 r149.length cA150), (b_A150 : RwO own 151 [] wx 23 R23 A150 cA150 r149)⟩, -⟩ := hf
      exact sg_plain rfl rfl (or_mono (f := Fct.val 6 (.slice A150 r149.length cA150)) (or_assign f_18) (fun own' a' w' v' hp h => fun _ _ h0' => by cases (f_18.symm.trans ((hp.2 18 (by decide)).symm.trans h0')); exact h))
    exact steps_nil
  intro own152 a152 w152 hd152 hz152 hk152 hf152 hE152
  have e152_1 : a152.eval (.tmp 1) = .slice A142 r141.length cA142 := (hk152 1 rfl).trans e145_1
  have e152_2 : a152.eval (.tmp 2) = .pointer (some ⟨g138, 0, none⟩) := (hk152 2 rfl).trans e145_2
  obtain ⟨⟨⟨A147, cA147⟩, (f_15 : a152.eval (.tmp 15) = .slice A147 r146.length cA147), (b_A147 : RwO own152 148 [] w152 23 R23 A147 cA147 r146)⟩, (q_5 : ∀ (A147 : Option Addr) (cA147 : Nat), a152.eval (.tmp 15) = .slice A147 r146.length cA147 → a152.eval (.tmp 5) = .slice A147 r146.length cA147), ⟨⟨A150, cA150⟩, (f_18 : a152.eval (.tmp 18) = .slice A150 r149.length cA150), (b_A150 : RwO own152 151 [] w152 23 R23 A150 cA150 r149)⟩, (q_6 : ∀ (A150 : Option Addr) (cA150 : Nat), a152.eval (.tmp 18) = .slice A150 r149.length cA150 → a152.eval (.tmp 6) = .slice A150 r149.length cA150), -⟩ := hf152 [2, 6, 5, 7] rfl
  have f_5 := q_5 _ _ f_15
  have f_6 := q_6 _ _ f_18
  have e152_5 := f_5
  have e152_6 := f_6
  have hX152 := Evo.step hX145 (fun _ => Nat.le_refl 0) hE152 rfl
  have b152_g138 := BlkO.evo (by decide) hE152 b145_g138
  have b152_A142 := RdO.evo rfl hE152 b145_A142
  have b152_A147 := b_A147
  have b152_A150 := b_A150
  refine fl_seq (fun Q153 hn153 hp153 => ?_)
  obtain ⟨r154, hr154, hs⟩ := obind hs
  refine rg_plain_seq (n := 161) (rs := []) (own0 := own152) (K := [])
      (bs := [0, 1, 3])
      (ds := [⟨[], [2], [], Fct.val 19 (.agg #[.int .i64 t1.1, .int .i64 t1.2.1, .int .i64 t1.2.2])⟩,
      ⟨[0], [], [], Fct.val 20 (.bool r154)⟩,
      ⟨[1], [], [], Fct.val 21 (.bool (!r154))⟩]) (by kernel_rfl) hz152 hd152 (fun _ h => nomatch h) ?_ ?_
  · refine steps_cons (fun own a wx hf hsl hE => ?_) ?_
    · obtain ⟨s_2, -⟩ := hsl
      exact sg_plain rfl rfl (or_load (l := [.int .i64 t1.1, .int .i64 t1.2.1, .int .i64 t1.2.2]) ta27 (s_2.trans e152_2) (Blk.cellsFrom (BlkO.evo (by decide) hE b152_g138).2 0 rfl) rfl)
    refine steps_cons (fun own a wx hf hsl hE => ?_) ?_
    · obtain ⟨(f_19 : a.eval (.tmp 19) = .agg #[.int .i64 t1.1, .int .i64 t1.2.1, .int .i64 t1.2.2]), -⟩ := hf
      exact sg_plain rfl rfl (or_call cf20 (args1 f_19) (window_Right_w _ t1  r154 hr154) post_val)
    refine steps_cons (fun own a wx hf hsl hE => ?_) ?_
    · obtain ⟨(f_20 : a.eval (.tmp 20) = .bool r154), -⟩ := hf
      exact sg_plain rfl rfl (or_not f_20 rfl)
    exact steps_nil
  intro own155 a155 w155 hd155 hz155 hk155 hf155 hE155
  have e155_1 : a155.eval (.tmp 1) = .slice A142 r141.length cA142 := (hk155 1 rfl).trans e152_1
  have e155_2 : a155.eval (.tmp 2) = .pointer (some ⟨g138, 0, none⟩) := (hk155 2 rfl).trans e152_2
  have e155_5 : a155.eval (.tmp 5) = .slice A147 r146.length cA147 := (hk155 5 rfl).trans e152_5
  have e155_6 : a155.eval (.tmp 6) = .slice A150 r149.length cA150 := (hk155 6 rfl).trans e152_6
  obtain ⟨(f_21 : a155.eval (.tmp 21) = .bool (!r154)), -⟩ := hf155 [2] rfl
  have e155_21 := f_21
  have hX155 := Evo.step hX152 (fun _ => Nat.le_refl 0) hE155 rfl
  have b155_g138 := BlkO.evo (by decide) hE155 b152_g138
  have b155_A142 := RdO.evo rfl hE155 b152_A142
  have b155_A147 := RwO.evo rfl hE155 b152_A147
  have b155_A150 := RwO.evo rfl hE155 b152_A150
  refine fl_cond e155_21 hs (fun c156 hs => ?_) (fun c156 hs => ?_)
  · obtain ⟨r157, hr157, hs⟩ := obind hs
    obtain ⟨x158, hx158, hs⟩ := obind hs
    obtain ⟨x159, hx159, hs⟩ := obind hs
    refine rg_plain_seq (n := 161) (rs := []) (own0 := own155) (K := [])
        (bs := [0, 1, 3, 7, 15, 31, 63, 127, 255, 511, 1023, 2047])
        (ds := [⟨[], [], [], Fct.val 22 (.bool r157)⟩,
        ⟨[0], [], [], Fct.val 23 (.bool r157)⟩,
        ⟨[1], [5], [], Fct.cond r157 (some 24) (Fct.val 24 (.slice A147 r146.length cA147))⟩,
        ⟨[1, 2], [], [], Fct.cond r157 (some 25) (Fct.val 25 (.int .i64 (r146.length : Int)))⟩,
        ⟨[1, 3], [], [], Fct.cond r157 (some 26) (Fct.val 26 (.bool (decide ((r146.length : Int) = 0))))⟩,
        ⟨[1, 4], [], [], Fct.val 27 (.bool x158)⟩,
        ⟨[5], [], [], Fct.val 28 (.bool x158)⟩,
        ⟨[6], [6], [], Fct.cond x158 (some 29) (Fct.val 29 (.slice A150 r149.length cA150))⟩,
        ⟨[6, 7], [], [], Fct.cond x158 (some 30) (Fct.val 30 (.int .i64 (r149.length : Int)))⟩,
        ⟨[6, 8], [], [], Fct.cond x158 (some 31) (Fct.val 31 (.bool (decide ((r149.length : Int) = 0))))⟩,
        ⟨[6, 9], [], [], Fct.val 32 (.bool x159)⟩,
        ⟨[10], [], [], Fct.val 4 (.bool x159)⟩]) (by kernel_rfl) hz155 hd155 (fun _ h => nomatch h) ?_ ?_
    · refine steps_cons (fun own a wx hf hsl hE => ?_) ?_
      · exact sg_plain rfl rfl (or_call cf15 (args0) (law20_known_w _   r157 hr157) post_val)
      refine steps_cons (fun own a wx hf hsl hE => ?_) ?_
      · obtain ⟨(f_22 : a.eval (.tmp 22) = .bool r157), -⟩ := hf
        exact sg_plain rfl rfl (or_move f_22)
      refine steps_cons (fun own a wx hf hsl hE => ?_) ?_
      · obtain ⟨(f_23 : a.eval (.tmp 23) = .bool r157), -⟩ := hf
        obtain ⟨s_5, -⟩ := hsl
        refine sg_t rfl rfl rfl f_23 (fun hg => ?_)
        exact or_move (s_5.trans e155_5)
      refine steps_cons (fun own a wx hf hsl hE => ?_) ?_
      · obtain ⟨(f_23 : a.eval (.tmp 23) = .bool r157), c_24, -⟩ := hf
        refine sg_t rfl rfl rfl f_23 (fun hg => ?_)
        have f_24 : a.eval (.tmp 24) = .slice A147 r146.length cA147 := c_24.1 hg
        exact or_len tu60 f_24 rfl
      refine steps_cons (fun own a wx hf hsl hE => ?_) ?_
      · obtain ⟨(f_23 : a.eval (.tmp 23) = .bool r157), c_25, -⟩ := hf
        refine sg_t rfl rfl rfl f_23 (fun hg => ?_)
        have f_25 : a.eval (.tmp 25) = .int .i64 (r146.length : Int) := c_25.1 hg
        exact or_eql f_25 rfl rfl
      refine steps_cons (fun own a wx hf hsl hE => ?_) ?_
      · obtain ⟨(f_23 : a.eval (.tmp 23) = .bool r157), c_26, -⟩ := hf
        exact sg_plain rfl rfl (or_and f_23 (fun hx => c_26.1 hx) rfl (osome hx158).symm)
      refine steps_cons (fun own a wx hf hsl hE => ?_) ?_
      · obtain ⟨(f_27 : a.eval (.tmp 27) = .bool x158), -⟩ := hf
        exact sg_plain rfl rfl (or_move f_27)
      refine steps_cons (fun own a wx hf hsl hE => ?_) ?_
      · obtain ⟨(f_28 : a.eval (.tmp 28) = .bool x158), -⟩ := hf
        obtain ⟨s_6, -⟩ := hsl
        refine sg_t rfl rfl rfl f_28 (fun hg => ?_)
        exact or_move (s_6.trans e155_6)
      refine steps_cons (fun own a wx hf hsl hE => ?_) ?_
      · obtain ⟨(f_28 : a.eval (.tmp 28) = .bool x158), c_29, -⟩ := hf
        refine sg_t rfl rfl rfl f_28 (fun hg => ?_)
        have f_29 : a.eval (.tmp 29) = .slice A150 r149.length cA150 := c_29.1 hg
        exact or_len tu60 f_29 rfl
      refine steps_cons (fun own a wx hf hsl hE => ?_) ?_
      · obtain ⟨(f_28 : a.eval (.tmp 28) = .bool x158), c_30, -⟩ := hf
        refine sg_t rfl rfl rfl f_28 (fun hg => ?_)
        have f_30 : a.eval (.tmp 30) = .int .i64 (r149.length : Int) := c_30.1 hg
        exact or_eql f_30 rfl rfl
      refine steps_cons (fun own a wx hf hsl hE => ?_) ?_
      · obtain ⟨(f_28 : a.eval (.tmp 28) = .bool x158), c_31, -⟩ := hf
        exact sg_plain rfl rfl (or_and f_28 (fun hx => c_31.1 hx) rfl (osome hx159).symm)
      refine steps_cons (fun own a wx hf hsl hE => ?_) ?_
      · obtain ⟨(f_32 : a.eval (.tmp 32) = .bool x159), -⟩ := hf
        exact sg_plain rfl rfl (or_assign f_32)
      exact steps_nil
    intro own160 a160 w160 hd160 hz160 hk160 hf160 hE160
    obtain ⟨(f_4 : a160.eval (.tmp 4) = .bool x159), -⟩ := hf160 [11] rfl
    have e160_4 := f_4
    have hX160 := Evo.step hX155 (fun _ => Nat.le_refl 0) hE160 rfl
    refine fl_ret ?_
    refine hp153 _ _ _ rfl ?_
    obtain rfl := (osome hs).symm
    exact hret _ _ _ _ (.inl rfl) hd160 (results1_ rfl (RVal.tmp_ e160_4)) ⟨own160, rfl, hX160⟩
  refine fl_skip ?_
  refine hn153 _ _ ?_
  obtain ⟨r161, hr161, hs⟩ := obind hs
  refine rg_plain_seq (n := 161) (rs := []) (own0 := own155) (K := [163])
      (bs := [0, 1, 3, 7, 7, 0, 47, 127])
      (ds := [⟨[], [2], [], Fct.val 34 (.agg #[.int .i64 t1.1, .int .i64 t1.2.1, .int .i64 t1.2.2])⟩,
      ⟨[0], [], [], Fct.val 35 (.tuple #[.agg #[.int .i64 r161.1.1.1, .int .i64 r161.1.1.2, .int .i64 r161.1.2.1, .int .i64 r161.1.2.2], .bool r161.2])⟩,
      ⟨[1], [], [], Fct.val 33 (.tuple #[.agg #[.int .i64 r161.1.1.1, .int .i64 r161.1.1.2, .int .i64 r161.1.2.1, .int .i64 r161.1.2.2], .bool r161.2])⟩,
      ⟨[2], [], [], Fct.val 36 (.agg #[.int .i64 r161.1.1.1, .int .i64 r161.1.1.2, .int .i64 r161.1.2.1, .int .i64 r161.1.2.2])⟩,
      ⟨[2], [], [], Fct.val 37 (.bool r161.2)⟩,
      ⟨[], [], [], Fct.blk 163 7 (fun g => .pointer (some ⟨g, 0, none⟩)) 25 #[.int .i64 0, .int .i64 0, .int .i64 0, .int .i64 0]⟩,
      ⟨[5, 3], [], [163], Fct.blk 164 7 (fun g => .pointer (some ⟨g, 0, none⟩)) 25 #[.int .i64 r161.1.1.1, .int .i64 r161.1.1.2, .int .i64 r161.1.2.1, .int .i64 r161.1.2.2]⟩,
      ⟨[4], [], [], Fct.val 8 (.bool r161.2)⟩]) (by kernel_rfl) hz155 hd155 (fun _ h => nomatch h) ?_ ?_
  · refine steps_cons (fun own a wx hf hsl hE => ?_) ?_
    · obtain ⟨s_2, -⟩ := hsl
      exact sg_plain rfl rfl (or_load (l := [.int .i64 t1.1, .int .i64 t1.2.1, .int .i64 t1.2.2]) ta27 (s_2.trans e155_2) (Blk.cellsFrom (BlkO.evo (by decide) hE b155_g138).2 0 rfl) rfl)
    refine steps_cons (fun own a wx hf hsl hE => ?_) ?_
    · obtain ⟨(f_34 : a.eval (.tmp 34) = .agg #[.int .i64 t1.1, .int .i64 t1.2.1, .int .i64 t1.2.2]), -⟩ := hf
      exact sg_plain rfl rfl (or_call cf18 (args1 f_34) (window_Place_w _ t1  r161 hr161) post_val)
    refine steps_cons (fun own a wx hf hsl hE => ?_) ?_
    · obtain ⟨(f_35 : a.eval (.tmp 35) = .tuple #[.agg #[.int .i64 r161.1.1.1, .int .i64 r161.1.1.2, .int .i64 r161.1.2.1, .int .i64 r161.1.2.2], .bool r161.2]), -⟩ := hf
      exact sg_plain rfl rfl (or_move f_35)
    refine steps_cons (fun own a wx hf hsl hE => ?_) ?_
    · obtain ⟨(f_33 : a.eval (.tmp 33) = .tuple #[.agg #[.int .i64 r161.1.1.1, .int .i64 r161.1.1.2, .int .i64 r161.1.2.1, .int .i64 r161.1.2.2], .bool r161.2]), -⟩ := hf
      exact sg_plain rfl rfl (or_k [(33, .tuple #[.agg #[.int .i64 r161.1.1.1, .int .i64 r161.1.1.2, .int .i64 r161.1.2.1, .int .i64 r161.1.2.2], .bool r161.2])] rfl rfl ⟨f_33, trivial⟩ (by kernel_rfl))
    refine steps_cons (fun own a wx hf hsl hE => ?_) ?_
    · obtain ⟨(f_33 : a.eval (.tmp 33) = .tuple #[.agg #[.int .i64 r161.1.1.1, .int .i64 r161.1.1.2, .int .i64 r161.1.2.1, .int .i64 r161.1.2.2], .bool r161.2]), -⟩ := hf
      exact sg_plain rfl rfl (or_k [(33, .tuple #[.agg #[.int .i64 r161.1.1.1, .int .i64 r161.1.1.2, .int .i64 r161.1.2.1, .int .i64 r161.1.2.2], .bool r161.2])] rfl rfl ⟨f_33, trivial⟩ (by kernel_rfl))
    refine steps_cons (fun own a wx hf hsl hE => ?_) ?_
    · exact sg_plain rfl rfl (or_new [] rfl rfl trivial (by kernel_rfl))
    refine steps_cons (fun own a wx hf hsl hE => ?_) ?_
    · obtain ⟨⟨g162, (f_7 : a.eval (.tmp 7) = .pointer (some ⟨g162, 0, none⟩)), (b_g162 : BlkO own 163 wx g162 25 #[.int .i64 0, .int .i64 0, .int .i64 0, .int .i64 0])⟩, (f_36 : a.eval (.tmp 36) = .agg #[.int .i64 r161.1.1.1, .int .i64 r161.1.1.2, .int .i64 r161.1.2.1, .int .i64 r161.1.2.2]), -⟩ := hf
      exact sg_plain rfl rfl (or_store (l := #[.int .i64 r161.1.1.1, .int .i64 r161.1.1.2, .int .i64 r161.1.2.1, .int .i64 r161.1.2.2]) (lab := 163) (lab2 := 164) ts25 f_7 f_36 b_g162 (by simp) (by kernel_rfl) (mem_of rfl) (by decide) (by kernel_rfl) (fun own' a' w' ha hb => ⟨_, (ha 7).trans f_7, hb⟩))
    refine steps_cons (fun own a wx hf hsl hE => ?_) ?_
    · obtain ⟨(f_37 : a.eval (.tmp 37) = .bool r161.2), -⟩ := hf
      exact sg_plain rfl rfl (or_assign f_37)
    exact steps_nil
  intro own165 a165 w165 hd165 hz165 hk165 hf165 hE165
  have e165_1 : a165.eval (.tmp 1) = .slice A142 r141.length cA142 := (hk165 1 rfl).trans e155_1
  have e165_2 : a165.eval (.tmp 2) = .pointer (some ⟨g138, 0, none⟩) := (hk165 2 rfl).trans e155_2
  have e165_5 : a165.eval (.tmp 5) = .slice A147 r146.length cA147 := (hk165 5 rfl).trans e155_5
  have e165_6 : a165.eval (.tmp 6) = .slice A150 r149.length cA150 := (hk165 6 rfl).trans e155_6
  obtain ⟨⟨g162, (f_7 : a165.eval (.tmp 7) = .pointer (some ⟨g162, 0, none⟩)), (b_g162 : BlkO own165 164 w165 g162 25 #[.int .i64 r161.1.1.1, .int .i64 r161.1.1.2, .int .i64 r161.1.2.1, .int .i64 r161.1.2.2])⟩, (f_8 : a165.eval (.tmp 8) = .bool r161.2), -⟩ := hf165 [6, 7] rfl
  have e165_7 := f_7
  have e165_8 := f_8
  have hX165 := Evo.step hX155 (fun _ => Nat.le_refl 0) hE165 rfl
  have b165_g138 := BlkO.evo (by decide) hE165 b155_g138
  have b165_A142 := RdO.evo rfl hE165 b155_A142
  have b165_A147 := RwO.evo rfl hE165 b155_A147
  have b165_A150 := RwO.evo rfl hE165 b155_A150
  have b165_g162 := b_g162
  obtain ⟨r168, hr168, hs⟩ := obind hs
  refine rg_plain_seq (n := 161) (rs := []) (own0 := own165) (K := [])
      (bs := [0, 0, 2, 6, 15, 31])
      (ds := [⟨[], [2], [], Fct.val 38 (.agg #[.int .i64 t1.1, .int .i64 t1.2.1, .int .i64 t1.2.2])⟩,
      ⟨[], [7], [], Fct.val 39 (.pointer (some ⟨g162, 0, none⟩))⟩,
      ⟨[1], [], [], Fct.val 40 (.agg #[.int .i64 r161.1.1.1, .int .i64 r161.1.1.2])⟩,
      ⟨[2], [], [], Fct.row 167 [] 41 23 R23 [r161.1.1]⟩,
      ⟨[0, 3], [], [], Fct.row 170 [] 42 23 R23 r168⟩,
      ⟨[4], [], [], Fct.rel [9, 42] (fun l => ∀ (A169 : Option Addr) (cA169 : Nat), l.getD 1 undef = .slice A169 r168.length cA169 → l.getD 0 undef = .slice A169 r168.length cA169)⟩]) (by kernel_rfl) hz165 hd165 (fun _ h => nomatch h) ?_ ?_
  · refine steps_cons (fun own a wx hf hsl hE => ?_) ?_
    · obtain ⟨s_2, -⟩ := hsl
      exact sg_plain rfl rfl (or_load (l := [.int .i64 t1.1, .int .i64 t1.2.1, .int .i64 t1.2.2]) ta27 (s_2.trans e165_2) (Blk.cellsFrom (BlkO.evo (by decide) hE b165_g138).2 0 rfl) rfl)
    refine steps_cons (fun own a wx hf hsl hE => ?_) ?_
    · obtain ⟨s_7, -⟩ := hsl
      exact sg_plain rfl rfl (or_field fo25_0 (s_7.trans e165_7) (by rfl))
    refine steps_cons (fun own a wx hf hsl hE => ?_) ?_
    · obtain ⟨(f_39 : a.eval (.tmp 39) = .pointer (some ⟨g162, 0, none⟩)), -⟩ := hf
      exact sg_plain rfl rfl (or_load (l := [.int .i64 r161.1.1.1, .int .i64 r161.1.1.2]) ta23 f_39 (Blk.cellsFrom (BlkO.evo (by decide) hE b165_g162).2 0 rfl) rfl)
    refine steps_cons (fun own a wx hf hsl hE => ?_) ?_
    · obtain ⟨(f_40 : a.eval (.tmp 40) = .agg #[.int .i64 r161.1.1.1, .int .i64 r161.1.1.2]), -⟩ := hf
      exact sg_plain rfl rfl (or_lit (lab := 167) (e := 23) (cs := #[.int .i64 r161.1.1.1, .int .i64 r161.1.1.2]) (F := E23) (or_new [(40, .agg #[.int .i64 r161.1.1.1, .int .i64 r161.1.1.2])] rfl rfl ⟨f_40, trivial⟩ (by kernel_rfl)) rfl rfl (show 1 ≤ maxLen by decide))
    refine steps_cons (fun own a wx hf hsl hE => ?_) ?_
    · obtain ⟨(f_38 : a.eval (.tmp 38) = .agg #[.int .i64 t1.1, .int .i64 t1.2.1, .int .i64 t1.2.2]), ⟨⟨A166, cA166⟩, (f_41 : a.eval (.tmp 41) = .slice A166 [r161.1.1].length cA166), (b_A166 : RwO own 167 [] wx 23 R23 A166 cA166 [r161.1.1])⟩, -⟩ := hf
      exact sg_plain rfl rfl (or_call cf27 (args2 f_38 f_41) (window_Local_w _ t1 [r161.1.1] A166 cA166 (RdO.zero (RwO.rd b_A166)) r168 hr168) (post_row (m' := (look0 [(1, 170)])) (.inl (Rep.fl_flat _)) rfl rfl (fun _ => rfl)))
    refine steps_cons (fun own a wx hf hsl hE => ?_) ?_
    · obtain ⟨⟨⟨A169, cA169⟩, (f_42 : a.eval (.tmp 42) = .slice A169 r168.length cA169), (b_A169 : RwO own 170 [] wx 23 R23 A169 cA169 r168)⟩, -⟩ := hf
      exact sg_plain rfl rfl (or_mono (f := Fct.val 9 (.slice A169 r168.length cA169)) (or_assign f_42) (fun own' a' w' v' hp h => fun _ _ h0' => by cases (f_42.symm.trans ((hp.2 42 (by decide)).symm.trans h0')); exact h))
    exact steps_nil
  intro own171 a171 w171 hd171 hz171 hk171 hf171 hE171
  have e171_1 : a171.eval (.tmp 1) = .slice A142 r141.length cA142 := (hk171 1 rfl).trans e165_1
  have e171_2 : a171.eval (.tmp 2) = .pointer (some ⟨g138, 0, none⟩) := (hk171 2 rfl).trans e165_2
  have e171_5 : a171.eval (.tmp 5) = .slice A147 r146.length cA147 := (hk171 5 rfl).trans e165_5
  have e171_6 : a171.eval (.tmp 6) = .slice A150 r149.length cA150 := (hk171 6 rfl).trans e165_6
  have e171_8 : a171.eval (.tmp 8) = .bool r161.2 := (hk171 8 rfl).trans e165_8
  obtain ⟨⟨⟨A169, cA169⟩, (f_42 : a171.eval (.tmp 42) = .slice A169 r168.length cA169), (b_A169 : RwO own171 170 [] w171 23 R23 A169 cA169 r168)⟩, (q_9 : ∀ (A169 : Option Addr) (cA169 : Nat), a171.eval (.tmp 42) = .slice A169 r168.length cA169 → a171.eval (.tmp 9) = .slice A169 r168.length cA169), -⟩ := hf171 [4, 5] rfl
  have f_9 := q_9 _ _ f_42
  have e171_9 := f_9
  have hX171 := Evo.step hX165 (fun _ => Nat.le_refl 0) hE171 rfl
  have b171_g138 := BlkO.evo (by decide) hE171 b165_g138
  have b171_A142 := RdO.evo rfl hE171 b165_A142
  have b171_A147 := RwO.evo rfl hE171 b165_A147
  have b171_A150 := RwO.evo rfl hE171 b165_A150
  have b171_A169 := b_A169
  refine fl_seq (fun Q172 hn172 hp172 => ?_)
  refine rg_plain_seq (n := 161) (rs := []) (own0 := own171) (K := [])
      (bs := [0])
      (ds := [⟨[], [], [], Fct.val 10 (.int .i64 0)⟩]) (by kernel_rfl) hz171 hd171 (fun _ h => nomatch h) ?_ ?_
  · refine steps_cons (fun own a wx hf hsl hE => ?_) ?_
    · exact sg_plain rfl rfl (or_assign rfl)
    exact steps_nil
  intro own173 a173 w173 hd173 hz173 hk173 hf173 hE173
  have e173_1 : a173.eval (.tmp 1) = .slice A142 r141.length cA142 := (hk173 1 rfl).trans e171_1
  have e173_2 : a173.eval (.tmp 2) = .pointer (some ⟨g138, 0, none⟩) := (hk173 2 rfl).trans e171_2
  have e173_5 : a173.eval (.tmp 5) = .slice A147 r146.length cA147 := (hk173 5 rfl).trans e171_5
  have e173_6 : a173.eval (.tmp 6) = .slice A150 r149.length cA150 := (hk173 6 rfl).trans e171_6
  have e173_8 : a173.eval (.tmp 8) = .bool r161.2 := (hk173 8 rfl).trans e171_8
  have e173_9 : a173.eval (.tmp 9) = .slice A169 r168.length cA169 := (hk173 9 rfl).trans e171_9
  obtain ⟨(f_10 : a173.eval (.tmp 10) = .int .i64 0), -⟩ := hf173 [0] rfl
  have e173_10 := f_10
  have hX173 := Evo.step hX171 (fun _ => Nat.le_refl 0) hE173 rfl
  have b173_g138 := BlkO.evo (by decide) hE173 b171_g138
  have b173_A142 := RdO.evo rfl hE173 b171_A142
  have b173_A147 := RwO.evo rfl hE173 b171_A147
  have b173_A150 := RwO.evo rfl hE173 b171_A150
  have b173_A169 := RwO.evo rfl hE173 b171_A169
  refine fl_block (fun Q174 hn174 hx174 hp174 => ?_)
  refine fl_loop (body := (fun s => law20_WindowLocal_b1 t1 r141 r146 r149 r161 r168 s)) (z := r) (show loopO _ _ = _ from hs) (fun (i198 : Int) a wx => ∃ (ox : Own), a.defers = [] ∧ a.tmps.size = 161 ∧ a.eval (.tmp 1) = .slice A142 r141.length cA142 ∧ a.eval (.tmp 2) = .pointer (some ⟨g138, 0, none⟩) ∧ a.eval (.tmp 5) = .slice A147 r146.length cA147 ∧ a.eval (.tmp 6) = .slice A150 r149.length cA150 ∧ a.eval (.tmp 8) = .bool r161.2 ∧ a.eval (.tmp 9) = .slice A169 r168.length cA169 ∧ a.eval (.tmp 10) = .int .i64 i198 ∧ Evo [] (fun _ => 0) ox w wx ∧ RdO ox [143, 144, 0] wx R23 A142 cA142 r141 ∧ BlkO ox 139 wx g138 27 #[.int .i64 t1.1, .int .i64 t1.2.1, .int .i64 t1.2.2] ∧ RwO ox 148 [] wx 23 R23 A147 cA147 r146 ∧ RwO ox 151 [] wx 23 R23 A150 cA150 r149 ∧ RwO ox 170 [] wx 23 R23 A169 cA169 r168) ?_ ?_
  · exact ⟨own173, hd173, hz173, e173_1, e173_2, e173_5, e173_6, e173_8, e173_9, e173_10, hX173, b173_A142, b173_g138, b173_A147, b173_A150, b173_A169⟩
  · rintro i198 zz222 a222 w222 ⟨own222, hd223, hz223, e223_1, e223_2, e223_5, e223_6, e223_8, e223_9, e223_10, hE223, b223_A142, b223_g138, b223_A147, b223_A150, b223_A169⟩ hs Q222 hn222 hp222 hz222
    have hs : law20_WindowLocal_b1 t1 r141 r146 r149 r161 r168 i198 = some zz222 := hs
    refine fl_seq (fun Q224 hn224 hp224 => ?_)
    obtain ⟨x225, hx225, hs⟩ := obind hs
    obtain ⟨x226, hx226, hs⟩ := obind hs
    refine rg_plain_seq (n := 161) (rs := []) (own0 := own222) (K := [])
        (bs := [0, 0, 2, 7, 15, 31, 63, 31, 159, 511, 1023, 2047, 4095, 8191, 4095, 20479, 65535, 131071])
        (ds := [⟨[], [10], [], Fct.val 43 (.int .i64 i198)⟩,
        ⟨[], [1], [], Fct.val 44 (.slice A142 r141.length cA142)⟩,
        ⟨[1], [], [], Fct.val 45 (.int .i64 (r141.length : Int))⟩,
        ⟨[0, 2], [], [], Fct.val 46 (.bool (decide (i198 < (r141.length : Int))))⟩,
        ⟨[3], [], [], Fct.val 47 (.bool (decide (i198 < (r141.length : Int))))⟩,
        ⟨[4], [5], [], Fct.cond (decide (i198 < (r141.length : Int))) (some 48) (Fct.val 48 (.slice A147 r146.length cA147))⟩,
        ⟨[4, 5], [], [], Fct.cond (decide (i198 < (r141.length : Int))) (some 49) (Fct.val 49 (.int .i64 (r146.length : Int)))⟩,
        ⟨[4], [1], [], Fct.cond (decide (i198 < (r141.length : Int))) (some 50) (Fct.val 50 (.slice A142 r141.length cA142))⟩,
        ⟨[4, 7], [], [], Fct.cond (decide (i198 < (r141.length : Int))) (some 51) (Fct.val 51 (.int .i64 (r141.length : Int)))⟩,
        ⟨[4, 6, 8], [], [], Fct.cond (decide (i198 < (r141.length : Int))) (some 52) (Fct.val 52 (.bool (decide ((r146.length : Int) = (r141.length : Int)))))⟩,
        ⟨[4, 9], [], [], Fct.val 53 (.bool x225)⟩,
        ⟨[10], [], [], Fct.val 54 (.bool x225)⟩,
        ⟨[11], [6], [], Fct.cond x225 (some 55) (Fct.val 55 (.slice A150 r149.length cA150))⟩,
        ⟨[11, 12], [], [], Fct.cond x225 (some 56) (Fct.val 56 (.int .i64 (r149.length : Int)))⟩,
        ⟨[11], [1], [], Fct.cond x225 (some 57) (Fct.val 57 (.slice A142 r141.length cA142))⟩,
        ⟨[11, 14], [], [], Fct.cond x225 (some 58) (Fct.val 58 (.int .i64 (r141.length : Int)))⟩,
        ⟨[11, 13, 15], [], [], Fct.cond x225 (some 59) (Fct.val 59 (.bool (decide ((r149.length : Int) = (r141.length : Int)))))⟩,
        ⟨[11, 16], [], [], Fct.val 60 (.bool x226)⟩]) (by kernel_rfl) hz223 hd223 (fun _ h => nomatch h) ?_ ?_
    · refine steps_cons (fun own a wx hf hsl hE => ?_) ?_
      · obtain ⟨s_10, -⟩ := hsl
        exact sg_plain rfl rfl (or_move (s_10.trans e223_10))
      refine steps_cons (fun own a wx hf hsl hE => ?_) ?_
      · obtain ⟨s_1, -⟩ := hsl
        exact sg_plain rfl rfl (or_move (s_1.trans e223_1))
      refine steps_cons (fun own a wx hf hsl hE => ?_) ?_
      · obtain ⟨(f_44 : a.eval (.tmp 44) = .slice A142 r141.length cA142), -⟩ := hf
        exact sg_plain rfl rfl (or_len tu60 f_44 rfl)
      refine steps_cons (fun own a wx hf hsl hE => ?_) ?_
      · obtain ⟨(f_43 : a.eval (.tmp 43) = .int .i64 i198), (f_45 : a.eval (.tmp 45) = .int .i64 (r141.length : Int)), -⟩ := hf
        exact sg_plain rfl rfl (or_lss f_43 f_45 rfl)
      refine steps_cons (fun own a wx hf hsl hE => ?_) ?_
      · obtain ⟨(f_46 : a.eval (.tmp 46) = .bool (decide (i198 < (r141.length : Int)))), -⟩ := hf
        exact sg_plain rfl rfl (or_move f_46)
      refine steps_cons (fun own a wx hf hsl hE => ?_) ?_
      · obtain ⟨(f_47 : a.eval (.tmp 47) = .bool (decide (i198 < (r141.length : Int)))), -⟩ := hf
        obtain ⟨s_5, -⟩ := hsl
        refine sg_t rfl rfl rfl f_47 (fun hg => ?_)
        exact or_move (s_5.trans e223_5)
      refine steps_cons (fun own a wx hf hsl hE => ?_) ?_
      · obtain ⟨(f_47 : a.eval (.tmp 47) = .bool (decide (i198 < (r141.length : Int)))), c_48, -⟩ := hf
        refine sg_t rfl rfl rfl f_47 (fun hg => ?_)
        have f_48 : a.eval (.tmp 48) = .slice A147 r146.length cA147 := c_48.1 hg
        exact or_len tu60 f_48 rfl
      refine steps_cons (fun own a wx hf hsl hE => ?_) ?_
      · obtain ⟨(f_47 : a.eval (.tmp 47) = .bool (decide (i198 < (r141.length : Int)))), -⟩ := hf
        obtain ⟨s_1, -⟩ := hsl
        refine sg_t rfl rfl rfl f_47 (fun hg => ?_)
        exact or_move (s_1.trans e223_1)
      refine steps_cons (fun own a wx hf hsl hE => ?_) ?_
      · obtain ⟨(f_47 : a.eval (.tmp 47) = .bool (decide (i198 < (r141.length : Int)))), c_50, -⟩ := hf
        refine sg_t rfl rfl rfl f_47 (fun hg => ?_)
        have f_50 : a.eval (.tmp 50) = .slice A142 r141.length cA142 := c_50.1 hg
        exact or_len tu60 f_50 rfl
      refine steps_cons (fun own a wx hf hsl hE => ?_) ?_
      · obtain ⟨(f_47 : a.eval (.tmp 47) = .bool (decide (i198 < (r141.length : Int)))), c_49, c_51, -⟩ := hf
        refine sg_t rfl rfl rfl f_47 (fun hg => ?_)
        have f_49 : a.eval (.tmp 49) = .int .i64 (r146.length : Int) := c_49.1 hg
        have f_51 : a.eval (.tmp 51) = .int .i64 (r141.length : Int) := c_51.1 hg
        exact or_eql f_49 f_51 rfl
      refine steps_cons (fun own a wx hf hsl hE => ?_) ?_
      · obtain ⟨(f_47 : a.eval (.tmp 47) = .bool (decide (i198 < (r141.length : Int)))), c_52, -⟩ := hf
        exact sg_plain rfl rfl (or_and f_47 (fun hx => c_52.1 hx) rfl (osome hx225).symm)
      refine steps_cons (fun own a wx hf hsl hE => ?_) ?_
      · obtain ⟨(f_53 : a.eval (.tmp 53) = .bool x225), -⟩ := hf
        exact sg_plain rfl rfl (or_move f_53)
      refine steps_cons (fun own a wx hf hsl hE => ?_) ?_
      · obtain ⟨(f_54 : a.eval (.tmp 54) = .bool x225), -⟩ := hf
        obtain ⟨s_6, -⟩ := hsl
        refine sg_t rfl rfl rfl f_54 (fun hg => ?_)
        exact or_move (s_6.trans e223_6)
      refine steps_cons (fun own a wx hf hsl hE => ?_) ?_
      · obtain ⟨(f_54 : a.eval (.tmp 54) = .bool x225), c_55, -⟩ := hf
        refine sg_t rfl rfl rfl f_54 (fun hg => ?_)
        have f_55 : a.eval (.tmp 55) = .slice A150 r149.length cA150 := c_55.1 hg
        exact or_len tu60 f_55 rfl
      refine steps_cons (fun own a wx hf hsl hE => ?_) ?_
      · obtain ⟨(f_54 : a.eval (.tmp 54) = .bool x225), -⟩ := hf
        obtain ⟨s_1, -⟩ := hsl
        refine sg_t rfl rfl rfl f_54 (fun hg => ?_)
        exact or_move (s_1.trans e223_1)
      refine steps_cons (fun own a wx hf hsl hE => ?_) ?_
      · obtain ⟨(f_54 : a.eval (.tmp 54) = .bool x225), c_57, -⟩ := hf
        refine sg_t rfl rfl rfl f_54 (fun hg => ?_)
        have f_57 : a.eval (.tmp 57) = .slice A142 r141.length cA142 := c_57.1 hg
        exact or_len tu60 f_57 rfl
      refine steps_cons (fun own a wx hf hsl hE => ?_) ?_
      · obtain ⟨(f_54 : a.eval (.tmp 54) = .bool x225), c_56, c_58, -⟩ := hf
        refine sg_t rfl rfl rfl f_54 (fun hg => ?_)
        have f_56 : a.eval (.tmp 56) = .int .i64 (r149.length : Int) := c_56.1 hg
        have f_58 : a.eval (.tmp 58) = .int .i64 (r141.length : Int) := c_58.1 hg
        exact or_eql f_56 f_58 rfl
      refine steps_cons (fun own a wx hf hsl hE => ?_) ?_
      · obtain ⟨(f_54 : a.eval (.tmp 54) = .bool x225), c_59, -⟩ := hf
        exact sg_plain rfl rfl (or_and f_54 (fun hx => c_59.1 hx) rfl (osome hx226).symm)
      exact steps_nil
    intro own227 a227 w227 hd227 hz227 hk227 hf227 hE227
    have e227_1 : a227.eval (.tmp 1) = .slice A142 r141.length cA142 := (hk227 1 rfl).trans e223_1
    have e227_2 : a227.eval (.tmp 2) = .pointer (some ⟨g138, 0, none⟩) := (hk227 2 rfl).trans e223_2
    have e227_5 : a227.eval (.tmp 5) = .slice A147 r146.length cA147 := (hk227 5 rfl).trans e223_5
    have e227_6 : a227.eval (.tmp 6) = .slice A150 r149.length cA150 := (hk227 6 rfl).trans e223_6
    have e227_8 : a227.eval (.tmp 8) = .bool r161.2 := (hk227 8 rfl).trans e223_8
    have e227_9 : a227.eval (.tmp 9) = .slice A169 r168.length cA169 := (hk227 9 rfl).trans e223_9
    have e227_10 : a227.eval (.tmp 10) = .int .i64 i198 := (hk227 10 rfl).trans e223_10
    obtain ⟨(f_60 : a227.eval (.tmp 60) = .bool x226), -⟩ := hf227 [17] rfl
    have e227_60 := f_60
    have hX227 := Evo.step hE223 (fun _ => Nat.le_refl 0) hE227 rfl
    have b227_A142 := RdO.evo rfl hE227 b223_A142
    have b227_g138 := BlkO.evo (by decide) hE227 b223_g138
    have b227_A147 := RwO.evo rfl hE227 b223_A147
    have b227_A150 := RwO.evo rfl hE227 b223_A150
    have b227_A169 := RwO.evo rfl hE227 b223_A169
    refine fl_cond e227_60 hs (fun c228 hs => ?_) (fun c228 hs => ?_)
    · refine fl_skip ?_
      refine hn224 _ _ ?_
      refine fl_seq (fun Q229 hn229 hp229 => ?_)
      refine fl_block (fun Q230 hn230 hx230 hp230 => ?_)
      obtain ⟨x231, hx231, hs⟩ := obind hs
      obtain ⟨x232, hx232, hs⟩ := obind hs
      obtain ⟨x233, hx233, hs⟩ := obind hs
      obtain ⟨x234, hx234, hs⟩ := obind hs
      obtain ⟨x235, hx235, hs⟩ := obind hs
      obtain ⟨x236, hx236, hs⟩ := obind hs
      obtain ⟨x237, hx237, hs⟩ := obind hs
      obtain ⟨x238, hx238, hs⟩ := obind hs
      obtain ⟨x239, hx239, hs⟩ := obind hs
      obtain ⟨x240, hx240, hs⟩ := obind hs
      obtain ⟨x241, hx241, hs⟩ := obind hs
      dsimp only [List.append]
      refine rg_draw_seq g_mixed (n := 161) (rs := []) (own0 := own227) (K := [])
          (bs := [0, 0, 3, 7, 15, 0, 0, 96, 224, 480, 0, 1024, 3072, 8160, 16383, 32767, 65535, 65535, 262143, 524287, 1048575, 65535, 65535, 6356991, 14745599, 31522815, 65535, 67174399, 201392127, 534839295, 1073741823, 2147483647, 4294967295, 8589934591, 8589934591, 34359738367, 68719476735, 137438953471, 8589934591, 8589934591, 833223655423, 1932735283199, 4131758538751, 8589934591, 8804682956799, 26396869001215, 70102456205311, 140737488355327, 281474976710655, 562949953421311, 1125899906842623, 1125899906842623, 4503599627370495, 9007199254740991, 18014398509481983, 1125899906842623, 1125899906842623, 109212290963734527, 253327479039590399, 541557855191302143, 1125899906842623, 1154047404513689599, 3459890413727383551, 9188469139742654463, 18446744073709551615, 36893488147419103231])
          (ds := [⟨[], [5], [], Fct.val 63 (.slice A147 r146.length cA147)⟩,
          ⟨[], [10], [], Fct.val 64 (.int .i64 i198)⟩,
          ⟨[0, 1], [], [], Fct.val 65 (.pointer (some ((adr A147).add ((i198 : Int).toNat * R23.s))))⟩,
          ⟨[2], [], [], Fct.val 66 (.pointer (some ((adr A147).add ((i198 : Int).toNat * R23.s))))⟩,
          ⟨[3], [], [], Fct.val 67 (.int .i64 x231.1)⟩,
          ⟨[], [1], [], Fct.val 68 (.slice A142 r141.length cA142)⟩,
          ⟨[], [10], [], Fct.val 69 (.int .i64 i198)⟩,
          ⟨[5, 6], [], [], Fct.val 70 (.pointer (some ((adr A142).add ((i198 : Int).toNat * R23.s))))⟩,
          ⟨[7], [], [], Fct.val 71 (.pointer (some ((adr A142).add ((i198 : Int).toNat * R23.s))))⟩,
          ⟨[8], [], [], Fct.val 72 (.int .i64 x232.1)⟩,
          ⟨[], [2], [], Fct.val 73 (.pointer (some ⟨g138, 1, none⟩))⟩,
          ⟨[10], [], [], Fct.val 74 (.int .i64 t1.2.1)⟩,
          ⟨[11], [], [], Fct.val 75 (.int .i64 (ml 4096 t1.2.1))⟩,
          ⟨[9, 12], [], [], Fct.val 76 (.int .i64 (sb x232.1 (ml 4096 t1.2.1)))⟩,
          ⟨[4, 13], [], [], Fct.val 77 (.bool (!decide (x231.1 = (sb x232.1 (ml 4096 t1.2.1)))))⟩,
          ⟨[14], [], [], Fct.val 78 (.bool (!decide (x231.1 = (sb x232.1 (ml 4096 t1.2.1)))))⟩,
          ⟨[15], [5], [], Fct.cond (!(!decide (x231.1 = (sb x232.1 (ml 4096 t1.2.1))))) (some 79) (Fct.val 79 (.slice A147 r146.length cA147))⟩,
          ⟨[15], [10], [], Fct.cond (!(!decide (x231.1 = (sb x232.1 (ml 4096 t1.2.1))))) (some 80) (Fct.val 80 (.int .i64 i198))⟩,
          ⟨[15, 16, 17], [], [], Fct.cond (!(!decide (x231.1 = (sb x232.1 (ml 4096 t1.2.1))))) (some 81) (Fct.val 81 (.pointer (some ((adr A147).add ((i198 : Int).toNat * R23.s)))))⟩,
          ⟨[15, 18], [], [], Fct.cond (!(!decide (x231.1 = (sb x232.1 (ml 4096 t1.2.1))))) (some 82) (Fct.val 82 (.pointer (some (((adr A147).add ((i198 : Int).toNat * R23.s)).add 1))))⟩,
          ⟨[15, 19], [], [], Fct.cond (!(!decide (x231.1 = (sb x232.1 (ml 4096 t1.2.1))))) (some 83) (Fct.val 83 (.int .i64 x233.2))⟩,
          ⟨[15], [1], [], Fct.cond (!(!decide (x231.1 = (sb x232.1 (ml 4096 t1.2.1))))) (some 84) (Fct.val 84 (.slice A142 r141.length cA142))⟩,
          ⟨[15], [10], [], Fct.cond (!(!decide (x231.1 = (sb x232.1 (ml 4096 t1.2.1))))) (some 85) (Fct.val 85 (.int .i64 i198))⟩,
          ⟨[15, 21, 22], [], [], Fct.cond (!(!decide (x231.1 = (sb x232.1 (ml 4096 t1.2.1))))) (some 86) (Fct.val 86 (.pointer (some ((adr A142).add ((i198 : Int).toNat * R23.s)))))⟩,
          ⟨[15, 23], [], [], Fct.cond (!(!decide (x231.1 = (sb x232.1 (ml 4096 t1.2.1))))) (some 87) (Fct.val 87 (.pointer (some (((adr A142).add ((i198 : Int).toNat * R23.s)).add 1))))⟩,
          ⟨[15, 24], [], [], Fct.cond (!(!decide (x231.1 = (sb x232.1 (ml 4096 t1.2.1))))) (some 88) (Fct.val 88 (.int .i64 x234.2))⟩,
          ⟨[15], [2], [], Fct.cond (!(!decide (x231.1 = (sb x232.1 (ml 4096 t1.2.1))))) (some 89) (Fct.val 89 (.pointer (some ⟨g138, 2, none⟩)))⟩,
          ⟨[15, 26], [], [], Fct.cond (!(!decide (x231.1 = (sb x232.1 (ml 4096 t1.2.1))))) (some 90) (Fct.val 90 (.int .i64 t1.2.2))⟩,
          ⟨[15, 27], [], [], Fct.cond (!(!decide (x231.1 = (sb x232.1 (ml 4096 t1.2.1))))) (some 91) (Fct.val 91 (.int .i64 (ml 4096 t1.2.2)))⟩,
          ⟨[15, 25, 28], [], [], Fct.cond (!(!decide (x231.1 = (sb x232.1 (ml 4096 t1.2.1))))) (some 92) (Fct.val 92 (.int .i64 (sb x234.2 (ml 4096 t1.2.2))))⟩,
          ⟨[15, 20, 29], [], [], Fct.cond (!(!decide (x231.1 = (sb x232.1 (ml 4096 t1.2.1))))) (some 93) (Fct.val 93 (.bool (!decide (x233.2 = (sb x234.2 (ml 4096 t1.2.2))))))⟩,
          ⟨[15, 30], [], [], Fct.val 94 (.bool x235)⟩,
          ⟨[31], [], [], Fct.val 95 (.bool x235)⟩,
          ⟨[32], [6], [], Fct.cond (!x235) (some 96) (Fct.val 96 (.slice A150 r149.length cA150))⟩,
          ⟨[32], [10], [], Fct.cond (!x235) (some 97) (Fct.val 97 (.int .i64 i198))⟩,
          ⟨[32, 33, 34], [], [], Fct.cond (!x235) (some 98) (Fct.val 98 (.pointer (some ((adr A150).add ((i198 : Int).toNat * R23.s)))))⟩,
          ⟨[32, 35], [], [], Fct.cond (!x235) (some 99) (Fct.val 99 (.pointer (some ((adr A150).add ((i198 : Int).toNat * R23.s)))))⟩,
          ⟨[32, 36], [], [], Fct.cond (!x235) (some 100) (Fct.val 100 (.int .i64 x236.1))⟩,
          ⟨[32], [1], [], Fct.cond (!x235) (some 101) (Fct.val 101 (.slice A142 r141.length cA142))⟩,
          ⟨[32], [10], [], Fct.cond (!x235) (some 102) (Fct.val 102 (.int .i64 i198))⟩,
          ⟨[32, 38, 39], [], [], Fct.cond (!x235) (some 103) (Fct.val 103 (.pointer (some ((adr A142).add ((i198 : Int).toNat * R23.s)))))⟩,
          ⟨[32, 40], [], [], Fct.cond (!x235) (some 104) (Fct.val 104 (.pointer (some ((adr A142).add ((i198 : Int).toNat * R23.s)))))⟩,
          ⟨[32, 41], [], [], Fct.cond (!x235) (some 105) (Fct.val 105 (.int .i64 x237.1))⟩,
          ⟨[32], [2], [], Fct.cond (!x235) (some 106) (Fct.val 106 (.pointer (some ⟨g138, 1, none⟩)))⟩,
          ⟨[32, 43], [], [], Fct.cond (!x235) (some 107) (Fct.val 107 (.int .i64 t1.2.1))⟩,
          ⟨[32, 44], [], [], Fct.cond (!x235) (some 108) (Fct.val 108 (.int .i64 (ml 4096 t1.2.1)))⟩,
          ⟨[32, 42, 45], [], [], Fct.cond (!x235) (some 109) (Fct.val 109 (.int .i64 (ad x237.1 (ml 4096 t1.2.1))))⟩,
          ⟨[32, 37, 46], [], [], Fct.cond (!x235) (some 110) (Fct.val 110 (.bool (!decide (x236.1 = (ad x237.1 (ml 4096 t1.2.1))))))⟩,
          ⟨[32, 47], [], [], Fct.val 111 (.bool x238)⟩,
          ⟨[48], [], [], Fct.val 112 (.bool x238)⟩,
          ⟨[49], [6], [], Fct.cond (!x238) (some 113) (Fct.val 113 (.slice A150 r149.length cA150))⟩,
          ⟨[49], [10], [], Fct.cond (!x238) (some 114) (Fct.val 114 (.int .i64 i198))⟩,
          ⟨[49, 50, 51], [], [], Fct.cond (!x238) (some 115) (Fct.val 115 (.pointer (some ((adr A150).add ((i198 : Int).toNat * R23.s)))))⟩,
          ⟨[49, 52], [], [], Fct.cond (!x238) (some 116) (Fct.val 116 (.pointer (some (((adr A150).add ((i198 : Int).toNat * R23.s)).add 1))))⟩,
          ⟨[49, 53], [], [], Fct.cond (!x238) (some 117) (Fct.val 117 (.int .i64 x239.2))⟩,
          ⟨[49], [1], [], Fct.cond (!x238) (some 118) (Fct.val 118 (.slice A142 r141.length cA142))⟩,
          ⟨[49], [10], [], Fct.cond (!x238) (some 119) (Fct.val 119 (.int .i64 i198))⟩,
          ⟨[49, 55, 56], [], [], Fct.cond (!x238) (some 120) (Fct.val 120 (.pointer (some ((adr A142).add ((i198 : Int).toNat * R23.s)))))⟩,
          ⟨[49, 57], [], [], Fct.cond (!x238) (some 121) (Fct.val 121 (.pointer (some (((adr A142).add ((i198 : Int).toNat * R23.s)).add 1))))⟩,
          ⟨[49, 58], [], [], Fct.cond (!x238) (some 122) (Fct.val 122 (.int .i64 x240.2))⟩,
          ⟨[49], [2], [], Fct.cond (!x238) (some 123) (Fct.val 123 (.pointer (some ⟨g138, 2, none⟩)))⟩,
          ⟨[49, 60], [], [], Fct.cond (!x238) (some 124) (Fct.val 124 (.int .i64 t1.2.2))⟩,
          ⟨[49, 61], [], [], Fct.cond (!x238) (some 125) (Fct.val 125 (.int .i64 (ml 4096 t1.2.2)))⟩,
          ⟨[49, 59, 62], [], [], Fct.cond (!x238) (some 126) (Fct.val 126 (.int .i64 (ad x240.2 (ml 4096 t1.2.2))))⟩,
          ⟨[49, 54, 63], [], [], Fct.cond (!x238) (some 127) (Fct.val 127 (.bool (!decide (x239.2 = (ad x240.2 (ml 4096 t1.2.2))))))⟩,
          ⟨[49, 64], [], [], Fct.val 128 (.bool x241)⟩]) (by kernel_rfl) hz227 hd227 (fun _ h => nomatch h) ?_ ?_
      · refine steps_cons (fun own a wx hf hsl hE => ?_) ?_
        · obtain ⟨s_5, -⟩ := hsl
          exact sg_plain rfl rfl (or_move (s_5.trans e227_5))
        refine steps_cons (fun own a wx hf hsl hE => ?_) ?_
        · obtain ⟨s_10, -⟩ := hsl
          exact sg_plain rfl rfl (or_move (s_10.trans e227_10))
        refine steps_cons (fun own a wx hf hsl hE => ?_) ?_
        · obtain ⟨(f_63 : a.eval (.tmp 63) = .slice A147 r146.length cA147), (f_64 : a.eval (.tmp 64) = .int .i64 i198), -⟩ := hf
          exact sg_plain rfl rfl (or_index (R := R23) (l := r146) tl60 f_63 f_64 (RdO.some_ (RwO.rd b227_A147) hx231) hx231)
        refine steps_cons (fun own a wx hf hsl hE => ?_) ?_
        · obtain ⟨(f_65 : a.eval (.tmp 65) = .pointer (some ((adr A147).add ((i198 : Int).toNat * R23.s)))), -⟩ := hf
          exact sg_plain rfl rfl (or_field fo23_0 f_65 (Addr.add_zero' _))
        refine steps_cons (fun own a wx hf hsl hE => ?_) ?_
        · obtain ⟨(f_66 : a.eval (.tmp 66) = .pointer (some ((adr A147).add ((i198 : Int).toNat * R23.s)))), -⟩ := hf
          exact sg_plain rfl rfl (or_load1 to3 f_66 (CellsAt.zero (RdO.cells (F := E23) (RwO.rd (RwO.evo rfl hE b227_A147)) hx231) rfl))
        refine steps_cons (fun own a wx hf hsl hE => ?_) ?_
        · obtain ⟨s_1, -⟩ := hsl
          exact sg_plain rfl rfl (or_move (s_1.trans e227_1))
        refine steps_cons (fun own a wx hf hsl hE => ?_) ?_
        · obtain ⟨s_10, -⟩ := hsl
          exact sg_plain rfl rfl (or_move (s_10.trans e227_10))
        refine steps_cons (fun own a wx hf hsl hE => ?_) ?_
        · obtain ⟨(f_68 : a.eval (.tmp 68) = .slice A142 r141.length cA142), (f_69 : a.eval (.tmp 69) = .int .i64 i198), -⟩ := hf
          exact sg_plain rfl rfl (or_index (R := R23) (l := r141) tl60 f_68 f_69 (RdO.some_ b227_A142 hx232) hx232)
        refine steps_cons (fun own a wx hf hsl hE => ?_) ?_
        · obtain ⟨(f_70 : a.eval (.tmp 70) = .pointer (some ((adr A142).add ((i198 : Int).toNat * R23.s)))), -⟩ := hf
          exact sg_plain rfl rfl (or_field fo23_0 f_70 (Addr.add_zero' _))
        refine steps_cons (fun own a wx hf hsl hE => ?_) ?_
        · obtain ⟨(f_71 : a.eval (.tmp 71) = .pointer (some ((adr A142).add ((i198 : Int).toNat * R23.s)))), -⟩ := hf
          exact sg_plain rfl rfl (or_load1 to3 f_71 (CellsAt.zero (RdO.cells (F := E23) (RdO.evo rfl hE b227_A142) hx232) rfl))
        refine steps_cons (fun own a wx hf hsl hE => ?_) ?_
        · obtain ⟨s_2, -⟩ := hsl
          exact sg_plain rfl rfl (or_field fo27_1 (s_2.trans e227_2) (by rfl))
        refine steps_cons (fun own a wx hf hsl hE => ?_) ?_
        · obtain ⟨(f_73 : a.eval (.tmp 73) = .pointer (some ⟨g138, 1, none⟩)), -⟩ := hf
          exact sg_plain rfl rfl (or_load1 to3 f_73 (Blk.at_ (BlkO.evo (by decide) hE b227_g138).2 1 rfl))
        refine steps_cons (fun own a wx hf hsl hE => ?_) ?_
        · obtain ⟨(f_74 : a.eval (.tmp 74) = .int .i64 t1.2.1), -⟩ := hf
          exact sg_plain rfl rfl (or_mul rfl f_74 rfl)
        refine steps_cons (fun own a wx hf hsl hE => ?_) ?_
        · obtain ⟨(f_72 : a.eval (.tmp 72) = .int .i64 x232.1), (f_75 : a.eval (.tmp 75) = .int .i64 (ml 4096 t1.2.1)), -⟩ := hf
          exact sg_plain rfl rfl (or_sub f_72 f_75 rfl)
        refine steps_cons (fun own a wx hf hsl hE => ?_) ?_
        · obtain ⟨(f_67 : a.eval (.tmp 67) = .int .i64 x231.1), (f_76 : a.eval (.tmp 76) = .int .i64 (sb x232.1 (ml 4096 t1.2.1))), -⟩ := hf
          exact sg_plain rfl rfl (or_neq f_67 f_76 rfl)
        refine steps_cons (fun own a wx hf hsl hE => ?_) ?_
        · obtain ⟨(f_77 : a.eval (.tmp 77) = .bool (!decide (x231.1 = (sb x232.1 (ml 4096 t1.2.1))))), -⟩ := hf
          exact sg_plain rfl rfl (or_move f_77)
        refine steps_cons (fun own a wx hf hsl hE => ?_) ?_
        · obtain ⟨(f_78 : a.eval (.tmp 78) = .bool (!decide (x231.1 = (sb x232.1 (ml 4096 t1.2.1))))), -⟩ := hf
          obtain ⟨s_5, -⟩ := hsl
          refine sg_f rfl rfl rfl f_78 (fun hg => ?_)
          exact or_move (s_5.trans e227_5)
        refine steps_cons (fun own a wx hf hsl hE => ?_) ?_
        · obtain ⟨(f_78 : a.eval (.tmp 78) = .bool (!decide (x231.1 = (sb x232.1 (ml 4096 t1.2.1))))), -⟩ := hf
          obtain ⟨s_10, -⟩ := hsl
          refine sg_f rfl rfl rfl f_78 (fun hg => ?_)
          exact or_move (s_10.trans e227_10)
        refine steps_cons (fun own a wx hf hsl hE => ?_) ?_
        · obtain ⟨(f_78 : a.eval (.tmp 78) = .bool (!decide (x231.1 = (sb x232.1 (ml 4096 t1.2.1))))), c_79, c_80, -⟩ := hf
          refine sg_f rfl rfl rfl f_78 (fun hg => ?_)
          have f_79 : a.eval (.tmp 79) = .slice A147 r146.length cA147 := c_79.1 hg
          have f_80 : a.eval (.tmp 80) = .int .i64 i198 := c_80.1 hg
          exact or_index (R := R23) (l := r146) tl60 f_79 f_80 (RdO.some_ (RwO.rd b227_A147) (gd_t hx233 hg)) (gd_t hx233 hg)
        refine steps_cons (fun own a wx hf hsl hE => ?_) ?_
        · obtain ⟨(f_78 : a.eval (.tmp 78) = .bool (!decide (x231.1 = (sb x232.1 (ml 4096 t1.2.1))))), c_81, -⟩ := hf
          refine sg_f rfl rfl rfl f_78 (fun hg => ?_)
          have f_81 : a.eval (.tmp 81) = .pointer (some ((adr A147).add ((i198 : Int).toNat * R23.s))) := c_81.1 hg
          exact or_field fo23_1 f_81 rfl
        refine steps_cons (fun own a wx hf hsl hE => ?_) ?_
        · obtain ⟨(f_78 : a.eval (.tmp 78) = .bool (!decide (x231.1 = (sb x232.1 (ml 4096 t1.2.1))))), c_82, -⟩ := hf
          refine sg_f rfl rfl rfl f_78 (fun hg => ?_)
          have f_82 : a.eval (.tmp 82) = .pointer (some (((adr A147).add ((i198 : Int).toNat * R23.s)).add 1)) := c_82.1 hg
          exact or_load1 to3 f_82 (CellsAt.one (RdO.cells (F := E23) (RwO.rd (RwO.evo rfl hE b227_A147)) (gd_t hx233 hg)) rfl)
        refine steps_cons (fun own a wx hf hsl hE => ?_) ?_
        · obtain ⟨(f_78 : a.eval (.tmp 78) = .bool (!decide (x231.1 = (sb x232.1 (ml 4096 t1.2.1))))), -⟩ := hf
          obtain ⟨s_1, -⟩ := hsl
          refine sg_f rfl rfl rfl f_78 (fun hg => ?_)
          exact or_move (s_1.trans e227_1)
        refine steps_cons (fun own a wx hf hsl hE => ?_) ?_
        · obtain ⟨(f_78 : a.eval (.tmp 78) = .bool (!decide (x231.1 = (sb x232.1 (ml 4096 t1.2.1))))), -⟩ := hf
          obtain ⟨s_10, -⟩ := hsl
          refine sg_f rfl rfl rfl f_78 (fun hg => ?_)
          exact or_move (s_10.trans e227_10)
        refine steps_cons (fun own a wx hf hsl hE => ?_) ?_
        · obtain ⟨(f_78 : a.eval (.tmp 78) = .bool (!decide (x231.1 = (sb x232.1 (ml 4096 t1.2.1))))), c_84, c_85, -⟩ := hf
          refine sg_f rfl rfl rfl f_78 (fun hg => ?_)
          have f_84 : a.eval (.tmp 84) = .slice A142 r141.length cA142 := c_84.1 hg
          have f_85 : a.eval (.tmp 85) = .int .i64 i198 := c_85.1 hg
          exact or_index (R := R23) (l := r141) tl60 f_84 f_85 (RdO.some_ b227_A142 (gd_t hx234 hg)) (gd_t hx234 hg)
        refine steps_cons (fun own a wx hf hsl hE => ?_) ?_
        · obtain ⟨(f_78 : a.eval (.tmp 78) = .bool (!decide (x231.1 = (sb x232.1 (ml 4096 t1.2.1))))), c_86, -⟩ := hf
          refine sg_f rfl rfl rfl f_78 (fun hg => ?_)
          have f_86 : a.eval (.tmp 86) = .pointer (some ((adr A142).add ((i198 : Int).toNat * R23.s))) := c_86.1 hg
          exact or_field fo23_1 f_86 rfl
        refine steps_cons (fun own a wx hf hsl hE => ?_) ?_
        · obtain ⟨(f_78 : a.eval (.tmp 78) = .bool (!decide (x231.1 = (sb x232.1 (ml 4096 t1.2.1))))), c_87, -⟩ := hf
          refine sg_f rfl rfl rfl f_78 (fun hg => ?_)
          have f_87 : a.eval (.tmp 87) = .pointer (some (((adr A142).add ((i198 : Int).toNat * R23.s)).add 1)) := c_87.1 hg
          exact or_load1 to3 f_87 (CellsAt.one (RdO.cells (F := E23) (RdO.evo rfl hE b227_A142) (gd_t hx234 hg)) rfl)
        refine steps_cons (fun own a wx hf hsl hE => ?_) ?_
        · obtain ⟨(f_78 : a.eval (.tmp 78) = .bool (!decide (x231.1 = (sb x232.1 (ml 4096 t1.2.1))))), -⟩ := hf
          obtain ⟨s_2, -⟩ := hsl
          refine sg_f rfl rfl rfl f_78 (fun hg => ?_)
          exact or_field fo27_2 (s_2.trans e227_2) (by rfl)
        refine steps_cons (fun own a wx hf hsl hE => ?_) ?_
        · obtain ⟨(f_78 : a.eval (.tmp 78) = .bool (!decide (x231.1 = (sb x232.1 (ml 4096 t1.2.1))))), c_89, -⟩ := hf
          refine sg_f rfl rfl rfl f_78 (fun hg => ?_)
          have f_89 : a.eval (.tmp 89) = .pointer (some ⟨g138, 2, none⟩) := c_89.1 hg
          exact or_load1 to3 f_89 (Blk.at_ (BlkO.evo (by decide) hE b227_g138).2 2 rfl)
        refine steps_cons (fun own a wx hf hsl hE => ?_) ?_
        · obtain ⟨(f_78 : a.eval (.tmp 78) = .bool (!decide (x231.1 = (sb x232.1 (ml 4096 t1.2.1))))), c_90, -⟩ := hf
          refine sg_f rfl rfl rfl f_78 (fun hg => ?_)
          have f_90 : a.eval (.tmp 90) = .int .i64 t1.2.2 := c_90.1 hg
          exact or_mul rfl f_90 rfl
        refine steps_cons (fun own a wx hf hsl hE => ?_) ?_
        · obtain ⟨(f_78 : a.eval (.tmp 78) = .bool (!decide (x231.1 = (sb x232.1 (ml 4096 t1.2.1))))), c_88, c_91, -⟩ := hf
          refine sg_f rfl rfl rfl f_78 (fun hg => ?_)
          have f_88 : a.eval (.tmp 88) = .int .i64 x234.2 := c_88.1 hg
          have f_91 : a.eval (.tmp 91) = .int .i64 (ml 4096 t1.2.2) := c_91.1 hg
          exact or_sub f_88 f_91 rfl
        refine steps_cons (fun own a wx hf hsl hE => ?_) ?_
        · obtain ⟨(f_78 : a.eval (.tmp 78) = .bool (!decide (x231.1 = (sb x232.1 (ml 4096 t1.2.1))))), c_83, c_92, -⟩ := hf
          refine sg_f rfl rfl rfl f_78 (fun hg => ?_)
          have f_83 : a.eval (.tmp 83) = .int .i64 x233.2 := c_83.1 hg
          have f_92 : a.eval (.tmp 92) = .int .i64 (sb x234.2 (ml 4096 t1.2.2)) := c_92.1 hg
          exact or_neq f_83 f_92 rfl
        refine steps_cons (fun own a wx hf hsl hE => ?_) ?_
        · obtain ⟨(f_78 : a.eval (.tmp 78) = .bool (!decide (x231.1 = (sb x232.1 (ml 4096 t1.2.1))))), c_93, -⟩ := hf
          exact sg_plain rfl rfl (or_or f_78 rfl (fun hx => c_93.1 hx) (osome hx235).symm)
        refine steps_cons (fun own a wx hf hsl hE => ?_) ?_
        · obtain ⟨(f_94 : a.eval (.tmp 94) = .bool x235), -⟩ := hf
          exact sg_plain rfl rfl (or_move f_94)
        refine steps_cons (fun own a wx hf hsl hE => ?_) ?_
        · obtain ⟨(f_95 : a.eval (.tmp 95) = .bool x235), -⟩ := hf
          obtain ⟨s_6, -⟩ := hsl
          refine sg_f rfl rfl rfl f_95 (fun hg => ?_)
          exact or_move (s_6.trans e227_6)
        refine steps_cons (fun own a wx hf hsl hE => ?_) ?_
        · obtain ⟨(f_95 : a.eval (.tmp 95) = .bool x235), -⟩ := hf
          obtain ⟨s_10, -⟩ := hsl
          refine sg_f rfl rfl rfl f_95 (fun hg => ?_)
          exact or_move (s_10.trans e227_10)
        refine steps_cons (fun own a wx hf hsl hE => ?_) ?_
        · obtain ⟨(f_95 : a.eval (.tmp 95) = .bool x235), c_96, c_97, -⟩ := hf
          refine sg_f rfl rfl rfl f_95 (fun hg => ?_)
          have f_96 : a.eval (.tmp 96) = .slice A150 r149.length cA150 := c_96.1 hg
          have f_97 : a.eval (.tmp 97) = .int .i64 i198 := c_97.1 hg
          exact or_index (R := R23) (l := r149) tl60 f_96 f_97 (RdO.some_ (RwO.rd b227_A150) (gd_t hx236 hg)) (gd_t hx236 hg)
        refine steps_cons (fun own a wx hf hsl hE => ?_) ?_
        · obtain ⟨(f_95 : a.eval (.tmp 95) = .bool x235), c_98, -⟩ := hf
          refine sg_f rfl rfl rfl f_95 (fun hg => ?_)
          have f_98 : a.eval (.tmp 98) = .pointer (some ((adr A150).add ((i198 : Int).toNat * R23.s))) := c_98.1 hg
          exact or_field fo23_0 f_98 (Addr.add_zero' _)
        refine steps_cons (fun own a wx hf hsl hE => ?_) ?_
        · obtain ⟨(f_95 : a.eval (.tmp 95) = .bool x235), c_99, -⟩ := hf
          refine sg_f rfl rfl rfl f_95 (fun hg => ?_)
          have f_99 : a.eval (.tmp 99) = .pointer (some ((adr A150).add ((i198 : Int).toNat * R23.s))) := c_99.1 hg
          exact or_load1 to3 f_99 (CellsAt.zero (RdO.cells (F := E23) (RwO.rd (RwO.evo rfl hE b227_A150)) (gd_t hx236 hg)) rfl)
        refine steps_cons (fun own a wx hf hsl hE => ?_) ?_
        · obtain ⟨(f_95 : a.eval (.tmp 95) = .bool x235), -⟩ := hf
          obtain ⟨s_1, -⟩ := hsl
          refine sg_f rfl rfl rfl f_95 (fun hg => ?_)
          exact or_move (s_1.trans e227_1)
        refine steps_cons (fun own a wx hf hsl hE => ?_) ?_
        · obtain ⟨(f_95 : a.eval (.tmp 95) = .bool x235), -⟩ := hf
          obtain ⟨s_10, -⟩ := hsl
          refine sg_f rfl rfl rfl f_95 (fun hg => ?_)
          exact or_move (s_10.trans e227_10)
        refine steps_cons (fun own a wx hf hsl hE => ?_) ?_
        · obtain ⟨(f_95 : a.eval (.tmp 95) = .bool x235), c_101, c_102, -⟩ := hf
          refine sg_f rfl rfl rfl f_95 (fun hg => ?_)
          have f_101 : a.eval (.tmp 101) = .slice A142 r141.length cA142 := c_101.1 hg
          have f_102 : a.eval (.tmp 102) = .int .i64 i198 := c_102.1 hg
          exact or_index (R := R23) (l := r141) tl60 f_101 f_102 (RdO.some_ b227_A142 (gd_t hx237 hg)) (gd_t hx237 hg)
        refine steps_cons (fun own a wx hf hsl hE => ?_) ?_
        · obtain ⟨(f_95 : a.eval (.tmp 95) = .bool x235), c_103, -⟩ := hf
          refine sg_f rfl rfl rfl f_95 (fun hg => ?_)
          have f_103 : a.eval (.tmp 103) = .pointer (some ((adr A142).add ((i198 : Int).toNat * R23.s))) := c_103.1 hg
          exact or_field fo23_0 f_103 (Addr.add_zero' _)
        refine steps_cons (fun own a wx hf hsl hE => ?_) ?_
        · obtain ⟨(f_95 : a.eval (.tmp 95) = .bool x235), c_104, -⟩ := hf
          refine sg_f rfl rfl rfl f_95 (fun hg => ?_)
          have f_104 : a.eval (.tmp 104) = .pointer (some ((adr A142).add ((i198 : Int).toNat * R23.s))) := c_104.1 hg
          exact or_load1 to3 f_104 (CellsAt.zero (RdO.cells (F := E23) (RdO.evo rfl hE b227_A142) (gd_t hx237 hg)) rfl)
        refine steps_cons (fun own a wx hf hsl hE => ?_) ?_
        · obtain ⟨(f_95 : a.eval (.tmp 95) = .bool x235), -⟩ := hf
          obtain ⟨s_2, -⟩ := hsl
          refine sg_f rfl rfl rfl f_95 (fun hg => ?_)
          exact or_field fo27_1 (s_2.trans e227_2) (by rfl)
        refine steps_cons (fun own a wx hf hsl hE => ?_) ?_
        · obtain ⟨(f_95 : a.eval (.tmp 95) = .bool x235), c_106, -⟩ := hf
          refine sg_f rfl rfl rfl f_95 (fun hg => ?_)
          have f_106 : a.eval (.tmp 106) = .pointer (some ⟨g138, 1, none⟩) := c_106.1 hg
          exact or_load1 to3 f_106 (Blk.at_ (BlkO.evo (by decide) hE b227_g138).2 1 rfl)
        refine steps_cons (fun own a wx hf hsl hE => ?_) ?_
        · obtain ⟨(f_95 : a.eval (.tmp 95) = .bool x235), c_107, -⟩ := hf
          refine sg_f rfl rfl rfl f_95 (fun hg => ?_)
          have f_107 : a.eval (.tmp 107) = .int .i64 t1.2.1 := c_107.1 hg
          exact or_mul rfl f_107 rfl
        refine steps_cons (fun own a wx hf hsl hE => ?_) ?_
        · obtain ⟨(f_95 : a.eval (.tmp 95) = .bool x235), c_105, c_108, -⟩ := hf
          refine sg_f rfl rfl rfl f_95 (fun hg => ?_)
          have f_105 : a.eval (.tmp 105) = .int .i64 x237.1 := c_105.1 hg
          have f_108 : a.eval (.tmp 108) = .int .i64 (ml 4096 t1.2.1) := c_108.1 hg
          exact or_add f_105 f_108 rfl
        refine steps_cons (fun own a wx hf hsl hE => ?_) ?_
        · obtain ⟨(f_95 : a.eval (.tmp 95) = .bool x235), c_100, c_109, -⟩ := hf
          refine sg_f rfl rfl rfl f_95 (fun hg => ?_)
          have f_100 : a.eval (.tmp 100) = .int .i64 x236.1 := c_100.1 hg
          have f_109 : a.eval (.tmp 109) = .int .i64 (ad x237.1 (ml 4096 t1.2.1)) := c_109.1 hg
          exact or_neq f_100 f_109 rfl
        refine steps_cons (fun own a wx hf hsl hE => ?_) ?_
        · obtain ⟨(f_95 : a.eval (.tmp 95) = .bool x235), c_110, -⟩ := hf
          exact sg_plain rfl rfl (or_or f_95 rfl (fun hx => c_110.1 hx) (osome hx238).symm)
        refine steps_cons (fun own a wx hf hsl hE => ?_) ?_
        · obtain ⟨(f_111 : a.eval (.tmp 111) = .bool x238), -⟩ := hf
          exact sg_plain rfl rfl (or_move f_111)
        refine steps_cons (fun own a wx hf hsl hE => ?_) ?_
        · obtain ⟨(f_112 : a.eval (.tmp 112) = .bool x238), -⟩ := hf
          obtain ⟨s_6, -⟩ := hsl
          refine sg_f rfl rfl rfl f_112 (fun hg => ?_)
          exact or_move (s_6.trans e227_6)
        refine steps_cons (fun own a wx hf hsl hE => ?_) ?_
        · obtain ⟨(f_112 : a.eval (.tmp 112) = .bool x238), -⟩ := hf
          obtain ⟨s_10, -⟩ := hsl
          refine sg_f rfl rfl rfl f_112 (fun hg => ?_)
          exact or_move (s_10.trans e227_10)
        refine steps_cons (fun own a wx hf hsl hE => ?_) ?_
        · obtain ⟨(f_112 : a.eval (.tmp 112) = .bool x238), c_113, c_114, -⟩ := hf
          refine sg_f rfl rfl rfl f_112 (fun hg => ?_)
          have f_113 : a.eval (.tmp 113) = .slice A150 r149.length cA150 := c_113.1 hg
          have f_114 : a.eval (.tmp 114) = .int .i64 i198 := c_114.1 hg
          exact or_index (R := R23) (l := r149) tl60 f_113 f_114 (RdO.some_ (RwO.rd b227_A150) (gd_t hx239 hg)) (gd_t hx239 hg)
        refine steps_cons (fun own a wx hf hsl hE => ?_) ?_
        · obtain ⟨(f_112 : a.eval (.tmp 112) = .bool x238), c_115, -⟩ := hf
          refine sg_f rfl rfl rfl f_112 (fun hg => ?_)
          have f_115 : a.eval (.tmp 115) = .pointer (some ((adr A150).add ((i198 : Int).toNat * R23.s))) := c_115.1 hg
          exact or_field fo23_1 f_115 rfl
        refine steps_cons (fun own a wx hf hsl hE => ?_) ?_
        · obtain ⟨(f_112 : a.eval (.tmp 112) = .bool x238), c_116, -⟩ := hf
          refine sg_f rfl rfl rfl f_112 (fun hg => ?_)
          have f_116 : a.eval (.tmp 116) = .pointer (some (((adr A150).add ((i198 : Int).toNat * R23.s)).add 1)) := c_116.1 hg
          exact or_load1 to3 f_116 (CellsAt.one (RdO.cells (F := E23) (RwO.rd (RwO.evo rfl hE b227_A150)) (gd_t hx239 hg)) rfl)
        refine steps_cons (fun own a wx hf hsl hE => ?_) ?_
        · obtain ⟨(f_112 : a.eval (.tmp 112) = .bool x238), -⟩ := hf
          obtain ⟨s_1, -⟩ := hsl
          refine sg_f rfl rfl rfl f_112 (fun hg => ?_)
          exact or_move (s_1.trans e227_1)
        refine steps_cons (fun own a wx hf hsl hE => ?_) ?_
        · obtain ⟨(f_112 : a.eval (.tmp 112) = .bool x238), -⟩ := hf
          obtain ⟨s_10, -⟩ := hsl
          refine sg_f rfl rfl rfl f_112 (fun hg => ?_)
          exact or_move (s_10.trans e227_10)
        refine steps_cons (fun own a wx hf hsl hE => ?_) ?_
        · obtain ⟨(f_112 : a.eval (.tmp 112) = .bool x238), c_118, c_119, -⟩ := hf
          refine sg_f rfl rfl rfl f_112 (fun hg => ?_)
          have f_118 : a.eval (.tmp 118) = .slice A142 r141.length cA142 := c_118.1 hg
          have f_119 : a.eval (.tmp 119) = .int .i64 i198 := c_119.1 hg
          exact or_index (R := R23) (l := r141) tl60 f_118 f_119 (RdO.some_ b227_A142 (gd_t hx240 hg)) (gd_t hx240 hg)
        refine steps_cons (fun own a wx hf hsl hE => ?_) ?_
        · obtain ⟨(f_112 : a.eval (.tmp 112) = .bool x238), c_120, -⟩ := hf
          refine sg_f rfl rfl rfl f_112 (fun hg => ?_)
          have f_120 : a.eval (.tmp 120) = .pointer (some ((adr A142).add ((i198 : Int).toNat * R23.s))) := c_120.1 hg
          exact or_field fo23_1 f_120 rfl
        refine steps_cons (fun own a wx hf hsl hE => ?_) ?_
        · obtain ⟨(f_112 : a.eval (.tmp 112) = .bool x238), c_121, -⟩ := hf
          refine sg_f rfl rfl rfl f_112 (fun hg => ?_)
          have f_121 : a.eval (.tmp 121) = .pointer (some (((adr A142).add ((i198 : Int).toNat * R23.s)).add 1)) := c_121.1 hg
          exact or_load1 to3 f_121 (CellsAt.one (RdO.cells (F := E23) (RdO.evo rfl hE b227_A142) (gd_t hx240 hg)) rfl)
        refine steps_cons (fun own a wx hf hsl hE => ?_) ?_
        · obtain ⟨(f_112 : a.eval (.tmp 112) = .bool x238), -⟩ := hf
          obtain ⟨s_2, -⟩ := hsl
          refine sg_f rfl rfl rfl f_112 (fun hg => ?_)
          exact or_field fo27_2 (s_2.trans e227_2) (by rfl)
        refine steps_cons (fun own a wx hf hsl hE => ?_) ?_
        · obtain ⟨(f_112 : a.eval (.tmp 112) = .bool x238), c_123, -⟩ := hf
          refine sg_f rfl rfl rfl f_112 (fun hg => ?_)
          have f_123 : a.eval (.tmp 123) = .pointer (some ⟨g138, 2, none⟩) := c_123.1 hg
          exact or_load1 to3 f_123 (Blk.at_ (BlkO.evo (by decide) hE b227_g138).2 2 rfl)
        refine steps_cons (fun own a wx hf hsl hE => ?_) ?_
        · obtain ⟨(f_112 : a.eval (.tmp 112) = .bool x238), c_124, -⟩ := hf
          refine sg_f rfl rfl rfl f_112 (fun hg => ?_)
          have f_124 : a.eval (.tmp 124) = .int .i64 t1.2.2 := c_124.1 hg
          exact or_mul rfl f_124 rfl
        refine steps_cons (fun own a wx hf hsl hE => ?_) ?_
        · obtain ⟨(f_112 : a.eval (.tmp 112) = .bool x238), c_122, c_125, -⟩ := hf
          refine sg_f rfl rfl rfl f_112 (fun hg => ?_)
          have f_122 : a.eval (.tmp 122) = .int .i64 x240.2 := c_122.1 hg
          have f_125 : a.eval (.tmp 125) = .int .i64 (ml 4096 t1.2.2) := c_125.1 hg
          exact or_add f_122 f_125 rfl
        refine steps_cons (fun own a wx hf hsl hE => ?_) ?_
        · obtain ⟨(f_112 : a.eval (.tmp 112) = .bool x238), c_117, c_126, -⟩ := hf
          refine sg_f rfl rfl rfl f_112 (fun hg => ?_)
          have f_117 : a.eval (.tmp 117) = .int .i64 x239.2 := c_117.1 hg
          have f_126 : a.eval (.tmp 126) = .int .i64 (ad x240.2 (ml 4096 t1.2.2)) := c_126.1 hg
          exact or_neq f_117 f_126 rfl
        refine steps_cons (fun own a wx hf hsl hE => ?_) ?_
        · obtain ⟨(f_112 : a.eval (.tmp 112) = .bool x238), c_127, -⟩ := hf
          exact sg_plain rfl rfl (or_or f_112 rfl (fun hx => c_127.1 hx) (osome hx241).symm)
        exact steps_nil
      intro own242 a242 w242 hd242 hz242 hk242 hf242 hE242
      have e242_1 : a242.eval (.tmp 1) = .slice A142 r141.length cA142 := (hk242 1 rfl).trans e227_1
      have e242_2 : a242.eval (.tmp 2) = .pointer (some ⟨g138, 0, none⟩) := (hk242 2 rfl).trans e227_2
      have e242_5 : a242.eval (.tmp 5) = .slice A147 r146.length cA147 := (hk242 5 rfl).trans e227_5
      have e242_6 : a242.eval (.tmp 6) = .slice A150 r149.length cA150 := (hk242 6 rfl).trans e227_6
      have e242_8 : a242.eval (.tmp 8) = .bool r161.2 := (hk242 8 rfl).trans e227_8
      have e242_9 : a242.eval (.tmp 9) = .slice A169 r168.length cA169 := (hk242 9 rfl).trans e227_9
      have e242_10 : a242.eval (.tmp 10) = .int .i64 i198 := (hk242 10 rfl).trans e227_10
      obtain ⟨(f_128 : a242.eval (.tmp 128) = .bool x241), -⟩ := hf242 [65] rfl
      have e242_128 := f_128
      have hX242 := Evo.step hX227 (fun _ => Nat.le_refl 0) hE242 rfl
      have b242_A142 := RdO.evo rfl hE242 b227_A142
      have b242_g138 := BlkO.evo (by decide) hE242 b227_g138
      have b242_A147 := RwO.evo rfl hE242 b227_A147
      have b242_A150 := RwO.evo rfl hE242 b227_A150
      have b242_A169 := RwO.evo rfl hE242 b227_A169
      refine fl_cond e242_128 hs (fun c243 hs => ?_) (fun c243 hs => ?_)
      · refine rg_plain_seq (n := 161) (rs := []) (own0 := own242) (K := [])
            (bs := [0])
            (ds := [⟨[], [], [], Fct.val 4 (.bool false)⟩]) (by kernel_rfl) hz242 hd242 (fun _ h => nomatch h) ?_ ?_
        · refine steps_cons (fun own a wx hf hsl hE => ?_) ?_
          · exact sg_plain rfl rfl (or_assign rfl)
          exact steps_nil
        intro own244 a244 w244 hd244 hz244 hk244 hf244 hE244
        obtain ⟨(f_4 : a244.eval (.tmp 4) = .bool false), -⟩ := hf244 [0] rfl
        have e244_4 := f_4
        have hX244 := Evo.step hX242 (fun _ => Nat.le_refl 0) hE244 rfl
        refine fl_ret ?_
        refine hp230 _ _ _ rfl ?_
        refine hp229 _ _ _ rfl ?_
        replace hs := hz222 _ hs
        refine hp222 _ _ _ rfl ?_
        refine hp174 _ _ _ rfl ?_
        refine hp172 _ _ _ rfl ?_
        obtain rfl := osome hs
        exact hret _ _ _ _ (.inl rfl) hd244 (results1_ rfl (RVal.tmp_ e244_4)) ⟨own244, rfl, hX244⟩
      refine fl_skip ?_
      refine hn230 _ _ ?_
      refine hn229 _ _ ?_
      refine rg_plain (n := 161) (rs := []) (own0 := own242) (K := [])
          (bs := [0, 1, 3])
          (ds := [⟨[], [10], [], Fct.val 61 (.int .i64 i198)⟩,
          ⟨[0], [], [], Fct.val 62 (.int .i64 (ad i198 1))⟩,
          ⟨[1], [], [], Fct.val 10 (.int .i64 (ad i198 1))⟩]) (by kernel_rfl) hz242 hd242 (fun _ h => nomatch h) ?_ ?_
      · refine steps_cons (fun own a wx hf hsl hE => ?_) ?_
        · obtain ⟨s_10, -⟩ := hsl
          exact sg_plain rfl rfl (or_move (s_10.trans e242_10))
        refine steps_cons (fun own a wx hf hsl hE => ?_) ?_
        · obtain ⟨(f_61 : a.eval (.tmp 61) = .int .i64 i198), -⟩ := hf
          exact sg_plain rfl rfl (or_add f_61 rfl rfl)
        refine steps_cons (fun own a wx hf hsl hE => ?_) ?_
        · obtain ⟨(f_62 : a.eval (.tmp 62) = .int .i64 (ad i198 1)), -⟩ := hf
          exact sg_plain rfl rfl (or_assign f_62)
        exact steps_nil
      intro own245 a245 w245 hd245 hz245 hk245 hf245 hE245
      have e245_1 : a245.eval (.tmp 1) = .slice A142 r141.length cA142 := (hk245 1 rfl).trans e242_1
      have e245_2 : a245.eval (.tmp 2) = .pointer (some ⟨g138, 0, none⟩) := (hk245 2 rfl).trans e242_2
      have e245_5 : a245.eval (.tmp 5) = .slice A147 r146.length cA147 := (hk245 5 rfl).trans e242_5
      have e245_6 : a245.eval (.tmp 6) = .slice A150 r149.length cA150 := (hk245 6 rfl).trans e242_6
      have e245_8 : a245.eval (.tmp 8) = .bool r161.2 := (hk245 8 rfl).trans e242_8
      have e245_9 : a245.eval (.tmp 9) = .slice A169 r168.length cA169 := (hk245 9 rfl).trans e242_9
      obtain ⟨(f_10 : a245.eval (.tmp 10) = .int .i64 (ad i198 1)), -⟩ := hf245 [2] rfl
      have e245_10 := f_10
      have hX245 := Evo.step hX242 (fun _ => Nat.le_refl 0) hE245 rfl
      have b245_A142 := RdO.evo rfl hE245 b242_A142
      have b245_g138 := BlkO.evo (by decide) hE245 b242_g138
      have b245_A147 := RwO.evo rfl hE245 b242_A147
      have b245_A150 := RwO.evo rfl hE245 b242_A150
      have b245_A169 := RwO.evo rfl hE245 b242_A169
      exact hn222 _ _ _ hs ⟨own245, hd245, hz245, e245_1, e245_2, e245_5, e245_6, e245_8, e245_9, e245_10, hX245, b245_A142, b245_g138, b245_A147, b245_A150, b245_A169⟩
    refine fl_exit ?_
    refine hp224 _ _ _ rfl ?_
    replace hs := hz222 _ hs
    refine hp222 _ _ _ rfl ?_
    refine hx174 _ _ ?_
    refine hn172 _ _ ?_
    obtain ⟨r246, hr246, hs⟩ := obind hs
    obtain ⟨x247, hx247, hs⟩ := obind hs
    obtain ⟨x248, hx248, hs⟩ := obind hs
    obtain ⟨r249, hr249, hs⟩ := obind hs
    obtain ⟨r252, hr252, hs⟩ := obind hs
    obtain ⟨r255, hr255, hs⟩ := obind hs
    obtain ⟨x256, hx256, hs⟩ := obind hs
    obtain ⟨r257, hr257, hs⟩ := obind hs
    obtain ⟨r260, hr260, hs⟩ := obind hs
    obtain ⟨r263, hr263, hs⟩ := obind hs
    refine rg_plain_seq (n := 161) (rs := []) (own0 := own227) (K := [])
        (bs := [0, 1, 3, 7, 15, 31, 63, 127, 255, 511, 1023, 2047, 4095, 1023, 16383, 32767, 65535, 131071, 131071, 524287, 131071, 2097151, 4194303, 8388607, 16777215, 33554431, 33554431, 134217727, 33554431, 536870911, 1073741823, 2147483647, 4294967295])
        (ds := [⟨[], [], [], Fct.val 129 (.bool r246)⟩,
        ⟨[0], [], [], Fct.val 130 (.bool r246)⟩,
        ⟨[1], [8], [], Fct.cond r246 (some 131) (Fct.val 131 (.bool r161.2))⟩,
        ⟨[1, 2], [], [], Fct.val 132 (.bool (r246 && r161.2))⟩,
        ⟨[3], [], [], Fct.val 133 (.bool (r246 && r161.2))⟩,
        ⟨[4], [9], [], Fct.cond (r246 && r161.2) (some 134) (Fct.val 134 (.slice A169 r168.length cA169))⟩,
        ⟨[4, 5], [], [], Fct.cond (r246 && r161.2) (some 135) (Fct.val 135 (.int .i64 (r168.length : Int)))⟩,
        ⟨[4, 6], [], [], Fct.cond (r246 && r161.2) (some 136) (Fct.val 136 (.bool (decide ((r168.length : Int) = 1))))⟩,
        ⟨[4, 7], [], [], Fct.val 137 (.bool x247)⟩,
        ⟨[8], [], [], Fct.val 138 (.bool x247)⟩,
        ⟨[9], [9], [], Fct.cond x247 (some 139) (Fct.val 139 (.slice A169 r168.length cA169))⟩,
        ⟨[9, 10], [], [], Fct.cond x247 (some 140) (Fct.val 140 (.pointer (some ((adr A169).add ((0 : Int).toNat * R23.s)))))⟩,
        ⟨[9, 11], [], [], Fct.cond x247 (some 141) (Fct.val 141 (.agg #[.int .i64 x248.1, .int .i64 x248.2]))⟩,
        ⟨[9], [], [], Fct.cond x247 (some 142) (Fct.val 142 (.agg #[.int .i64 0, .int .i64 0]))⟩,
        ⟨[9, 12, 13], [], [], Fct.cond x247 (some 143) (Fct.val 143 (.bool (decide (x248 = (0, 0)))))⟩,
        ⟨[9, 14], [], [], Fct.val 144 (.bool (x247 && (decide (x248 = (0, 0)))))⟩,
        ⟨[15], [], [], Fct.val 145 (.bool (x247 && (decide (x248 = (0, 0)))))⟩,
        ⟨[16], [2], [], Fct.cond (x247 && (decide (x248 = (0, 0)))) (some 146) (Fct.val 146 (.agg #[.int .i64 t1.1, .int .i64 t1.2.1, .int .i64 t1.2.2]))⟩,
        ⟨[16], [5], [], Fct.cond (x247 && (decide (x248 = (0, 0)))) (some 147) (Fct.val 147 (.slice A147 r146.length cA147))⟩,
        ⟨[16, 17, 18], [], [], Fct.cond (x247 && (decide (x248 = (0, 0)))) (some 148) (Fct.row 251 [] 148 23 R23 r249)⟩,
        ⟨[16], [1], [], Fct.cond (x247 && (decide (x248 = (0, 0)))) (some 149) (Fct.val 149 (.slice A142 r141.length cA142))⟩,
        ⟨[16, 20], [], [], Fct.cond (x247 && (decide (x248 = (0, 0)))) (some 150) (Fct.row 254 [] 150 33 R33 r252)⟩,
        ⟨[16, 19, 21], [], [], Fct.cond (x247 && (decide (x248 = (0, 0)))) (some 151) (Fct.val 151 (.bool r255))⟩,
        ⟨[16, 22], [], [], Fct.val 152 (.bool x256)⟩,
        ⟨[23], [], [], Fct.val 153 (.bool x256)⟩,
        ⟨[24], [2], [], Fct.cond x256 (some 154) (Fct.val 154 (.agg #[.int .i64 t1.1, .int .i64 t1.2.1, .int .i64 t1.2.2]))⟩,
        ⟨[24], [6], [], Fct.cond x256 (some 155) (Fct.val 155 (.slice A150 r149.length cA150))⟩,
        ⟨[24, 25, 26], [], [], Fct.cond x256 (some 156) (Fct.row 259 [] 156 23 R23 r257)⟩,
        ⟨[24], [1], [], Fct.cond x256 (some 157) (Fct.val 157 (.slice A142 r141.length cA142))⟩,
        ⟨[24, 28], [], [], Fct.cond x256 (some 158) (Fct.row 262 [] 158 33 R33 r260)⟩,
        ⟨[24, 27, 29], [], [], Fct.cond x256 (some 159) (Fct.val 159 (.bool r263))⟩,
        ⟨[24, 30], [], [], Fct.val 160 (.bool (x256 && r263))⟩,
        ⟨[31], [], [], Fct.val 4 (.bool (x256 && r263))⟩]) (by kernel_rfl) hz227 hd227 (fun _ h => nomatch h) ?_ ?_
    · refine steps_cons (fun own a wx hf hsl hE => ?_) ?_
      · exact sg_plain rfl rfl (or_call cf15 (args0) (law20_known_w _   r246 hr246) post_val)
      refine steps_cons (fun own a wx hf hsl hE => ?_) ?_
      · obtain ⟨(f_129 : a.eval (.tmp 129) = .bool r246), -⟩ := hf
        exact sg_plain rfl rfl (or_move f_129)
      refine steps_cons (fun own a wx hf hsl hE => ?_) ?_
      · obtain ⟨(f_130 : a.eval (.tmp 130) = .bool r246), -⟩ := hf
        obtain ⟨s_8, -⟩ := hsl
        refine sg_t rfl rfl rfl f_130 (fun hg => ?_)
        exact or_move (s_8.trans e227_8)
      refine steps_cons (fun own a wx hf hsl hE => ?_) ?_
      · obtain ⟨(f_130 : a.eval (.tmp 130) = .bool r246), c_131, -⟩ := hf
        exact sg_plain rfl rfl (or_and f_130 (fun hx => c_131.1 hx) rfl rfl)
      refine steps_cons (fun own a wx hf hsl hE => ?_) ?_
      · obtain ⟨(f_132 : a.eval (.tmp 132) = .bool (r246 && r161.2)), -⟩ := hf
        exact sg_plain rfl rfl (or_move f_132)
      refine steps_cons (fun own a wx hf hsl hE => ?_) ?_
      · obtain ⟨(f_133 : a.eval (.tmp 133) = .bool (r246 && r161.2)), -⟩ := hf
        obtain ⟨s_9, -⟩ := hsl
        refine sg_t rfl rfl rfl f_133 (fun hg => ?_)
        exact or_move (s_9.trans e227_9)
      refine steps_cons (fun own a wx hf hsl hE => ?_) ?_
      · obtain ⟨(f_133 : a.eval (.tmp 133) = .bool (r246 && r161.2)), c_134, -⟩ := hf
        refine sg_t rfl rfl rfl f_133 (fun hg => ?_)
        have f_134 : a.eval (.tmp 134) = .slice A169 r168.length cA169 := c_134.1 hg
        exact or_len tu60 f_134 rfl
      refine steps_cons (fun own a wx hf hsl hE => ?_) ?_
      · obtain ⟨(f_133 : a.eval (.tmp 133) = .bool (r246 && r161.2)), c_135, -⟩ := hf
        refine sg_t rfl rfl rfl f_133 (fun hg => ?_)
        have f_135 : a.eval (.tmp 135) = .int .i64 (r168.length : Int) := c_135.1 hg
        exact or_eql f_135 rfl rfl
      refine steps_cons (fun own a wx hf hsl hE => ?_) ?_
      · obtain ⟨(f_133 : a.eval (.tmp 133) = .bool (r246 && r161.2)), c_136, -⟩ := hf
        exact sg_plain rfl rfl (or_and f_133 (fun hx => c_136.1 hx) rfl (osome hx247).symm)
      refine steps_cons (fun own a wx hf hsl hE => ?_) ?_
      · obtain ⟨(f_137 : a.eval (.tmp 137) = .bool x247), -⟩ := hf
        exact sg_plain rfl rfl (or_move f_137)
      refine steps_cons (fun own a wx hf hsl hE => ?_) ?_
      · obtain ⟨(f_138 : a.eval (.tmp 138) = .bool x247), -⟩ := hf
        obtain ⟨s_9, -⟩ := hsl
        refine sg_t rfl rfl rfl f_138 (fun hg => ?_)
        exact or_move (s_9.trans e227_9)
      refine steps_cons (fun own a wx hf hsl hE => ?_) ?_
      · obtain ⟨(f_138 : a.eval (.tmp 138) = .bool x247), c_139, -⟩ := hf
        refine sg_t rfl rfl rfl f_138 (fun hg => ?_)
        have f_139 : a.eval (.tmp 139) = .slice A169 r168.length cA169 := c_139.1 hg
        exact or_index (R := R23) (l := r168) tl60 f_139 rfl (RdO.some_ (RwO.rd b227_A169) (gd_t hx248 hg)) (gd_t hx248 hg)
      refine steps_cons (fun own a wx hf hsl hE => ?_) ?_
      · obtain ⟨(f_138 : a.eval (.tmp 138) = .bool x247), c_140, -⟩ := hf
        refine sg_t rfl rfl rfl f_138 (fun hg => ?_)
        have f_140 : a.eval (.tmp 140) = .pointer (some ((adr A169).add ((0 : Int).toNat * R23.s))) := c_140.1 hg
        exact or_load (l := E23.f x248) ta23 f_140 (RdO.cells (F := E23) (RwO.rd (RwO.evo rfl hE b227_A169)) (gd_t hx248 hg)) rfl
      refine steps_cons (fun own a wx hf hsl hE => ?_) ?_
      · obtain ⟨(f_138 : a.eval (.tmp 138) = .bool x247), -⟩ := hf
        refine sg_t rfl rfl rfl f_138 (fun hg => ?_)
        exact or_k [] rfl rfl trivial (by kernel_rfl)
      refine steps_cons (fun own a wx hf hsl hE => ?_) ?_
      · obtain ⟨(f_138 : a.eval (.tmp 138) = .bool x247), c_141, c_142, -⟩ := hf
        refine sg_t rfl rfl rfl f_138 (fun hg => ?_)
        have f_141 : a.eval (.tmp 141) = .agg #[.int .i64 x248.1, .int .i64 x248.2] := c_141.1 hg
        have f_142 : a.eval (.tmp 142) = .agg #[.int .i64 0, .int .i64 0] := c_142.1 hg
        exact or_eqlA sg23 f_141 f_142 (se23 x248.1 x248.2 0 0 _) rfl
      refine steps_cons (fun own a wx hf hsl hE => ?_) ?_
      · obtain ⟨(f_138 : a.eval (.tmp 138) = .bool x247), c_143, -⟩ := hf
        exact sg_plain rfl rfl (or_and f_138 (fun hx => c_143.1 hx) rfl rfl)
      refine steps_cons (fun own a wx hf hsl hE => ?_) ?_
      · obtain ⟨(f_144 : a.eval (.tmp 144) = .bool (x247 && (decide (x248 = (0, 0))))), -⟩ := hf
        exact sg_plain rfl rfl (or_move f_144)
      refine steps_cons (fun own a wx hf hsl hE => ?_) ?_
      · obtain ⟨(f_145 : a.eval (.tmp 145) = .bool (x247 && (decide (x248 = (0, 0))))), -⟩ := hf
        obtain ⟨s_2, -⟩ := hsl
        refine sg_t rfl rfl rfl f_145 (fun hg => ?_)
        exact or_load (l := [.int .i64 t1.1, .int .i64 t1.2.1, .int .i64 t1.2.2]) ta27 (s_2.trans e227_2) (Blk.cellsFrom (BlkO.evo (by decide) hE b227_g138).2 0 rfl) rfl
      refine steps_cons (fun own a wx hf hsl hE => ?_) ?_
      · obtain ⟨(f_145 : a.eval (.tmp 145) = .bool (x247 && (decide (x248 = (0, 0))))), -⟩ := hf
        obtain ⟨s_5, -⟩ := hsl
        refine sg_t rfl rfl rfl f_145 (fun hg => ?_)
        exact or_move (s_5.trans e227_5)
      refine steps_cons (fun own a wx hf hsl hE => ?_) ?_
      · obtain ⟨(f_145 : a.eval (.tmp 145) = .bool (x247 && (decide (x248 = (0, 0))))), c_146, c_147, -⟩ := hf
        refine sg_t rfl rfl rfl f_145 (fun hg => ?_)
        have f_146 : a.eval (.tmp 146) = .agg #[.int .i64 t1.1, .int .i64 t1.2.1, .int .i64 t1.2.2] := c_146.1 hg
        have f_147 : a.eval (.tmp 147) = .slice A147 r146.length cA147 := c_147.1 hg
        exact or_call cf28 (args2 f_146 f_147) (window_World_w _ t1 r146 A147 cA147 (RdO.zero (RwO.rd (RwO.evo rfl hE b227_A147))) r249 (gd_t hr249 hg)) (post_row (m' := (look0 [(1, 251)])) (.inl (Rep.fl_flat _)) rfl rfl (fun _ => rfl))
      refine steps_cons (fun own a wx hf hsl hE => ?_) ?_
      · obtain ⟨(f_145 : a.eval (.tmp 145) = .bool (x247 && (decide (x248 = (0, 0))))), -⟩ := hf
        obtain ⟨s_1, -⟩ := hsl
        refine sg_t rfl rfl rfl f_145 (fun hg => ?_)
        exact or_move (s_1.trans e227_1)
      refine steps_cons (fun own a wx hf hsl hE => ?_) ?_
      · obtain ⟨(f_145 : a.eval (.tmp 145) = .bool (x247 && (decide (x248 = (0, 0))))), c_149, -⟩ := hf
        refine sg_t rfl rfl rfl f_145 (fun hg => ?_)
        have f_149 : a.eval (.tmp 149) = .slice A142 r141.length cA142 := c_149.1 hg
        exact or_call cf30 (args1 f_149) (law01_Ofs_w _ r141 A142 cA142 (RdO.zero (RdO.evo rfl hE b227_A142)) r252 (gd_t hr252 hg)) (post_row (m' := (look0 [(1, 254)])) (.inl (Rep.fl_flat _)) rfl rfl (fun _ => rfl))
      refine steps_cons (fun own a wx hf hsl hE => ?_) ?_
      · obtain ⟨(f_145 : a.eval (.tmp 145) = .bool (x247 && (decide (x248 = (0, 0))))), c_148, c_150, -⟩ := hf
        refine sg_t rfl rfl rfl f_145 (fun hg => ?_)
        obtain ⟨⟨A250, cA250⟩, (f_148 : a.eval (.tmp 148) = .slice A250 r249.length cA250), (b_A250 : RwO own 251 [] wx 23 R23 A250 cA250 r249)⟩ := c_148.1 hg
        obtain ⟨⟨A253, cA253⟩, (f_150 : a.eval (.tmp 150) = .slice A253 r252.length cA253), (b_A253 : RwO own 254 [] wx 33 R33 A253 cA253 r252)⟩ := c_150.1 hg
        exact or_call cf29 (args2 f_148 f_150) (law03_Same_w _ r249 A250 cA250 r252 A253 cA253 (RdO.zero (RwO.rd b_A250)) (RdO.zero (RwO.rd b_A253)) r255 (gd_t hr255 hg)) post_val
      refine steps_cons (fun own a wx hf hsl hE => ?_) ?_
      · obtain ⟨(f_145 : a.eval (.tmp 145) = .bool (x247 && (decide (x248 = (0, 0))))), c_151, -⟩ := hf
        exact sg_plain rfl rfl (or_and f_145 (fun hx => c_151.1 hx) rfl (osome hx256).symm)
      refine steps_cons (fun own a wx hf hsl hE => ?_) ?_
      · obtain ⟨(f_152 : a.eval (.tmp 152) = .bool x256), -⟩ := hf
        exact sg_plain rfl rfl (or_move f_152)
      refine steps_cons (fun own a wx hf hsl hE => ?_) ?_
      · obtain ⟨(f_153 : a.eval (.tmp 153) = .bool x256), -⟩ := hf
        obtain ⟨s_2, -⟩ := hsl
        refine sg_t rfl rfl rfl f_153 (fun hg => ?_)
        exact or_load (l := [.int .i64 t1.1, .int .i64 t1.2.1, .int .i64 t1.2.2]) ta27 (s_2.trans e227_2) (Blk.cellsFrom (BlkO.evo (by decide) hE b227_g138).2 0 rfl) rfl
      refine steps_cons (fun own a wx hf hsl hE => ?_) ?_
      · obtain ⟨(f_153 : a.eval (.tmp 153) = .bool x256), -⟩ := hf
        obtain ⟨s_6, -⟩ := hsl
        refine sg_t rfl rfl rfl f_153 (fun hg => ?_)
        exact or_move (s_6.trans e227_6)
      refine steps_cons (fun own a wx hf hsl hE => ?_) ?_
      · obtain ⟨(f_153 : a.eval (.tmp 153) = .bool x256), c_154, c_155, -⟩ := hf
        refine sg_t rfl rfl rfl f_153 (fun hg => ?_)
        have f_154 : a.eval (.tmp 154) = .agg #[.int .i64 t1.1, .int .i64 t1.2.1, .int .i64 t1.2.2] := c_154.1 hg
        have f_155 : a.eval (.tmp 155) = .slice A150 r149.length cA150 := c_155.1 hg
        exact or_call cf27 (args2 f_154 f_155) (window_Local_w _ t1 r149 A150 cA150 (RdO.zero (RwO.rd (RwO.evo rfl hE b227_A150))) r257 (gd_t hr257 hg)) (post_row (m' := (look0 [(1, 259)])) (.inl (Rep.fl_flat _)) rfl rfl (fun _ => rfl))
      refine steps_cons (fun own a wx hf hsl hE => ?_) ?_
      · obtain ⟨(f_153 : a.eval (.tmp 153) = .bool x256), -⟩ := hf
        obtain ⟨s_1, -⟩ := hsl
        refine sg_t rfl rfl rfl f_153 (fun hg => ?_)
        exact or_move (s_1.trans e227_1)
      refine steps_cons (fun own a wx hf hsl hE => ?_) ?_
      · obtain ⟨(f_153 : a.eval (.tmp 153) = .bool x256), c_157, -⟩ := hf
        refine sg_t rfl rfl rfl f_153 (fun hg => ?_)
        have f_157 : a.eval (.tmp 157) = .slice A142 r141.length cA142 := c_157.1 hg
        exact or_call cf30 (args1 f_157) (law01_Ofs_w _ r141 A142 cA142 (RdO.zero (RdO.evo rfl hE b227_A142)) r260 (gd_t hr260 hg)) (post_row (m' := (look0 [(1, 262)])) (.inl (Rep.fl_flat _)) rfl rfl (fun _ => rfl))
      refine steps_cons (fun own a wx hf hsl hE => ?_) ?_
      · obtain ⟨(f_153 : a.eval (.tmp 153) = .bool x256), c_156, c_158, -⟩ := hf
        refine sg_t rfl rfl rfl f_153 (fun hg => ?_)
        obtain ⟨⟨A258, cA258⟩, (f_156 : a.eval (.tmp 156) = .slice A258 r257.length cA258), (b_A258 : RwO own 259 [] wx 23 R23 A258 cA258 r257)⟩ := c_156.1 hg
        obtain ⟨⟨A261, cA261⟩, (f_158 : a.eval (.tmp 158) = .slice A261 r260.length cA261), (b_A261 : RwO own 262 [] wx 33 R33 A261 cA261 r260)⟩ := c_158.1 hg
        exact or_call cf29 (args2 f_156 f_158) (law03_Same_w _ r257 A258 cA258 r260 A261 cA261 (RdO.zero (RwO.rd b_A258)) (RdO.zero (RwO.rd b_A261)) r263 (gd_t hr263 hg)) post_val
      refine steps_cons (fun own a wx hf hsl hE => ?_) ?_
      · obtain ⟨(f_153 : a.eval (.tmp 153) = .bool x256), c_159, -⟩ := hf
        exact sg_plain rfl rfl (or_and f_153 (fun hx => c_159.1 hx) rfl rfl)
      refine steps_cons (fun own a wx hf hsl hE => ?_) ?_
      · obtain ⟨(f_160 : a.eval (.tmp 160) = .bool (x256 && r263)), -⟩ := hf
        exact sg_plain rfl rfl (or_assign f_160)
      exact steps_nil
    intro own264 a264 w264 hd264 hz264 hk264 hf264 hE264
    obtain ⟨(f_4 : a264.eval (.tmp 4) = .bool (x256 && r263)), -⟩ := hf264 [32] rfl
    have e264_4 := f_4
    have hX264 := Evo.step hX227 (fun _ => Nat.le_refl 0) hE264 rfl
    refine fl_ret ?_
    obtain rfl := osome hs
    exact hret _ _ _ _ (.inl rfl) hd264 (results1_ rfl (RVal.tmp_ e264_4)) ⟨own264, rfl, hX264⟩

end Go.Proofs.Ytehmjkdgakinbaa
