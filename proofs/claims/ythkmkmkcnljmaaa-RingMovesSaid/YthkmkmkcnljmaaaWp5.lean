/-
  Chapter 03. The walks.
-/
import Derived.Test.YthkmkmkcnljmaaaWp4
import Derived.Test.YthkmkmkcnljmaaaSp5
namespace Go.Proofs.Ythkmkmkcnljmaaa
open Go.RowKit
set_option linter.unusedVariables false
theorem slices_Clone_api_Point_api_Point_w (w : World) (s1 : List (Int × Int)) (As1 : Option Addr) (cs1 : Nat) (hs1 : RdO (fun _ => 0) [0] w R32 As1 cs1 s1) (r : List (Int × Int)) (hs : slices_Clone_api_Point_api_Point s1 = some r) :
    Calls Try.prog 46 #[.slice As1 s1.length cs1] w fun e w' => ∃ (own' : Own) (x : Option Addr × Nat), e = .returned (.slice x.1 r.length x.2) ∧ Evo [] (fun _ => 0) own' w w' ∧ RwO own' 1 [] w' 32 R32 x.1 x.2 r := by
  refine fl_enter (n := 8) rfl rfl rfl (Nat.le_of_ble_eq_true rfl) ?_
  intro a0 Q hd0 hz0 harg hret
  have ha0 := harg 0 _ rfl
  clear harg
  have hE0 : Evo [] (fun _ => 0) (fun _ => 0) w w := Evo.refl _ _ _
  refine rg_plain_seq (n := 8) (rs := []) (own0 := (fun _ => 0)) (K := [])
      (bs := [0])
      (ds := [⟨[], [], [], Fct.val 2 (.slice none 0 0)⟩]) (by kernel_rfl) hz0 hd0 (fun _ h => nomatch h) ?_ ?_
  · refine steps_cons (fun own a wx hf hsl hE => ?_) ?_
    · exact sg_plain rfl rfl (or_assign rfl)
    exact steps_nil
  intro own22 a22 w22 hd22 hz22 hk22 hf22 hE22
  have e22_0 : a22.eval (.tmp 0) = .slice As1 s1.length cs1 := (hk22 0 rfl).trans ha0
  have hX22 := Evo.step hE0 (fun _ => Nat.le_refl 0) hE22 rfl
  have b22_As1 := RdO.evo rfl hE22 hs1
  refine fl_seq (fun Q23 hn23 hp23 => ?_)
  refine rg_plain_seq (n := 8) (rs := []) (own0 := own22) (K := [])
      (bs := [0, 1])
      (ds := [⟨[], [0], [], Fct.val 3 (.slice As1 s1.length cs1)⟩,
      ⟨[0], [], [], Fct.val 4 (.bool As1.isNone)⟩]) (by kernel_rfl) hz22 hd22 (fun _ h => nomatch h) ?_ ?_
  · refine steps_cons (fun own a wx hf hsl hE => ?_) ?_
    · obtain ⟨s_0, -⟩ := hsl
      exact sg_plain rfl rfl (or_move (s_0.trans e22_0))
    refine steps_cons (fun own a wx hf hsl hE => ?_) ?_
    · obtain ⟨(f_3 : a.eval (.tmp 3) = .slice As1 s1.length cs1), -⟩ := hf
      exact sg_plain rfl rfl (or_eqlNil tu22 f_3 rfl)
    exact steps_nil
  intro own24 a24 w24 hd24 hz24 hk24 hf24 hE24
  have e24_0 : a24.eval (.tmp 0) = .slice As1 s1.length cs1 := (hk24 0 rfl).trans e22_0
  obtain ⟨(f_4 : a24.eval (.tmp 4) = .bool As1.isNone), -⟩ := hf24 [1] rfl
  have e24_4 := f_4
  have hX24 := Evo.step hX22 (fun _ => Nat.le_refl 0) hE24 rfl
  have b24_As1 := RdO.evo rfl hE24 b22_As1
  refine wpIn_cond_split e24_4 (fun hA25 => ?_) (fun hA25 => ?_)
  · have hl25 : s1 = [] := RdO.nil_of b24_As1 hA25
    have hs0 : ((app ([] : List (Int × Int)) s1).bind fun x28 => some x28) = some r := hs
    have hs : (some ([] : List (Int × Int))) = some r := by simpa [hl25, app, cut, capB] using hs0
    refine rg_plain_seq (n := 8) (rs := []) (own0 := own24) (K := [])
        (bs := [0])
        (ds := [⟨[], [], [], Fct.val 2 (.slice none 0 0)⟩]) (by kernel_rfl) hz24 hd24 (fun _ h => nomatch h) ?_ ?_
    · refine steps_cons (fun own a wx hf hsl hE => ?_) ?_
      · exact sg_plain rfl rfl (or_assign rfl)
      exact steps_nil
    intro own32 a32 w32 hd32 hz32 hk32 hf32 hE32
    obtain ⟨(f_2 : a32.eval (.tmp 2) = .slice none 0 0), -⟩ := hf32 [0] rfl
    have e32_2 := f_2
    have hX32 := Evo.step hX24 (fun _ => Nat.le_refl 0) hE32 rfl
    refine fl_ret ?_
    refine hp23 _ _ _ rfl ?_
    obtain rfl := osome hs
    exact hret _ _ _ _ (.inl rfl) hd32 (results1_ rfl (RVal.tmp_ e32_2)) ⟨own32, (none, 0), rfl, hX32, RwO.nil_⟩
  refine fl_skip ?_
  refine hn23 _ _ ?_
  obtain ⟨x28, hx28, hs⟩ := obind hs
  refine rg_plain_seq (n := 8) (rs := []) (own0 := own24) (K := [27])
      (bs := [0, 0, 3, 7])
      (ds := [⟨[], [], [], Fct.row 27 [] 5 32 R32 ([] : List (Int × Int))⟩,
      ⟨[], [0], [], Fct.val 6 (.slice As1 s1.length cs1)⟩,
      ⟨[0, 1], [], [27], Fct.row 29 [] 7 32 R32 x28⟩,
      ⟨[2], [], [], Fct.rel [2, 7] (fun l => ∀ (A30 : Option Addr) (cA30 : Nat), l.getD 1 undef = .slice A30 x28.length cA30 → l.getD 0 undef = .slice A30 x28.length cA30)⟩]) (by kernel_rfl) hz24 hd24 (fun _ h => nomatch h) ?_ ?_
  · refine steps_cons (fun own a wx hf hsl hE => ?_) ?_
    · exact sg_plain rfl rfl (or_lit (lab := 27) (e := 32) (cs := #[]) (F := E32) (or_new [] rfl rfl trivial (by kernel_rfl)) rfl rfl (show 0 ≤ maxLen by decide))
    refine steps_cons (fun own a wx hf hsl hE => ?_) ?_
    · obtain ⟨s_0, -⟩ := hsl
      exact sg_plain rfl rfl (or_move (s_0.trans e24_0))
    refine steps_cons (fun own a wx hf hsl hE => ?_) ?_
    · obtain ⟨⟨⟨A26, cA26⟩, (f_5 : a.eval (.tmp 5) = .slice A26 ([] : List (Int × Int)).length cA26), (b_A26 : RwO own 27 [] wx 32 R32 A26 cA26 ([] : List (Int × Int)))⟩, (f_6 : a.eval (.tmp 6) = .slice As1 s1.length cs1), -⟩ := hf
      exact sg_plain rfl rfl (or_append (R := R32) (lab := 27) (lab2 := 29) (L := []) (L3 := []) tp22 f_5 b_A26 (by decide) f_6 (RdO.evo rfl hE b24_As1) hx28 (by decide) (by decide) (mem_of rfl) (.inl (Rep.fl_flat _)))
    refine steps_cons (fun own a wx hf hsl hE => ?_) ?_
    · obtain ⟨⟨⟨A30, cA30⟩, (f_7 : a.eval (.tmp 7) = .slice A30 x28.length cA30), (b_A30 : RwO own 29 [] wx 32 R32 A30 cA30 x28)⟩, -⟩ := hf
      exact sg_plain rfl rfl (or_mono (f := Fct.val 2 (.slice A30 x28.length cA30)) (or_assign f_7) (fun own' a' w' v' hp h => fun _ _ h0' => by cases (f_7.symm.trans ((hp.2 7 (by decide)).symm.trans h0')); exact h))
    exact steps_nil
  intro own31 a31 w31 hd31 hz31 hk31 hf31 hE31
  obtain ⟨⟨⟨A30, cA30⟩, (f_7 : a31.eval (.tmp 7) = .slice A30 x28.length cA30), (b_A30 : RwO own31 29 [] w31 32 R32 A30 cA30 x28)⟩, (q_2 : ∀ (A30 : Option Addr) (cA30 : Nat), a31.eval (.tmp 7) = .slice A30 x28.length cA30 → a31.eval (.tmp 2) = .slice A30 x28.length cA30), -⟩ := hf31 [2, 3] rfl
  have f_2 := q_2 _ _ f_7
  have e31_2 := f_2
  have hX31 := Evo.step hX24 (fun _ => Nat.le_refl 0) hE31 rfl
  have b31_A30 := b_A30
  refine fl_ret ?_
  obtain rfl := (osome hs).symm
  exact hret _ _ _ _ (.inl rfl) hd31 (results1_ rfl (RVal.tmp_ e31_2)) ⟨(rl [(29, 1)] own31), (A30, cA30), rfl, (Evo.rl_ hX31 (fun _ => Nat.le_refl 0) rfl), (RwO.rl_ (mm := [(29, 1)]) b31_A30)⟩

end Go.Proofs.Ythkmkmkcnljmaaa
