/-
  Chapter 04. The walks.
-/
import Derived.Test.YthbjlgklmamhjaaWp2
import Derived.Test.YthbjlgklmamhjaaWp4
import Derived.Test.YthbjlgklmamhjaaWp6
import Derived.Test.YthbjlgklmamhjaaWp8
import Derived.Test.YthbjlgklmamhjaaSp13
namespace Go.Proofs.Ythbjlgklmamhjaa
open Go.RowKit
set_option linter.unusedVariables false
set_option maxHeartbeats 2000000 in
theorem law04_OrderStays_w (w : World) (l1 : List (Int × Int)) (Al1 : Option Addr) (cl1 : Nat) (n2 : List Int) (An2 : Option Addr) (cn2 : Nat) (m3 : List Int) (Am3 : Option Addr) (cm3 : Nat) (hl1 : RdO (fun _ => 0) [0] w R48 Al1 cl1 l1) (hn2 : RdO (fun _ => 0) [0] w R3 An2 cn2 n2) (hm3 : RdO (fun _ => 0) [0] w R3 Am3 cm3 m3) (r : Bool) (hs : law04_OrderStays l1 n2 m3 = some r) :
    Calls Try.prog 6 #[.slice Al1 l1.length cl1, .slice An2 n2.length cn2, .slice Am3 m3.length cm3] w fun e w' => ∃ own' : Own, e = .returned (.bool r) ∧ Evo [] (fun _ => 0) own' w w' := by
  refine fl_enter (n := 173) rfl rfl rfl (Nat.le_of_ble_eq_true rfl) ?_
  intro a0 Q hd0 hz0 harg hret
  have ha0 := harg 0 _ rfl
  have ha1 := harg 1 _ rfl
  have ha2 := harg 2 _ rfl
  clear harg
  have hE0 : Evo [] (fun _ => 0) (fun _ => 0) w w := Evo.refl _ _ _
  refine rg_plain_seq (n := 173) (rs := []) (own0 := (fun _ => 0)) (K := [])
      (bs := [0])
      (ds := [⟨[], [], [], Fct.val 6 (.bool false)⟩]) (by kernel_rfl) hz0 hd0 (fun _ h => nomatch h) ?_ ?_
  · refine steps_cons (fun own a wx hf hsl hE => ?_) ?_
    · exact sg_plain rfl rfl (or_assign rfl)
    exact steps_nil
  intro own1046 a1046 w1046 hd1046 hz1046 hk1046 hf1046 hE1046
  have e1046_0 : a1046.eval (.tmp 0) = .slice Al1 l1.length cl1 := (hk1046 0 rfl).trans ha0
  have e1046_1 : a1046.eval (.tmp 1) = .slice An2 n2.length cn2 := (hk1046 1 rfl).trans ha1
  have e1046_2 : a1046.eval (.tmp 2) = .slice Am3 m3.length cm3 := (hk1046 2 rfl).trans ha2
  have hX1046 := Evo.step hE0 (fun _ => Nat.le_refl 0) hE1046 rfl
  have b1046_Al1 := RdO.evo rfl hE1046 hl1
  have b1046_An2 := RdO.evo rfl hE1046 hn2
  have b1046_Am3 := RdO.evo rfl hE1046 hm3
  obtain ⟨x1047, hx1047, hs⟩ := obind hs
  obtain ⟨x1049, hx1049, hs⟩ := obind hs
  obtain ⟨x1051, hx1051, hs⟩ := obind hs
  refine rg_draw_seq g_mixed (n := 173) (rs := []) (own0 := own1046) (K := [])
      (bs := [0, 0, 2, 6, 15, 0, 0, 64, 192, 480, 0, 0, 2048, 6144, 15360, 31, 33791, 131071])
      (ds := [⟨[], [0], [], Fct.val 16 (.slice Al1 l1.length cl1)⟩,
      ⟨[], [0], [], Fct.val 17 (.slice Al1 l1.length cl1)⟩,
      ⟨[1], [], [], Fct.val 18 (.int .i64 (l1.length : Int))⟩,
      ⟨[2], [], [], Fct.val 19 (.int .i64 (mn (l1.length : Int) 60))⟩,
      ⟨[0, 3], [], [], Fct.view [0] 20 R48 x1047⟩,
      ⟨[], [1], [], Fct.val 21 (.slice An2 n2.length cn2)⟩,
      ⟨[], [1], [], Fct.val 22 (.slice An2 n2.length cn2)⟩,
      ⟨[6], [], [], Fct.val 23 (.int .i64 (n2.length : Int))⟩,
      ⟨[7], [], [], Fct.val 24 (.int .i64 (mn (n2.length : Int) 60))⟩,
      ⟨[5, 8], [], [], Fct.view [0] 25 R3 x1049⟩,
      ⟨[], [2], [], Fct.val 26 (.slice Am3 m3.length cm3)⟩,
      ⟨[], [2], [], Fct.val 27 (.slice Am3 m3.length cm3)⟩,
      ⟨[11], [], [], Fct.val 28 (.int .i64 (m3.length : Int))⟩,
      ⟨[12], [], [], Fct.val 29 (.int .i64 (mn (m3.length : Int) 60))⟩,
      ⟨[10, 13], [], [], Fct.view [0] 30 R3 x1051⟩,
      ⟨[4], [], [], Fct.rel [0, 20] (fun l => ∀ (A1048 : Option Addr) (cA1048 : Nat), l.getD 1 undef = .slice A1048 x1047.length cA1048 → l.getD 0 undef = .slice A1048 x1047.length cA1048)⟩,
      ⟨[9], [], [], Fct.rel [1, 25] (fun l => ∀ (A1050 : Option Addr) (cA1050 : Nat), l.getD 1 undef = .slice A1050 x1049.length cA1050 → l.getD 0 undef = .slice A1050 x1049.length cA1050)⟩,
      ⟨[14], [], [], Fct.rel [2, 30] (fun l => ∀ (A1052 : Option Addr) (cA1052 : Nat), l.getD 1 undef = .slice A1052 x1051.length cA1052 → l.getD 0 undef = .slice A1052 x1051.length cA1052)⟩]) (by kernel_rfl) hz1046 hd1046 (fun _ h => nomatch h) ?_ ?_
  · refine steps_cons (fun own a wx hf hsl hE => ?_) ?_
    · obtain ⟨s_0, -⟩ := hsl
      exact sg_plain rfl rfl (or_move (s_0.trans e1046_0))
    refine steps_cons (fun own a wx hf hsl hE => ?_) ?_
    · obtain ⟨s_0, -⟩ := hsl
      exact sg_plain rfl rfl (or_move (s_0.trans e1046_0))
    refine steps_cons (fun own a wx hf hsl hE => ?_) ?_
    · obtain ⟨(f_17 : a.eval (.tmp 17) = .slice Al1 l1.length cl1), -⟩ := hf
      exact sg_plain rfl rfl (or_len tu34 f_17 rfl)
    refine steps_cons (fun own a wx hf hsl hE => ?_) ?_
    · obtain ⟨(f_18 : a.eval (.tmp 18) = .int .i64 (l1.length : Int)), -⟩ := hf
      exact sg_plain rfl rfl (or_min f_18 rfl)
    refine steps_cons (fun own a wx hf hsl hE => ?_) ?_
    · obtain ⟨(f_16 : a.eval (.tmp 16) = .slice Al1 l1.length cl1), (f_19 : a.eval (.tmp 19) = .int .i64 (mn (l1.length : Int) 60)), -⟩ := hf
      exact sg_plain rfl rfl (or_view (R := R48) (l := l1) (L := [0]) tu34 ts48 f_16 Bnd.none_ (Bnd.some_ f_19) Bnd.none_ (RdO.evo rfl hE b1046_Al1) hx1047 (.inl rfl) (by simp))
    refine steps_cons (fun own a wx hf hsl hE => ?_) ?_
    · obtain ⟨s_1, -⟩ := hsl
      exact sg_plain rfl rfl (or_move (s_1.trans e1046_1))
    refine steps_cons (fun own a wx hf hsl hE => ?_) ?_
    · obtain ⟨s_1, -⟩ := hsl
      exact sg_plain rfl rfl (or_move (s_1.trans e1046_1))
    refine steps_cons (fun own a wx hf hsl hE => ?_) ?_
    · obtain ⟨(f_22 : a.eval (.tmp 22) = .slice An2 n2.length cn2), -⟩ := hf
      exact sg_plain rfl rfl (or_len tu22 f_22 rfl)
    refine steps_cons (fun own a wx hf hsl hE => ?_) ?_
    · obtain ⟨(f_23 : a.eval (.tmp 23) = .int .i64 (n2.length : Int)), -⟩ := hf
      exact sg_plain rfl rfl (or_min f_23 rfl)
    refine steps_cons (fun own a wx hf hsl hE => ?_) ?_
    · obtain ⟨(f_21 : a.eval (.tmp 21) = .slice An2 n2.length cn2), (f_24 : a.eval (.tmp 24) = .int .i64 (mn (n2.length : Int) 60)), -⟩ := hf
      exact sg_plain rfl rfl (or_view (R := R3) (l := n2) (L := [0]) tu22 ts3 f_21 Bnd.none_ (Bnd.some_ f_24) Bnd.none_ (RdO.evo rfl hE b1046_An2) hx1049 (.inl rfl) (by simp))
    refine steps_cons (fun own a wx hf hsl hE => ?_) ?_
    · obtain ⟨s_2, -⟩ := hsl
      exact sg_plain rfl rfl (or_move (s_2.trans e1046_2))
    refine steps_cons (fun own a wx hf hsl hE => ?_) ?_
    · obtain ⟨s_2, -⟩ := hsl
      exact sg_plain rfl rfl (or_move (s_2.trans e1046_2))
    refine steps_cons (fun own a wx hf hsl hE => ?_) ?_
    · obtain ⟨(f_27 : a.eval (.tmp 27) = .slice Am3 m3.length cm3), -⟩ := hf
      exact sg_plain rfl rfl (or_len tu22 f_27 rfl)
    refine steps_cons (fun own a wx hf hsl hE => ?_) ?_
    · obtain ⟨(f_28 : a.eval (.tmp 28) = .int .i64 (m3.length : Int)), -⟩ := hf
      exact sg_plain rfl rfl (or_min f_28 rfl)
    refine steps_cons (fun own a wx hf hsl hE => ?_) ?_
    · obtain ⟨(f_26 : a.eval (.tmp 26) = .slice Am3 m3.length cm3), (f_29 : a.eval (.tmp 29) = .int .i64 (mn (m3.length : Int) 60)), -⟩ := hf
      exact sg_plain rfl rfl (or_view (R := R3) (l := m3) (L := [0]) tu22 ts3 f_26 Bnd.none_ (Bnd.some_ f_29) Bnd.none_ (RdO.evo rfl hE b1046_Am3) hx1051 (.inl rfl) (by simp))
    refine steps_cons (fun own a wx hf hsl hE => ?_) ?_
    · obtain ⟨⟨⟨A1048, cA1048⟩, (f_20 : a.eval (.tmp 20) = .slice A1048 x1047.length cA1048), (b_A1048 : RdO own [0] wx R48 A1048 cA1048 x1047)⟩, -⟩ := hf
      exact sg_plain rfl rfl (or_mono (f := Fct.val 0 (.slice A1048 x1047.length cA1048)) (or_assign f_20) (fun own' a' w' v' hp h => fun _ _ h0' => by cases (f_20.symm.trans ((hp.2 20 (by decide)).symm.trans h0')); exact h))
    refine steps_cons (fun own a wx hf hsl hE => ?_) ?_
    · obtain ⟨⟨⟨A1050, cA1050⟩, (f_25 : a.eval (.tmp 25) = .slice A1050 x1049.length cA1050), (b_A1050 : RdO own [0] wx R3 A1050 cA1050 x1049)⟩, -⟩ := hf
      exact sg_plain rfl rfl (or_mono (f := Fct.val 1 (.slice A1050 x1049.length cA1050)) (or_assign f_25) (fun own' a' w' v' hp h => fun _ _ h0' => by cases (f_25.symm.trans ((hp.2 25 (by decide)).symm.trans h0')); exact h))
    refine steps_cons (fun own a wx hf hsl hE => ?_) ?_
    · obtain ⟨⟨⟨A1052, cA1052⟩, (f_30 : a.eval (.tmp 30) = .slice A1052 x1051.length cA1052), (b_A1052 : RdO own [0] wx R3 A1052 cA1052 x1051)⟩, -⟩ := hf
      exact sg_plain rfl rfl (or_mono (f := Fct.val 2 (.slice A1052 x1051.length cA1052)) (or_assign f_30) (fun own' a' w' v' hp h => fun _ _ h0' => by cases (f_30.symm.trans ((hp.2 30 (by decide)).symm.trans h0')); exact h))
    exact steps_nil
  intro own1053 a1053 w1053 hd1053 hz1053 hk1053 hf1053 hE1053
  obtain ⟨⟨⟨A1048, cA1048⟩, (f_20 : a1053.eval (.tmp 20) = .slice A1048 x1047.length cA1048), (b_A1048 : RdO own1053 [0] w1053 R48 A1048 cA1048 x1047)⟩, (q_0 : ∀ (A1048 : Option Addr) (cA1048 : Nat), a1053.eval (.tmp 20) = .slice A1048 x1047.length cA1048 → a1053.eval (.tmp 0) = .slice A1048 x1047.length cA1048), ⟨⟨A1050, cA1050⟩, (f_25 : a1053.eval (.tmp 25) = .slice A1050 x1049.length cA1050), (b_A1050 : RdO own1053 [0] w1053 R3 A1050 cA1050 x1049)⟩, (q_1 : ∀ (A1050 : Option Addr) (cA1050 : Nat), a1053.eval (.tmp 25) = .slice A1050 x1049.length cA1050 → a1053.eval (.tmp 1) = .slice A1050 x1049.length cA1050), ⟨⟨A1052, cA1052⟩, (f_30 : a1053.eval (.tmp 30) = .slice A1052 x1051.length cA1052), (b_A1052 : RdO own1053 [0] w1053 R3 A1052 cA1052 x1051)⟩, (q_2 : ∀ (A1052 : Option Addr) (cA1052 : Nat), a1053.eval (.tmp 30) = .slice A1052 x1051.length cA1052 → a1053.eval (.tmp 2) = .slice A1052 x1051.length cA1052), -⟩ := hf1053 [4, 15, 9, 16, 14, 17] rfl
  have f_0 := q_0 _ _ f_20
  have f_1 := q_1 _ _ f_25
  have f_2 := q_2 _ _ f_30
  have e1053_0 := f_0
  have e1053_1 := f_1
  have e1053_2 := f_2
  have hX1053 := Evo.step hX1046 (fun _ => Nat.le_refl 0) hE1053 rfl
  have b1053_A1048 := b_A1048
  have b1053_A1050 := b_A1050
  have b1053_A1052 := b_A1052
  refine rg_plain_seq (n := 173) (rs := []) (own0 := own1053) (K := [])
      (bs := [0])
      (ds := [⟨[], [], [], Fct.val 7 (.slice none 0 0)⟩]) (by kernel_rfl) hz1053 hd1053 (fun _ h => nomatch h) ?_ ?_
  · refine steps_cons (fun own a wx hf hsl hE => ?_) ?_
    · exact sg_plain rfl rfl (or_assign rfl)
    exact steps_nil
  intro own1054 a1054 w1054 hd1054 hz1054 hk1054 hf1054 hE1054
  have e1054_0 : a1054.eval (.tmp 0) = .slice A1048 x1047.length cA1048 := (hk1054 0 rfl).trans e1053_0
  have e1054_1 : a1054.eval (.tmp 1) = .slice A1050 x1049.length cA1050 := (hk1054 1 rfl).trans e1053_1
  have e1054_2 : a1054.eval (.tmp 2) = .slice A1052 x1051.length cA1052 := (hk1054 2 rfl).trans e1053_2
  obtain ⟨(f_7 : a1054.eval (.tmp 7) = .slice none 0 0), -⟩ := hf1054 [0] rfl
  have e1054_7 := f_7
  have hX1054 := Evo.step hX1053 (fun _ => Nat.le_refl 0) hE1054 rfl
  have b1054_A1048 := RdO.evo rfl hE1054 b1053_A1048
  have b1054_A1050 := RdO.evo rfl hE1054 b1053_A1050
  have b1054_A1052 := RdO.evo rfl hE1054 b1053_A1052
  refine fl_seq (fun Q1055 hn1055 hp1055 => ?_)
  refine rg_plain_seq (n := 173) (rs := []) (own0 := own1054) (K := [])
      (bs := [0])
      (ds := [⟨[], [], [], Fct.val 8 (.int .i64 0)⟩]) (by kernel_rfl) hz1054 hd1054 (fun _ h => nomatch h) ?_ ?_
  · refine steps_cons (fun own a wx hf hsl hE => ?_) ?_
    · exact sg_plain rfl rfl (or_assign rfl)
    exact steps_nil
  intro own1056 a1056 w1056 hd1056 hz1056 hk1056 hf1056 hE1056
  have e1056_0 : a1056.eval (.tmp 0) = .slice A1048 x1047.length cA1048 := (hk1056 0 rfl).trans e1054_0
  have e1056_1 : a1056.eval (.tmp 1) = .slice A1050 x1049.length cA1050 := (hk1056 1 rfl).trans e1054_1
  have e1056_2 : a1056.eval (.tmp 2) = .slice A1052 x1051.length cA1052 := (hk1056 2 rfl).trans e1054_2
  have e1056_7 : a1056.eval (.tmp 7) = .slice none 0 0 := (hk1056 7 rfl).trans e1054_7
  obtain ⟨(f_8 : a1056.eval (.tmp 8) = .int .i64 0), -⟩ := hf1056 [0] rfl
  have e1056_8 := f_8
  have hX1056 := Evo.step hX1054 (fun _ => Nat.le_refl 0) hE1056 rfl
  have b1056_A1048 := RdO.evo rfl hE1056 b1054_A1048
  have b1056_A1050 := RdO.evo rfl hE1056 b1054_A1050
  have b1056_A1052 := RdO.evo rfl hE1056 b1054_A1052
  refine fl_block (fun Q1057 hn1057 hx1057 hp1057 => ?_)
  refine fl_loop (body := (fun s => law04_OrderStays_b1 x1047 x1049 x1051 s.1 s.2)) (z := r) (show loopO _ _ = _ from hs) (fun (s : (List (Int × Int)) × Int) a wx => match s with | (turned1075, i1077) => ∃ (ox : Own) (A1073 : Option Addr) (c1074 : Nat), a.defers = [] ∧ a.tmps.size = 173 ∧ a.eval (.tmp 0) = .slice A1048 x1047.length cA1048 ∧ a.eval (.tmp 1) = .slice A1050 x1049.length cA1050 ∧ a.eval (.tmp 2) = .slice A1052 x1051.length cA1052 ∧ a.eval (.tmp 7) = .slice A1073 turned1075.length c1074 ∧ a.eval (.tmp 8) = .int .i64 i1077 ∧ Evo [] (fun _ => 0) ox w wx ∧ RdO ox [0] wx R48 A1048 cA1048 x1047 ∧ RdO ox [0] wx R3 A1050 cA1050 x1049 ∧ RdO ox [0] wx R3 A1052 cA1052 x1051 ∧ RwO ox 1076 [] wx 48 R48 A1073 c1074 turned1075) ?_ ?_
  · exact ⟨own1056, none, 0, hd1056, hz1056, e1056_0, e1056_1, e1056_2, e1056_7, e1056_8, hX1056, b1056_A1048, b1056_A1050, b1056_A1052, RwO.nil_⟩
  · rintro ⟨turned1075, i1077⟩ zz1095 a1095 w1095 ⟨own1095, A1073, c1074, hd1096, hz1096, e1096_0, e1096_1, e1096_2, e1096_7, e1096_8, hE1096, b1096_A1048, b1096_A1050, b1096_A1052, b1096_A1073⟩ hs Q1095 hn1095 hp1095 hz1095
    have hs : law04_OrderStays_b1 x1047 x1049 x1051 turned1075 i1077 = some zz1095 := hs
    refine fl_seq (fun Q1097 hn1097 hp1097 => ?_)
    refine rg_plain_seq (n := 173) (rs := []) (own0 := own1095) (K := [])
        (bs := [0, 0, 2, 7])
        (ds := [⟨[], [8], [], Fct.val 31 (.int .i64 i1077)⟩,
        ⟨[], [0], [], Fct.val 32 (.slice A1048 x1047.length cA1048)⟩,
        ⟨[1], [], [], Fct.val 33 (.int .i64 (x1047.length : Int))⟩,
        ⟨[0, 2], [], [], Fct.val 34 (.bool (decide (i1077 < (x1047.length : Int))))⟩]) (by kernel_rfl) hz1096 hd1096 (fun _ h => nomatch h) ?_ ?_
    · refine steps_cons (fun own a wx hf hsl hE => ?_) ?_
      · obtain ⟨s_8, -⟩ := hsl
        exact sg_plain rfl rfl (or_move (s_8.trans e1096_8))
      refine steps_cons (fun own a wx hf hsl hE => ?_) ?_
      · obtain ⟨s_0, -⟩ := hsl
        exact sg_plain rfl rfl (or_move (s_0.trans e1096_0))
      refine steps_cons (fun own a wx hf hsl hE => ?_) ?_
      · obtain ⟨(f_32 : a.eval (.tmp 32) = .slice A1048 x1047.length cA1048), -⟩ := hf
        exact sg_plain rfl rfl (or_len tu34 f_32 rfl)
      refine steps_cons (fun own a wx hf hsl hE => ?_) ?_
      · obtain ⟨(f_31 : a.eval (.tmp 31) = .int .i64 i1077), (f_33 : a.eval (.tmp 33) = .int .i64 (x1047.length : Int)), -⟩ := hf
        exact sg_plain rfl rfl (or_lss f_31 f_33 rfl)
      exact steps_nil
    intro own1098 a1098 w1098 hd1098 hz1098 hk1098 hf1098 hE1098
    have e1098_0 : a1098.eval (.tmp 0) = .slice A1048 x1047.length cA1048 := (hk1098 0 rfl).trans e1096_0
    have e1098_1 : a1098.eval (.tmp 1) = .slice A1050 x1049.length cA1050 := (hk1098 1 rfl).trans e1096_1
    have e1098_2 : a1098.eval (.tmp 2) = .slice A1052 x1051.length cA1052 := (hk1098 2 rfl).trans e1096_2
    have e1098_7 : a1098.eval (.tmp 7) = .slice A1073 turned1075.length c1074 := (hk1098 7 rfl).trans e1096_7
    have e1098_8 : a1098.eval (.tmp 8) = .int .i64 i1077 := (hk1098 8 rfl).trans e1096_8
    obtain ⟨(f_34 : a1098.eval (.tmp 34) = .bool (decide (i1077 < (x1047.length : Int)))), -⟩ := hf1098 [3] rfl
    have e1098_34 := f_34
    have hX1098 := Evo.step hE1096 (fun _ => Nat.le_refl 0) hE1098 rfl
    have b1098_A1048 := RdO.evo rfl hE1098 b1096_A1048
    have b1098_A1050 := RdO.evo rfl hE1098 b1096_A1050
    have b1098_A1052 := RdO.evo rfl hE1098 b1096_A1052
    have b1098_A1073 := RwO.evo rfl hE1098 b1096_A1073
    refine fl_cond e1098_34 hs (fun c1099 hs => ?_) (fun c1099 hs => ?_)
    · refine fl_skip ?_
      refine hn1097 _ _ ?_
      refine fl_seq (fun Q1100 hn1100 hp1100 => ?_)
      refine fl_block (fun Q1101 hn1101 hx1101 hp1101 => ?_)
      obtain ⟨x1105, hx1105, hs⟩ := obind hs
      obtain ⟨x1108, hx1108, hs⟩ := obind hs
      refine rg_plain (n := 173) (rs := [Fct.rowAt 1076 [] 48 R48 A1073 c1074 turned1075]) (own0 := own1098) (K := [1076])
          (bs := [0, 0, 0, 4, 12, 0, 60, 126, 254, 510, 1023, 2047])
          (ds := [⟨[], [7], [], Fct.val 37 (.slice A1073 turned1075.length c1074)⟩,
          ⟨[], [0], [], Fct.val 38 (.slice A1048 x1047.length cA1048)⟩,
          ⟨[], [0], [], Fct.val 39 (.slice A1048 x1047.length cA1048)⟩,
          ⟨[2], [], [], Fct.val 40 (.int .i64 (x1047.length : Int))⟩,
          ⟨[3], [], [], Fct.val 41 (.int .i64 (sb (x1047.length : Int) 1))⟩,
          ⟨[], [8], [], Fct.val 42 (.int .i64 i1077)⟩,
          ⟨[4, 5], [], [], Fct.val 43 (.int .i64 (sb (sb (x1047.length : Int) 1) i1077))⟩,
          ⟨[1, 6], [], [], Fct.val 44 (.pointer (some ((adr A1048).add ((sb (sb (x1047.length : Int) 1) i1077 : Int).toNat * R48.s))))⟩,
          ⟨[7], [], [], Fct.val 45 (.agg #[.int .i64 x1105.1, .int .i64 x1105.2])⟩,
          ⟨[8], [], [], Fct.row 1107 [] 46 48 R48 [x1105]⟩,
          ⟨[0, 9, 12], [], [1076], Fct.row 1109 [] 47 48 R48 x1108⟩,
          ⟨[10], [], [], Fct.rel [7, 47] (fun l => ∀ (A1110 : Option Addr) (cA1110 : Nat), l.getD 1 undef = .slice A1110 x1108.length cA1110 → l.getD 0 undef = .slice A1110 x1108.length cA1110)⟩]) (by kernel_rfl) hz1098 hd1098 (by simp only [List.forall_mem_cons]; exact ⟨b1098_A1073, fun _ h => nomatch h⟩) ?_ ?_
      · refine steps_cons (fun own a wx hf hsl hE => ?_) ?_
        · obtain ⟨s_7, -⟩ := hsl
          exact sg_plain rfl rfl (or_move (s_7.trans e1098_7))
        refine steps_cons (fun own a wx hf hsl hE => ?_) ?_
        · obtain ⟨s_0, -⟩ := hsl
          exact sg_plain rfl rfl (or_move (s_0.trans e1098_0))
        refine steps_cons (fun own a wx hf hsl hE => ?_) ?_
        · obtain ⟨s_0, -⟩ := hsl
          exact sg_plain rfl rfl (or_move (s_0.trans e1098_0))
        refine steps_cons (fun own a wx hf hsl hE => ?_) ?_
        · obtain ⟨(f_39 : a.eval (.tmp 39) = .slice A1048 x1047.length cA1048), -⟩ := hf
          exact sg_plain rfl rfl (or_len tu34 f_39 rfl)
        refine steps_cons (fun own a wx hf hsl hE => ?_) ?_
        · obtain ⟨(f_40 : a.eval (.tmp 40) = .int .i64 (x1047.length : Int)), -⟩ := hf
          exact sg_plain rfl rfl (or_sub f_40 rfl rfl)
        refine steps_cons (fun own a wx hf hsl hE => ?_) ?_
        · obtain ⟨s_8, -⟩ := hsl
          exact sg_plain rfl rfl (or_move (s_8.trans e1098_8))
        refine steps_cons (fun own a wx hf hsl hE => ?_) ?_
        · obtain ⟨(f_41 : a.eval (.tmp 41) = .int .i64 (sb (x1047.length : Int) 1)), (f_42 : a.eval (.tmp 42) = .int .i64 i1077), -⟩ := hf
          exact sg_plain rfl rfl (or_sub f_41 f_42 rfl)
        refine steps_cons (fun own a wx hf hsl hE => ?_) ?_
        · obtain ⟨(f_38 : a.eval (.tmp 38) = .slice A1048 x1047.length cA1048), (f_43 : a.eval (.tmp 43) = .int .i64 (sb (sb (x1047.length : Int) 1) i1077)), -⟩ := hf
          exact sg_plain rfl rfl (or_index (R := R48) (l := x1047) tl34 f_38 f_43 (RdO.some_ b1098_A1048 hx1105) hx1105)
        refine steps_cons (fun own a wx hf hsl hE => ?_) ?_
        · obtain ⟨(f_44 : a.eval (.tmp 44) = .pointer (some ((adr A1048).add ((sb (sb (x1047.length : Int) 1) i1077 : Int).toNat * R48.s)))), -⟩ := hf
          exact sg_plain rfl rfl (or_load (l := E48.f x1105) ta48 f_44 (RdO.cells (F := E48) (RdO.evo rfl hE b1098_A1048) hx1105) rfl)
        refine steps_cons (fun own a wx hf hsl hE => ?_) ?_
        · obtain ⟨(f_45 : a.eval (.tmp 45) = .agg #[.int .i64 x1105.1, .int .i64 x1105.2]), -⟩ := hf
          exact sg_plain rfl rfl (or_lit (lab := 1107) (e := 48) (cs := #[.int .i64 x1105.1, .int .i64 x1105.2]) (F := E48) (or_new [(45, .agg #[.int .i64 x1105.1, .int .i64 x1105.2])] rfl rfl ⟨f_45, trivial⟩ (by kernel_rfl)) rfl rfl (show 1 ≤ maxLen by decide))
        refine steps_cons (fun own a wx hf hsl hE => ?_) ?_
        · obtain ⟨(f_37 : a.eval (.tmp 37) = .slice A1073 turned1075.length c1074), ⟨⟨A1106, cA1106⟩, (f_46 : a.eval (.tmp 46) = .slice A1106 [x1105].length cA1106), (b_A1106 : RwO own 1107 [] wx 48 R48 A1106 cA1106 [x1105])⟩, (b_A1073 : RwO own 1076 [] wx 48 R48 A1073 c1074 turned1075), -⟩ := hf
          exact sg_plain rfl rfl (or_append (R := R48) (lab := 1076) (lab2 := 1109) (L := []) (L3 := []) tp34 f_37 b_A1073 (by decide) f_46 (RwO.rd b_A1106) hx1108 (by decide) (by decide) (mem_of rfl) (.inl (Rep.fl_flat _)))
        refine steps_cons (fun own a wx hf hsl hE => ?_) ?_
        · obtain ⟨⟨⟨A1110, cA1110⟩, (f_47 : a.eval (.tmp 47) = .slice A1110 x1108.length cA1110), (b_A1110 : RwO own 1109 [] wx 48 R48 A1110 cA1110 x1108)⟩, -⟩ := hf
          exact sg_plain rfl rfl (or_mono (f := Fct.val 7 (.slice A1110 x1108.length cA1110)) (or_assign f_47) (fun own' a' w' v' hp h => fun _ _ h0' => by cases (f_47.symm.trans ((hp.2 47 (by decide)).symm.trans h0')); exact h))
        exact steps_nil
      intro own1111 a1111 w1111 hd1111 hz1111 hk1111 hf1111 hE1111
      have e1111_0 : a1111.eval (.tmp 0) = .slice A1048 x1047.length cA1048 := (hk1111 0 rfl).trans e1098_0
      have e1111_1 : a1111.eval (.tmp 1) = .slice A1050 x1049.length cA1050 := (hk1111 1 rfl).trans e1098_1
      have e1111_2 : a1111.eval (.tmp 2) = .slice A1052 x1051.length cA1052 := (hk1111 2 rfl).trans e1098_2
      have e1111_8 : a1111.eval (.tmp 8) = .int .i64 i1077 := (hk1111 8 rfl).trans e1098_8
      obtain ⟨⟨⟨A1110, cA1110⟩, (f_47 : a1111.eval (.tmp 47) = .slice A1110 x1108.length cA1110), (b_A1110 : RwO own1111 1109 [] w1111 48 R48 A1110 cA1110 x1108)⟩, (q_7 : ∀ (A1110 : Option Addr) (cA1110 : Nat), a1111.eval (.tmp 47) = .slice A1110 x1108.length cA1110 → a1111.eval (.tmp 7) = .slice A1110 x1108.length cA1110), -⟩ := hf1111 [10, 11] rfl
      have f_7 := q_7 _ _ f_47
      have e1111_7 := f_7
      have hX1111 := Evo.step hX1098 (fun _ => Nat.le_refl 0) hE1111 rfl
      have b1111_A1048 := RdO.evo rfl hE1111 b1098_A1048
      have b1111_A1050 := RdO.evo rfl hE1111 b1098_A1050
      have b1111_A1052 := RdO.evo rfl hE1111 b1098_A1052
      have b1111_A1110 := b_A1110
      refine hn1101 _ _ ?_
      refine hn1100 _ _ ?_
      refine rg_plain (n := 173) (rs := []) (own0 := own1111) (K := [])
          (bs := [0, 1, 3])
          (ds := [⟨[], [8], [], Fct.val 35 (.int .i64 i1077)⟩,
          ⟨[0], [], [], Fct.val 36 (.int .i64 (ad i1077 1))⟩,
          ⟨[1], [], [], Fct.val 8 (.int .i64 (ad i1077 1))⟩]) (by kernel_rfl) hz1111 hd1111 (fun _ h => nomatch h) ?_ ?_
      · refine steps_cons (fun own a wx hf hsl hE => ?_) ?_
        · obtain ⟨s_8, -⟩ := hsl
          exact sg_plain rfl rfl (or_move (s_8.trans e1111_8))
        refine steps_cons (fun own a wx hf hsl hE => ?_) ?_
        · obtain ⟨(f_35 : a.eval (.tmp 35) = .int .i64 i1077), -⟩ := hf
          exact sg_plain rfl rfl (or_add f_35 rfl rfl)
        refine steps_cons (fun own a wx hf hsl hE => ?_) ?_
        · obtain ⟨(f_36 : a.eval (.tmp 36) = .int .i64 (ad i1077 1)), -⟩ := hf
          exact sg_plain rfl rfl (or_assign f_36)
        exact steps_nil
      intro own1112 a1112 w1112 hd1112 hz1112 hk1112 hf1112 hE1112
      have e1112_0 : a1112.eval (.tmp 0) = .slice A1048 x1047.length cA1048 := (hk1112 0 rfl).trans e1111_0
      have e1112_1 : a1112.eval (.tmp 1) = .slice A1050 x1049.length cA1050 := (hk1112 1 rfl).trans e1111_1
      have e1112_2 : a1112.eval (.tmp 2) = .slice A1052 x1051.length cA1052 := (hk1112 2 rfl).trans e1111_2
      have e1112_7 : a1112.eval (.tmp 7) = .slice A1110 x1108.length cA1110 := (hk1112 7 rfl).trans e1111_7
      obtain ⟨(f_8 : a1112.eval (.tmp 8) = .int .i64 (ad i1077 1)), -⟩ := hf1112 [2] rfl
      have e1112_8 := f_8
      have hX1112 := Evo.step hX1111 (fun _ => Nat.le_refl 0) hE1112 rfl
      have b1112_A1048 := RdO.evo rfl hE1112 b1111_A1048
      have b1112_A1050 := RdO.evo rfl hE1112 b1111_A1050
      have b1112_A1052 := RdO.evo rfl hE1112 b1111_A1052
      have b1112_A1110 := RwO.evo rfl hE1112 b1111_A1110
      exact hn1095 _ _ _ hs ⟨(rl [(1109, 1076)] own1112), A1110, cA1110, hd1112, hz1112, e1112_0, e1112_1, e1112_2, e1112_7, e1112_8, (Evo.rl_ hX1112 (fun _ => Nat.le_refl 0) rfl), (RdO.rl_ (mm := [(1109, 1076)]) b1112_A1048), (RdO.rl_ (mm := [(1109, 1076)]) b1112_A1050), (RdO.rl_ (mm := [(1109, 1076)]) b1112_A1052), (RwO.rl_ (mm := [(1109, 1076)]) b1112_A1110)⟩
    refine fl_exit ?_
    refine hp1097 _ _ _ rfl ?_
    replace hs := hz1095 _ hs
    refine hp1095 _ _ _ rfl ?_
    refine hx1057 _ _ ?_
    refine hn1055 _ _ ?_
    obtain ⟨r1113, hr1113, hs⟩ := obind hs
    obtain ⟨r1116, hr1116, hs⟩ := obind hs
    refine rg_plain_seq (n := 173) (rs := []) (own0 := own1098) (K := [])
        (bs := [0, 1, 0, 7, 15, 31])
        (ds := [⟨[], [0], [], Fct.val 48 (.slice A1048 x1047.length cA1048)⟩,
        ⟨[0], [], [], Fct.row 1115 [] 49 48 R48 r1113⟩,
        ⟨[], [7], [], Fct.val 50 (.slice A1073 turned1075.length c1074)⟩,
        ⟨[2], [], [], Fct.row 1118 [] 51 48 R48 r1116⟩,
        ⟨[1], [], [], Fct.rel [9, 49] (fun l => ∀ (A1114 : Option Addr) (cA1114 : Nat), l.getD 1 undef = .slice A1114 r1113.length cA1114 → l.getD 0 undef = .slice A1114 r1113.length cA1114)⟩,
        ⟨[3], [], [], Fct.rel [10, 51] (fun l => ∀ (A1117 : Option Addr) (cA1117 : Nat), l.getD 1 undef = .slice A1117 r1116.length cA1117 → l.getD 0 undef = .slice A1117 r1116.length cA1117)⟩]) (by kernel_rfl) hz1098 hd1098 (fun _ h => nomatch h) ?_ ?_
    · refine steps_cons (fun own a wx hf hsl hE => ?_) ?_
      · obtain ⟨s_0, -⟩ := hsl
        exact sg_plain rfl rfl (or_move (s_0.trans e1098_0))
      refine steps_cons (fun own a wx hf hsl hE => ?_) ?_
      · obtain ⟨(f_48 : a.eval (.tmp 48) = .slice A1048 x1047.length cA1048), -⟩ := hf
        exact sg_plain rfl rfl (or_call cf19 (args1 f_48) (order_Points_w _ x1047 A1048 cA1048 (RdO.zero (RdO.evo rfl hE b1098_A1048)) r1113 hr1113) (post_row (m' := (look0 [(1, 1115)])) (.inl (Rep.fl_flat _)) rfl rfl (fun _ => rfl)))
      refine steps_cons (fun own a wx hf hsl hE => ?_) ?_
      · obtain ⟨s_7, -⟩ := hsl
        exact sg_plain rfl rfl (or_move (s_7.trans e1098_7))
      refine steps_cons (fun own a wx hf hsl hE => ?_) ?_
      · obtain ⟨(f_50 : a.eval (.tmp 50) = .slice A1073 turned1075.length c1074), -⟩ := hf
        exact sg_plain rfl rfl (or_call cf19 (args1 f_50) (order_Points_w _ turned1075 A1073 c1074 (RdO.zero (RwO.rd (RwO.evo rfl hE b1098_A1073))) r1116 hr1116) (post_row (m' := (look0 [(1, 1118)])) (.inl (Rep.fl_flat _)) rfl rfl (fun _ => rfl)))
      refine steps_cons (fun own a wx hf hsl hE => ?_) ?_
      · obtain ⟨⟨⟨A1114, cA1114⟩, (f_49 : a.eval (.tmp 49) = .slice A1114 r1113.length cA1114), (b_A1114 : RwO own 1115 [] wx 48 R48 A1114 cA1114 r1113)⟩, -⟩ := hf
        exact sg_plain rfl rfl (or_mono (f := Fct.val 9 (.slice A1114 r1113.length cA1114)) (or_assign f_49) (fun own' a' w' v' hp h => fun _ _ h0' => by cases (f_49.symm.trans ((hp.2 49 (by decide)).symm.trans h0')); exact h))
      refine steps_cons (fun own a wx hf hsl hE => ?_) ?_
      · obtain ⟨⟨⟨A1117, cA1117⟩, (f_51 : a.eval (.tmp 51) = .slice A1117 r1116.length cA1117), (b_A1117 : RwO own 1118 [] wx 48 R48 A1117 cA1117 r1116)⟩, -⟩ := hf
        exact sg_plain rfl rfl (or_mono (f := Fct.val 10 (.slice A1117 r1116.length cA1117)) (or_assign f_51) (fun own' a' w' v' hp h => fun _ _ h0' => by cases (f_51.symm.trans ((hp.2 51 (by decide)).symm.trans h0')); exact h))
      exact steps_nil
    intro own1119 a1119 w1119 hd1119 hz1119 hk1119 hf1119 hE1119
    have e1119_0 : a1119.eval (.tmp 0) = .slice A1048 x1047.length cA1048 := (hk1119 0 rfl).trans e1098_0
    have e1119_1 : a1119.eval (.tmp 1) = .slice A1050 x1049.length cA1050 := (hk1119 1 rfl).trans e1098_1
    have e1119_2 : a1119.eval (.tmp 2) = .slice A1052 x1051.length cA1052 := (hk1119 2 rfl).trans e1098_2
    obtain ⟨⟨⟨A1114, cA1114⟩, (f_49 : a1119.eval (.tmp 49) = .slice A1114 r1113.length cA1114), (b_A1114 : RwO own1119 1115 [] w1119 48 R48 A1114 cA1114 r1113)⟩, (q_9 : ∀ (A1114 : Option Addr) (cA1114 : Nat), a1119.eval (.tmp 49) = .slice A1114 r1113.length cA1114 → a1119.eval (.tmp 9) = .slice A1114 r1113.length cA1114), ⟨⟨A1117, cA1117⟩, (f_51 : a1119.eval (.tmp 51) = .slice A1117 r1116.length cA1117), (b_A1117 : RwO own1119 1118 [] w1119 48 R48 A1117 cA1117 r1116)⟩, (q_10 : ∀ (A1117 : Option Addr) (cA1117 : Nat), a1119.eval (.tmp 51) = .slice A1117 r1116.length cA1117 → a1119.eval (.tmp 10) = .slice A1117 r1116.length cA1117), -⟩ := hf1119 [1, 4, 3, 5] rfl
    have f_9 := q_9 _ _ f_49
    have f_10 := q_10 _ _ f_51
    have e1119_9 := f_9
    have e1119_10 := f_10
    have hX1119 := Evo.step hX1098 (fun _ => Nat.le_refl 0) hE1119 rfl
    have b1119_A1048 := RdO.evo rfl hE1119 b1098_A1048
    have b1119_A1050 := RdO.evo rfl hE1119 b1098_A1050
    have b1119_A1052 := RdO.evo rfl hE1119 b1098_A1052
    have b1119_A1114 := b_A1114
    have b1119_A1117 := b_A1117
    refine fl_seq (fun Q1120 hn1120 hp1120 => ?_)
    obtain ⟨x1121, hx1121, hs⟩ := obind hs
    refine rg_plain_seq (n := 173) (rs := []) (own0 := own1119) (K := [])
        (bs := [0, 1, 0, 4, 15, 31, 63, 127, 63, 319, 1023, 2047])
        (ds := [⟨[], [9], [], Fct.val 52 (.slice A1114 r1113.length cA1114)⟩,
        ⟨[0], [], [], Fct.val 53 (.int .i64 (r1113.length : Int))⟩,
        ⟨[], [0], [], Fct.val 54 (.slice A1048 x1047.length cA1048)⟩,
        ⟨[2], [], [], Fct.val 55 (.int .i64 (x1047.length : Int))⟩,
        ⟨[1, 3], [], [], Fct.val 56 (.bool (!decide ((r1113.length : Int) = (x1047.length : Int))))⟩,
        ⟨[4], [], [], Fct.val 57 (.bool (!decide ((r1113.length : Int) = (x1047.length : Int))))⟩,
        ⟨[5], [10], [], Fct.cond (!(!decide ((r1113.length : Int) = (x1047.length : Int)))) (some 58) (Fct.val 58 (.slice A1117 r1116.length cA1117))⟩,
        ⟨[5, 6], [], [], Fct.cond (!(!decide ((r1113.length : Int) = (x1047.length : Int)))) (some 59) (Fct.val 59 (.int .i64 (r1116.length : Int)))⟩,
        ⟨[5], [0], [], Fct.cond (!(!decide ((r1113.length : Int) = (x1047.length : Int)))) (some 60) (Fct.val 60 (.slice A1048 x1047.length cA1048))⟩,
        ⟨[5, 8], [], [], Fct.cond (!(!decide ((r1113.length : Int) = (x1047.length : Int)))) (some 61) (Fct.val 61 (.int .i64 (x1047.length : Int)))⟩,
        ⟨[5, 7, 9], [], [], Fct.cond (!(!decide ((r1113.length : Int) = (x1047.length : Int)))) (some 62) (Fct.val 62 (.bool (!decide ((r1116.length : Int) = (x1047.length : Int)))))⟩,
        ⟨[5, 10], [], [], Fct.val 63 (.bool x1121)⟩]) (by kernel_rfl) hz1119 hd1119 (fun _ h => nomatch h) ?_ ?_
    · refine steps_cons (fun own a wx hf hsl hE => ?_) ?_
      · obtain ⟨s_9, -⟩ := hsl
        exact sg_plain rfl rfl (or_move (s_9.trans e1119_9))
      refine steps_cons (fun own a wx hf hsl hE => ?_) ?_
      · obtain ⟨(f_52 : a.eval (.tmp 52) = .slice A1114 r1113.length cA1114), -⟩ := hf
        exact sg_plain rfl rfl (or_len tu34 f_52 rfl)
      refine steps_cons (fun own a wx hf hsl hE => ?_) ?_
      · obtain ⟨s_0, -⟩ := hsl
        exact sg_plain rfl rfl (or_move (s_0.trans e1119_0))
      refine steps_cons (fun own a wx hf hsl hE => ?_) ?_
      · obtain ⟨(f_54 : a.eval (.tmp 54) = .slice A1048 x1047.length cA1048), -⟩ := hf
        exact sg_plain rfl rfl (or_len tu34 f_54 rfl)
      refine steps_cons (fun own a wx hf hsl hE => ?_) ?_
      · obtain ⟨(f_53 : a.eval (.tmp 53) = .int .i64 (r1113.length : Int)), (f_55 : a.eval (.tmp 55) = .int .i64 (x1047.length : Int)), -⟩ := hf
        exact sg_plain rfl rfl (or_neq f_53 f_55 rfl)
      refine steps_cons (fun own a wx hf hsl hE => ?_) ?_
      · obtain ⟨(f_56 : a.eval (.tmp 56) = .bool (!decide ((r1113.length : Int) = (x1047.length : Int)))), -⟩ := hf
        exact sg_plain rfl rfl (or_move f_56)
      refine steps_cons (fun own a wx hf hsl hE => ?_) ?_
      · obtain ⟨(f_57 : a.eval (.tmp 57) = .bool (!decide ((r1113.length : Int) = (x1047.length : Int)))), -⟩ := hf
        obtain ⟨s_10, -⟩ := hsl
        refine sg_f rfl rfl rfl f_57 (fun hg => ?_)
        exact or_move (s_10.trans e1119_10)
      refine steps_cons (fun own a wx hf hsl hE => ?_) ?_
      · obtain ⟨(f_57 : a.eval (.tmp 57) = .bool (!decide ((r1113.length : Int) = (x1047.length : Int)))), c_58, -⟩ := hf
        refine sg_f rfl rfl rfl f_57 (fun hg => ?_)
        have f_58 : a.eval (.tmp 58) = .slice A1117 r1116.length cA1117 := c_58.1 hg
        exact or_len tu34 f_58 rfl
      refine steps_cons (fun own a wx hf hsl hE => ?_) ?_
      · obtain ⟨(f_57 : a.eval (.tmp 57) = .bool (!decide ((r1113.length : Int) = (x1047.length : Int)))), -⟩ := hf
        obtain ⟨s_0, -⟩ := hsl
        refine sg_f rfl rfl rfl f_57 (fun hg => ?_)
        exact or_move (s_0.trans e1119_0)
      refine steps_cons (fun own a wx hf hsl hE => ?_) ?_
      · obtain ⟨(f_57 : a.eval (.tmp 57) = .bool (!decide ((r1113.length : Int) = (x1047.length : Int)))), c_60, -⟩ := hf
        refine sg_f rfl rfl rfl f_57 (fun hg => ?_)
        have f_60 : a.eval (.tmp 60) = .slice A1048 x1047.length cA1048 := c_60.1 hg
        exact or_len tu34 f_60 rfl
      refine steps_cons (fun own a wx hf hsl hE => ?_) ?_
      · obtain ⟨(f_57 : a.eval (.tmp 57) = .bool (!decide ((r1113.length : Int) = (x1047.length : Int)))), c_59, c_61, -⟩ := hf
        refine sg_f rfl rfl rfl f_57 (fun hg => ?_)
        have f_59 : a.eval (.tmp 59) = .int .i64 (r1116.length : Int) := c_59.1 hg
        have f_61 : a.eval (.tmp 61) = .int .i64 (x1047.length : Int) := c_61.1 hg
        exact or_neq f_59 f_61 rfl
      refine steps_cons (fun own a wx hf hsl hE => ?_) ?_
      · obtain ⟨(f_57 : a.eval (.tmp 57) = .bool (!decide ((r1113.length : Int) = (x1047.length : Int)))), c_62, -⟩ := hf
        exact sg_plain rfl rfl (or_or f_57 rfl (fun hx => c_62.1 hx) (osome hx1121).symm)
      exact steps_nil
    intro own1122 a1122 w1122 hd1122 hz1122 hk1122 hf1122 hE1122
    have e1122_0 : a1122.eval (.tmp 0) = .slice A1048 x1047.length cA1048 := (hk1122 0 rfl).trans e1119_0
    have e1122_1 : a1122.eval (.tmp 1) = .slice A1050 x1049.length cA1050 := (hk1122 1 rfl).trans e1119_1
    have e1122_2 : a1122.eval (.tmp 2) = .slice A1052 x1051.length cA1052 := (hk1122 2 rfl).trans e1119_2
    have e1122_9 : a1122.eval (.tmp 9) = .slice A1114 r1113.length cA1114 := (hk1122 9 rfl).trans e1119_9
    have e1122_10 : a1122.eval (.tmp 10) = .slice A1117 r1116.length cA1117 := (hk1122 10 rfl).trans e1119_10
    obtain ⟨(f_63 : a1122.eval (.tmp 63) = .bool x1121), -⟩ := hf1122 [11] rfl
    have e1122_63 := f_63
    have hX1122 := Evo.step hX1119 (fun _ => Nat.le_refl 0) hE1122 rfl
    have b1122_A1048 := RdO.evo rfl hE1122 b1119_A1048
    have b1122_A1050 := RdO.evo rfl hE1122 b1119_A1050
    have b1122_A1052 := RdO.evo rfl hE1122 b1119_A1052
    have b1122_A1114 := RwO.evo rfl hE1122 b1119_A1114
    have b1122_A1117 := RwO.evo rfl hE1122 b1119_A1117
    refine fl_cond e1122_63 hs (fun c1123 hs => ?_) (fun c1123 hs => ?_)
    · refine rg_plain_seq (n := 173) (rs := []) (own0 := own1122) (K := [])
          (bs := [0])
          (ds := [⟨[], [], [], Fct.val 6 (.bool false)⟩]) (by kernel_rfl) hz1122 hd1122 (fun _ h => nomatch h) ?_ ?_
      · refine steps_cons (fun own a wx hf hsl hE => ?_) ?_
        · exact sg_plain rfl rfl (or_assign rfl)
        exact steps_nil
      intro own1124 a1124 w1124 hd1124 hz1124 hk1124 hf1124 hE1124
      obtain ⟨(f_6 : a1124.eval (.tmp 6) = .bool false), -⟩ := hf1124 [0] rfl
      have e1124_6 := f_6
      have hX1124 := Evo.step hX1122 (fun _ => Nat.le_refl 0) hE1124 rfl
      refine fl_ret ?_
      refine hp1120 _ _ _ rfl ?_
      obtain rfl := osome hs
      exact hret _ _ _ _ (.inl rfl) hd1124 (results1_ rfl (RVal.tmp_ e1124_6)) ⟨own1124, rfl, hX1124⟩
    refine fl_skip ?_
    refine hn1120 _ _ ?_
    refine fl_seq (fun Q1125 hn1125 hp1125 => ?_)
    refine rg_plain_seq (n := 173) (rs := []) (own0 := own1122) (K := [])
        (bs := [0])
        (ds := [⟨[], [], [], Fct.val 11 (.int .i64 0)⟩]) (by kernel_rfl) hz1122 hd1122 (fun _ h => nomatch h) ?_ ?_
    · refine steps_cons (fun own a wx hf hsl hE => ?_) ?_
      · exact sg_plain rfl rfl (or_assign rfl)
      exact steps_nil
    intro own1126 a1126 w1126 hd1126 hz1126 hk1126 hf1126 hE1126
    have e1126_0 : a1126.eval (.tmp 0) = .slice A1048 x1047.length cA1048 := (hk1126 0 rfl).trans e1122_0
    have e1126_1 : a1126.eval (.tmp 1) = .slice A1050 x1049.length cA1050 := (hk1126 1 rfl).trans e1122_1
    have e1126_2 : a1126.eval (.tmp 2) = .slice A1052 x1051.length cA1052 := (hk1126 2 rfl).trans e1122_2
    have e1126_9 : a1126.eval (.tmp 9) = .slice A1114 r1113.length cA1114 := (hk1126 9 rfl).trans e1122_9
    have e1126_10 : a1126.eval (.tmp 10) = .slice A1117 r1116.length cA1117 := (hk1126 10 rfl).trans e1122_10
    obtain ⟨(f_11 : a1126.eval (.tmp 11) = .int .i64 0), -⟩ := hf1126 [0] rfl
    have e1126_11 := f_11
    have hX1126 := Evo.step hX1122 (fun _ => Nat.le_refl 0) hE1126 rfl
    have b1126_A1048 := RdO.evo rfl hE1126 b1122_A1048
    have b1126_A1050 := RdO.evo rfl hE1126 b1122_A1050
    have b1126_A1052 := RdO.evo rfl hE1126 b1122_A1052
    have b1126_A1114 := RwO.evo rfl hE1126 b1122_A1114
    have b1126_A1117 := RwO.evo rfl hE1126 b1122_A1117
    refine fl_block (fun Q1127 hn1127 hx1127 hp1127 => ?_)
    refine fl_loop (body := (fun s => law04_OrderStays_b2 x1047 x1049 x1051 r1113 r1116 s)) (z := r) (show loopO _ _ = _ from hs) (fun (i1437 : Int) a wx => ∃ (ox : Own), a.defers = [] ∧ a.tmps.size = 173 ∧ a.eval (.tmp 0) = .slice A1048 x1047.length cA1048 ∧ a.eval (.tmp 1) = .slice A1050 x1049.length cA1050 ∧ a.eval (.tmp 2) = .slice A1052 x1051.length cA1052 ∧ a.eval (.tmp 9) = .slice A1114 r1113.length cA1114 ∧ a.eval (.tmp 10) = .slice A1117 r1116.length cA1117 ∧ a.eval (.tmp 11) = .int .i64 i1437 ∧ Evo [] (fun _ => 0) ox w wx ∧ RdO ox [0] wx R48 A1048 cA1048 x1047 ∧ RdO ox [0] wx R3 A1050 cA1050 x1049 ∧ RdO ox [0] wx R3 A1052 cA1052 x1051 ∧ RwO ox 1115 [] wx 48 R48 A1114 cA1114 r1113 ∧ RwO ox 1118 [] wx 48 R48 A1117 cA1117 r1116) ?_ ?_
    · exact ⟨own1126, hd1126, hz1126, e1126_0, e1126_1, e1126_2, e1126_9, e1126_10, e1126_11, hX1126, b1126_A1048, b1126_A1050, b1126_A1052, b1126_A1114, b1126_A1117⟩
    · rintro i1437 zz1747 a1747 w1747 ⟨own1747, hd1748, hz1748, e1748_0, e1748_1, e1748_2, e1748_9, e1748_10, e1748_11, hE1748, b1748_A1048, b1748_A1050, b1748_A1052, b1748_A1114, b1748_A1117⟩ hs Q1747 hn1747 hp1747 hz1747
      have hs : law04_OrderStays_b2 x1047 x1049 x1051 r1113 r1116 i1437 = some zz1747 := hs
      refine fl_seq (fun Q1749 hn1749 hp1749 => ?_)
      refine rg_plain_seq (n := 173) (rs := []) (own0 := own1747) (K := [])
          (bs := [0, 0, 2, 7])
          (ds := [⟨[], [11], [], Fct.val 64 (.int .i64 i1437)⟩,
          ⟨[], [9], [], Fct.val 65 (.slice A1114 r1113.length cA1114)⟩,
          ⟨[1], [], [], Fct.val 66 (.int .i64 (r1113.length : Int))⟩,
          ⟨[0, 2], [], [], Fct.val 67 (.bool (decide (i1437 < (r1113.length : Int))))⟩]) (by kernel_rfl) hz1748 hd1748 (fun _ h => nomatch h) ?_ ?_
      · refine steps_cons (fun own a wx hf hsl hE => ?_) ?_
        · obtain ⟨s_11, -⟩ := hsl
          exact sg_plain rfl rfl (or_move (s_11.trans e1748_11))
        refine steps_cons (fun own a wx hf hsl hE => ?_) ?_
        · obtain ⟨s_9, -⟩ := hsl
          exact sg_plain rfl rfl (or_move (s_9.trans e1748_9))
        refine steps_cons (fun own a wx hf hsl hE => ?_) ?_
        · obtain ⟨(f_65 : a.eval (.tmp 65) = .slice A1114 r1113.length cA1114), -⟩ := hf
          exact sg_plain rfl rfl (or_len tu34 f_65 rfl)
        refine steps_cons (fun own a wx hf hsl hE => ?_) ?_
        · obtain ⟨(f_64 : a.eval (.tmp 64) = .int .i64 i1437), (f_66 : a.eval (.tmp 66) = .int .i64 (r1113.length : Int)), -⟩ := hf
          exact sg_plain rfl rfl (or_lss f_64 f_66 rfl)
        exact steps_nil
      intro own1750 a1750 w1750 hd1750 hz1750 hk1750 hf1750 hE1750
      have e1750_0 : a1750.eval (.tmp 0) = .slice A1048 x1047.length cA1048 := (hk1750 0 rfl).trans e1748_0
      have e1750_1 : a1750.eval (.tmp 1) = .slice A1050 x1049.length cA1050 := (hk1750 1 rfl).trans e1748_1
      have e1750_2 : a1750.eval (.tmp 2) = .slice A1052 x1051.length cA1052 := (hk1750 2 rfl).trans e1748_2
      have e1750_9 : a1750.eval (.tmp 9) = .slice A1114 r1113.length cA1114 := (hk1750 9 rfl).trans e1748_9
      have e1750_10 : a1750.eval (.tmp 10) = .slice A1117 r1116.length cA1117 := (hk1750 10 rfl).trans e1748_10
      have e1750_11 : a1750.eval (.tmp 11) = .int .i64 i1437 := (hk1750 11 rfl).trans e1748_11
      obtain ⟨(f_67 : a1750.eval (.tmp 67) = .bool (decide (i1437 < (r1113.length : Int)))), -⟩ := hf1750 [3] rfl
      have e1750_67 := f_67
      have hX1750 := Evo.step hE1748 (fun _ => Nat.le_refl 0) hE1750 rfl
      have b1750_A1048 := RdO.evo rfl hE1750 b1748_A1048
      have b1750_A1050 := RdO.evo rfl hE1750 b1748_A1050
      have b1750_A1052 := RdO.evo rfl hE1750 b1748_A1052
      have b1750_A1114 := RwO.evo rfl hE1750 b1748_A1114
      have b1750_A1117 := RwO.evo rfl hE1750 b1748_A1117
      refine fl_cond e1750_67 hs (fun c1751 hs => ?_) (fun c1751 hs => ?_)
      · refine fl_skip ?_
        refine hn1749 _ _ ?_
        refine fl_seq (fun Q1752 hn1752 hp1752 => ?_)
        refine fl_block (fun Q1753 hn1753 hx1753 hp1753 => ?_)
        refine fl_seq (fun Q1754 hn1754 hp1754 => ?_)
        obtain ⟨x1755, hx1755, hs⟩ := obind hs
        obtain ⟨x1756, hx1756, hs⟩ := obind hs
        obtain ⟨x1757, hx1757, hs⟩ := obind hs
        obtain ⟨x1758, hx1758, hs⟩ := obind hs
        obtain ⟨x1759, hx1759, hs⟩ := obind hs
        obtain ⟨x1760, hx1760, hs⟩ := obind hs
        obtain ⟨x1761, hx1761, hs⟩ := obind hs
        obtain ⟨x1762, hx1762, hs⟩ := obind hs
        obtain ⟨x1763, hx1763, hs⟩ := obind hs
        obtain ⟨x1764, hx1764, hs⟩ := obind hs
        obtain ⟨x1765, hx1765, hs⟩ := obind hs
        refine rg_draw_seq g_mixed (n := 173) (rs := []) (own0 := own1750) (K := [])
            (bs := [0, 0, 3, 7, 0, 0, 48, 112, 255, 511, 1023, 2047, 4095, 8191, 8191, 32767, 65535, 131071, 8191, 8191, 532479, 1843199, 3940351, 8134655, 16777215, 33554431, 67108863, 67108863, 268435455, 536870911, 1073741823, 67108863, 67108863, 4362076159, 15099494399, 32279363583, 66639101951, 137438953471, 274877906943, 549755813887, 549755813887, 2199023255551, 4398046511103, 8796093022207, 549755813887, 549755813887, 35734127902719, 123695058124799, 264432546480127, 545907523190783, 1125899906842623, 2251799813685247, 4503599627370495, 9007199254740991, 18014398509481983])
            (ds := [⟨[], [9], [], Fct.val 70 (.slice A1114 r1113.length cA1114)⟩,
            ⟨[], [11], [], Fct.val 71 (.int .i64 i1437)⟩,
            ⟨[0, 1], [], [], Fct.val 72 (.pointer (some ((adr A1114).add ((i1437 : Int).toNat * R48.s))))⟩,
            ⟨[2], [], [], Fct.val 73 (.agg #[.int .i64 x1755.1, .int .i64 x1755.2])⟩,
            ⟨[], [10], [], Fct.val 74 (.slice A1117 r1116.length cA1117)⟩,
            ⟨[], [11], [], Fct.val 75 (.int .i64 i1437)⟩,
            ⟨[4, 5], [], [], Fct.val 76 (.pointer (some ((adr A1117).add ((i1437 : Int).toNat * R48.s))))⟩,
            ⟨[6], [], [], Fct.val 77 (.agg #[.int .i64 x1756.1, .int .i64 x1756.2])⟩,
            ⟨[3, 7], [], [], Fct.val 78 (.bool (!decide (x1755 = x1756)))⟩,
            ⟨[8], [], [], Fct.val 79 (.bool (!decide (x1755 = x1756)))⟩,
            ⟨[9], [11], [], Fct.cond (!(!decide (x1755 = x1756))) (some 80) (Fct.val 80 (.int .i64 i1437))⟩,
            ⟨[9, 10], [], [], Fct.cond (!(!decide (x1755 = x1756))) (some 81) (Fct.val 81 (.bool (decide (0 < i1437))))⟩,
            ⟨[9, 11], [], [], Fct.cond (!(!decide (x1755 = x1756))) (some 82) (Fct.val 82 (.bool (decide (0 < i1437))))⟩,
            ⟨[12], [9], [], Fct.cond ((!(!decide (x1755 = x1756))) && (decide (0 < i1437))) (some 83) (Fct.val 83 (.slice A1114 r1113.length cA1114))⟩,
            ⟨[12], [11], [], Fct.cond ((!(!decide (x1755 = x1756))) && (decide (0 < i1437))) (some 84) (Fct.val 84 (.int .i64 i1437))⟩,
            ⟨[12, 13, 14], [], [], Fct.cond ((!(!decide (x1755 = x1756))) && (decide (0 < i1437))) (some 85) (Fct.val 85 (.pointer (some ((adr A1114).add ((i1437 : Int).toNat * R48.s)))))⟩,
            ⟨[12, 15], [], [], Fct.cond ((!(!decide (x1755 = x1756))) && (decide (0 < i1437))) (some 86) (Fct.val 86 (.pointer (some ((adr A1114).add ((i1437 : Int).toNat * R48.s)))))⟩,
            ⟨[12, 16], [], [], Fct.cond ((!(!decide (x1755 = x1756))) && (decide (0 < i1437))) (some 87) (Fct.val 87 (.int .i64 x1757.1))⟩,
            ⟨[12], [9], [], Fct.cond ((!(!decide (x1755 = x1756))) && (decide (0 < i1437))) (some 88) (Fct.val 88 (.slice A1114 r1113.length cA1114))⟩,
            ⟨[12], [11], [], Fct.cond ((!(!decide (x1755 = x1756))) && (decide (0 < i1437))) (some 89) (Fct.val 89 (.int .i64 i1437))⟩,
            ⟨[12, 19], [], [], Fct.cond ((!(!decide (x1755 = x1756))) && (decide (0 < i1437))) (some 90) (Fct.val 90 (.int .i64 (sb i1437 1)))⟩,
            ⟨[12, 18, 20], [], [], Fct.cond ((!(!decide (x1755 = x1756))) && (decide (0 < i1437))) (some 91) (Fct.val 91 (.pointer (some ((adr A1114).add ((sb i1437 1 : Int).toNat * R48.s)))))⟩,
            ⟨[12, 21], [], [], Fct.cond ((!(!decide (x1755 = x1756))) && (decide (0 < i1437))) (some 92) (Fct.val 92 (.pointer (some ((adr A1114).add ((sb i1437 1 : Int).toNat * R48.s)))))⟩,
            ⟨[12, 22], [], [], Fct.cond ((!(!decide (x1755 = x1756))) && (decide (0 < i1437))) (some 93) (Fct.val 93 (.int .i64 x1758.1))⟩,
            ⟨[12, 17, 23], [], [], Fct.cond ((!(!decide (x1755 = x1756))) && (decide (0 < i1437))) (some 94) (Fct.val 94 (.bool (decide (x1757.1 < x1758.1))))⟩,
            ⟨[12, 24], [], [], Fct.cond ((!(!decide (x1755 = x1756))) && (decide (0 < i1437))) (some 95) (Fct.val 95 (.bool (decide (x1757.1 < x1758.1))))⟩,
            ⟨[25], [9], [], Fct.cond (((!(!decide (x1755 = x1756))) && (decide (0 < i1437))) && (!(decide (x1757.1 < x1758.1)))) (some 96) (Fct.val 96 (.slice A1114 r1113.length cA1114))⟩,
            ⟨[25], [11], [], Fct.cond (((!(!decide (x1755 = x1756))) && (decide (0 < i1437))) && (!(decide (x1757.1 < x1758.1)))) (some 97) (Fct.val 97 (.int .i64 i1437))⟩,
            ⟨[25, 26, 27], [], [], Fct.cond (((!(!decide (x1755 = x1756))) && (decide (0 < i1437))) && (!(decide (x1757.1 < x1758.1)))) (some 98) (Fct.val 98 (.pointer (some ((adr A1114).add ((i1437 : Int).toNat * R48.s)))))⟩,
            ⟨[25, 28], [], [], Fct.cond (((!(!decide (x1755 = x1756))) && (decide (0 < i1437))) && (!(decide (x1757.1 < x1758.1)))) (some 99) (Fct.val 99 (.pointer (some ((adr A1114).add ((i1437 : Int).toNat * R48.s)))))⟩,
            ⟨[25, 29], [], [], Fct.cond (((!(!decide (x1755 = x1756))) && (decide (0 < i1437))) && (!(decide (x1757.1 < x1758.1)))) (some 100) (Fct.val 100 (.int .i64 x1759.1))⟩,
            ⟨[25], [9], [], Fct.cond (((!(!decide (x1755 = x1756))) && (decide (0 < i1437))) && (!(decide (x1757.1 < x1758.1)))) (some 101) (Fct.val 101 (.slice A1114 r1113.length cA1114))⟩,
            ⟨[25], [11], [], Fct.cond (((!(!decide (x1755 = x1756))) && (decide (0 < i1437))) && (!(decide (x1757.1 < x1758.1)))) (some 102) (Fct.val 102 (.int .i64 i1437))⟩,
            ⟨[25, 32], [], [], Fct.cond (((!(!decide (x1755 = x1756))) && (decide (0 < i1437))) && (!(decide (x1757.1 < x1758.1)))) (some 103) (Fct.val 103 (.int .i64 (sb i1437 1)))⟩,
            ⟨[25, 31, 33], [], [], Fct.cond (((!(!decide (x1755 = x1756))) && (decide (0 < i1437))) && (!(decide (x1757.1 < x1758.1)))) (some 104) (Fct.val 104 (.pointer (some ((adr A1114).add ((sb i1437 1 : Int).toNat * R48.s)))))⟩,
            ⟨[25, 34], [], [], Fct.cond (((!(!decide (x1755 = x1756))) && (decide (0 < i1437))) && (!(decide (x1757.1 < x1758.1)))) (some 105) (Fct.val 105 (.pointer (some ((adr A1114).add ((sb i1437 1 : Int).toNat * R48.s)))))⟩,
            ⟨[25, 35], [], [], Fct.cond (((!(!decide (x1755 = x1756))) && (decide (0 < i1437))) && (!(decide (x1757.1 < x1758.1)))) (some 106) (Fct.val 106 (.int .i64 x1760.1))⟩,
            ⟨[25, 30, 36], [], [], Fct.cond (((!(!decide (x1755 = x1756))) && (decide (0 < i1437))) && (!(decide (x1757.1 < x1758.1)))) (some 107) (Fct.val 107 (.bool (decide (x1759.1 = x1760.1))))⟩,
            ⟨[25, 37], [], [], Fct.cond (((!(!decide (x1755 = x1756))) && (decide (0 < i1437))) && (!(decide (x1757.1 < x1758.1)))) (some 108) (Fct.val 108 (.bool (decide (x1759.1 = x1760.1))))⟩,
            ⟨[38], [9], [], Fct.cond ((((!(!decide (x1755 = x1756))) && (decide (0 < i1437))) && (!(decide (x1757.1 < x1758.1)))) && (decide (x1759.1 = x1760.1))) (some 109) (Fct.val 109 (.slice A1114 r1113.length cA1114))⟩,
            ⟨[38], [11], [], Fct.cond ((((!(!decide (x1755 = x1756))) && (decide (0 < i1437))) && (!(decide (x1757.1 < x1758.1)))) && (decide (x1759.1 = x1760.1))) (some 110) (Fct.val 110 (.int .i64 i1437))⟩,
            ⟨[38, 39, 40], [], [], Fct.cond ((((!(!decide (x1755 = x1756))) && (decide (0 < i1437))) && (!(decide (x1757.1 < x1758.1)))) && (decide (x1759.1 = x1760.1))) (some 111) (Fct.val 111 (.pointer (some ((adr A1114).add ((i1437 : Int).toNat * R48.s)))))⟩,
            ⟨[38, 41], [], [], Fct.cond ((((!(!decide (x1755 = x1756))) && (decide (0 < i1437))) && (!(decide (x1757.1 < x1758.1)))) && (decide (x1759.1 = x1760.1))) (some 112) (Fct.val 112 (.pointer (some (((adr A1114).add ((i1437 : Int).toNat * R48.s)).add 1))))⟩,
            ⟨[38, 42], [], [], Fct.cond ((((!(!decide (x1755 = x1756))) && (decide (0 < i1437))) && (!(decide (x1757.1 < x1758.1)))) && (decide (x1759.1 = x1760.1))) (some 113) (Fct.val 113 (.int .i64 x1761.2))⟩,
            ⟨[38], [9], [], Fct.cond ((((!(!decide (x1755 = x1756))) && (decide (0 < i1437))) && (!(decide (x1757.1 < x1758.1)))) && (decide (x1759.1 = x1760.1))) (some 114) (Fct.val 114 (.slice A1114 r1113.length cA1114))⟩,
            ⟨[38], [11], [], Fct.cond ((((!(!decide (x1755 = x1756))) && (decide (0 < i1437))) && (!(decide (x1757.1 < x1758.1)))) && (decide (x1759.1 = x1760.1))) (some 115) (Fct.val 115 (.int .i64 i1437))⟩,
            ⟨[38, 45], [], [], Fct.cond ((((!(!decide (x1755 = x1756))) && (decide (0 < i1437))) && (!(decide (x1757.1 < x1758.1)))) && (decide (x1759.1 = x1760.1))) (some 116) (Fct.val 116 (.int .i64 (sb i1437 1)))⟩,
            ⟨[38, 44, 46], [], [], Fct.cond ((((!(!decide (x1755 = x1756))) && (decide (0 < i1437))) && (!(decide (x1757.1 < x1758.1)))) && (decide (x1759.1 = x1760.1))) (some 117) (Fct.val 117 (.pointer (some ((adr A1114).add ((sb i1437 1 : Int).toNat * R48.s)))))⟩,
            ⟨[38, 47], [], [], Fct.cond ((((!(!decide (x1755 = x1756))) && (decide (0 < i1437))) && (!(decide (x1757.1 < x1758.1)))) && (decide (x1759.1 = x1760.1))) (some 118) (Fct.val 118 (.pointer (some (((adr A1114).add ((sb i1437 1 : Int).toNat * R48.s)).add 1))))⟩,
            ⟨[38, 48], [], [], Fct.cond ((((!(!decide (x1755 = x1756))) && (decide (0 < i1437))) && (!(decide (x1757.1 < x1758.1)))) && (decide (x1759.1 = x1760.1))) (some 119) (Fct.val 119 (.int .i64 x1762.2))⟩,
            ⟨[38, 43, 49], [], [], Fct.cond ((((!(!decide (x1755 = x1756))) && (decide (0 < i1437))) && (!(decide (x1757.1 < x1758.1)))) && (decide (x1759.1 = x1760.1))) (some 120) (Fct.val 120 (.bool (decide (x1761.2 < x1762.2))))⟩,
            ⟨[25, 38, 50], [], [], Fct.cond (((!(!decide (x1755 = x1756))) && (decide (0 < i1437))) && (!(decide (x1757.1 < x1758.1)))) (some 121) (Fct.val 121 (.bool x1763))⟩,
            ⟨[12, 25, 51], [], [], Fct.cond ((!(!decide (x1755 = x1756))) && (decide (0 < i1437))) (some 122) (Fct.val 122 (.bool x1764))⟩,
            ⟨[9, 12, 52], [], [], Fct.cond (!(!decide (x1755 = x1756))) (some 123) (Fct.val 123 (.bool ((decide (0 < i1437)) && x1764)))⟩,
            ⟨[9, 53], [], [], Fct.val 124 (.bool x1765)⟩]) (by kernel_rfl) hz1750 hd1750 (fun _ h => nomatch h) ?_ ?_
        · refine steps_cons (fun own a wx hf hsl hE => ?_) ?_
          · obtain ⟨s_9, -⟩ := hsl
            exact sg_plain rfl rfl (or_move (s_9.trans e1750_9))
          refine steps_cons (fun own a wx hf hsl hE => ?_) ?_
          · obtain ⟨s_11, -⟩ := hsl
            exact sg_plain rfl rfl (or_move (s_11.trans e1750_11))
          refine steps_cons (fun own a wx hf hsl hE => ?_) ?_
          · obtain ⟨(f_70 : a.eval (.tmp 70) = .slice A1114 r1113.length cA1114), (f_71 : a.eval (.tmp 71) = .int .i64 i1437), -⟩ := hf
            exact sg_plain rfl rfl (or_index (R := R48) (l := r1113) tl34 f_70 f_71 (RdO.some_ (RwO.rd b1750_A1114) hx1755) hx1755)
          refine steps_cons (fun own a wx hf hsl hE => ?_) ?_
          · obtain ⟨(f_72 : a.eval (.tmp 72) = .pointer (some ((adr A1114).add ((i1437 : Int).toNat * R48.s)))), -⟩ := hf
            exact sg_plain rfl rfl (or_load (l := E48.f x1755) ta48 f_72 (RdO.cells (F := E48) (RwO.rd (RwO.evo rfl hE b1750_A1114)) hx1755) rfl)
          refine steps_cons (fun own a wx hf hsl hE => ?_) ?_
          · obtain ⟨s_10, -⟩ := hsl
            exact sg_plain rfl rfl (or_move (s_10.trans e1750_10))
          refine steps_cons (fun own a wx hf hsl hE => ?_) ?_
          · obtain ⟨s_11, -⟩ := hsl
            exact sg_plain rfl rfl (or_move (s_11.trans e1750_11))
          refine steps_cons (fun own a wx hf hsl hE => ?_) ?_
          · obtain ⟨(f_74 : a.eval (.tmp 74) = .slice A1117 r1116.length cA1117), (f_75 : a.eval (.tmp 75) = .int .i64 i1437), -⟩ := hf
            exact sg_plain rfl rfl (or_index (R := R48) (l := r1116) tl34 f_74 f_75 (RdO.some_ (RwO.rd b1750_A1117) hx1756) hx1756)
          refine steps_cons (fun own a wx hf hsl hE => ?_) ?_
          · obtain ⟨(f_76 : a.eval (.tmp 76) = .pointer (some ((adr A1117).add ((i1437 : Int).toNat * R48.s)))), -⟩ := hf
            exact sg_plain rfl rfl (or_load (l := E48.f x1756) ta48 f_76 (RdO.cells (F := E48) (RwO.rd (RwO.evo rfl hE b1750_A1117)) hx1756) rfl)
          refine steps_cons (fun own a wx hf hsl hE => ?_) ?_
          · obtain ⟨(f_73 : a.eval (.tmp 73) = .agg #[.int .i64 x1755.1, .int .i64 x1755.2]), (f_77 : a.eval (.tmp 77) = .agg #[.int .i64 x1756.1, .int .i64 x1756.2]), -⟩ := hf
            exact sg_plain rfl rfl (or_neqA sg48 f_73 f_77 (sn48 x1755.1 x1755.2 x1756.1 x1756.2 _) rfl)
          refine steps_cons (fun own a wx hf hsl hE => ?_) ?_
          · obtain ⟨(f_78 : a.eval (.tmp 78) = .bool (!decide (x1755 = x1756))), -⟩ := hf
            exact sg_plain rfl rfl (or_move f_78)
          refine steps_cons (fun own a wx hf hsl hE => ?_) ?_
          · obtain ⟨(f_79 : a.eval (.tmp 79) = .bool (!decide (x1755 = x1756))), -⟩ := hf
            obtain ⟨s_11, -⟩ := hsl
            refine sg_f rfl rfl rfl f_79 (fun hg => ?_)
            exact or_move (s_11.trans e1750_11)
          refine steps_cons (fun own a wx hf hsl hE => ?_) ?_
          · obtain ⟨(f_79 : a.eval (.tmp 79) = .bool (!decide (x1755 = x1756))), c_80, -⟩ := hf
            refine sg_f rfl rfl rfl f_79 (fun hg => ?_)
            have f_80 : a.eval (.tmp 80) = .int .i64 i1437 := c_80.1 hg
            exact or_gtr f_80 rfl rfl
          refine steps_cons (fun own a wx hf hsl hE => ?_) ?_
          · obtain ⟨(f_79 : a.eval (.tmp 79) = .bool (!decide (x1755 = x1756))), c_81, -⟩ := hf
            refine sg_f rfl rfl rfl f_79 (fun hg => ?_)
            have f_81 : a.eval (.tmp 81) = .bool (decide (0 < i1437)) := c_81.1 hg
            exact or_move f_81
          refine steps_cons (fun own a wx hf hsl hE => ?_) ?_
          · obtain ⟨c_82, -⟩ := hf
            obtain ⟨s_9, -⟩ := hsl
            refine sg_tc rfl rfl rfl c_82 (fun hg => ?_)
            have f_82 : a.eval (.tmp 82) = .bool (decide (0 < i1437)) := c_82.1 (gL hg)
            exact or_move (s_9.trans e1750_9)
          refine steps_cons (fun own a wx hf hsl hE => ?_) ?_
          · obtain ⟨c_82, -⟩ := hf
            obtain ⟨s_11, -⟩ := hsl
            refine sg_tc rfl rfl rfl c_82 (fun hg => ?_)
            have f_82 : a.eval (.tmp 82) = .bool (decide (0 < i1437)) := c_82.1 (gL hg)
            exact or_move (s_11.trans e1750_11)
          refine steps_cons (fun own a wx hf hsl hE => ?_) ?_
          · obtain ⟨c_82, c_83, c_84, -⟩ := hf
            refine sg_tc rfl rfl rfl c_82 (fun hg => ?_)
            have f_82 : a.eval (.tmp 82) = .bool (decide (0 < i1437)) := c_82.1 (gL hg)
            have f_83 : a.eval (.tmp 83) = .slice A1114 r1113.length cA1114 := c_83.1 hg
            have f_84 : a.eval (.tmp 84) = .int .i64 i1437 := c_84.1 hg
            exact or_index (R := R48) (l := r1113) tl34 f_83 f_84 (RdO.some_ (RwO.rd b1750_A1114) (gd_t hx1757 hg)) (gd_t hx1757 hg)
          refine steps_cons (fun own a wx hf hsl hE => ?_) ?_
          · obtain ⟨c_82, c_85, -⟩ := hf
            refine sg_tc rfl rfl rfl c_82 (fun hg => ?_)
            have f_82 : a.eval (.tmp 82) = .bool (decide (0 < i1437)) := c_82.1 (gL hg)
            have f_85 : a.eval (.tmp 85) = .pointer (some ((adr A1114).add ((i1437 : Int).toNat * R48.s))) := c_85.1 hg
            exact or_field fo48_0 f_85 (Addr.add_zero' _)
          refine steps_cons (fun own a wx hf hsl hE => ?_) ?_
          · obtain ⟨c_82, c_86, -⟩ := hf
            refine sg_tc rfl rfl rfl c_82 (fun hg => ?_)
            have f_82 : a.eval (.tmp 82) = .bool (decide (0 < i1437)) := c_82.1 (gL hg)
            have f_86 : a.eval (.tmp 86) = .pointer (some ((adr A1114).add ((i1437 : Int).toNat * R48.s))) := c_86.1 hg
            exact or_load1 to3 f_86 (CellsAt.zero (RdO.cells (F := E48) (RwO.rd (RwO.evo rfl hE b1750_A1114)) (gd_t hx1757 hg)) rfl)
          refine steps_cons (fun own a wx hf hsl hE => ?_) ?_
          · obtain ⟨c_82, -⟩ := hf
            obtain ⟨s_9, -⟩ := hsl
            refine sg_tc rfl rfl rfl c_82 (fun hg => ?_)
            have f_82 : a.eval (.tmp 82) = .bool (decide (0 < i1437)) := c_82.1 (gL hg)
            exact or_move (s_9.trans e1750_9)
          refine steps_cons (fun own a wx hf hsl hE => ?_) ?_
          · obtain ⟨c_82, -⟩ := hf
            obtain ⟨s_11, -⟩ := hsl
            refine sg_tc rfl rfl rfl c_82 (fun hg => ?_)
            have f_82 : a.eval (.tmp 82) = .bool (decide (0 < i1437)) := c_82.1 (gL hg)
            exact or_move (s_11.trans e1750_11)
          refine steps_cons (fun own a wx hf hsl hE => ?_) ?_
          · obtain ⟨c_82, c_89, -⟩ := hf
            refine sg_tc rfl rfl rfl c_82 (fun hg => ?_)
            have f_82 : a.eval (.tmp 82) = .bool (decide (0 < i1437)) := c_82.1 (gL hg)
            have f_89 : a.eval (.tmp 89) = .int .i64 i1437 := c_89.1 hg
            exact or_sub f_89 rfl rfl
          refine steps_cons (fun own a wx hf hsl hE => ?_) ?_
          · obtain ⟨c_82, c_88, c_90, -⟩ := hf
            refine sg_tc rfl rfl rfl c_82 (fun hg => ?_)
            have f_82 : a.eval (.tmp 82) = .bool (decide (0 < i1437)) := c_82.1 (gL hg)
            have f_88 : a.eval (.tmp 88) = .slice A1114 r1113.length cA1114 := c_88.1 hg
            have f_90 : a.eval (.tmp 90) = .int .i64 (sb i1437 1) := c_90.1 hg
            exact or_index (R := R48) (l := r1113) tl34 f_88 f_90 (RdO.some_ (RwO.rd b1750_A1114) (gd_t hx1758 hg)) (gd_t hx1758 hg)
          refine steps_cons (fun own a wx hf hsl hE => ?_) ?_
          · obtain ⟨c_82, c_91, -⟩ := hf
            refine sg_tc rfl rfl rfl c_82 (fun hg => ?_)
            have f_82 : a.eval (.tmp 82) = .bool (decide (0 < i1437)) := c_82.1 (gL hg)
            have f_91 : a.eval (.tmp 91) = .pointer (some ((adr A1114).add ((sb i1437 1 : Int).toNat * R48.s))) := c_91.1 hg
            exact or_field fo48_0 f_91 (Addr.add_zero' _)
          refine steps_cons (fun own a wx hf hsl hE => ?_) ?_
          · obtain ⟨c_82, c_92, -⟩ := hf
            refine sg_tc rfl rfl rfl c_82 (fun hg => ?_)
            have f_82 : a.eval (.tmp 82) = .bool (decide (0 < i1437)) := c_82.1 (gL hg)
            have f_92 : a.eval (.tmp 92) = .pointer (some ((adr A1114).add ((sb i1437 1 : Int).toNat * R48.s))) := c_92.1 hg
            exact or_load1 to3 f_92 (CellsAt.zero (RdO.cells (F := E48) (RwO.rd (RwO.evo rfl hE b1750_A1114)) (gd_t hx1758 hg)) rfl)
          refine steps_cons (fun own a wx hf hsl hE => ?_) ?_
          · obtain ⟨c_82, c_87, c_93, -⟩ := hf
            refine sg_tc rfl rfl rfl c_82 (fun hg => ?_)
            have f_82 : a.eval (.tmp 82) = .bool (decide (0 < i1437)) := c_82.1 (gL hg)
            have f_87 : a.eval (.tmp 87) = .int .i64 x1757.1 := c_87.1 hg
            have f_93 : a.eval (.tmp 93) = .int .i64 x1758.1 := c_93.1 hg
            exact or_lss f_87 f_93 rfl
          refine steps_cons (fun own a wx hf hsl hE => ?_) ?_
          · obtain ⟨c_82, c_94, -⟩ := hf
            refine sg_tc rfl rfl rfl c_82 (fun hg => ?_)
            have f_82 : a.eval (.tmp 82) = .bool (decide (0 < i1437)) := c_82.1 (gL hg)
            have f_94 : a.eval (.tmp 94) = .bool (decide (x1757.1 < x1758.1)) := c_94.1 hg
            exact or_move f_94
          refine steps_cons (fun own a wx hf hsl hE => ?_) ?_
          · obtain ⟨c_95, -⟩ := hf
            obtain ⟨s_9, -⟩ := hsl
            refine sg_fc rfl rfl rfl c_95 (fun hg => ?_)
            have f_95 : a.eval (.tmp 95) = .bool (decide (x1757.1 < x1758.1)) := c_95.1 (gL hg)
            exact or_move (s_9.trans e1750_9)
          refine steps_cons (fun own a wx hf hsl hE => ?_) ?_
          · obtain ⟨c_95, -⟩ := hf
            obtain ⟨s_11, -⟩ := hsl
            refine sg_fc rfl rfl rfl c_95 (fun hg => ?_)
            have f_95 : a.eval (.tmp 95) = .bool (decide (x1757.1 < x1758.1)) := c_95.1 (gL hg)
            exact or_move (s_11.trans e1750_11)
          refine steps_cons (fun own a wx hf hsl hE => ?_) ?_
          · obtain ⟨c_95, c_96, c_97, -⟩ := hf
            refine sg_fc rfl rfl rfl c_95 (fun hg => ?_)
            have f_95 : a.eval (.tmp 95) = .bool (decide (x1757.1 < x1758.1)) := c_95.1 (gL hg)
            have f_96 : a.eval (.tmp 96) = .slice A1114 r1113.length cA1114 := c_96.1 hg
            have f_97 : a.eval (.tmp 97) = .int .i64 i1437 := c_97.1 hg
            exact or_index (R := R48) (l := r1113) tl34 f_96 f_97 (RdO.some_ (RwO.rd b1750_A1114) (gd_t hx1759 hg)) (gd_t hx1759 hg)
          refine steps_cons (fun own a wx hf hsl hE => ?_) ?_
          · obtain ⟨c_95, c_98, -⟩ := hf
            refine sg_fc rfl rfl rfl c_95 (fun hg => ?_)
            have f_95 : a.eval (.tmp 95) = .bool (decide (x1757.1 < x1758.1)) := c_95.1 (gL hg)
            have f_98 : a.eval (.tmp 98) = .pointer (some ((adr A1114).add ((i1437 : Int).toNat * R48.s))) := c_98.1 hg
            exact or_field fo48_0 f_98 (Addr.add_zero' _)
          refine steps_cons (fun own a wx hf hsl hE => ?_) ?_
          · obtain ⟨c_95, c_99, -⟩ := hf
            refine sg_fc rfl rfl rfl c_95 (fun hg => ?_)
            have f_95 : a.eval (.tmp 95) = .bool (decide (x1757.1 < x1758.1)) := c_95.1 (gL hg)
            have f_99 : a.eval (.tmp 99) = .pointer (some ((adr A1114).add ((i1437 : Int).toNat * R48.s))) := c_99.1 hg
            exact or_load1 to3 f_99 (CellsAt.zero (RdO.cells (F := E48) (RwO.rd (RwO.evo rfl hE b1750_A1114)) (gd_t hx1759 hg)) rfl)
          refine steps_cons (fun own a wx hf hsl hE => ?_) ?_
          · obtain ⟨c_95, -⟩ := hf
            obtain ⟨s_9, -⟩ := hsl
            refine sg_fc rfl rfl rfl c_95 (fun hg => ?_)
            have f_95 : a.eval (.tmp 95) = .bool (decide (x1757.1 < x1758.1)) := c_95.1 (gL hg)
            exact or_move (s_9.trans e1750_9)
          refine steps_cons (fun own a wx hf hsl hE => ?_) ?_
          · obtain ⟨c_95, -⟩ := hf
            obtain ⟨s_11, -⟩ := hsl
            refine sg_fc rfl rfl rfl c_95 (fun hg => ?_)
            have f_95 : a.eval (.tmp 95) = .bool (decide (x1757.1 < x1758.1)) := c_95.1 (gL hg)
            exact or_move (s_11.trans e1750_11)
          refine steps_cons (fun own a wx hf hsl hE => ?_) ?_
          · obtain ⟨c_95, c_102, -⟩ := hf
            refine sg_fc rfl rfl rfl c_95 (fun hg => ?_)
            have f_95 : a.eval (.tmp 95) = .bool (decide (x1757.1 < x1758.1)) := c_95.1 (gL hg)
            have f_102 : a.eval (.tmp 102) = .int .i64 i1437 := c_102.1 hg
            exact or_sub f_102 rfl rfl
          refine steps_cons (fun own a wx hf hsl hE => ?_) ?_
          · obtain ⟨c_95, c_101, c_103, -⟩ := hf
            refine sg_fc rfl rfl rfl c_95 (fun hg => ?_)
            have f_95 : a.eval (.tmp 95) = .bool (decide (x1757.1 < x1758.1)) := c_95.1 (gL hg)
            have f_101 : a.eval (.tmp 101) = .slice A1114 r1113.length cA1114 := c_101.1 hg
            have f_103 : a.eval (.tmp 103) = .int .i64 (sb i1437 1) := c_103.1 hg
            exact or_index (R := R48) (l := r1113) tl34 f_101 f_103 (RdO.some_ (RwO.rd b1750_A1114) (gd_t hx1760 hg)) (gd_t hx1760 hg)
          refine steps_cons (fun own a wx hf hsl hE => ?_) ?_
          · obtain ⟨c_95, c_104, -⟩ := hf
            refine sg_fc rfl rfl rfl c_95 (fun hg => ?_)
            have f_95 : a.eval (.tmp 95) = .bool (decide (x1757.1 < x1758.1)) := c_95.1 (gL hg)
            have f_104 : a.eval (.tmp 104) = .pointer (some ((adr A1114).add ((sb i1437 1 : Int).toNat * R48.s))) := c_104.1 hg
            exact or_field fo48_0 f_104 (Addr.add_zero' _)
          refine steps_cons (fun own a wx hf hsl hE => ?_) ?_
          · obtain ⟨c_95, c_105, -⟩ := hf
            refine sg_fc rfl rfl rfl c_95 (fun hg => ?_)
            have f_95 : a.eval (.tmp 95) = .bool (decide (x1757.1 < x1758.1)) := c_95.1 (gL hg)
            have f_105 : a.eval (.tmp 105) = .pointer (some ((adr A1114).add ((sb i1437 1 : Int).toNat * R48.s))) := c_105.1 hg
            exact or_load1 to3 f_105 (CellsAt.zero (RdO.cells (F := E48) (RwO.rd (RwO.evo rfl hE b1750_A1114)) (gd_t hx1760 hg)) rfl)
          refine steps_cons (fun own a wx hf hsl hE => ?_) ?_
          · obtain ⟨c_95, c_100, c_106, -⟩ := hf
            refine sg_fc rfl rfl rfl c_95 (fun hg => ?_)
            have f_95 : a.eval (.tmp 95) = .bool (decide (x1757.1 < x1758.1)) := c_95.1 (gL hg)
            have f_100 : a.eval (.tmp 100) = .int .i64 x1759.1 := c_100.1 hg
            have f_106 : a.eval (.tmp 106) = .int .i64 x1760.1 := c_106.1 hg
            exact or_eql f_100 f_106 rfl
          refine steps_cons (fun own a wx hf hsl hE => ?_) ?_
          · obtain ⟨c_95, c_107, -⟩ := hf
            refine sg_fc rfl rfl rfl c_95 (fun hg => ?_)
            have f_95 : a.eval (.tmp 95) = .bool (decide (x1757.1 < x1758.1)) := c_95.1 (gL hg)
            have f_107 : a.eval (.tmp 107) = .bool (decide (x1759.1 = x1760.1)) := c_107.1 hg
            exact or_move f_107
          refine steps_cons (fun own a wx hf hsl hE => ?_) ?_
          · obtain ⟨c_108, -⟩ := hf
            obtain ⟨s_9, -⟩ := hsl
            refine sg_tc rfl rfl rfl c_108 (fun hg => ?_)
            have f_108 : a.eval (.tmp 108) = .bool (decide (x1759.1 = x1760.1)) := c_108.1 (gL hg)
            exact or_move (s_9.trans e1750_9)
          refine steps_cons (fun own a wx hf hsl hE => ?_) ?_
          · obtain ⟨c_108, -⟩ := hf
            obtain ⟨s_11, -⟩ := hsl
            refine sg_tc rfl rfl rfl c_108 (fun hg => ?_)
            have f_108 : a.eval (.tmp 108) = .bool (decide (x1759.1 = x1760.1)) := c_108.1 (gL hg)
            exact or_move (s_11.trans e1750_11)
          refine steps_cons (fun own a wx hf hsl hE => ?_) ?_
          · obtain ⟨c_108, c_109, c_110, -⟩ := hf
            refine sg_tc rfl rfl rfl c_108 (fun hg => ?_)
            have f_108 : a.eval (.tmp 108) = .bool (decide (x1759.1 = x1760.1)) := c_108.1 (gL hg)
            have f_109 : a.eval (.tmp 109) = .slice A1114 r1113.length cA1114 := c_109.1 hg
            have f_110 : a.eval (.tmp 110) = .int .i64 i1437 := c_110.1 hg
            exact or_index (R := R48) (l := r1113) tl34 f_109 f_110 (RdO.some_ (RwO.rd b1750_A1114) (gd_t hx1761 hg)) (gd_t hx1761 hg)
          refine steps_cons (fun own a wx hf hsl hE => ?_) ?_
          · obtain ⟨c_108, c_111, -⟩ := hf
            refine sg_tc rfl rfl rfl c_108 (fun hg => ?_)
            have f_108 : a.eval (.tmp 108) = .bool (decide (x1759.1 = x1760.1)) := c_108.1 (gL hg)
            have f_111 : a.eval (.tmp 111) = .pointer (some ((adr A1114).add ((i1437 : Int).toNat * R48.s))) := c_111.1 hg
            exact or_field fo48_1 f_111 rfl
          refine steps_cons (fun own a wx hf hsl hE => ?_) ?_
          · obtain ⟨c_108, c_112, -⟩ := hf
            refine sg_tc rfl rfl rfl c_108 (fun hg => ?_)
            have f_108 : a.eval (.tmp 108) = .bool (decide (x1759.1 = x1760.1)) := c_108.1 (gL hg)
            have f_112 : a.eval (.tmp 112) = .pointer (some (((adr A1114).add ((i1437 : Int).toNat * R48.s)).add 1)) := c_112.1 hg
            exact or_load1 to3 f_112 (CellsAt.one (RdO.cells (F := E48) (RwO.rd (RwO.evo rfl hE b1750_A1114)) (gd_t hx1761 hg)) rfl)
          refine steps_cons (fun own a wx hf hsl hE => ?_) ?_
          · obtain ⟨c_108, -⟩ := hf
            obtain ⟨s_9, -⟩ := hsl
            refine sg_tc rfl rfl rfl c_108 (fun hg => ?_)
            have f_108 : a.eval (.tmp 108) = .bool (decide (x1759.1 = x1760.1)) := c_108.1 (gL hg)
            exact or_move (s_9.trans e1750_9)
          refine steps_cons (fun own a wx hf hsl hE => ?_) ?_
          · obtain ⟨c_108, -⟩ := hf
            obtain ⟨s_11, -⟩ := hsl
            refine sg_tc rfl rfl rfl c_108 (fun hg => ?_)
            have f_108 : a.eval (.tmp 108) = .bool (decide (x1759.1 = x1760.1)) := c_108.1 (gL hg)
            exact or_move (s_11.trans e1750_11)
          refine steps_cons (fun own a wx hf hsl hE => ?_) ?_
          · obtain ⟨c_108, c_115, -⟩ := hf
            refine sg_tc rfl rfl rfl c_108 (fun hg => ?_)
            have f_108 : a.eval (.tmp 108) = .bool (decide (x1759.1 = x1760.1)) := c_108.1 (gL hg)
            have f_115 : a.eval (.tmp 115) = .int .i64 i1437 := c_115.1 hg
            exact or_sub f_115 rfl rfl
          refine steps_cons (fun own a wx hf hsl hE => ?_) ?_
          · obtain ⟨c_108, c_114, c_116, -⟩ := hf
            refine sg_tc rfl rfl rfl c_108 (fun hg => ?_)
            have f_108 : a.eval (.tmp 108) = .bool (decide (x1759.1 = x1760.1)) := c_108.1 (gL hg)
            have f_114 : a.eval (.tmp 114) = .slice A1114 r1113.length cA1114 := c_114.1 hg
            have f_116 : a.eval (.tmp 116) = .int .i64 (sb i1437 1) := c_116.1 hg
            exact or_index (R := R48) (l := r1113) tl34 f_114 f_116 (RdO.some_ (RwO.rd b1750_A1114) (gd_t hx1762 hg)) (gd_t hx1762 hg)
          refine steps_cons (fun own a wx hf hsl hE => ?_) ?_
          · obtain ⟨c_108, c_117, -⟩ := hf
            refine sg_tc rfl rfl rfl c_108 (fun hg => ?_)
            have f_108 : a.eval (.tmp 108) = .bool (decide (x1759.1 = x1760.1)) := c_108.1 (gL hg)
            have f_117 : a.eval (.tmp 117) = .pointer (some ((adr A1114).add ((sb i1437 1 : Int).toNat * R48.s))) := c_117.1 hg
            exact or_field fo48_1 f_117 rfl
          refine steps_cons (fun own a wx hf hsl hE => ?_) ?_
          · obtain ⟨c_108, c_118, -⟩ := hf
            refine sg_tc rfl rfl rfl c_108 (fun hg => ?_)
            have f_108 : a.eval (.tmp 108) = .bool (decide (x1759.1 = x1760.1)) := c_108.1 (gL hg)
            have f_118 : a.eval (.tmp 118) = .pointer (some (((adr A1114).add ((sb i1437 1 : Int).toNat * R48.s)).add 1)) := c_118.1 hg
            exact or_load1 to3 f_118 (CellsAt.one (RdO.cells (F := E48) (RwO.rd (RwO.evo rfl hE b1750_A1114)) (gd_t hx1762 hg)) rfl)
          refine steps_cons (fun own a wx hf hsl hE => ?_) ?_
          · obtain ⟨c_108, c_113, c_119, -⟩ := hf
            refine sg_tc rfl rfl rfl c_108 (fun hg => ?_)
            have f_108 : a.eval (.tmp 108) = .bool (decide (x1759.1 = x1760.1)) := c_108.1 (gL hg)
            have f_113 : a.eval (.tmp 113) = .int .i64 x1761.2 := c_113.1 hg
            have f_119 : a.eval (.tmp 119) = .int .i64 x1762.2 := c_119.1 hg
            exact or_lss f_113 f_119 rfl
          refine steps_cons (fun own a wx hf hsl hE => ?_) ?_
          · obtain ⟨c_95, c_108, c_120, -⟩ := hf
            refine sg_fc rfl rfl rfl c_95 (fun hg => ?_)
            have f_95 : a.eval (.tmp 95) = .bool (decide (x1757.1 < x1758.1)) := c_95.1 (gL hg)
            have f_108 : a.eval (.tmp 108) = .bool (decide (x1759.1 = x1760.1)) := c_108.1 hg
            exact or_and f_108 (fun hx => c_120.1 (gI hg hx)) rfl (osome hx1763).symm
          refine steps_cons (fun own a wx hf hsl hE => ?_) ?_
          · obtain ⟨c_82, c_95, c_121, -⟩ := hf
            refine sg_tc rfl rfl rfl c_82 (fun hg => ?_)
            have f_82 : a.eval (.tmp 82) = .bool (decide (0 < i1437)) := c_82.1 (gL hg)
            have f_95 : a.eval (.tmp 95) = .bool (decide (x1757.1 < x1758.1)) := c_95.1 hg
            exact or_or f_95 rfl (fun hx => c_121.1 (gI hg hx)) (osome hx1764).symm
          refine steps_cons (fun own a wx hf hsl hE => ?_) ?_
          · obtain ⟨(f_79 : a.eval (.tmp 79) = .bool (!decide (x1755 = x1756))), c_82, c_122, -⟩ := hf
            refine sg_f rfl rfl rfl f_79 (fun hg => ?_)
            have f_82 : a.eval (.tmp 82) = .bool (decide (0 < i1437)) := c_82.1 hg
            exact or_and f_82 (fun hx => c_122.1 (gI hg hx)) rfl rfl
          refine steps_cons (fun own a wx hf hsl hE => ?_) ?_
          · obtain ⟨(f_79 : a.eval (.tmp 79) = .bool (!decide (x1755 = x1756))), c_123, -⟩ := hf
            exact sg_plain rfl rfl (or_or f_79 rfl (fun hx => c_123.1 hx) (osome hx1765).symm)
          exact steps_nil
        intro own1766 a1766 w1766 hd1766 hz1766 hk1766 hf1766 hE1766
        have e1766_0 : a1766.eval (.tmp 0) = .slice A1048 x1047.length cA1048 := (hk1766 0 rfl).trans e1750_0
        have e1766_1 : a1766.eval (.tmp 1) = .slice A1050 x1049.length cA1050 := (hk1766 1 rfl).trans e1750_1
        have e1766_2 : a1766.eval (.tmp 2) = .slice A1052 x1051.length cA1052 := (hk1766 2 rfl).trans e1750_2
        have e1766_9 : a1766.eval (.tmp 9) = .slice A1114 r1113.length cA1114 := (hk1766 9 rfl).trans e1750_9
        have e1766_10 : a1766.eval (.tmp 10) = .slice A1117 r1116.length cA1117 := (hk1766 10 rfl).trans e1750_10
        have e1766_11 : a1766.eval (.tmp 11) = .int .i64 i1437 := (hk1766 11 rfl).trans e1750_11
        obtain ⟨(f_124 : a1766.eval (.tmp 124) = .bool x1765), -⟩ := hf1766 [54] rfl
        have e1766_124 := f_124
        have hX1766 := Evo.step hX1750 (fun _ => Nat.le_refl 0) hE1766 rfl
        have b1766_A1048 := RdO.evo rfl hE1766 b1750_A1048
        have b1766_A1050 := RdO.evo rfl hE1766 b1750_A1050
        have b1766_A1052 := RdO.evo rfl hE1766 b1750_A1052
        have b1766_A1114 := RwO.evo rfl hE1766 b1750_A1114
        have b1766_A1117 := RwO.evo rfl hE1766 b1750_A1117
        refine fl_cond e1766_124 hs (fun c1767 hs => ?_) (fun c1767 hs => ?_)
        · refine rg_plain_seq (n := 173) (rs := []) (own0 := own1766) (K := [])
              (bs := [0])
              (ds := [⟨[], [], [], Fct.val 6 (.bool false)⟩]) (by kernel_rfl) hz1766 hd1766 (fun _ h => nomatch h) ?_ ?_
          · refine steps_cons (fun own a wx hf hsl hE => ?_) ?_
            · exact sg_plain rfl rfl (or_assign rfl)
            exact steps_nil
          intro own1768 a1768 w1768 hd1768 hz1768 hk1768 hf1768 hE1768
          obtain ⟨(f_6 : a1768.eval (.tmp 6) = .bool false), -⟩ := hf1768 [0] rfl
          have e1768_6 := f_6
          have hX1768 := Evo.step hX1766 (fun _ => Nat.le_refl 0) hE1768 rfl
          refine fl_ret ?_
          refine hp1754 _ _ _ rfl ?_
          refine hp1753 _ _ _ rfl ?_
          refine hp1752 _ _ _ rfl ?_
          replace hs := hz1747 _ hs
          refine hp1747 _ _ _ rfl ?_
          refine hp1127 _ _ _ rfl ?_
          refine hp1125 _ _ _ rfl ?_
          obtain rfl := osome hs
          exact hret _ _ _ _ (.inl rfl) hd1768 (results1_ rfl (RVal.tmp_ e1768_6)) ⟨own1768, rfl, hX1768⟩
        refine fl_skip ?_
        refine hn1754 _ _ ?_
        refine rg_plain_seq (n := 173) (rs := []) (own0 := own1766) (K := [])
            (bs := [0, 1])
            (ds := [⟨[], [], [], Fct.val 12 (.int .i64 0)⟩,
            ⟨[], [], [], Fct.val 13 (.int .i64 0)⟩]) (by kernel_rfl) hz1766 hd1766 (fun _ h => nomatch h) ?_ ?_
        · refine steps_cons (fun own a wx hf hsl hE => ?_) ?_
          · exact sg_plain rfl rfl (or_assign rfl)
          refine steps_cons (fun own a wx hf hsl hE => ?_) ?_
          · exact sg_plain rfl rfl (or_assign rfl)
          exact steps_nil
        intro own1769 a1769 w1769 hd1769 hz1769 hk1769 hf1769 hE1769
        have e1769_0 : a1769.eval (.tmp 0) = .slice A1048 x1047.length cA1048 := (hk1769 0 rfl).trans e1766_0
        have e1769_1 : a1769.eval (.tmp 1) = .slice A1050 x1049.length cA1050 := (hk1769 1 rfl).trans e1766_1
        have e1769_2 : a1769.eval (.tmp 2) = .slice A1052 x1051.length cA1052 := (hk1769 2 rfl).trans e1766_2
        have e1769_9 : a1769.eval (.tmp 9) = .slice A1114 r1113.length cA1114 := (hk1769 9 rfl).trans e1766_9
        have e1769_10 : a1769.eval (.tmp 10) = .slice A1117 r1116.length cA1117 := (hk1769 10 rfl).trans e1766_10
        have e1769_11 : a1769.eval (.tmp 11) = .int .i64 i1437 := (hk1769 11 rfl).trans e1766_11
        obtain ⟨(f_12 : a1769.eval (.tmp 12) = .int .i64 0), (f_13 : a1769.eval (.tmp 13) = .int .i64 0), -⟩ := hf1769 [0, 1] rfl
        have e1769_12 := f_12
        have e1769_13 := f_13
        have hX1769 := Evo.step hX1766 (fun _ => Nat.le_refl 0) hE1769 rfl
        have b1769_A1048 := RdO.evo rfl hE1769 b1766_A1048
        have b1769_A1050 := RdO.evo rfl hE1769 b1766_A1050
        have b1769_A1052 := RdO.evo rfl hE1769 b1766_A1052
        have b1769_A1114 := RwO.evo rfl hE1769 b1766_A1114
        have b1769_A1117 := RwO.evo rfl hE1769 b1766_A1117
        refine fl_seq (fun Q1770 hn1770 hp1770 => ?_)
        refine rg_plain_seq (n := 173) (rs := []) (own0 := own1769) (K := [])
            (bs := [0])
            (ds := [⟨[], [], [], Fct.val 14 (.int .i64 0)⟩]) (by kernel_rfl) hz1769 hd1769 (fun _ h => nomatch h) ?_ ?_
        · refine steps_cons (fun own a wx hf hsl hE => ?_) ?_
          · exact sg_plain rfl rfl (or_assign rfl)
          exact steps_nil
        intro own1771 a1771 w1771 hd1771 hz1771 hk1771 hf1771 hE1771
        have e1771_0 : a1771.eval (.tmp 0) = .slice A1048 x1047.length cA1048 := (hk1771 0 rfl).trans e1769_0
        have e1771_1 : a1771.eval (.tmp 1) = .slice A1050 x1049.length cA1050 := (hk1771 1 rfl).trans e1769_1
        have e1771_2 : a1771.eval (.tmp 2) = .slice A1052 x1051.length cA1052 := (hk1771 2 rfl).trans e1769_2
        have e1771_9 : a1771.eval (.tmp 9) = .slice A1114 r1113.length cA1114 := (hk1771 9 rfl).trans e1769_9
        have e1771_10 : a1771.eval (.tmp 10) = .slice A1117 r1116.length cA1117 := (hk1771 10 rfl).trans e1769_10
        have e1771_11 : a1771.eval (.tmp 11) = .int .i64 i1437 := (hk1771 11 rfl).trans e1769_11
        have e1771_12 : a1771.eval (.tmp 12) = .int .i64 0 := (hk1771 12 rfl).trans e1769_12
        have e1771_13 : a1771.eval (.tmp 13) = .int .i64 0 := (hk1771 13 rfl).trans e1769_13
        obtain ⟨(f_14 : a1771.eval (.tmp 14) = .int .i64 0), -⟩ := hf1771 [0] rfl
        have e1771_14 := f_14
        have hX1771 := Evo.step hX1769 (fun _ => Nat.le_refl 0) hE1771 rfl
        have b1771_A1048 := RdO.evo rfl hE1771 b1769_A1048
        have b1771_A1050 := RdO.evo rfl hE1771 b1769_A1050
        have b1771_A1052 := RdO.evo rfl hE1771 b1769_A1052
        have b1771_A1114 := RwO.evo rfl hE1771 b1769_A1114
        have b1771_A1117 := RwO.evo rfl hE1771 b1769_A1117
        refine fl_block (fun Q1772 hn1772 hx1772 hp1772 => ?_)
        refine fl_loop (body := (fun s => law04_OrderStays_b3 x1047 r1113 i1437 s.1 s.2.1 s.2.2)) (z := zz1747) (show loopO _ _ = _ from hs) (fun (s : Int × Int × Int) a wx => match s with | (x1865, y1866, k1867) => ∃ (ox : Own), a.defers = [] ∧ a.tmps.size = 173 ∧ a.eval (.tmp 0) = .slice A1048 x1047.length cA1048 ∧ a.eval (.tmp 1) = .slice A1050 x1049.length cA1050 ∧ a.eval (.tmp 2) = .slice A1052 x1051.length cA1052 ∧ a.eval (.tmp 9) = .slice A1114 r1113.length cA1114 ∧ a.eval (.tmp 10) = .slice A1117 r1116.length cA1117 ∧ a.eval (.tmp 11) = .int .i64 i1437 ∧ a.eval (.tmp 12) = .int .i64 x1865 ∧ a.eval (.tmp 13) = .int .i64 y1866 ∧ a.eval (.tmp 14) = .int .i64 k1867 ∧ Evo [] (fun _ => 0) ox w wx ∧ RdO ox [0] wx R48 A1048 cA1048 x1047 ∧ RdO ox [0] wx R3 A1050 cA1050 x1049 ∧ RdO ox [0] wx R3 A1052 cA1052 x1051 ∧ RwO ox 1115 [] wx 48 R48 A1114 cA1114 r1113 ∧ RwO ox 1118 [] wx 48 R48 A1117 cA1117 r1116) ?_ ?_
        · exact ⟨own1771, hd1771, hz1771, e1771_0, e1771_1, e1771_2, e1771_9, e1771_10, e1771_11, e1771_12, e1771_13, e1771_14, hX1771, b1771_A1048, b1771_A1050, b1771_A1052, b1771_A1114, b1771_A1117⟩
        · rintro ⟨x1865, y1866, k1867⟩ zz1960 a1960 w1960 ⟨own1960, hd1961, hz1961, e1961_0, e1961_1, e1961_2, e1961_9, e1961_10, e1961_11, e1961_12, e1961_13, e1961_14, hE1961, b1961_A1048, b1961_A1050, b1961_A1052, b1961_A1114, b1961_A1117⟩ hs Q1960 hn1960 hp1960 hz1960
          have hs : law04_OrderStays_b3 x1047 r1113 i1437 x1865 y1866 k1867 = some zz1960 := hs
          refine fl_seq (fun Q1962 hn1962 hp1962 => ?_)
          refine rg_plain_seq (n := 173) (rs := []) (own0 := own1960) (K := [])
              (bs := [0, 0, 2, 7])
              (ds := [⟨[], [14], [], Fct.val 125 (.int .i64 k1867)⟩,
              ⟨[], [0], [], Fct.val 126 (.slice A1048 x1047.length cA1048)⟩,
              ⟨[1], [], [], Fct.val 127 (.int .i64 (x1047.length : Int))⟩,
              ⟨[0, 2], [], [], Fct.val 128 (.bool (decide (k1867 < (x1047.length : Int))))⟩]) (by kernel_rfl) hz1961 hd1961 (fun _ h => nomatch h) ?_ ?_
          · refine steps_cons (fun own a wx hf hsl hE => ?_) ?_
            · obtain ⟨s_14, -⟩ := hsl
              exact sg_plain rfl rfl (or_move (s_14.trans e1961_14))
            refine steps_cons (fun own a wx hf hsl hE => ?_) ?_
            · obtain ⟨s_0, -⟩ := hsl
              exact sg_plain rfl rfl (or_move (s_0.trans e1961_0))
            refine steps_cons (fun own a wx hf hsl hE => ?_) ?_
            · obtain ⟨(f_126 : a.eval (.tmp 126) = .slice A1048 x1047.length cA1048), -⟩ := hf
              exact sg_plain rfl rfl (or_len tu34 f_126 rfl)
            refine steps_cons (fun own a wx hf hsl hE => ?_) ?_
            · obtain ⟨(f_125 : a.eval (.tmp 125) = .int .i64 k1867), (f_127 : a.eval (.tmp 127) = .int .i64 (x1047.length : Int)), -⟩ := hf
              exact sg_plain rfl rfl (or_lss f_125 f_127 rfl)
            exact steps_nil
          intro own1963 a1963 w1963 hd1963 hz1963 hk1963 hf1963 hE1963
          have e1963_0 : a1963.eval (.tmp 0) = .slice A1048 x1047.length cA1048 := (hk1963 0 rfl).trans e1961_0
          have e1963_1 : a1963.eval (.tmp 1) = .slice A1050 x1049.length cA1050 := (hk1963 1 rfl).trans e1961_1
          have e1963_2 : a1963.eval (.tmp 2) = .slice A1052 x1051.length cA1052 := (hk1963 2 rfl).trans e1961_2
          have e1963_9 : a1963.eval (.tmp 9) = .slice A1114 r1113.length cA1114 := (hk1963 9 rfl).trans e1961_9
          have e1963_10 : a1963.eval (.tmp 10) = .slice A1117 r1116.length cA1117 := (hk1963 10 rfl).trans e1961_10
          have e1963_11 : a1963.eval (.tmp 11) = .int .i64 i1437 := (hk1963 11 rfl).trans e1961_11
          have e1963_12 : a1963.eval (.tmp 12) = .int .i64 x1865 := (hk1963 12 rfl).trans e1961_12
          have e1963_13 : a1963.eval (.tmp 13) = .int .i64 y1866 := (hk1963 13 rfl).trans e1961_13
          have e1963_14 : a1963.eval (.tmp 14) = .int .i64 k1867 := (hk1963 14 rfl).trans e1961_14
          obtain ⟨(f_128 : a1963.eval (.tmp 128) = .bool (decide (k1867 < (x1047.length : Int)))), -⟩ := hf1963 [3] rfl
          have e1963_128 := f_128
          have hX1963 := Evo.step hE1961 (fun _ => Nat.le_refl 0) hE1963 rfl
          have b1963_A1048 := RdO.evo rfl hE1963 b1961_A1048
          have b1963_A1050 := RdO.evo rfl hE1963 b1961_A1050
          have b1963_A1052 := RdO.evo rfl hE1963 b1961_A1052
          have b1963_A1114 := RwO.evo rfl hE1963 b1961_A1114
          have b1963_A1117 := RwO.evo rfl hE1963 b1961_A1117
          refine fl_cond e1963_128 hs (fun c1964 hs => ?_) (fun c1964 hs => ?_)
          · refine fl_skip ?_
            refine hn1962 _ _ ?_
            refine fl_seq (fun Q1965 hn1965 hp1965 => ?_)
            refine fl_block (fun Q2009 hn2009 hx2009 hp2009 => ?_)
            have K2031 : ∀ (a2031 : Act) (w2031 : World) (own2031 : Own) (x2029 : Int) (y2030 : Int), a2031.defers = [] → a2031.tmps.size = 173 → a2031.eval (.tmp 0) = .slice A1048 x1047.length cA1048 → a2031.eval (.tmp 1) = .slice A1050 x1049.length cA1050 → a2031.eval (.tmp 2) = .slice A1052 x1051.length cA1052 → a2031.eval (.tmp 9) = .slice A1114 r1113.length cA1114 → a2031.eval (.tmp 10) = .slice A1117 r1116.length cA1117 → a2031.eval (.tmp 11) = .int .i64 i1437 → a2031.eval (.tmp 12) = .int .i64 x2029 → a2031.eval (.tmp 13) = .int .i64 y2030 → a2031.eval (.tmp 14) = .int .i64 k1867 → Evo [] (fun _ => 0) own2031 w w2031 → RdO own2031 [0] w2031 R48 A1048 cA1048 x1047 → RdO own2031 [0] w2031 R3 A1050 cA1050 x1049 → RdO own2031 [0] w2031 R3 A1052 cA1052 x1051 → RwO own2031 1115 [] w2031 48 R48 A1114 cA1114 r1113 → RwO own2031 1118 [] w2031 48 R48 A1117 cA1117 r1116 → law04_OrderStays_k4 k1867 x2029 y2030 = some zz1960 → (Q2009 .normal a2031 w2031 ∧ Q2009 (.exit 5) a2031 w2031) := by
              intro a2031 w2031 own2031 x2029 y2030 hd2032 hz2032 e2032_0 e2032_1 e2032_2 e2032_9 e2032_10 e2032_11 e2032_12 e2032_13 e2032_14 hE2032 b2032_A1048 b2032_A1050 b2032_A1052 b2032_A1114 b2032_A1117 hs
              refine and_both (hn2009 _ _) (hx2009 _ _) ?_
              refine hn1965 _ _ ?_
              refine rg_plain (n := 173) (rs := []) (own0 := own2031) (K := [])
                  (bs := [0, 1, 3])
                  (ds := [⟨[], [14], [], Fct.val 129 (.int .i64 k1867)⟩,
                  ⟨[0], [], [], Fct.val 130 (.int .i64 (ad k1867 1))⟩,
                  ⟨[1], [], [], Fct.val 14 (.int .i64 (ad k1867 1))⟩]) (by kernel_rfl) hz2032 hd2032 (fun _ h => nomatch h) ?_ ?_
              · refine steps_cons (fun own a wx hf hsl hE => ?_) ?_
                · obtain ⟨s_14, -⟩ := hsl
                  exact sg_plain rfl rfl (or_move (s_14.trans e2032_14))
                refine steps_cons (fun own a wx hf hsl hE => ?_) ?_
                · obtain ⟨(f_129 : a.eval (.tmp 129) = .int .i64 k1867), -⟩ := hf
                  exact sg_plain rfl rfl (or_add f_129 rfl rfl)
                refine steps_cons (fun own a wx hf hsl hE => ?_) ?_
                · obtain ⟨(f_130 : a.eval (.tmp 130) = .int .i64 (ad k1867 1)), -⟩ := hf
                  exact sg_plain rfl rfl (or_assign f_130)
                exact steps_nil
              intro own2033 a2033 w2033 hd2033 hz2033 hk2033 hf2033 hE2033
              have e2033_0 : a2033.eval (.tmp 0) = .slice A1048 x1047.length cA1048 := (hk2033 0 rfl).trans e2032_0
              have e2033_1 : a2033.eval (.tmp 1) = .slice A1050 x1049.length cA1050 := (hk2033 1 rfl).trans e2032_1
              have e2033_2 : a2033.eval (.tmp 2) = .slice A1052 x1051.length cA1052 := (hk2033 2 rfl).trans e2032_2
              have e2033_9 : a2033.eval (.tmp 9) = .slice A1114 r1113.length cA1114 := (hk2033 9 rfl).trans e2032_9
              have e2033_10 : a2033.eval (.tmp 10) = .slice A1117 r1116.length cA1117 := (hk2033 10 rfl).trans e2032_10
              have e2033_11 : a2033.eval (.tmp 11) = .int .i64 i1437 := (hk2033 11 rfl).trans e2032_11
              have e2033_12 : a2033.eval (.tmp 12) = .int .i64 x2029 := (hk2033 12 rfl).trans e2032_12
              have e2033_13 : a2033.eval (.tmp 13) = .int .i64 y2030 := (hk2033 13 rfl).trans e2032_13
              obtain ⟨(f_14 : a2033.eval (.tmp 14) = .int .i64 (ad k1867 1)), -⟩ := hf2033 [2] rfl
              have e2033_14 := f_14
              have hX2033 := Evo.step hE2032 (fun _ => Nat.le_refl 0) hE2033 rfl
              have b2033_A1048 := RdO.evo rfl hE2033 b2032_A1048
              have b2033_A1050 := RdO.evo rfl hE2033 b2032_A1050
              have b2033_A1052 := RdO.evo rfl hE2033 b2032_A1052
              have b2033_A1114 := RwO.evo rfl hE2033 b2032_A1114
              have b2033_A1117 := RwO.evo rfl hE2033 b2032_A1117
              exact hn1960 _ _ _ hs ⟨own2033, hd2033, hz2033, e2033_0, e2033_1, e2033_2, e2033_9, e2033_10, e2033_11, e2033_12, e2033_13, e2033_14, hX2033, b2033_A1048, b2033_A1050, b2033_A1052, b2033_A1114, b2033_A1117⟩
            refine fl_seq (fun Q2034 hn2034 hp2034 => ?_)
            have K2041 : ∀ (a2041 : Act) (w2041 : World) (own2041 : Own) (x2040 : Int), a2041.defers = [] → a2041.tmps.size = 173 → a2041.eval (.tmp 0) = .slice A1048 x1047.length cA1048 → a2041.eval (.tmp 1) = .slice A1050 x1049.length cA1050 → a2041.eval (.tmp 2) = .slice A1052 x1051.length cA1052 → a2041.eval (.tmp 9) = .slice A1114 r1113.length cA1114 → a2041.eval (.tmp 10) = .slice A1117 r1116.length cA1117 → a2041.eval (.tmp 11) = .int .i64 i1437 → a2041.eval (.tmp 12) = .int .i64 x2040 → a2041.eval (.tmp 13) = .int .i64 y1866 → a2041.eval (.tmp 14) = .int .i64 k1867 → Evo [] (fun _ => 0) own2041 w w2041 → RdO own2041 [0] w2041 R48 A1048 cA1048 x1047 → RdO own2041 [0] w2041 R3 A1050 cA1050 x1049 → RdO own2041 [0] w2041 R3 A1052 cA1052 x1051 → RwO own2041 1115 [] w2041 48 R48 A1114 cA1114 r1113 → RwO own2041 1118 [] w2041 48 R48 A1117 cA1117 r1116 → law04_OrderStays_k5 r1113 i1437 y1866 k1867 x2040 = some zz1960 → Q2034 .normal a2041 w2041 := by
              intro a2041 w2041 own2041 x2040 hd2042 hz2042 e2042_0 e2042_1 e2042_2 e2042_9 e2042_10 e2042_11 e2042_12 e2042_13 e2042_14 hE2042 b2042_A1048 b2042_A1050 b2042_A1052 b2042_A1114 b2042_A1117 hs
              refine hn2034 _ _ ?_
              obtain ⟨x2043, hx2043, hs⟩ := obind hs
              obtain ⟨x2044, hx2044, hs⟩ := obind hs
              refine rg_draw_seq g_mixed (n := 173) (rs := []) (own0 := own2041) (K := [])
                  (bs := [0, 0, 3, 7, 0, 0, 48, 112, 255])
                  (ds := [⟨[], [9], [], Fct.val 142 (.slice A1114 r1113.length cA1114)⟩,
                  ⟨[], [14], [], Fct.val 143 (.int .i64 k1867)⟩,
                  ⟨[0, 1], [], [], Fct.val 144 (.pointer (some ((adr A1114).add ((k1867 : Int).toNat * R48.s))))⟩,
                  ⟨[2], [], [], Fct.val 145 (.agg #[.int .i64 x2043.1, .int .i64 x2043.2])⟩,
                  ⟨[], [9], [], Fct.val 146 (.slice A1114 r1113.length cA1114)⟩,
                  ⟨[], [11], [], Fct.val 147 (.int .i64 i1437)⟩,
                  ⟨[4, 5], [], [], Fct.val 148 (.pointer (some ((adr A1114).add ((i1437 : Int).toNat * R48.s))))⟩,
                  ⟨[6], [], [], Fct.val 149 (.agg #[.int .i64 x2044.1, .int .i64 x2044.2])⟩,
                  ⟨[3, 7], [], [], Fct.val 150 (.bool (decide (x2043 = x2044)))⟩]) (by kernel_rfl) hz2042 hd2042 (fun _ h => nomatch h) ?_ ?_
              · refine steps_cons (fun own a wx hf hsl hE => ?_) ?_
                · obtain ⟨s_9, -⟩ := hsl
                  exact sg_plain rfl rfl (or_move (s_9.trans e2042_9))
                refine steps_cons (fun own a wx hf hsl hE => ?_) ?_
                · obtain ⟨s_14, -⟩ := hsl
                  exact sg_plain rfl rfl (or_move (s_14.trans e2042_14))
                refine steps_cons (fun own a wx hf hsl hE => ?_) ?_
                · obtain ⟨(f_142 : a.eval (.tmp 142) = .slice A1114 r1113.length cA1114), (f_143 : a.eval (.tmp 143) = .int .i64 k1867), -⟩ := hf
                  exact sg_plain rfl rfl (or_index (R := R48) (l := r1113) tl34 f_142 f_143 (RdO.some_ (RwO.rd b2042_A1114) hx2043) hx2043)
                refine steps_cons (fun own a wx hf hsl hE => ?_) ?_
                · obtain ⟨(f_144 : a.eval (.tmp 144) = .pointer (some ((adr A1114).add ((k1867 : Int).toNat * R48.s)))), -⟩ := hf
                  exact sg_plain rfl rfl (or_load (l := E48.f x2043) ta48 f_144 (RdO.cells (F := E48) (RwO.rd (RwO.evo rfl hE b2042_A1114)) hx2043) rfl)
                refine steps_cons (fun own a wx hf hsl hE => ?_) ?_
                · obtain ⟨s_9, -⟩ := hsl
                  exact sg_plain rfl rfl (or_move (s_9.trans e2042_9))
                refine steps_cons (fun own a wx hf hsl hE => ?_) ?_
                · obtain ⟨s_11, -⟩ := hsl
                  exact sg_plain rfl rfl (or_move (s_11.trans e2042_11))
                refine steps_cons (fun own a wx hf hsl hE => ?_) ?_
                · obtain ⟨(f_146 : a.eval (.tmp 146) = .slice A1114 r1113.length cA1114), (f_147 : a.eval (.tmp 147) = .int .i64 i1437), -⟩ := hf
                  exact sg_plain rfl rfl (or_index (R := R48) (l := r1113) tl34 f_146 f_147 (RdO.some_ (RwO.rd b2042_A1114) hx2044) hx2044)
                refine steps_cons (fun own a wx hf hsl hE => ?_) ?_
                · obtain ⟨(f_148 : a.eval (.tmp 148) = .pointer (some ((adr A1114).add ((i1437 : Int).toNat * R48.s)))), -⟩ := hf
                  exact sg_plain rfl rfl (or_load (l := E48.f x2044) ta48 f_148 (RdO.cells (F := E48) (RwO.rd (RwO.evo rfl hE b2042_A1114)) hx2044) rfl)
                refine steps_cons (fun own a wx hf hsl hE => ?_) ?_
                · obtain ⟨(f_145 : a.eval (.tmp 145) = .agg #[.int .i64 x2043.1, .int .i64 x2043.2]), (f_149 : a.eval (.tmp 149) = .agg #[.int .i64 x2044.1, .int .i64 x2044.2]), -⟩ := hf
                  exact sg_plain rfl rfl (or_eqlA sg48 f_145 f_149 (se48 x2043.1 x2043.2 x2044.1 x2044.2 _) rfl)
                exact steps_nil
              intro own2045 a2045 w2045 hd2045 hz2045 hk2045 hf2045 hE2045
              have e2045_0 : a2045.eval (.tmp 0) = .slice A1048 x1047.length cA1048 := (hk2045 0 rfl).trans e2042_0
              have e2045_1 : a2045.eval (.tmp 1) = .slice A1050 x1049.length cA1050 := (hk2045 1 rfl).trans e2042_1
              have e2045_2 : a2045.eval (.tmp 2) = .slice A1052 x1051.length cA1052 := (hk2045 2 rfl).trans e2042_2
              have e2045_9 : a2045.eval (.tmp 9) = .slice A1114 r1113.length cA1114 := (hk2045 9 rfl).trans e2042_9
              have e2045_10 : a2045.eval (.tmp 10) = .slice A1117 r1116.length cA1117 := (hk2045 10 rfl).trans e2042_10
              have e2045_11 : a2045.eval (.tmp 11) = .int .i64 i1437 := (hk2045 11 rfl).trans e2042_11
              have e2045_12 : a2045.eval (.tmp 12) = .int .i64 x2040 := (hk2045 12 rfl).trans e2042_12
              have e2045_13 : a2045.eval (.tmp 13) = .int .i64 y1866 := (hk2045 13 rfl).trans e2042_13
              have e2045_14 : a2045.eval (.tmp 14) = .int .i64 k1867 := (hk2045 14 rfl).trans e2042_14
              obtain ⟨(f_150 : a2045.eval (.tmp 150) = .bool (decide (x2043 = x2044))), -⟩ := hf2045 [8] rfl
              have e2045_150 := f_150
              have hX2045 := Evo.step hE2042 (fun _ => Nat.le_refl 0) hE2045 rfl
              have b2045_A1048 := RdO.evo rfl hE2045 b2042_A1048
              have b2045_A1050 := RdO.evo rfl hE2045 b2042_A1050
              have b2045_A1052 := RdO.evo rfl hE2045 b2042_A1052
              have b2045_A1114 := RwO.evo rfl hE2045 b2042_A1114
              have b2045_A1117 := RwO.evo rfl hE2045 b2042_A1117
              refine fl_cond e2045_150 hs (fun c2046 hs => ?_) (fun c2046 hs => ?_)
              · refine rg_plain (n := 173) (rs := []) (own0 := own2045) (K := [])
                    (bs := [0, 1, 3])
                    (ds := [⟨[], [13], [], Fct.val 151 (.int .i64 y1866)⟩,
                    ⟨[0], [], [], Fct.val 152 (.int .i64 (ad y1866 1))⟩,
                    ⟨[1], [], [], Fct.val 13 (.int .i64 (ad y1866 1))⟩]) (by kernel_rfl) hz2045 hd2045 (fun _ h => nomatch h) ?_ ?_
                · refine steps_cons (fun own a wx hf hsl hE => ?_) ?_
                  · obtain ⟨s_13, -⟩ := hsl
                    exact sg_plain rfl rfl (or_move (s_13.trans e2045_13))
                  refine steps_cons (fun own a wx hf hsl hE => ?_) ?_
                  · obtain ⟨(f_151 : a.eval (.tmp 151) = .int .i64 y1866), -⟩ := hf
                    exact sg_plain rfl rfl (or_add f_151 rfl rfl)
                  refine steps_cons (fun own a wx hf hsl hE => ?_) ?_
                  · obtain ⟨(f_152 : a.eval (.tmp 152) = .int .i64 (ad y1866 1)), -⟩ := hf
                    exact sg_plain rfl rfl (or_assign f_152)
                  exact steps_nil
                intro own2047 a2047 w2047 hd2047 hz2047 hk2047 hf2047 hE2047
                have e2047_0 : a2047.eval (.tmp 0) = .slice A1048 x1047.length cA1048 := (hk2047 0 rfl).trans e2045_0
                have e2047_1 : a2047.eval (.tmp 1) = .slice A1050 x1049.length cA1050 := (hk2047 1 rfl).trans e2045_1
                have e2047_2 : a2047.eval (.tmp 2) = .slice A1052 x1051.length cA1052 := (hk2047 2 rfl).trans e2045_2
                have e2047_9 : a2047.eval (.tmp 9) = .slice A1114 r1113.length cA1114 := (hk2047 9 rfl).trans e2045_9
                have e2047_10 : a2047.eval (.tmp 10) = .slice A1117 r1116.length cA1117 := (hk2047 10 rfl).trans e2045_10
                have e2047_11 : a2047.eval (.tmp 11) = .int .i64 i1437 := (hk2047 11 rfl).trans e2045_11
                have e2047_12 : a2047.eval (.tmp 12) = .int .i64 x2040 := (hk2047 12 rfl).trans e2045_12
                have e2047_14 : a2047.eval (.tmp 14) = .int .i64 k1867 := (hk2047 14 rfl).trans e2045_14
                obtain ⟨(f_13 : a2047.eval (.tmp 13) = .int .i64 (ad y1866 1)), -⟩ := hf2047 [2] rfl
                have e2047_13 := f_13
                have hX2047 := Evo.step hX2045 (fun _ => Nat.le_refl 0) hE2047 rfl
                have b2047_A1048 := RdO.evo rfl hE2047 b2045_A1048
                have b2047_A1050 := RdO.evo rfl hE2047 b2045_A1050
                have b2047_A1052 := RdO.evo rfl hE2047 b2045_A1052
                have b2047_A1114 := RwO.evo rfl hE2047 b2045_A1114
                have b2047_A1117 := RwO.evo rfl hE2047 b2045_A1117
                exact (K2031 _ _ own2047 _ _ hd2047 hz2047 e2047_0 e2047_1 e2047_2 e2047_9 e2047_10 e2047_11 e2047_12 e2047_13 e2047_14 hX2047 b2047_A1048 b2047_A1050 b2047_A1052 b2047_A1114 b2047_A1117 hs).1
              refine fl_skip ?_
              exact (K2031 _ _ own2045 _ _ hd2045 hz2045 e2045_0 e2045_1 e2045_2 e2045_9 e2045_10 e2045_11 e2045_12 e2045_13 e2045_14 hX2045 b2045_A1048 b2045_A1050 b2045_A1052 b2045_A1114 b2045_A1117 hs).1
            obtain ⟨x2048, hx2048, hs⟩ := obind hs
            obtain ⟨x2049, hx2049, hs⟩ := obind hs
            refine rg_draw_seq g_mixed (n := 173) (rs := []) (own0 := own1963) (K := [])
                (bs := [0, 0, 3, 7, 0, 0, 48, 112, 255])
                (ds := [⟨[], [0], [], Fct.val 131 (.slice A1048 x1047.length cA1048)⟩,
                ⟨[], [14], [], Fct.val 132 (.int .i64 k1867)⟩,
                ⟨[0, 1], [], [], Fct.val 133 (.pointer (some ((adr A1048).add ((k1867 : Int).toNat * R48.s))))⟩,
                ⟨[2], [], [], Fct.val 134 (.agg #[.int .i64 x2048.1, .int .i64 x2048.2])⟩,
                ⟨[], [9], [], Fct.val 135 (.slice A1114 r1113.length cA1114)⟩,
                ⟨[], [11], [], Fct.val 136 (.int .i64 i1437)⟩,
                ⟨[4, 5], [], [], Fct.val 137 (.pointer (some ((adr A1114).add ((i1437 : Int).toNat * R48.s))))⟩,
                ⟨[6], [], [], Fct.val 138 (.agg #[.int .i64 x2049.1, .int .i64 x2049.2])⟩,
                ⟨[3, 7], [], [], Fct.val 139 (.bool (decide (x2048 = x2049)))⟩]) (by kernel_rfl) hz1963 hd1963 (fun _ h => nomatch h) ?_ ?_
            · refine steps_cons (fun own a wx hf hsl hE => ?_) ?_
              · obtain ⟨s_0, -⟩ := hsl
                exact sg_plain rfl rfl (or_move (s_0.trans e1963_0))
              refine steps_cons (fun own a wx hf hsl hE => ?_) ?_
              · obtain ⟨s_14, -⟩ := hsl
                exact sg_plain rfl rfl (or_move (s_14.trans e1963_14))
              refine steps_cons (fun own a wx hf hsl hE => ?_) ?_
              · obtain ⟨(f_131 : a.eval (.tmp 131) = .slice A1048 x1047.length cA1048), (f_132 : a.eval (.tmp 132) = .int .i64 k1867), -⟩ := hf
                exact sg_plain rfl rfl (or_index (R := R48) (l := x1047) tl34 f_131 f_132 (RdO.some_ b1963_A1048 hx2048) hx2048)
              refine steps_cons (fun own a wx hf hsl hE => ?_) ?_
              · obtain ⟨(f_133 : a.eval (.tmp 133) = .pointer (some ((adr A1048).add ((k1867 : Int).toNat * R48.s)))), -⟩ := hf
                exact sg_plain rfl rfl (or_load (l := E48.f x2048) ta48 f_133 (RdO.cells (F := E48) (RdO.evo rfl hE b1963_A1048) hx2048) rfl)
              refine steps_cons (fun own a wx hf hsl hE => ?_) ?_
              · obtain ⟨s_9, -⟩ := hsl
                exact sg_plain rfl rfl (or_move (s_9.trans e1963_9))
              refine steps_cons (fun own a wx hf hsl hE => ?_) ?_
              · obtain ⟨s_11, -⟩ := hsl
                exact sg_plain rfl rfl (or_move (s_11.trans e1963_11))
              refine steps_cons (fun own a wx hf hsl hE => ?_) ?_
              · obtain ⟨(f_135 : a.eval (.tmp 135) = .slice A1114 r1113.length cA1114), (f_136 : a.eval (.tmp 136) = .int .i64 i1437), -⟩ := hf
                exact sg_plain rfl rfl (or_index (R := R48) (l := r1113) tl34 f_135 f_136 (RdO.some_ (RwO.rd b1963_A1114) hx2049) hx2049)
              refine steps_cons (fun own a wx hf hsl hE => ?_) ?_
              · obtain ⟨(f_137 : a.eval (.tmp 137) = .pointer (some ((adr A1114).add ((i1437 : Int).toNat * R48.s)))), -⟩ := hf
                exact sg_plain rfl rfl (or_load (l := E48.f x2049) ta48 f_137 (RdO.cells (F := E48) (RwO.rd (RwO.evo rfl hE b1963_A1114)) hx2049) rfl)
              refine steps_cons (fun own a wx hf hsl hE => ?_) ?_
              · obtain ⟨(f_134 : a.eval (.tmp 134) = .agg #[.int .i64 x2048.1, .int .i64 x2048.2]), (f_138 : a.eval (.tmp 138) = .agg #[.int .i64 x2049.1, .int .i64 x2049.2]), -⟩ := hf
                exact sg_plain rfl rfl (or_eqlA sg48 f_134 f_138 (se48 x2048.1 x2048.2 x2049.1 x2049.2 _) rfl)
              exact steps_nil
            intro own2050 a2050 w2050 hd2050 hz2050 hk2050 hf2050 hE2050
            have e2050_0 : a2050.eval (.tmp 0) = .slice A1048 x1047.length cA1048 := (hk2050 0 rfl).trans e1963_0
            have e2050_1 : a2050.eval (.tmp 1) = .slice A1050 x1049.length cA1050 := (hk2050 1 rfl).trans e1963_1
            have e2050_2 : a2050.eval (.tmp 2) = .slice A1052 x1051.length cA1052 := (hk2050 2 rfl).trans e1963_2
            have e2050_9 : a2050.eval (.tmp 9) = .slice A1114 r1113.length cA1114 := (hk2050 9 rfl).trans e1963_9
            have e2050_10 : a2050.eval (.tmp 10) = .slice A1117 r1116.length cA1117 := (hk2050 10 rfl).trans e1963_10
            have e2050_11 : a2050.eval (.tmp 11) = .int .i64 i1437 := (hk2050 11 rfl).trans e1963_11
            have e2050_12 : a2050.eval (.tmp 12) = .int .i64 x1865 := (hk2050 12 rfl).trans e1963_12
            have e2050_13 : a2050.eval (.tmp 13) = .int .i64 y1866 := (hk2050 13 rfl).trans e1963_13
            have e2050_14 : a2050.eval (.tmp 14) = .int .i64 k1867 := (hk2050 14 rfl).trans e1963_14
            obtain ⟨(f_139 : a2050.eval (.tmp 139) = .bool (decide (x2048 = x2049))), -⟩ := hf2050 [8] rfl
            have e2050_139 := f_139
            have hX2050 := Evo.step hX1963 (fun _ => Nat.le_refl 0) hE2050 rfl
            have b2050_A1048 := RdO.evo rfl hE2050 b1963_A1048
            have b2050_A1050 := RdO.evo rfl hE2050 b1963_A1050
            have b2050_A1052 := RdO.evo rfl hE2050 b1963_A1052
            have b2050_A1114 := RwO.evo rfl hE2050 b1963_A1114
            have b2050_A1117 := RwO.evo rfl hE2050 b1963_A1117
            refine fl_cond e2050_139 hs (fun c2051 hs => ?_) (fun c2051 hs => ?_)
            · refine rg_plain (n := 173) (rs := []) (own0 := own2050) (K := [])
                  (bs := [0, 1, 3])
                  (ds := [⟨[], [12], [], Fct.val 140 (.int .i64 x1865)⟩,
                  ⟨[0], [], [], Fct.val 141 (.int .i64 (ad x1865 1))⟩,
                  ⟨[1], [], [], Fct.val 12 (.int .i64 (ad x1865 1))⟩]) (by kernel_rfl) hz2050 hd2050 (fun _ h => nomatch h) ?_ ?_
              · refine steps_cons (fun own a wx hf hsl hE => ?_) ?_
                · obtain ⟨s_12, -⟩ := hsl
                  exact sg_plain rfl rfl (or_move (s_12.trans e2050_12))
                refine steps_cons (fun own a wx hf hsl hE => ?_) ?_
                · obtain ⟨(f_140 : a.eval (.tmp 140) = .int .i64 x1865), -⟩ := hf
                  exact sg_plain rfl rfl (or_add f_140 rfl rfl)
                refine steps_cons (fun own a wx hf hsl hE => ?_) ?_
                · obtain ⟨(f_141 : a.eval (.tmp 141) = .int .i64 (ad x1865 1)), -⟩ := hf
                  exact sg_plain rfl rfl (or_assign f_141)
                exact steps_nil
              intro own2052 a2052 w2052 hd2052 hz2052 hk2052 hf2052 hE2052
              have e2052_0 : a2052.eval (.tmp 0) = .slice A1048 x1047.length cA1048 := (hk2052 0 rfl).trans e2050_0
              have e2052_1 : a2052.eval (.tmp 1) = .slice A1050 x1049.length cA1050 := (hk2052 1 rfl).trans e2050_1
              have e2052_2 : a2052.eval (.tmp 2) = .slice A1052 x1051.length cA1052 := (hk2052 2 rfl).trans e2050_2
              have e2052_9 : a2052.eval (.tmp 9) = .slice A1114 r1113.length cA1114 := (hk2052 9 rfl).trans e2050_9
              have e2052_10 : a2052.eval (.tmp 10) = .slice A1117 r1116.length cA1117 := (hk2052 10 rfl).trans e2050_10
              have e2052_11 : a2052.eval (.tmp 11) = .int .i64 i1437 := (hk2052 11 rfl).trans e2050_11
              have e2052_13 : a2052.eval (.tmp 13) = .int .i64 y1866 := (hk2052 13 rfl).trans e2050_13
              have e2052_14 : a2052.eval (.tmp 14) = .int .i64 k1867 := (hk2052 14 rfl).trans e2050_14
              obtain ⟨(f_12 : a2052.eval (.tmp 12) = .int .i64 (ad x1865 1)), -⟩ := hf2052 [2] rfl
              have e2052_12 := f_12
              have hX2052 := Evo.step hX2050 (fun _ => Nat.le_refl 0) hE2052 rfl
              have b2052_A1048 := RdO.evo rfl hE2052 b2050_A1048
              have b2052_A1050 := RdO.evo rfl hE2052 b2050_A1050
              have b2052_A1052 := RdO.evo rfl hE2052 b2050_A1052
              have b2052_A1114 := RwO.evo rfl hE2052 b2050_A1114
              have b2052_A1117 := RwO.evo rfl hE2052 b2050_A1117
              exact (K2041 _ _ own2052 _ hd2052 hz2052 e2052_0 e2052_1 e2052_2 e2052_9 e2052_10 e2052_11 e2052_12 e2052_13 e2052_14 hX2052 b2052_A1048 b2052_A1050 b2052_A1052 b2052_A1114 b2052_A1117 hs)
            refine fl_skip ?_
            exact (K2041 _ _ own2050 _ hd2050 hz2050 e2050_0 e2050_1 e2050_2 e2050_9 e2050_10 e2050_11 e2050_12 e2050_13 e2050_14 hX2050 b2050_A1048 b2050_A1050 b2050_A1052 b2050_A1114 b2050_A1117 hs)
          refine fl_exit ?_
          refine hp1962 _ _ _ rfl ?_
          replace hs := hz1960 _ hs
          refine hp1960 _ _ _ rfl ?_
          refine hx1772 _ _ ?_
          refine hn1770 _ _ ?_
          refine rg_plain_seq (n := 173) (rs := []) (own0 := own1963) (K := [])
              (bs := [0, 0, 3])
              (ds := [⟨[], [12], [], Fct.val 153 (.int .i64 x1865)⟩,
              ⟨[], [13], [], Fct.val 154 (.int .i64 y1866)⟩,
              ⟨[0, 1], [], [], Fct.val 155 (.bool (!decide (x1865 = y1866)))⟩]) (by kernel_rfl) hz1963 hd1963 (fun _ h => nomatch h) ?_ ?_
          · refine steps_cons (fun own a wx hf hsl hE => ?_) ?_
            · obtain ⟨s_12, -⟩ := hsl
              exact sg_plain rfl rfl (or_move (s_12.trans e1963_12))
            refine steps_cons (fun own a wx hf hsl hE => ?_) ?_
            · obtain ⟨s_13, -⟩ := hsl
              exact sg_plain rfl rfl (or_move (s_13.trans e1963_13))
            refine steps_cons (fun own a wx hf hsl hE => ?_) ?_
            · obtain ⟨(f_153 : a.eval (.tmp 153) = .int .i64 x1865), (f_154 : a.eval (.tmp 154) = .int .i64 y1866), -⟩ := hf
              exact sg_plain rfl rfl (or_neq f_153 f_154 rfl)
            exact steps_nil
          intro own2053 a2053 w2053 hd2053 hz2053 hk2053 hf2053 hE2053
          have e2053_0 : a2053.eval (.tmp 0) = .slice A1048 x1047.length cA1048 := (hk2053 0 rfl).trans e1963_0
          have e2053_1 : a2053.eval (.tmp 1) = .slice A1050 x1049.length cA1050 := (hk2053 1 rfl).trans e1963_1
          have e2053_2 : a2053.eval (.tmp 2) = .slice A1052 x1051.length cA1052 := (hk2053 2 rfl).trans e1963_2
          have e2053_9 : a2053.eval (.tmp 9) = .slice A1114 r1113.length cA1114 := (hk2053 9 rfl).trans e1963_9
          have e2053_10 : a2053.eval (.tmp 10) = .slice A1117 r1116.length cA1117 := (hk2053 10 rfl).trans e1963_10
          have e2053_11 : a2053.eval (.tmp 11) = .int .i64 i1437 := (hk2053 11 rfl).trans e1963_11
          obtain ⟨(f_155 : a2053.eval (.tmp 155) = .bool (!decide (x1865 = y1866))), -⟩ := hf2053 [2] rfl
          have e2053_155 := f_155
          have hX2053 := Evo.step hX1963 (fun _ => Nat.le_refl 0) hE2053 rfl
          have b2053_A1048 := RdO.evo rfl hE2053 b1963_A1048
          have b2053_A1050 := RdO.evo rfl hE2053 b1963_A1050
          have b2053_A1052 := RdO.evo rfl hE2053 b1963_A1052
          have b2053_A1114 := RwO.evo rfl hE2053 b1963_A1114
          have b2053_A1117 := RwO.evo rfl hE2053 b1963_A1117
          refine fl_cond e2053_155 hs (fun c2054 hs => ?_) (fun c2054 hs => ?_)
          · refine rg_plain_seq (n := 173) (rs := []) (own0 := own2053) (K := [])
                (bs := [0])
                (ds := [⟨[], [], [], Fct.val 6 (.bool false)⟩]) (by kernel_rfl) hz2053 hd2053 (fun _ h => nomatch h) ?_ ?_
            · refine steps_cons (fun own a wx hf hsl hE => ?_) ?_
              · exact sg_plain rfl rfl (or_assign rfl)
              exact steps_nil
            intro own2055 a2055 w2055 hd2055 hz2055 hk2055 hf2055 hE2055
            obtain ⟨(f_6 : a2055.eval (.tmp 6) = .bool false), -⟩ := hf2055 [0] rfl
            have e2055_6 := f_6
            have hX2055 := Evo.step hX2053 (fun _ => Nat.le_refl 0) hE2055 rfl
            refine fl_ret ?_
            refine hp1753 _ _ _ rfl ?_
            refine hp1752 _ _ _ rfl ?_
            replace hs := hz1747 _ hs
            refine hp1747 _ _ _ rfl ?_
            refine hp1127 _ _ _ rfl ?_
            refine hp1125 _ _ _ rfl ?_
            obtain rfl := osome hs
            exact hret _ _ _ _ (.inl rfl) hd2055 (results1_ rfl (RVal.tmp_ e2055_6)) ⟨own2055, rfl, hX2055⟩
          refine fl_skip ?_
          refine hn1753 _ _ ?_
          refine hn1752 _ _ ?_
          refine rg_plain (n := 173) (rs := []) (own0 := own2053) (K := [])
              (bs := [0, 1, 3])
              (ds := [⟨[], [11], [], Fct.val 68 (.int .i64 i1437)⟩,
              ⟨[0], [], [], Fct.val 69 (.int .i64 (ad i1437 1))⟩,
              ⟨[1], [], [], Fct.val 11 (.int .i64 (ad i1437 1))⟩]) (by kernel_rfl) hz2053 hd2053 (fun _ h => nomatch h) ?_ ?_
          · refine steps_cons (fun own a wx hf hsl hE => ?_) ?_
            · obtain ⟨s_11, -⟩ := hsl
              exact sg_plain rfl rfl (or_move (s_11.trans e2053_11))
            refine steps_cons (fun own a wx hf hsl hE => ?_) ?_
            · obtain ⟨(f_68 : a.eval (.tmp 68) = .int .i64 i1437), -⟩ := hf
              exact sg_plain rfl rfl (or_add f_68 rfl rfl)
            refine steps_cons (fun own a wx hf hsl hE => ?_) ?_
            · obtain ⟨(f_69 : a.eval (.tmp 69) = .int .i64 (ad i1437 1)), -⟩ := hf
              exact sg_plain rfl rfl (or_assign f_69)
            exact steps_nil
          intro own2056 a2056 w2056 hd2056 hz2056 hk2056 hf2056 hE2056
          have e2056_0 : a2056.eval (.tmp 0) = .slice A1048 x1047.length cA1048 := (hk2056 0 rfl).trans e2053_0
          have e2056_1 : a2056.eval (.tmp 1) = .slice A1050 x1049.length cA1050 := (hk2056 1 rfl).trans e2053_1
          have e2056_2 : a2056.eval (.tmp 2) = .slice A1052 x1051.length cA1052 := (hk2056 2 rfl).trans e2053_2
          have e2056_9 : a2056.eval (.tmp 9) = .slice A1114 r1113.length cA1114 := (hk2056 9 rfl).trans e2053_9
          have e2056_10 : a2056.eval (.tmp 10) = .slice A1117 r1116.length cA1117 := (hk2056 10 rfl).trans e2053_10
          obtain ⟨(f_11 : a2056.eval (.tmp 11) = .int .i64 (ad i1437 1)), -⟩ := hf2056 [2] rfl
          have e2056_11 := f_11
          have hX2056 := Evo.step hX2053 (fun _ => Nat.le_refl 0) hE2056 rfl
          have b2056_A1048 := RdO.evo rfl hE2056 b2053_A1048
          have b2056_A1050 := RdO.evo rfl hE2056 b2053_A1050
          have b2056_A1052 := RdO.evo rfl hE2056 b2053_A1052
          have b2056_A1114 := RwO.evo rfl hE2056 b2053_A1114
          have b2056_A1117 := RwO.evo rfl hE2056 b2053_A1117
          exact hn1747 _ _ _ hs ⟨own2056, hd2056, hz2056, e2056_0, e2056_1, e2056_2, e2056_9, e2056_10, e2056_11, hX2056, b2056_A1048, b2056_A1050, b2056_A1052, b2056_A1114, b2056_A1117⟩
      refine fl_exit ?_
      refine hp1749 _ _ _ rfl ?_
      replace hs := hz1747 _ hs
      refine hp1747 _ _ _ rfl ?_
      refine hx1127 _ _ ?_
      refine hn1125 _ _ ?_
      obtain ⟨x2059, hx2059, hs⟩ := obind hs
      obtain ⟨x2062, hx2062, hs⟩ := obind hs
      refine rg_plain_seq (n := 173) (rs := []) (own0 := own1750) (K := [2058, 2060])
          (bs := [0, 0, 3, 0, 15, 31])
          (ds := [⟨[], [], [], Fct.row 2058 [] 156 3 R3 ([] : List Int)⟩,
          ⟨[], [1], [], Fct.val 157 (.slice A1050 x1049.length cA1050)⟩,
          ⟨[0, 1], [], [2058], Fct.row 2060 [] 158 3 R3 x2059⟩,
          ⟨[], [2], [], Fct.val 159 (.slice A1052 x1051.length cA1052)⟩,
          ⟨[2, 3], [], [2060], Fct.row 2063 [] 160 3 R3 x2062⟩,
          ⟨[4], [], [], Fct.rel [15, 160] (fun l => ∀ (A2064 : Option Addr) (cA2064 : Nat), l.getD 1 undef = .slice A2064 x2062.length cA2064 → l.getD 0 undef = .slice A2064 x2062.length cA2064)⟩]) (by kernel_rfl) hz1750 hd1750 (fun _ h => nomatch h) ?_ ?_
      · refine steps_cons (fun own a wx hf hsl hE => ?_) ?_
        · exact sg_plain rfl rfl (or_lit (lab := 2058) (e := 3) (cs := #[]) (F := E3) (or_new [] rfl rfl trivial (by kernel_rfl)) rfl rfl (show 0 ≤ maxLen by decide))
        refine steps_cons (fun own a wx hf hsl hE => ?_) ?_
        · obtain ⟨s_1, -⟩ := hsl
          exact sg_plain rfl rfl (or_move (s_1.trans e1750_1))
        refine steps_cons (fun own a wx hf hsl hE => ?_) ?_
        · obtain ⟨⟨⟨A2057, cA2057⟩, (f_156 : a.eval (.tmp 156) = .slice A2057 ([] : List Int).length cA2057), (b_A2057 : RwO own 2058 [] wx 3 R3 A2057 cA2057 ([] : List Int))⟩, (f_157 : a.eval (.tmp 157) = .slice A1050 x1049.length cA1050), -⟩ := hf
          exact sg_plain rfl rfl (or_append (R := R3) (lab := 2058) (lab2 := 2060) (L := []) (L3 := []) tp22 f_156 b_A2057 (by decide) f_157 (RdO.evo rfl hE b1750_A1050) hx2059 (by decide) (by decide) (mem_of rfl) (.inl (Rep.fl_flat _)))
        refine steps_cons (fun own a wx hf hsl hE => ?_) ?_
        · obtain ⟨s_2, -⟩ := hsl
          exact sg_plain rfl rfl (or_move (s_2.trans e1750_2))
        refine steps_cons (fun own a wx hf hsl hE => ?_) ?_
        · obtain ⟨⟨⟨A2061, cA2061⟩, (f_158 : a.eval (.tmp 158) = .slice A2061 x2059.length cA2061), (b_A2061 : RwO own 2060 [] wx 3 R3 A2061 cA2061 x2059)⟩, (f_159 : a.eval (.tmp 159) = .slice A1052 x1051.length cA1052), -⟩ := hf
          exact sg_plain rfl rfl (or_append (R := R3) (lab := 2060) (lab2 := 2063) (L := []) (L3 := []) tp22 f_158 b_A2061 (by decide) f_159 (RdO.evo rfl hE b1750_A1052) hx2062 (by decide) (by decide) (mem_of rfl) (.inl (Rep.fl_flat _)))
        refine steps_cons (fun own a wx hf hsl hE => ?_) ?_
        · obtain ⟨⟨⟨A2064, cA2064⟩, (f_160 : a.eval (.tmp 160) = .slice A2064 x2062.length cA2064), (b_A2064 : RwO own 2063 [] wx 3 R3 A2064 cA2064 x2062)⟩, -⟩ := hf
          exact sg_plain rfl rfl (or_mono (f := Fct.val 15 (.slice A2064 x2062.length cA2064)) (or_assign f_160) (fun own' a' w' v' hp h => fun _ _ h0' => by cases (f_160.symm.trans ((hp.2 160 (by decide)).symm.trans h0')); exact h))
        exact steps_nil
      intro own2065 a2065 w2065 hd2065 hz2065 hk2065 hf2065 hE2065
      have e2065_1 : a2065.eval (.tmp 1) = .slice A1050 x1049.length cA1050 := (hk2065 1 rfl).trans e1750_1
      have e2065_2 : a2065.eval (.tmp 2) = .slice A1052 x1051.length cA1052 := (hk2065 2 rfl).trans e1750_2
      obtain ⟨⟨⟨A2064, cA2064⟩, (f_160 : a2065.eval (.tmp 160) = .slice A2064 x2062.length cA2064), (b_A2064 : RwO own2065 2063 [] w2065 3 R3 A2064 cA2064 x2062)⟩, (q_15 : ∀ (A2064 : Option Addr) (cA2064 : Nat), a2065.eval (.tmp 160) = .slice A2064 x2062.length cA2064 → a2065.eval (.tmp 15) = .slice A2064 x2062.length cA2064), -⟩ := hf2065 [4, 5] rfl
      have f_15 := q_15 _ _ f_160
      have e2065_15 := f_15
      have hX2065 := Evo.step hX1750 (fun _ => Nat.le_refl 0) hE2065 rfl
      have b2065_A1050 := RdO.evo rfl hE2065 b1750_A1050
      have b2065_A1052 := RdO.evo rfl hE2065 b1750_A1052
      have b2065_A2064 := b_A2064
      obtain ⟨r2066, hr2066, hs⟩ := obind hs
      obtain ⟨r2067, hr2067, hs⟩ := obind hs
      obtain ⟨r2070, hr2070, hs⟩ := obind hs
      obtain ⟨r2073, hr2073, hs⟩ := obind hs
      obtain ⟨r2076, hr2076, hs⟩ := obind hs
      obtain ⟨r2079, hr2079, hs⟩ := obind hs
      obtain ⟨r2082, hr2082, hs⟩ := obind hs
      refine rg_plain_seq (n := 173) (rs := []) (own0 := own2065) (K := [])
          (bs := [0, 1, 3, 7, 3, 31, 63, 127, 3, 511, 1023, 2047, 4095])
          (ds := [⟨[], [], [], Fct.val 161 (.bool r2066)⟩,
          ⟨[0], [], [], Fct.val 162 (.bool r2066)⟩,
          ⟨[1], [1], [], Fct.cond r2066 (some 163) (Fct.val 163 (.slice A1050 x1049.length cA1050))⟩,
          ⟨[1, 2], [], [], Fct.cond r2066 (some 164) (Fct.row 2069 [] 164 3 R3 r2067)⟩,
          ⟨[1], [2], [], Fct.cond r2066 (some 165) (Fct.val 165 (.slice A1052 x1051.length cA1052))⟩,
          ⟨[1, 4], [], [], Fct.cond r2066 (some 166) (Fct.row 2072 [] 166 3 R3 r2070)⟩,
          ⟨[1, 3, 5], [], [], Fct.cond r2066 (some 167) (Fct.row 2075 [] 167 3 R3 r2073)⟩,
          ⟨[1, 6], [], [], Fct.cond r2066 (some 168) (Fct.row 2078 [] 168 3 R3 r2076)⟩,
          ⟨[1], [15], [], Fct.cond r2066 (some 169) (Fct.val 169 (.slice A2064 x2062.length cA2064))⟩,
          ⟨[1, 8], [], [], Fct.cond r2066 (some 170) (Fct.row 2081 [] 170 3 R3 r2079)⟩,
          ⟨[1, 7, 9], [], [], Fct.cond r2066 (some 171) (Fct.val 171 (.bool r2082))⟩,
          ⟨[1, 10], [], [], Fct.val 172 (.bool (r2066 && r2082))⟩,
          ⟨[11], [], [], Fct.val 6 (.bool (r2066 && r2082))⟩]) (by kernel_rfl) hz2065 hd2065 (fun _ h => nomatch h) ?_ ?_
      · refine steps_cons (fun own a wx hf hsl hE => ?_) ?_
        · exact sg_plain rfl rfl (or_call cf10 (args0) (law04_known_w _   r2066 hr2066) post_val)
        refine steps_cons (fun own a wx hf hsl hE => ?_) ?_
        · obtain ⟨(f_161 : a.eval (.tmp 161) = .bool r2066), -⟩ := hf
          exact sg_plain rfl rfl (or_move f_161)
        refine steps_cons (fun own a wx hf hsl hE => ?_) ?_
        · obtain ⟨(f_162 : a.eval (.tmp 162) = .bool r2066), -⟩ := hf
          obtain ⟨s_1, -⟩ := hsl
          refine sg_t rfl rfl rfl f_162 (fun hg => ?_)
          exact or_move (s_1.trans e2065_1)
        refine steps_cons (fun own a wx hf hsl hE => ?_) ?_
        · obtain ⟨(f_162 : a.eval (.tmp 162) = .bool r2066), c_163, -⟩ := hf
          refine sg_t rfl rfl rfl f_162 (fun hg => ?_)
          have f_163 : a.eval (.tmp 163) = .slice A1050 x1049.length cA1050 := c_163.1 hg
          exact or_call cf24 (args1 f_163) (order_Uniq_w _ x1049 A1050 cA1050 (RdO.zero (RdO.evo rfl hE b2065_A1050)) r2067 (gd_t hr2067 hg)) (post_row (m' := (look0 [(1, 2069)])) (.inl (Rep.fl_flat _)) rfl rfl (fun _ => rfl))
        refine steps_cons (fun own a wx hf hsl hE => ?_) ?_
        · obtain ⟨(f_162 : a.eval (.tmp 162) = .bool r2066), -⟩ := hf
          obtain ⟨s_2, -⟩ := hsl
          refine sg_t rfl rfl rfl f_162 (fun hg => ?_)
          exact or_move (s_2.trans e2065_2)
        refine steps_cons (fun own a wx hf hsl hE => ?_) ?_
        · obtain ⟨(f_162 : a.eval (.tmp 162) = .bool r2066), c_165, -⟩ := hf
          refine sg_t rfl rfl rfl f_162 (fun hg => ?_)
          have f_165 : a.eval (.tmp 165) = .slice A1052 x1051.length cA1052 := c_165.1 hg
          exact or_call cf24 (args1 f_165) (order_Uniq_w _ x1051 A1052 cA1052 (RdO.zero (RdO.evo rfl hE b2065_A1052)) r2070 (gd_t hr2070 hg)) (post_row (m' := (look0 [(1, 2072)])) (.inl (Rep.fl_flat _)) rfl rfl (fun _ => rfl))
        refine steps_cons (fun own a wx hf hsl hE => ?_) ?_
        · obtain ⟨(f_162 : a.eval (.tmp 162) = .bool r2066), c_164, c_166, -⟩ := hf
          refine sg_t rfl rfl rfl f_162 (fun hg => ?_)
          obtain ⟨⟨A2068, cA2068⟩, (f_164 : a.eval (.tmp 164) = .slice A2068 r2067.length cA2068), (b_A2068 : RwO own 2069 [] wx 3 R3 A2068 cA2068 r2067)⟩ := c_164.1 hg
          obtain ⟨⟨A2071, cA2071⟩, (f_166 : a.eval (.tmp 166) = .slice A2071 r2070.length cA2071), (b_A2071 : RwO own 2072 [] wx 3 R3 A2071 cA2071 r2070)⟩ := c_166.1 hg
          exact or_call cf14 (args2 f_164 f_166) (order_Merge_w _ r2067 A2068 cA2068 r2070 A2071 cA2071 (RdO.zero (RwO.rd b_A2068)) (RdO.zero (RwO.rd b_A2071)) r2073 (gd_t hr2073 hg)) (post_row (m' := (look0 [(1, 2075)])) (.inl (Rep.fl_flat _)) rfl rfl (fun _ => rfl))
        refine steps_cons (fun own a wx hf hsl hE => ?_) ?_
        · obtain ⟨(f_162 : a.eval (.tmp 162) = .bool r2066), c_167, -⟩ := hf
          refine sg_t rfl rfl rfl f_162 (fun hg => ?_)
          obtain ⟨⟨A2074, cA2074⟩, (f_167 : a.eval (.tmp 167) = .slice A2074 r2073.length cA2074), (b_A2074 : RwO own 2075 [] wx 3 R3 A2074 cA2074 r2073)⟩ := c_167.1 hg
          exact or_call cf24 (args1 f_167) (order_Uniq_w _ r2073 A2074 cA2074 (RdO.zero (RwO.rd b_A2074)) r2076 (gd_t hr2076 hg)) (post_row (m' := (look0 [(1, 2078)])) (.inl (Rep.fl_flat _)) rfl rfl (fun _ => rfl))
        refine steps_cons (fun own a wx hf hsl hE => ?_) ?_
        · obtain ⟨(f_162 : a.eval (.tmp 162) = .bool r2066), -⟩ := hf
          obtain ⟨s_15, -⟩ := hsl
          refine sg_t rfl rfl rfl f_162 (fun hg => ?_)
          exact or_move (s_15.trans e2065_15)
        refine steps_cons (fun own a wx hf hsl hE => ?_) ?_
        · obtain ⟨(f_162 : a.eval (.tmp 162) = .bool r2066), c_169, -⟩ := hf
          refine sg_t rfl rfl rfl f_162 (fun hg => ?_)
          have f_169 : a.eval (.tmp 169) = .slice A2064 x2062.length cA2064 := c_169.1 hg
          exact or_call cf24 (args1 f_169) (order_Uniq_w _ x2062 A2064 cA2064 (RdO.zero (RwO.rd (RwO.evo rfl hE b2065_A2064))) r2079 (gd_t hr2079 hg)) (post_row (m' := (look0 [(1, 2081)])) (.inl (Rep.fl_flat _)) rfl rfl (fun _ => rfl))
        refine steps_cons (fun own a wx hf hsl hE => ?_) ?_
        · obtain ⟨(f_162 : a.eval (.tmp 162) = .bool r2066), c_168, c_170, -⟩ := hf
          refine sg_t rfl rfl rfl f_162 (fun hg => ?_)
          obtain ⟨⟨A2077, cA2077⟩, (f_168 : a.eval (.tmp 168) = .slice A2077 r2076.length cA2077), (b_A2077 : RwO own 2078 [] wx 3 R3 A2077 cA2077 r2076)⟩ := c_168.1 hg
          obtain ⟨⟨A2080, cA2080⟩, (f_170 : a.eval (.tmp 170) = .slice A2080 r2079.length cA2080), (b_A2080 : RwO own 2081 [] wx 3 R3 A2080 cA2080 r2079)⟩ := c_170.1 hg
          exact or_call cf13 (args2 f_168 f_170) (law04_Ints_w _ r2076 A2077 cA2077 r2079 A2080 cA2080 (RdO.zero (RwO.rd b_A2077)) (RdO.zero (RwO.rd b_A2080)) r2082 (gd_t hr2082 hg)) post_val
        refine steps_cons (fun own a wx hf hsl hE => ?_) ?_
        · obtain ⟨(f_162 : a.eval (.tmp 162) = .bool r2066), c_171, -⟩ := hf
          exact sg_plain rfl rfl (or_and f_162 (fun hx => c_171.1 hx) rfl rfl)
        refine steps_cons (fun own a wx hf hsl hE => ?_) ?_
        · obtain ⟨(f_172 : a.eval (.tmp 172) = .bool (r2066 && r2082)), -⟩ := hf
          exact sg_plain rfl rfl (or_assign f_172)
        exact steps_nil
      intro own2083 a2083 w2083 hd2083 hz2083 hk2083 hf2083 hE2083
      obtain ⟨(f_6 : a2083.eval (.tmp 6) = .bool (r2066 && r2082)), -⟩ := hf2083 [12] rfl
      have e2083_6 := f_6
      have hX2083 := Evo.step hX2065 (fun _ => Nat.le_refl 0) hE2083 rfl
      refine fl_ret ?_
      obtain rfl := osome hs
      exact hret _ _ _ _ (.inl rfl) hd2083 (results1_ rfl (RVal.tmp_ e2083_6)) ⟨own2083, rfl, hX2083⟩

end Go.Proofs.Ythbjlgklmamhjaa
