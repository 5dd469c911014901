/-
  Chapter 04. The walks.
-/
import Derived.Test.YthbjlgklmamhjaaWp2
import Derived.Test.YthbjlgklmamhjaaWp3
import Derived.Test.YthbjlgklmamhjaaWp4
import Derived.Test.YthbjlgklmamhjaaWp5
import Derived.Test.YthbjlgklmamhjaaWp8
import Derived.Test.YthbjlgklmamhjaaSp11
namespace Go.Proofs.Ythbjlgklmamhjaa
open Go.RowKit
set_option linter.unusedVariables false
theorem law01_Of_w (w : World) (p1 : Int × Int) (r : Int × Int) (hs : law01_Of p1 = some r) :
    Calls Try.prog 34 #[.agg #[.int .i64 p1.1, .int .i64 p1.2]] w fun e w' => ∃ own' : Own, e = .returned (.agg #[.int .i64 r.1, .int .i64 r.2]) ∧ Evo [] (fun _ => 0) own' w w' := by
  refine fl_enter (n := 8) rfl rfl rfl (Nat.le_of_ble_eq_true rfl) ?_
  intro a0 Q hd0 hz0 harg hret
  have ha0 := harg 0 _ rfl
  clear harg
  have hE0 : Evo [] (fun _ => 0) (fun _ => 0) w w := Evo.refl _ _ _
  refine rg_plain_seq (n := 8) (rs := []) (own0 := (fun _ => 0)) (K := [])
      (bs := [0, 0])
      (ds := [⟨[], [0], [], Fct.blk 19 1 (fun g => .pointer (some ⟨g, 0, none⟩)) 48 #[.int .i64 p1.1, .int .i64 p1.2]⟩,
      ⟨[], [], [], Fct.blk 21 2 (fun g => .pointer (some ⟨g, 0, none⟩)) 57 #[.int .i64 0, .int .i64 0]⟩]) (by kernel_rfl) hz0 hd0 (fun _ h => nomatch h) ?_ ?_
  · refine steps_cons (fun own a wx hf hsl hE => ?_) ?_
    · obtain ⟨s_0, -⟩ := hsl
      exact sg_plain rfl rfl (or_new [(0, .agg #[.int .i64 p1.1, .int .i64 p1.2])] rfl rfl ⟨(s_0.trans ha0), trivial⟩ (by kernel_rfl))
    refine steps_cons (fun own a wx hf hsl hE => ?_) ?_
    · exact sg_plain rfl rfl (or_new [] rfl rfl trivial (by kernel_rfl))
    exact steps_nil
  intro own22 a22 w22 hd22 hz22 hk22 hf22 hE22
  obtain ⟨⟨g18, (f_1 : a22.eval (.tmp 1) = .pointer (some ⟨g18, 0, none⟩)), (b_g18 : BlkO own22 19 w22 g18 48 #[.int .i64 p1.1, .int .i64 p1.2])⟩, ⟨g20, (f_2 : a22.eval (.tmp 2) = .pointer (some ⟨g20, 0, none⟩)), (b_g20 : BlkO own22 21 w22 g20 57 #[.int .i64 0, .int .i64 0])⟩, -⟩ := hf22 [0, 1] rfl
  have e22_1 := f_1
  have e22_2 := f_2
  have hX22 := Evo.step hE0 (fun _ => Nat.le_refl 0) hE22 rfl
  have b22_g18 := b_g18
  have b22_g20 := b_g20
  refine rg_plain_seq (n := 8) (rs := [Fct.at_ 21 g20 57 #[.int .i64 0, .int .i64 0]]) (own0 := own22) (K := [21])
      (bs := [0, 1, 0, 4, 15, 31])
      (ds := [⟨[], [1], [], Fct.val 3 (.pointer (some ⟨g18, 0, none⟩))⟩,
      ⟨[0], [], [], Fct.val 4 (.int .i64 p1.1)⟩,
      ⟨[], [1], [], Fct.val 5 (.pointer (some ⟨g18, 1, none⟩))⟩,
      ⟨[2], [], [], Fct.val 6 (.int .i64 p1.2)⟩,
      ⟨[1, 3], [], [], Fct.val 7 (.agg #[.int .i64 p1.1, .int .i64 p1.2])⟩,
      ⟨[4, 6], [2], [21], Fct.at_ 23 g20 57 #[.int .i64 p1.1, .int .i64 p1.2]⟩]) (by kernel_rfl) hz22 hd22 (by simp only [List.forall_mem_cons]; exact ⟨b22_g20, fun _ h => nomatch h⟩) ?_ ?_
  · refine steps_cons (fun own a wx hf hsl hE => ?_) ?_
    · obtain ⟨s_1, -⟩ := hsl
      exact sg_plain rfl rfl (or_field fo48_0 (s_1.trans e22_1) (by rfl))
    refine steps_cons (fun own a wx hf hsl hE => ?_) ?_
    · obtain ⟨(f_3 : a.eval (.tmp 3) = .pointer (some ⟨g18, 0, none⟩)), -⟩ := hf
      exact sg_plain rfl rfl (or_load1 to3 f_3 (Blk.at_ (BlkO.evo (by decide) hE b22_g18).2 0 rfl))
    refine steps_cons (fun own a wx hf hsl hE => ?_) ?_
    · obtain ⟨s_1, -⟩ := hsl
      exact sg_plain rfl rfl (or_field fo48_1 (s_1.trans e22_1) (by rfl))
    refine steps_cons (fun own a wx hf hsl hE => ?_) ?_
    · obtain ⟨(f_5 : a.eval (.tmp 5) = .pointer (some ⟨g18, 1, none⟩)), -⟩ := hf
      exact sg_plain rfl rfl (or_load1 to3 f_5 (Blk.at_ (BlkO.evo (by decide) hE b22_g18).2 1 rfl))
    refine steps_cons (fun own a wx hf hsl hE => ?_) ?_
    · obtain ⟨(f_4 : a.eval (.tmp 4) = .int .i64 p1.1), (f_6 : a.eval (.tmp 6) = .int .i64 p1.2), -⟩ := hf
      exact sg_plain rfl rfl (or_k [(4, .int .i64 p1.1), (6, .int .i64 p1.2)] rfl rfl ⟨f_4, f_6, trivial⟩ (by kernel_rfl))
    refine steps_cons (fun own a wx hf hsl hE => ?_) ?_
    · obtain ⟨(f_7 : a.eval (.tmp 7) = .agg #[.int .i64 p1.1, .int .i64 p1.2]), (b_g20 : BlkO own 21 wx g20 57 #[.int .i64 0, .int .i64 0]), -⟩ := hf
      obtain ⟨s_2, -⟩ := hsl
      exact sg_plain rfl rfl (or_store (l := #[.int .i64 p1.1, .int .i64 p1.2]) (lab := 21) (lab2 := 23) ts57 (s_2.trans e22_2) f_7 b_g20 (by simp) (by kernel_rfl) (mem_of rfl) (by decide) (by kernel_rfl) (fun own' a' w' ha hb => hb))
    exact steps_nil
  intro own24 a24 w24 hd24 hz24 hk24 hf24 hE24
  have e24_2 : a24.eval (.tmp 2) = .pointer (some ⟨g20, 0, none⟩) := (hk24 2 rfl).trans e22_2
  obtain ⟨(b_g20 : BlkO own24 23 w24 g20 57 #[.int .i64 p1.1, .int .i64 p1.2]), -⟩ := hf24 [5] rfl
  have hX24 := Evo.step hX22 (fun _ => Nat.le_refl 0) hE24 rfl
  have b24_g20 := b_g20
  refine fl_ret ?_
  obtain rfl := (osome hs).symm
  exact hret _ _ _ _ (.inl rfl) hd24 (results1_ rfl (RVal.cell_ e24_2 (run_loadVarAgg (l := [.int .i64 p1.1, .int .i64 p1.2]) ta57 (Blk.cellsFrom b24_g20.2 0 rfl) rfl))) ⟨own24, rfl, hX24⟩

theorem law01_Ofs_w (w : World) (l1 : List (Int × Int)) (Al1 : Option Addr) (cl1 : Nat) (hl1 : RdO (fun _ => 0) [0] w R48 Al1 cl1 l1) (r : List (Int × Int)) (hs : law01_Ofs l1 = some r) :
    Calls Try.prog 21 #[.slice Al1 l1.length cl1] w fun e w' => ∃ (own' : Own) (x : Option Addr × Nat), e = .returned (.slice x.1 r.length x.2) ∧ Evo [] (fun _ => 0) own' w w' ∧ RwO own' 1 [] w' 57 R57 x.1 x.2 r := by
  refine fl_enter (n := 20) rfl rfl rfl (Nat.le_of_ble_eq_true rfl) ?_
  intro a0 Q hd0 hz0 harg hret
  have ha0 := harg 0 _ rfl
  clear harg
  have hE0 : Evo [] (fun _ => 0) (fun _ => 0) w w := Evo.refl _ _ _
  refine rg_plain_seq (n := 20) (rs := []) (own0 := (fun _ => 0)) (K := [])
      (bs := [0])
      (ds := [⟨[], [], [], Fct.val 2 (.slice none 0 0)⟩]) (by kernel_rfl) hz0 hd0 (fun _ h => nomatch h) ?_ ?_
  · refine steps_cons (fun own a wx hf hsl hE => ?_) ?_
    · exact sg_plain rfl rfl (or_assign rfl)
    exact steps_nil
  intro own77 a77 w77 hd77 hz77 hk77 hf77 hE77
  have e77_0 : a77.eval (.tmp 0) = .slice Al1 l1.length cl1 := (hk77 0 rfl).trans ha0
  have hX77 := Evo.step hE0 (fun _ => Nat.le_refl 0) hE77 rfl
  have b77_Al1 := RdO.evo rfl hE77 hl1
  refine rg_plain_seq (n := 20) (rs := []) (own0 := own77) (K := [])
      (bs := [0])
      (ds := [⟨[], [], [], Fct.val 3 (.slice none 0 0)⟩]) (by kernel_rfl) hz77 hd77 (fun _ h => nomatch h) ?_ ?_
  · refine steps_cons (fun own a wx hf hsl hE => ?_) ?_
    · exact sg_plain rfl rfl (or_assign rfl)
    exact steps_nil
  intro own78 a78 w78 hd78 hz78 hk78 hf78 hE78
  have e78_0 : a78.eval (.tmp 0) = .slice Al1 l1.length cl1 := (hk78 0 rfl).trans e77_0
  obtain ⟨(f_3 : a78.eval (.tmp 3) = .slice none 0 0), -⟩ := hf78 [0] rfl
  have e78_3 := f_3
  have hX78 := Evo.step hX77 (fun _ => Nat.le_refl 0) hE78 rfl
  have b78_Al1 := RdO.evo rfl hE78 b77_Al1
  refine fl_seq (fun Q79 hn79 hp79 => ?_)
  refine rg_plain_seq (n := 20) (rs := []) (own0 := own78) (K := [])
      (bs := [0])
      (ds := [⟨[], [], [], Fct.val 4 (.int .i64 0)⟩]) (by kernel_rfl) hz78 hd78 (fun _ h => nomatch h) ?_ ?_
  · refine steps_cons (fun own a wx hf hsl hE => ?_) ?_
    · exact sg_plain rfl rfl (or_assign rfl)
    exact steps_nil
  intro own80 a80 w80 hd80 hz80 hk80 hf80 hE80
  have e80_0 : a80.eval (.tmp 0) = .slice Al1 l1.length cl1 := (hk80 0 rfl).trans e78_0
  have e80_3 : a80.eval (.tmp 3) = .slice none 0 0 := (hk80 3 rfl).trans e78_3
  obtain ⟨(f_4 : a80.eval (.tmp 4) = .int .i64 0), -⟩ := hf80 [0] rfl
  have e80_4 := f_4
  have hX80 := Evo.step hX78 (fun _ => Nat.le_refl 0) hE80 rfl
  have b80_Al1 := RdO.evo rfl hE80 b78_Al1
  refine fl_block (fun Q81 hn81 hx81 hp81 => ?_)
  refine fl_loop (body := (fun s => law01_Ofs_b1 l1 s.1 s.2)) (z := r) (show loopO _ _ = _ from hs) (fun (s : (List (Int × Int)) × Int) a wx => match s with | (out100, i102) => ∃ (ox : Own) (A98 : Option Addr) (c99 : Nat), a.defers = [] ∧ a.tmps.size = 20 ∧ a.eval (.tmp 0) = .slice Al1 l1.length cl1 ∧ a.eval (.tmp 3) = .slice A98 out100.length c99 ∧ a.eval (.tmp 4) = .int .i64 i102 ∧ Evo [] (fun _ => 0) ox w wx ∧ RdO ox [0] wx R48 Al1 cl1 l1 ∧ RwO ox 101 [] wx 57 R57 A98 c99 out100) ?_ ?_
  · exact ⟨own80, none, 0, hd80, hz80, e80_0, e80_3, e80_4, hX80, b80_Al1, RwO.nil_⟩
  · rintro ⟨out100, i102⟩ zz122 a122 w122 ⟨own122, A98, c99, hd123, hz123, e123_0, e123_3, e123_4, hE123, b123_Al1, b123_A98⟩ hs Q122 hn122 hp122 hz122
    have hs : law01_Ofs_b1 l1 out100 i102 = some zz122 := hs
    refine fl_seq (fun Q124 hn124 hp124 => ?_)
    refine rg_plain_seq (n := 20) (rs := []) (own0 := own122) (K := [])
        (bs := [0, 0, 2, 7])
        (ds := [⟨[], [4], [], Fct.val 5 (.int .i64 i102)⟩,
        ⟨[], [0], [], Fct.val 6 (.slice Al1 l1.length cl1)⟩,
        ⟨[1], [], [], Fct.val 7 (.int .i64 (l1.length : Int))⟩,
        ⟨[0, 2], [], [], Fct.val 8 (.bool (decide (i102 < (l1.length : Int))))⟩]) (by kernel_rfl) hz123 hd123 (fun _ h => nomatch h) ?_ ?_
    · refine steps_cons (fun own a wx hf hsl hE => ?_) ?_
      · obtain ⟨s_4, -⟩ := hsl
        exact sg_plain rfl rfl (or_move (s_4.trans e123_4))
      refine steps_cons (fun own a wx hf hsl hE => ?_) ?_
      · obtain ⟨s_0, -⟩ := hsl
        exact sg_plain rfl rfl (or_move (s_0.trans e123_0))
      refine steps_cons (fun own a wx hf hsl hE => ?_) ?_
      · obtain ⟨(f_6 : a.eval (.tmp 6) = .slice Al1 l1.length cl1), -⟩ := hf
        exact sg_plain rfl rfl (or_len tu34 f_6 rfl)
      refine steps_cons (fun own a wx hf hsl hE => ?_) ?_
      · obtain ⟨(f_5 : a.eval (.tmp 5) = .int .i64 i102), (f_7 : a.eval (.tmp 7) = .int .i64 (l1.length : Int)), -⟩ := hf
        exact sg_plain rfl rfl (or_lss f_5 f_7 rfl)
      exact steps_nil
    intro own125 a125 w125 hd125 hz125 hk125 hf125 hE125
    have e125_0 : a125.eval (.tmp 0) = .slice Al1 l1.length cl1 := (hk125 0 rfl).trans e123_0
    have e125_3 : a125.eval (.tmp 3) = .slice A98 out100.length c99 := (hk125 3 rfl).trans e123_3
    have e125_4 : a125.eval (.tmp 4) = .int .i64 i102 := (hk125 4 rfl).trans e123_4
    obtain ⟨(f_8 : a125.eval (.tmp 8) = .bool (decide (i102 < (l1.length : Int)))), -⟩ := hf125 [3] rfl
    have e125_8 := f_8
    have hX125 := Evo.step hE123 (fun _ => Nat.le_refl 0) hE125 rfl
    have b125_Al1 := RdO.evo rfl hE125 b123_Al1
    have b125_A98 := RwO.evo rfl hE125 b123_A98
    refine fl_cond e125_8 hs (fun c126 hs => ?_) (fun c126 hs => ?_)
    · refine fl_skip ?_
      refine hn124 _ _ ?_
      refine fl_seq (fun Q127 hn127 hp127 => ?_)
      refine fl_block (fun Q128 hn128 hx128 hp128 => ?_)
      obtain ⟨x133, hx133, hs⟩ := obind hs
      obtain ⟨r134, hr134, hs⟩ := obind hs
      obtain ⟨x137, hx137, hs⟩ := obind hs
      refine rg_plain (n := 20) (rs := [Fct.rowAt 101 [] 57 R57 A98 c99 out100]) (own0 := own125) (K := [101])
          (bs := [0, 0, 0, 6, 14, 30, 62, 127, 255])
          (ds := [⟨[], [3], [], Fct.val 11 (.slice A98 out100.length c99)⟩,
          ⟨[], [0], [], Fct.val 12 (.slice Al1 l1.length cl1)⟩,
          ⟨[], [4], [], Fct.val 13 (.int .i64 i102)⟩,
          ⟨[1, 2], [], [], Fct.val 14 (.pointer (some ((adr Al1).add ((i102 : Int).toNat * R48.s))))⟩,
          ⟨[3], [], [], Fct.val 15 (.agg #[.int .i64 x133.1, .int .i64 x133.2])⟩,
          ⟨[4], [], [], Fct.val 16 (.agg #[.int .i64 r134.1, .int .i64 r134.2])⟩,
          ⟨[5], [], [], Fct.row 136 [] 17 57 R57 [r134]⟩,
          ⟨[0, 6, 9], [], [101], Fct.row 138 [] 18 57 R57 x137⟩,
          ⟨[7], [], [], Fct.rel [3, 18] (fun l => ∀ (A139 : Option Addr) (cA139 : Nat), l.getD 1 undef = .slice A139 x137.length cA139 → l.getD 0 undef = .slice A139 x137.length cA139)⟩]) (by kernel_rfl) hz125 hd125 (by simp only [List.forall_mem_cons]; exact ⟨b125_A98, fun _ h => nomatch h⟩) ?_ ?_
      · refine steps_cons (fun own a wx hf hsl hE => ?_) ?_
        · obtain ⟨s_3, -⟩ := hsl
          exact sg_plain rfl rfl (or_move (s_3.trans e125_3))
        refine steps_cons (fun own a wx hf hsl hE => ?_) ?_
        · obtain ⟨s_0, -⟩ := hsl
          exact sg_plain rfl rfl (or_move (s_0.trans e125_0))
        refine steps_cons (fun own a wx hf hsl hE => ?_) ?_
        · obtain ⟨s_4, -⟩ := hsl
          exact sg_plain rfl rfl (or_move (s_4.trans e125_4))
        refine steps_cons (fun own a wx hf hsl hE => ?_) ?_
        · obtain ⟨(f_12 : a.eval (.tmp 12) = .slice Al1 l1.length cl1), (f_13 : a.eval (.tmp 13) = .int .i64 i102), -⟩ := hf
          exact sg_plain rfl rfl (or_index (R := R48) (l := l1) tl34 f_12 f_13 (RdO.some_ b125_Al1 hx133) hx133)
        refine steps_cons (fun own a wx hf hsl hE => ?_) ?_
        · obtain ⟨(f_14 : a.eval (.tmp 14) = .pointer (some ((adr Al1).add ((i102 : Int).toNat * R48.s)))), -⟩ := hf
          exact sg_plain rfl rfl (or_load (l := E48.f x133) ta48 f_14 (RdO.cells (F := E48) (RdO.evo rfl hE b125_Al1) hx133) rfl)
        refine steps_cons (fun own a wx hf hsl hE => ?_) ?_
        · obtain ⟨(f_15 : a.eval (.tmp 15) = .agg #[.int .i64 x133.1, .int .i64 x133.2]), -⟩ := hf
          exact sg_plain rfl rfl (or_call cf34 (args1 f_15) (law01_Of_w _ x133  r134 hr134) post_val)
        refine steps_cons (fun own a wx hf hsl hE => ?_) ?_
        · obtain ⟨(f_16 : a.eval (.tmp 16) = .agg #[.int .i64 r134.1, .int .i64 r134.2]), -⟩ := hf
          exact sg_plain rfl rfl (or_lit (lab := 136) (e := 57) (cs := #[.int .i64 r134.1, .int .i64 r134.2]) (F := E57) (or_new [(16, .agg #[.int .i64 r134.1, .int .i64 r134.2])] rfl rfl ⟨f_16, trivial⟩ (by kernel_rfl)) rfl rfl (show 1 ≤ maxLen by decide))
        refine steps_cons (fun own a wx hf hsl hE => ?_) ?_
        · obtain ⟨(f_11 : a.eval (.tmp 11) = .slice A98 out100.length c99), ⟨⟨A135, cA135⟩, (f_17 : a.eval (.tmp 17) = .slice A135 [r134].length cA135), (b_A135 : RwO own 136 [] wx 57 R57 A135 cA135 [r134])⟩, (b_A98 : RwO own 101 [] wx 57 R57 A98 c99 out100), -⟩ := hf
          exact sg_plain rfl rfl (or_append (R := R57) (lab := 101) (lab2 := 138) (L := []) (L3 := []) tp39 f_11 b_A98 (by decide) f_17 (RwO.rd b_A135) hx137 (by decide) (by decide) (mem_of rfl) (.inl (Rep.fl_flat _)))
        refine steps_cons (fun own a wx hf hsl hE => ?_) ?_
        · obtain ⟨⟨⟨A139, cA139⟩, (f_18 : a.eval (.tmp 18) = .slice A139 x137.length cA139), (b_A139 : RwO own 138 [] wx 57 R57 A139 cA139 x137)⟩, -⟩ := hf
          exact sg_plain rfl rfl (or_mono (f := Fct.val 3 (.slice A139 x137.length cA139)) (or_assign f_18) (fun own' a' w' v' hp h => fun _ _ h0' => by cases (f_18.symm.trans ((hp.2 18 (by decide)).symm.trans h0')); exact h))
        exact steps_nil
      intro own140 a140 w140 hd140 hz140 hk140 hf140 hE140
      have e140_0 : a140.eval (.tmp 0) = .slice Al1 l1.length cl1 := (hk140 0 rfl).trans e125_0
      have e140_4 : a140.eval (.tmp 4) = .int .i64 i102 := (hk140 4 rfl).trans e125_4
      obtain ⟨⟨⟨A139, cA139⟩, (f_18 : a140.eval (.tmp 18) = .slice A139 x137.length cA139), (b_A139 : RwO own140 138 [] w140 57 R57 A139 cA139 x137)⟩, (q_3 : ∀ (A139 : Option Addr) (cA139 : Nat), a140.eval (.tmp 18) = .slice A139 x137.length cA139 → a140.eval (.tmp 3) = .slice A139 x137.length cA139), -⟩ := hf140 [7, 8] rfl
      have f_3 := q_3 _ _ f_18
      have e140_3 := f_3
      have hX140 := Evo.step hX125 (fun _ => Nat.le_refl 0) hE140 rfl
      have b140_Al1 := RdO.evo rfl hE140 b125_Al1
      have b140_A139 := b_A139
      refine hn128 _ _ ?_
      refine hn127 _ _ ?_
      refine rg_plain (n := 20) (rs := []) (own0 := own140) (K := [])
          (bs := [0, 1, 3])
          (ds := [⟨[], [4], [], Fct.val 9 (.int .i64 i102)⟩,
          ⟨[0], [], [], Fct.val 10 (.int .i64 (ad i102 1))⟩,
          ⟨[1], [], [], Fct.val 4 (.int .i64 (ad i102 1))⟩]) (by kernel_rfl) hz140 hd140 (fun _ h => nomatch h) ?_ ?_
      · refine steps_cons (fun own a wx hf hsl hE => ?_) ?_
        · obtain ⟨s_4, -⟩ := hsl
          exact sg_plain rfl rfl (or_move (s_4.trans e140_4))
        refine steps_cons (fun own a wx hf hsl hE => ?_) ?_
        · obtain ⟨(f_9 : a.eval (.tmp 9) = .int .i64 i102), -⟩ := hf
          exact sg_plain rfl rfl (or_add f_9 rfl rfl)
        refine steps_cons (fun own a wx hf hsl hE => ?_) ?_
        · obtain ⟨(f_10 : a.eval (.tmp 10) = .int .i64 (ad i102 1)), -⟩ := hf
          exact sg_plain rfl rfl (or_assign f_10)
        exact steps_nil
      intro own141 a141 w141 hd141 hz141 hk141 hf141 hE141
      have e141_0 : a141.eval (.tmp 0) = .slice Al1 l1.length cl1 := (hk141 0 rfl).trans e140_0
      have e141_3 : a141.eval (.tmp 3) = .slice A139 x137.length cA139 := (hk141 3 rfl).trans e140_3
      obtain ⟨(f_4 : a141.eval (.tmp 4) = .int .i64 (ad i102 1)), -⟩ := hf141 [2] rfl
      have e141_4 := f_4
      have hX141 := Evo.step hX140 (fun _ => Nat.le_refl 0) hE141 rfl
      have b141_Al1 := RdO.evo rfl hE141 b140_Al1
      have b141_A139 := RwO.evo rfl hE141 b140_A139
      exact hn122 _ _ _ hs ⟨(rl [(138, 101)] own141), A139, cA139, hd141, hz141, e141_0, e141_3, e141_4, (Evo.rl_ hX141 (fun _ => Nat.le_refl 0) rfl), (RdO.rl_ (mm := [(138, 101)]) b141_Al1), (RwO.rl_ (mm := [(138, 101)]) b141_A139)⟩
    refine fl_exit ?_
    refine hp124 _ _ _ rfl ?_
    replace hs := hz122 _ hs
    refine hp122 _ _ _ rfl ?_
    refine hx81 _ _ ?_
    refine hn79 _ _ ?_
    refine rg_plain_seq (n := 20) (rs := []) (own0 := own125) (K := [])
        (bs := [0, 1])
        (ds := [⟨[], [3], [], Fct.val 19 (.slice A98 out100.length c99)⟩,
        ⟨[0], [], [], Fct.val 2 (.slice A98 out100.length c99)⟩]) (by kernel_rfl) hz125 hd125 (fun _ h => nomatch h) ?_ ?_
    · refine steps_cons (fun own a wx hf hsl hE => ?_) ?_
      · obtain ⟨s_3, -⟩ := hsl
        exact sg_plain rfl rfl (or_move (s_3.trans e125_3))
      refine steps_cons (fun own a wx hf hsl hE => ?_) ?_
      · obtain ⟨(f_19 : a.eval (.tmp 19) = .slice A98 out100.length c99), -⟩ := hf
        exact sg_plain rfl rfl (or_assign f_19)
      exact steps_nil
    intro own142 a142 w142 hd142 hz142 hk142 hf142 hE142
    obtain ⟨(f_2 : a142.eval (.tmp 2) = .slice A98 out100.length c99), -⟩ := hf142 [1] rfl
    have e142_2 := f_2
    have hX142 := Evo.step hX125 (fun _ => Nat.le_refl 0) hE142 rfl
    have b142_A98 := RwO.evo rfl hE142 b125_A98
    refine fl_ret ?_
    obtain rfl := (osome hs).symm
    exact hret _ _ _ _ (.inl rfl) hd142 (results1_ rfl (RVal.tmp_ e142_2)) ⟨(rl [(101, 1)] own142), (A98, c99), rfl, (Evo.rl_ hX142 (fun _ => Nat.le_refl 0) rfl), (RwO.rl_ (mm := [(101, 1)]) b142_A98)⟩

theorem ref03_Same_w (w : World) (x1 : List (Int × Int)) (Ax1 : Option Addr) (cx1 : Nat) (b2 : List (Int × Int)) (Ab2 : Option Addr) (cb2 : Nat) (hx1 : RdO (fun _ => 0) [0] w R57 Ax1 cx1 x1) (hb2 : RdO (fun _ => 0) [0] w R57 Ab2 cb2 b2) (r : Bool) (hs : ref03_Same x1 b2 = some r) :
    Calls Try.prog 30 #[.slice Ax1 x1.length cx1, .slice Ab2 b2.length cb2] w fun e w' => ∃ own' : Own, e = .returned (.bool r) ∧ Evo [] (fun _ => 0) own' w w' := by
  refine fl_enter (n := 26) rfl rfl rfl (Nat.le_of_ble_eq_true rfl) ?_
  intro a0 Q hd0 hz0 harg hret
  have ha0 := harg 0 _ rfl
  have ha1 := harg 1 _ rfl
  clear harg
  have hE0 : Evo [] (fun _ => 0) (fun _ => 0) w w := Evo.refl _ _ _
  refine rg_plain_seq (n := 26) (rs := []) (own0 := (fun _ => 0)) (K := [])
      (bs := [0])
      (ds := [⟨[], [], [], Fct.val 4 (.bool false)⟩]) (by kernel_rfl) hz0 hd0 (fun _ h => nomatch h) ?_ ?_
  · refine steps_cons (fun own a wx hf hsl hE => ?_) ?_
    · exact sg_plain rfl rfl (or_assign rfl)
    exact steps_nil
  intro own58 a58 w58 hd58 hz58 hk58 hf58 hE58
  have e58_0 : a58.eval (.tmp 0) = .slice Ax1 x1.length cx1 := (hk58 0 rfl).trans ha0
  have e58_1 : a58.eval (.tmp 1) = .slice Ab2 b2.length cb2 := (hk58 1 rfl).trans ha1
  have hX58 := Evo.step hE0 (fun _ => Nat.le_refl 0) hE58 rfl
  have b58_Ax1 := RdO.evo rfl hE58 hx1
  have b58_Ab2 := RdO.evo rfl hE58 hb2
  refine fl_seq (fun Q59 hn59 hp59 => ?_)
  refine rg_plain_seq (n := 26) (rs := []) (own0 := own58) (K := [])
      (bs := [0, 1, 0, 4, 15])
      (ds := [⟨[], [0], [], Fct.val 6 (.slice Ax1 x1.length cx1)⟩,
      ⟨[0], [], [], Fct.val 7 (.int .i64 (x1.length : Int))⟩,
      ⟨[], [1], [], Fct.val 8 (.slice Ab2 b2.length cb2)⟩,
      ⟨[2], [], [], Fct.val 9 (.int .i64 (b2.length : Int))⟩,
      ⟨[1, 3], [], [], Fct.val 10 (.bool (!decide ((x1.length : Int) = (b2.length : Int))))⟩]) (by kernel_rfl) hz58 hd58 (fun _ h => nomatch h) ?_ ?_
  · refine steps_cons (fun own a wx hf hsl hE => ?_) ?_
    · obtain ⟨s_0, -⟩ := hsl
      exact sg_plain rfl rfl (or_move (s_0.trans e58_0))
    refine steps_cons (fun own a wx hf hsl hE => ?_) ?_
    · obtain ⟨(f_6 : a.eval (.tmp 6) = .slice Ax1 x1.length cx1), -⟩ := hf
      exact sg_plain rfl rfl (or_len tu39 f_6 rfl)
    refine steps_cons (fun own a wx hf hsl hE => ?_) ?_
    · obtain ⟨s_1, -⟩ := hsl
      exact sg_plain rfl rfl (or_move (s_1.trans e58_1))
    refine steps_cons (fun own a wx hf hsl hE => ?_) ?_
    · obtain ⟨(f_8 : a.eval (.tmp 8) = .slice Ab2 b2.length cb2), -⟩ := hf
      exact sg_plain rfl rfl (or_len tu39 f_8 rfl)
    refine steps_cons (fun own a wx hf hsl hE => ?_) ?_
    · obtain ⟨(f_7 : a.eval (.tmp 7) = .int .i64 (x1.length : Int)), (f_9 : a.eval (.tmp 9) = .int .i64 (b2.length : Int)), -⟩ := hf
      exact sg_plain rfl rfl (or_neq f_7 f_9 rfl)
    exact steps_nil
  intro own60 a60 w60 hd60 hz60 hk60 hf60 hE60
  have e60_0 : a60.eval (.tmp 0) = .slice Ax1 x1.length cx1 := (hk60 0 rfl).trans e58_0
  have e60_1 : a60.eval (.tmp 1) = .slice Ab2 b2.length cb2 := (hk60 1 rfl).trans e58_1
  obtain ⟨(f_10 : a60.eval (.tmp 10) = .bool (!decide ((x1.length : Int) = (b2.length : Int)))), -⟩ := hf60 [4] rfl
  have e60_10 := f_10
  have hX60 := Evo.step hX58 (fun _ => Nat.le_refl 0) hE60 rfl
  have b60_Ax1 := RdO.evo rfl hE60 b58_Ax1
  have b60_Ab2 := RdO.evo rfl hE60 b58_Ab2
  refine fl_cond e60_10 hs (fun c61 hs => ?_) (fun c61 hs => ?_)
  · refine rg_plain_seq (n := 26) (rs := []) (own0 := own60) (K := [])
        (bs := [0])
        (ds := [⟨[], [], [], Fct.val 4 (.bool false)⟩]) (by kernel_rfl) hz60 hd60 (fun _ h => nomatch h) ?_ ?_
    · refine steps_cons (fun own a wx hf hsl hE => ?_) ?_
      · exact sg_plain rfl rfl (or_assign rfl)
      exact steps_nil
    intro own62 a62 w62 hd62 hz62 hk62 hf62 hE62
    obtain ⟨(f_4 : a62.eval (.tmp 4) = .bool false), -⟩ := hf62 [0] rfl
    have e62_4 := f_4
    have hX62 := Evo.step hX60 (fun _ => Nat.le_refl 0) hE62 rfl
    refine fl_ret ?_
    refine hp59 _ _ _ rfl ?_
    obtain rfl := osome hs
    exact hret _ _ _ _ (.inl rfl) hd62 (results1_ rfl (RVal.tmp_ e62_4)) ⟨own62, rfl, hX62⟩
  refine fl_skip ?_
  refine hn59 _ _ ?_
  refine fl_seq (fun Q63 hn63 hp63 => ?_)
  refine rg_plain_seq (n := 26) (rs := []) (own0 := own60) (K := [])
      (bs := [0])
      (ds := [⟨[], [], [], Fct.val 5 (.int .i64 0)⟩]) (by kernel_rfl) hz60 hd60 (fun _ h => nomatch h) ?_ ?_
  · refine steps_cons (fun own a wx hf hsl hE => ?_) ?_
    · exact sg_plain rfl rfl (or_assign rfl)
    exact steps_nil
  intro own64 a64 w64 hd64 hz64 hk64 hf64 hE64
  have e64_0 : a64.eval (.tmp 0) = .slice Ax1 x1.length cx1 := (hk64 0 rfl).trans e60_0
  have e64_1 : a64.eval (.tmp 1) = .slice Ab2 b2.length cb2 := (hk64 1 rfl).trans e60_1
  obtain ⟨(f_5 : a64.eval (.tmp 5) = .int .i64 0), -⟩ := hf64 [0] rfl
  have e64_5 := f_5
  have hX64 := Evo.step hX60 (fun _ => Nat.le_refl 0) hE64 rfl
  have b64_Ax1 := RdO.evo rfl hE64 b60_Ax1
  have b64_Ab2 := RdO.evo rfl hE64 b60_Ab2
  refine fl_block (fun Q65 hn65 hx65 hp65 => ?_)
  refine fl_loop (body := (fun s => ref03_Same_b1 x1 b2 s)) (z := r) (show loopO _ _ = _ from hs) (fun (i78 : Int) a wx => ∃ (ox : Own), a.defers = [] ∧ a.tmps.size = 26 ∧ a.eval (.tmp 0) = .slice Ax1 x1.length cx1 ∧ a.eval (.tmp 1) = .slice Ab2 b2.length cb2 ∧ a.eval (.tmp 5) = .int .i64 i78 ∧ Evo [] (fun _ => 0) ox w wx ∧ RdO ox [0] wx R57 Ax1 cx1 x1 ∧ RdO ox [0] wx R57 Ab2 cb2 b2) ?_ ?_
  · exact ⟨own64, hd64, hz64, e64_0, e64_1, e64_5, hX64, b64_Ax1, b64_Ab2⟩
  · rintro i78 zz91 a91 w91 ⟨own91, hd92, hz92, e92_0, e92_1, e92_5, hE92, b92_Ax1, b92_Ab2⟩ hs Q91 hn91 hp91 hz91
    have hs : ref03_Same_b1 x1 b2 i78 = some zz91 := hs
    refine fl_seq (fun Q93 hn93 hp93 => ?_)
    refine rg_plain_seq (n := 26) (rs := []) (own0 := own91) (K := [])
        (bs := [0, 0, 2, 7])
        (ds := [⟨[], [5], [], Fct.val 11 (.int .i64 i78)⟩,
        ⟨[], [0], [], Fct.val 12 (.slice Ax1 x1.length cx1)⟩,
        ⟨[1], [], [], Fct.val 13 (.int .i64 (x1.length : Int))⟩,
        ⟨[0, 2], [], [], Fct.val 14 (.bool (decide (i78 < (x1.length : Int))))⟩]) (by kernel_rfl) hz92 hd92 (fun _ h => nomatch h) ?_ ?_
    · refine steps_cons (fun own a wx hf hsl hE => ?_) ?_
      · obtain ⟨s_5, -⟩ := hsl
        exact sg_plain rfl rfl (or_move (s_5.trans e92_5))
      refine steps_cons (fun own a wx hf hsl hE => ?_) ?_
      · obtain ⟨s_0, -⟩ := hsl
        exact sg_plain rfl rfl (or_move (s_0.trans e92_0))
      refine steps_cons (fun own a wx hf hsl hE => ?_) ?_
      · obtain ⟨(f_12 : a.eval (.tmp 12) = .slice Ax1 x1.length cx1), -⟩ := hf
        exact sg_plain rfl rfl (or_len tu39 f_12 rfl)
      refine steps_cons (fun own a wx hf hsl hE => ?_) ?_
      · obtain ⟨(f_11 : a.eval (.tmp 11) = .int .i64 i78), (f_13 : a.eval (.tmp 13) = .int .i64 (x1.length : Int)), -⟩ := hf
        exact sg_plain rfl rfl (or_lss f_11 f_13 rfl)
      exact steps_nil
    intro own94 a94 w94 hd94 hz94 hk94 hf94 hE94
    have e94_0 : a94.eval (.tmp 0) = .slice Ax1 x1.length cx1 := (hk94 0 rfl).trans e92_0
    have e94_1 : a94.eval (.tmp 1) = .slice Ab2 b2.length cb2 := (hk94 1 rfl).trans e92_1
    have e94_5 : a94.eval (.tmp 5) = .int .i64 i78 := (hk94 5 rfl).trans e92_5
    obtain ⟨(f_14 : a94.eval (.tmp 14) = .bool (decide (i78 < (x1.length : Int)))), -⟩ := hf94 [3] rfl
    have e94_14 := f_14
    have hX94 := Evo.step hE92 (fun _ => Nat.le_refl 0) hE94 rfl
    have b94_Ax1 := RdO.evo rfl hE94 b92_Ax1
    have b94_Ab2 := RdO.evo rfl hE94 b92_Ab2
    refine fl_cond e94_14 hs (fun c95 hs => ?_) (fun c95 hs => ?_)
    · refine fl_skip ?_
      refine hn93 _ _ ?_
      refine fl_seq (fun Q96 hn96 hp96 => ?_)
      refine fl_block (fun Q97 hn97 hx97 hp97 => ?_)
      obtain ⟨x98, hx98, hs⟩ := obind hs
      obtain ⟨x99, hx99, hs⟩ := obind hs
      refine rg_draw_seq g_mixed (n := 26) (rs := []) (own0 := own94) (K := [])
          (bs := [0, 0, 3, 7, 0, 0, 48, 112, 255])
          (ds := [⟨[], [0], [], Fct.val 17 (.slice Ax1 x1.length cx1)⟩,
          ⟨[], [5], [], Fct.val 18 (.int .i64 i78)⟩,
          ⟨[0, 1], [], [], Fct.val 19 (.pointer (some ((adr Ax1).add ((i78 : Int).toNat * R57.s))))⟩,
          ⟨[2], [], [], Fct.val 20 (.agg #[.int .i64 x98.1, .int .i64 x98.2])⟩,
          ⟨[], [1], [], Fct.val 21 (.slice Ab2 b2.length cb2)⟩,
          ⟨[], [5], [], Fct.val 22 (.int .i64 i78)⟩,
          ⟨[4, 5], [], [], Fct.val 23 (.pointer (some ((adr Ab2).add ((i78 : Int).toNat * R57.s))))⟩,
          ⟨[6], [], [], Fct.val 24 (.agg #[.int .i64 x99.1, .int .i64 x99.2])⟩,
          ⟨[3, 7], [], [], Fct.val 25 (.bool (!decide (x98 = x99)))⟩]) (by kernel_rfl) hz94 hd94 (fun _ h => nomatch h) ?_ ?_
      · refine steps_cons (fun own a wx hf hsl hE => ?_) ?_
        · obtain ⟨s_0, -⟩ := hsl
          exact sg_plain rfl rfl (or_move (s_0.trans e94_0))
        refine steps_cons (fun own a wx hf hsl hE => ?_) ?_
        · obtain ⟨s_5, -⟩ := hsl
          exact sg_plain rfl rfl (or_move (s_5.trans e94_5))
        refine steps_cons (fun own a wx hf hsl hE => ?_) ?_
        · obtain ⟨(f_17 : a.eval (.tmp 17) = .slice Ax1 x1.length cx1), (f_18 : a.eval (.tmp 18) = .int .i64 i78), -⟩ := hf
          exact sg_plain rfl rfl (or_index (R := R57) (l := x1) tl39 f_17 f_18 (RdO.some_ b94_Ax1 hx98) hx98)
        refine steps_cons (fun own a wx hf hsl hE => ?_) ?_
        · obtain ⟨(f_19 : a.eval (.tmp 19) = .pointer (some ((adr Ax1).add ((i78 : Int).toNat * R57.s)))), -⟩ := hf
          exact sg_plain rfl rfl (or_load (l := E57.f x98) ta57 f_19 (RdO.cells (F := E57) (RdO.evo rfl hE b94_Ax1) hx98) rfl)
        refine steps_cons (fun own a wx hf hsl hE => ?_) ?_
        · obtain ⟨s_1, -⟩ := hsl
          exact sg_plain rfl rfl (or_move (s_1.trans e94_1))
        refine steps_cons (fun own a wx hf hsl hE => ?_) ?_
        · obtain ⟨s_5, -⟩ := hsl
          exact sg_plain rfl rfl (or_move (s_5.trans e94_5))
        refine steps_cons (fun own a wx hf hsl hE => ?_) ?_
        · obtain ⟨(f_21 : a.eval (.tmp 21) = .slice Ab2 b2.length cb2), (f_22 : a.eval (.tmp 22) = .int .i64 i78), -⟩ := hf
          exact sg_plain rfl rfl (or_index (R := R57) (l := b2) tl39 f_21 f_22 (RdO.some_ b94_Ab2 hx99) hx99)
        refine steps_cons (fun own a wx hf hsl hE => ?_) ?_
        · obtain ⟨(f_23 : a.eval (.tmp 23) = .pointer (some ((adr Ab2).add ((i78 : Int).toNat * R57.s)))), -⟩ := hf
          exact sg_plain rfl rfl (or_load (l := E57.f x99) ta57 f_23 (RdO.cells (F := E57) (RdO.evo rfl hE b94_Ab2) hx99) rfl)
        refine steps_cons (fun own a wx hf hsl hE => ?_) ?_
        · obtain ⟨(f_20 : a.eval (.tmp 20) = .agg #[.int .i64 x98.1, .int .i64 x98.2]), (f_24 : a.eval (.tmp 24) = .agg #[.int .i64 x99.1, .int .i64 x99.2]), -⟩ := hf
          exact sg_plain rfl rfl (or_neqA sg57 f_20 f_24 (sn57 x98.1 x98.2 x99.1 x99.2 _) rfl)
        exact steps_nil
      intro own100 a100 w100 hd100 hz100 hk100 hf100 hE100
      have e100_0 : a100.eval (.tmp 0) = .slice Ax1 x1.length cx1 := (hk100 0 rfl).trans e94_0
      have e100_1 : a100.eval (.tmp 1) = .slice Ab2 b2.length cb2 := (hk100 1 rfl).trans e94_1
      have e100_5 : a100.eval (.tmp 5) = .int .i64 i78 := (hk100 5 rfl).trans e94_5
      obtain ⟨(f_25 : a100.eval (.tmp 25) = .bool (!decide (x98 = x99))), -⟩ := hf100 [8] rfl
      have e100_25 := f_25
      have hX100 := Evo.step hX94 (fun _ => Nat.le_refl 0) hE100 rfl
      have b100_Ax1 := RdO.evo rfl hE100 b94_Ax1
      have b100_Ab2 := RdO.evo rfl hE100 b94_Ab2
      refine fl_cond e100_25 hs (fun c101 hs => ?_) (fun c101 hs => ?_)
      · refine rg_plain_seq (n := 26) (rs := []) (own0 := own100) (K := [])
            (bs := [0])
            (ds := [⟨[], [], [], Fct.val 4 (.bool false)⟩]) (by kernel_rfl) hz100 hd100 (fun _ h => nomatch h) ?_ ?_
        · refine steps_cons (fun own a wx hf hsl hE => ?_) ?_
          · exact sg_plain rfl rfl (or_assign rfl)
          exact steps_nil
        intro own102 a102 w102 hd102 hz102 hk102 hf102 hE102
        obtain ⟨(f_4 : a102.eval (.tmp 4) = .bool false), -⟩ := hf102 [0] rfl
        have e102_4 := f_4
        have hX102 := Evo.step hX100 (fun _ => Nat.le_refl 0) hE102 rfl
        refine fl_ret ?_
        refine hp97 _ _ _ rfl ?_
        refine hp96 _ _ _ rfl ?_
        replace hs := hz91 _ hs
        refine hp91 _ _ _ rfl ?_
        refine hp65 _ _ _ rfl ?_
        refine hp63 _ _ _ rfl ?_
        obtain rfl := osome hs
        exact hret _ _ _ _ (.inl rfl) hd102 (results1_ rfl (RVal.tmp_ e102_4)) ⟨own102, rfl, hX102⟩
      refine fl_skip ?_
      refine hn97 _ _ ?_
      refine hn96 _ _ ?_
      refine rg_plain (n := 26) (rs := []) (own0 := own100) (K := [])
          (bs := [0, 1, 3])
          (ds := [⟨[], [5], [], Fct.val 15 (.int .i64 i78)⟩,
          ⟨[0], [], [], Fct.val 16 (.int .i64 (ad i78 1))⟩,
          ⟨[1], [], [], Fct.val 5 (.int .i64 (ad i78 1))⟩]) (by kernel_rfl) hz100 hd100 (fun _ h => nomatch h) ?_ ?_
      · refine steps_cons (fun own a wx hf hsl hE => ?_) ?_
        · obtain ⟨s_5, -⟩ := hsl
          exact sg_plain rfl rfl (or_move (s_5.trans e100_5))
        refine steps_cons (fun own a wx hf hsl hE => ?_) ?_
        · obtain ⟨(f_15 : a.eval (.tmp 15) = .int .i64 i78), -⟩ := hf
          exact sg_plain rfl rfl (or_add f_15 rfl rfl)
        refine steps_cons (fun own a wx hf hsl hE => ?_) ?_
        · obtain ⟨(f_16 : a.eval (.tmp 16) = .int .i64 (ad i78 1)), -⟩ := hf
          exact sg_plain rfl rfl (or_assign f_16)
        exact steps_nil
      intro own103 a103 w103 hd103 hz103 hk103 hf103 hE103
      have e103_0 : a103.eval (.tmp 0) = .slice Ax1 x1.length cx1 := (hk103 0 rfl).trans e100_0
      have e103_1 : a103.eval (.tmp 1) = .slice Ab2 b2.length cb2 := (hk103 1 rfl).trans e100_1
      obtain ⟨(f_5 : a103.eval (.tmp 5) = .int .i64 (ad i78 1)), -⟩ := hf103 [2] rfl
      have e103_5 := f_5
      have hX103 := Evo.step hX100 (fun _ => Nat.le_refl 0) hE103 rfl
      have b103_Ax1 := RdO.evo rfl hE103 b100_Ax1
      have b103_Ab2 := RdO.evo rfl hE103 b100_Ab2
      exact hn91 _ _ _ hs ⟨own103, hd103, hz103, e103_0, e103_1, e103_5, hX103, b103_Ax1, b103_Ab2⟩
    refine fl_exit ?_
    refine hp93 _ _ _ rfl ?_
    replace hs := hz91 _ hs
    refine hp91 _ _ _ rfl ?_
    refine hx65 _ _ ?_
    refine hn63 _ _ ?_
    refine rg_plain_seq (n := 26) (rs := []) (own0 := own94) (K := [])
        (bs := [0])
        (ds := [⟨[], [], [], Fct.val 4 (.bool true)⟩]) (by kernel_rfl) hz94 hd94 (fun _ h => nomatch h) ?_ ?_
    · refine steps_cons (fun own a wx hf hsl hE => ?_) ?_
      · exact sg_plain rfl rfl (or_assign rfl)
      exact steps_nil
    intro own104 a104 w104 hd104 hz104 hk104 hf104 hE104
    obtain ⟨(f_4 : a104.eval (.tmp 4) = .bool true), -⟩ := hf104 [0] rfl
    have e104_4 := f_4
    have hX104 := Evo.step hX94 (fun _ => Nat.le_refl 0) hE104 rfl
    refine fl_ret ?_
    obtain rfl := osome hs
    exact hret _ _ _ _ (.inl rfl) hd104 (results1_ rfl (RVal.tmp_ e104_4)) ⟨own104, rfl, hX104⟩

theorem law03_Same_w (w : World) (l1 : List (Int × Int)) (Al1 : Option Addr) (cl1 : Nat) (x2 : List (Int × Int)) (Ax2 : Option Addr) (cx2 : Nat) (hl1 : RdO (fun _ => 0) [0] w R48 Al1 cl1 l1) (hx2 : RdO (fun _ => 0) [0] w R57 Ax2 cx2 x2) (r : Bool) (hs : law03_Same l1 x2 = some r) :
    Calls Try.prog 18 #[.slice Al1 l1.length cl1, .slice Ax2 x2.length cx2] w fun e w' => ∃ own' : Own, e = .returned (.bool r) ∧ Evo [] (fun _ => 0) own' w w' := by
  refine fl_enter (n := 9) rfl rfl rfl (Nat.le_of_ble_eq_true rfl) ?_
  intro a0 Q hd0 hz0 harg hret
  have ha0 := harg 0 _ rfl
  have ha1 := harg 1 _ rfl
  clear harg
  have hE0 : Evo [] (fun _ => 0) (fun _ => 0) w w := Evo.refl _ _ _
  refine rg_plain_seq (n := 9) (rs := []) (own0 := (fun _ => 0)) (K := [])
      (bs := [0])
      (ds := [⟨[], [], [], Fct.val 4 (.bool false)⟩]) (by kernel_rfl) hz0 hd0 (fun _ h => nomatch h) ?_ ?_
  · refine steps_cons (fun own a wx hf hsl hE => ?_) ?_
    · exact sg_plain rfl rfl (or_assign rfl)
    exact steps_nil
  intro own17 a17 w17 hd17 hz17 hk17 hf17 hE17
  have e17_0 : a17.eval (.tmp 0) = .slice Al1 l1.length cl1 := (hk17 0 rfl).trans ha0
  have e17_1 : a17.eval (.tmp 1) = .slice Ax2 x2.length cx2 := (hk17 1 rfl).trans ha1
  have hX17 := Evo.step hE0 (fun _ => Nat.le_refl 0) hE17 rfl
  have b17_Al1 := RdO.evo rfl hE17 hl1
  have b17_Ax2 := RdO.evo rfl hE17 hx2
  obtain ⟨r18, hr18, hs⟩ := obind hs
  obtain ⟨r21, hr21, hs⟩ := obind hs
  refine rg_plain_seq (n := 9) (rs := []) (own0 := own17) (K := [])
      (bs := [0, 1, 0, 7, 15])
      (ds := [⟨[], [0], [], Fct.val 5 (.slice Al1 l1.length cl1)⟩,
      ⟨[0], [], [], Fct.row 20 [] 6 57 R57 r18⟩,
      ⟨[], [1], [], Fct.val 7 (.slice Ax2 x2.length cx2)⟩,
      ⟨[1, 2], [], [], Fct.val 8 (.bool r21)⟩,
      ⟨[3], [], [], Fct.val 4 (.bool r21)⟩]) (by kernel_rfl) hz17 hd17 (fun _ h => nomatch h) ?_ ?_
  · refine steps_cons (fun own a wx hf hsl hE => ?_) ?_
    · obtain ⟨s_0, -⟩ := hsl
      exact sg_plain rfl rfl (or_move (s_0.trans e17_0))
    refine steps_cons (fun own a wx hf hsl hE => ?_) ?_
    · obtain ⟨(f_5 : a.eval (.tmp 5) = .slice Al1 l1.length cl1), -⟩ := hf
      exact sg_plain rfl rfl (or_call cf21 (args1 f_5) (law01_Ofs_w _ l1 Al1 cl1 (RdO.zero (RdO.evo rfl hE b17_Al1)) r18 hr18) (post_row (m' := (look0 [(1, 20)])) (.inl (Rep.fl_flat _)) rfl rfl (fun _ => rfl)))
    refine steps_cons (fun own a wx hf hsl hE => ?_) ?_
    · obtain ⟨s_1, -⟩ := hsl
      exact sg_plain rfl rfl (or_move (s_1.trans e17_1))
    refine steps_cons (fun own a wx hf hsl hE => ?_) ?_
    · obtain ⟨⟨⟨A19, cA19⟩, (f_6 : a.eval (.tmp 6) = .slice A19 r18.length cA19), (b_A19 : RwO own 20 [] wx 57 R57 A19 cA19 r18)⟩, (f_7 : a.eval (.tmp 7) = .slice Ax2 x2.length cx2), -⟩ := hf
      exact sg_plain rfl rfl (or_call cf30 (args2 f_6 f_7) (ref03_Same_w _ r18 A19 cA19 x2 Ax2 cx2 (RdO.zero (RwO.rd b_A19)) (RdO.zero (RdO.evo rfl hE b17_Ax2)) r21 hr21) post_val)
    refine steps_cons (fun own a wx hf hsl hE => ?_) ?_
    · obtain ⟨(f_8 : a.eval (.tmp 8) = .bool r21), -⟩ := hf
      exact sg_plain rfl rfl (or_assign f_8)
    exact steps_nil
  intro own22 a22 w22 hd22 hz22 hk22 hf22 hE22
  obtain ⟨(f_4 : a22.eval (.tmp 4) = .bool r21), -⟩ := hf22 [4] rfl
  have e22_4 := f_4
  have hX22 := Evo.step hX17 (fun _ => Nat.le_refl 0) hE22 rfl
  refine fl_ret ?_
  obtain rfl := (osome hs).symm
  exact hret _ _ _ _ (.inl rfl) hd22 (results1_ rfl (RVal.tmp_ e22_4)) ⟨own22, rfl, hX22⟩

theorem ref01_Less_w (w : World) (x1 : Int × Int) (b2 : Int × Int) (r : Bool) (hs : ref01_Less x1 b2 = some r) :
    Calls Try.prog 33 #[.agg #[.int .i64 x1.1, .int .i64 x1.2], .agg #[.int .i64 b2.1, .int .i64 b2.2]] w fun e w' => ∃ own' : Own, e = .returned (.bool r) ∧ Evo [] (fun _ => 0) own' w w' := by
  refine fl_enter (n := 20) rfl rfl rfl (Nat.le_of_ble_eq_true rfl) ?_
  intro a0 Q hd0 hz0 harg hret
  have ha0 := harg 0 _ rfl
  have ha1 := harg 1 _ rfl
  clear harg
  have hE0 : Evo [] (fun _ => 0) (fun _ => 0) w w := Evo.refl _ _ _
  refine rg_plain_seq (n := 20) (rs := []) (own0 := (fun _ => 0)) (K := [])
      (bs := [0, 0, 0])
      (ds := [⟨[], [0], [], Fct.blk 22 2 (fun g => .pointer (some ⟨g, 0, none⟩)) 57 #[.int .i64 x1.1, .int .i64 x1.2]⟩,
      ⟨[], [1], [], Fct.blk 24 3 (fun g => .pointer (some ⟨g, 0, none⟩)) 57 #[.int .i64 b2.1, .int .i64 b2.2]⟩,
      ⟨[], [], [], Fct.val 4 (.bool false)⟩]) (by kernel_rfl) hz0 hd0 (fun _ h => nomatch h) ?_ ?_
  · refine steps_cons (fun own a wx hf hsl hE => ?_) ?_
    · obtain ⟨s_0, -⟩ := hsl
      exact sg_plain rfl rfl (or_new [(0, .agg #[.int .i64 x1.1, .int .i64 x1.2])] rfl rfl ⟨(s_0.trans ha0), trivial⟩ (by kernel_rfl))
    refine steps_cons (fun own a wx hf hsl hE => ?_) ?_
    · obtain ⟨s_1, -⟩ := hsl
      exact sg_plain rfl rfl (or_new [(1, .agg #[.int .i64 b2.1, .int .i64 b2.2])] rfl rfl ⟨(s_1.trans ha1), trivial⟩ (by kernel_rfl))
    refine steps_cons (fun own a wx hf hsl hE => ?_) ?_
    · exact sg_plain rfl rfl (or_assign rfl)
    exact steps_nil
  intro own25 a25 w25 hd25 hz25 hk25 hf25 hE25
  obtain ⟨⟨g21, (f_2 : a25.eval (.tmp 2) = .pointer (some ⟨g21, 0, none⟩)), (b_g21 : BlkO own25 22 w25 g21 57 #[.int .i64 x1.1, .int .i64 x1.2])⟩, ⟨g23, (f_3 : a25.eval (.tmp 3) = .pointer (some ⟨g23, 0, none⟩)), (b_g23 : BlkO own25 24 w25 g23 57 #[.int .i64 b2.1, .int .i64 b2.2])⟩, -⟩ := hf25 [0, 1] rfl
  have e25_2 := f_2
  have e25_3 := f_3
  have hX25 := Evo.step hE0 (fun _ => Nat.le_refl 0) hE25 rfl
  have b25_g21 := b_g21
  have b25_g23 := b_g23
  refine fl_seq (fun Q26 hn26 hp26 => ?_)
  refine rg_plain_seq (n := 20) (rs := []) (own0 := own25) (K := [])
      (bs := [0, 1, 0, 4, 15])
      (ds := [⟨[], [2], [], Fct.val 5 (.pointer (some ⟨g21, 0, none⟩))⟩,
      ⟨[0], [], [], Fct.val 6 (.int .i64 x1.1)⟩,
      ⟨[], [3], [], Fct.val 7 (.pointer (some ⟨g23, 0, none⟩))⟩,
      ⟨[2], [], [], Fct.val 8 (.int .i64 b2.1)⟩,
      ⟨[1, 3], [], [], Fct.val 9 (.bool (!decide (x1.1 = b2.1)))⟩]) (by kernel_rfl) hz25 hd25 (fun _ h => nomatch h) ?_ ?_
  · refine steps_cons (fun own a wx hf hsl hE => ?_) ?_
    · obtain ⟨s_2, -⟩ := hsl
      exact sg_plain rfl rfl (or_field fo57_0 (s_2.trans e25_2) (by rfl))
    refine steps_cons (fun own a wx hf hsl hE => ?_) ?_
    · obtain ⟨(f_5 : a.eval (.tmp 5) = .pointer (some ⟨g21, 0, none⟩)), -⟩ := hf
      exact sg_plain rfl rfl (or_load1 to3 f_5 (Blk.at_ (BlkO.evo (by decide) hE b25_g21).2 0 rfl))
    refine steps_cons (fun own a wx hf hsl hE => ?_) ?_
    · obtain ⟨s_3, -⟩ := hsl
      exact sg_plain rfl rfl (or_field fo57_0 (s_3.trans e25_3) (by rfl))
    refine steps_cons (fun own a wx hf hsl hE => ?_) ?_
    · obtain ⟨(f_7 : a.eval (.tmp 7) = .pointer (some ⟨g23, 0, none⟩)), -⟩ := hf
      exact sg_plain rfl rfl (or_load1 to3 f_7 (Blk.at_ (BlkO.evo (by decide) hE b25_g23).2 0 rfl))
    refine steps_cons (fun own a wx hf hsl hE => ?_) ?_
    · obtain ⟨(f_6 : a.eval (.tmp 6) = .int .i64 x1.1), (f_8 : a.eval (.tmp 8) = .int .i64 b2.1), -⟩ := hf
      exact sg_plain rfl rfl (or_neq f_6 f_8 rfl)
    exact steps_nil
  intro own27 a27 w27 hd27 hz27 hk27 hf27 hE27
  have e27_2 : a27.eval (.tmp 2) = .pointer (some ⟨g21, 0, none⟩) := (hk27 2 rfl).trans e25_2
  have e27_3 : a27.eval (.tmp 3) = .pointer (some ⟨g23, 0, none⟩) := (hk27 3 rfl).trans e25_3
  obtain ⟨(f_9 : a27.eval (.tmp 9) = .bool (!decide (x1.1 = b2.1))), -⟩ := hf27 [4] rfl
  have e27_9 := f_9
  have hX27 := Evo.step hX25 (fun _ => Nat.le_refl 0) hE27 rfl
  have b27_g21 := BlkO.evo (by decide) hE27 b25_g21
  have b27_g23 := BlkO.evo (by decide) hE27 b25_g23
  refine fl_cond e27_9 hs (fun c28 hs => ?_) (fun c28 hs => ?_)
  · refine rg_plain_seq (n := 20) (rs := []) (own0 := own27) (K := [])
        (bs := [0, 1, 0, 4, 15, 31])
        (ds := [⟨[], [2], [], Fct.val 10 (.pointer (some ⟨g21, 0, none⟩))⟩,
        ⟨[0], [], [], Fct.val 11 (.int .i64 x1.1)⟩,
        ⟨[], [3], [], Fct.val 12 (.pointer (some ⟨g23, 0, none⟩))⟩,
        ⟨[2], [], [], Fct.val 13 (.int .i64 b2.1)⟩,
        ⟨[1, 3], [], [], Fct.val 14 (.bool (decide (x1.1 < b2.1)))⟩,
        ⟨[4], [], [], Fct.val 4 (.bool (decide (x1.1 < b2.1)))⟩]) (by kernel_rfl) hz27 hd27 (fun _ h => nomatch h) ?_ ?_
    · refine steps_cons (fun own a wx hf hsl hE => ?_) ?_
      · obtain ⟨s_2, -⟩ := hsl
        exact sg_plain rfl rfl (or_field fo57_0 (s_2.trans e27_2) (by rfl))
      refine steps_cons (fun own a wx hf hsl hE => ?_) ?_
      · obtain ⟨(f_10 : a.eval (.tmp 10) = .pointer (some ⟨g21, 0, none⟩)), -⟩ := hf
        exact sg_plain rfl rfl (or_load1 to3 f_10 (Blk.at_ (BlkO.evo (by decide) hE b27_g21).2 0 rfl))
      refine steps_cons (fun own a wx hf hsl hE => ?_) ?_
      · obtain ⟨s_3, -⟩ := hsl
        exact sg_plain rfl rfl (or_field fo57_0 (s_3.trans e27_3) (by rfl))
      refine steps_cons (fun own a wx hf hsl hE => ?_) ?_
      · obtain ⟨(f_12 : a.eval (.tmp 12) = .pointer (some ⟨g23, 0, none⟩)), -⟩ := hf
        exact sg_plain rfl rfl (or_load1 to3 f_12 (Blk.at_ (BlkO.evo (by decide) hE b27_g23).2 0 rfl))
      refine steps_cons (fun own a wx hf hsl hE => ?_) ?_
      · obtain ⟨(f_11 : a.eval (.tmp 11) = .int .i64 x1.1), (f_13 : a.eval (.tmp 13) = .int .i64 b2.1), -⟩ := hf
        exact sg_plain rfl rfl (or_lss f_11 f_13 rfl)
      refine steps_cons (fun own a wx hf hsl hE => ?_) ?_
      · obtain ⟨(f_14 : a.eval (.tmp 14) = .bool (decide (x1.1 < b2.1))), -⟩ := hf
        exact sg_plain rfl rfl (or_assign f_14)
      exact steps_nil
    intro own29 a29 w29 hd29 hz29 hk29 hf29 hE29
    obtain ⟨(f_4 : a29.eval (.tmp 4) = .bool (decide (x1.1 < b2.1))), -⟩ := hf29 [5] rfl
    have e29_4 := f_4
    have hX29 := Evo.step hX27 (fun _ => Nat.le_refl 0) hE29 rfl
    refine fl_ret ?_
    refine hp26 _ _ _ rfl ?_
    obtain rfl := osome hs
    exact hret _ _ _ _ (.inl rfl) hd29 (results1_ rfl (RVal.tmp_ e29_4)) ⟨own29, rfl, hX29⟩
  refine fl_skip ?_
  refine hn26 _ _ ?_
  refine rg_plain_seq (n := 20) (rs := []) (own0 := own27) (K := [])
      (bs := [0, 1, 0, 4, 15, 31])
      (ds := [⟨[], [2], [], Fct.val 15 (.pointer (some ⟨g21, 1, none⟩))⟩,
      ⟨[0], [], [], Fct.val 16 (.int .i64 x1.2)⟩,
      ⟨[], [3], [], Fct.val 17 (.pointer (some ⟨g23, 1, none⟩))⟩,
      ⟨[2], [], [], Fct.val 18 (.int .i64 b2.2)⟩,
      ⟨[1, 3], [], [], Fct.val 19 (.bool (decide (x1.2 < b2.2)))⟩,
      ⟨[4], [], [], Fct.val 4 (.bool (decide (x1.2 < b2.2)))⟩]) (by kernel_rfl) hz27 hd27 (fun _ h => nomatch h) ?_ ?_
  · refine steps_cons (fun own a wx hf hsl hE => ?_) ?_
    · obtain ⟨s_2, -⟩ := hsl
      exact sg_plain rfl rfl (or_field fo57_1 (s_2.trans e27_2) (by rfl))
    refine steps_cons (fun own a wx hf hsl hE => ?_) ?_
    · obtain ⟨(f_15 : a.eval (.tmp 15) = .pointer (some ⟨g21, 1, none⟩)), -⟩ := hf
      exact sg_plain rfl rfl (or_load1 to3 f_15 (Blk.at_ (BlkO.evo (by decide) hE b27_g21).2 1 rfl))
    refine steps_cons (fun own a wx hf hsl hE => ?_) ?_
    · obtain ⟨s_3, -⟩ := hsl
      exact sg_plain rfl rfl (or_field fo57_1 (s_3.trans e27_3) (by rfl))
    refine steps_cons (fun own a wx hf hsl hE => ?_) ?_
    · obtain ⟨(f_17 : a.eval (.tmp 17) = .pointer (some ⟨g23, 1, none⟩)), -⟩ := hf
      exact sg_plain rfl rfl (or_load1 to3 f_17 (Blk.at_ (BlkO.evo (by decide) hE b27_g23).2 1 rfl))
    refine steps_cons (fun own a wx hf hsl hE => ?_) ?_
    · obtain ⟨(f_16 : a.eval (.tmp 16) = .int .i64 x1.2), (f_18 : a.eval (.tmp 18) = .int .i64 b2.2), -⟩ := hf
      exact sg_plain rfl rfl (or_lss f_16 f_18 rfl)
    refine steps_cons (fun own a wx hf hsl hE => ?_) ?_
    · obtain ⟨(f_19 : a.eval (.tmp 19) = .bool (decide (x1.2 < b2.2))), -⟩ := hf
      exact sg_plain rfl rfl (or_assign f_19)
    exact steps_nil
  intro own30 a30 w30 hd30 hz30 hk30 hf30 hE30
  obtain ⟨(f_4 : a30.eval (.tmp 4) = .bool (decide (x1.2 < b2.2))), -⟩ := hf30 [5] rfl
  have e30_4 := f_4
  have hX30 := Evo.step hX27 (fun _ => Nat.le_refl 0) hE30 rfl
  refine fl_ret ?_
  obtain rfl := osome hs
  exact hret _ _ _ _ (.inl rfl) hd30 (results1_ rfl (RVal.tmp_ e30_4)) ⟨own30, rfl, hX30⟩

theorem ref04_Points_w (w : World) (l1 : List (Int × Int)) (Al1 : Option Addr) (cl1 : Nat) (hl1 : RdO (fun _ => 0) [0] w R57 Al1 cl1 l1) (r : List (Int × Int)) (hs : ref04_Points l1 = some r) :
    Calls Try.prog 20 #[.slice Al1 l1.length cl1] w fun e w' => ∃ (own' : Own) (x : Option Addr × Nat), e = .returned (.slice x.1 r.length x.2) ∧ Evo [] (fun _ => 0) own' w w' ∧ RwO own' 1 [] w' 57 R57 x.1 x.2 r := by
  refine fl_enter (n := 48) rfl rfl rfl (Nat.le_of_ble_eq_true rfl) ?_
  intro a0 Q hd0 hz0 harg hret
  have ha0 := harg 0 _ rfl
  clear harg
  have hE0 : Evo [] (fun _ => 0) (fun _ => 0) w w := Evo.refl _ _ _
  refine rg_plain_seq (n := 48) (rs := []) (own0 := (fun _ => 0)) (K := [])
      (bs := [0])
      (ds := [⟨[], [], [], Fct.val 2 (.slice none 0 0)⟩]) (by kernel_rfl) hz0 hd0 (fun _ h => nomatch h) ?_ ?_
  · refine steps_cons (fun own a wx hf hsl hE => ?_) ?_
    · exact sg_plain rfl rfl (or_assign rfl)
    exact steps_nil
  intro own208 a208 w208 hd208 hz208 hk208 hf208 hE208
  have e208_0 : a208.eval (.tmp 0) = .slice Al1 l1.length cl1 := (hk208 0 rfl).trans ha0
  have hX208 := Evo.step hE0 (fun _ => Nat.le_refl 0) hE208 rfl
  have b208_Al1 := RdO.evo rfl hE208 hl1
  refine rg_plain_seq (n := 48) (rs := []) (own0 := own208) (K := [])
      (bs := [0])
      (ds := [⟨[], [], [], Fct.val 3 (.slice none 0 0)⟩]) (by kernel_rfl) hz208 hd208 (fun _ h => nomatch h) ?_ ?_
  · refine steps_cons (fun own a wx hf hsl hE => ?_) ?_
    · exact sg_plain rfl rfl (or_assign rfl)
    exact steps_nil
  intro own209 a209 w209 hd209 hz209 hk209 hf209 hE209
  have e209_0 : a209.eval (.tmp 0) = .slice Al1 l1.length cl1 := (hk209 0 rfl).trans e208_0
  obtain ⟨(f_3 : a209.eval (.tmp 3) = .slice none 0 0), -⟩ := hf209 [0] rfl
  have e209_3 := f_3
  have hX209 := Evo.step hX208 (fun _ => Nat.le_refl 0) hE209 rfl
  have b209_Al1 := RdO.evo rfl hE209 b208_Al1
  refine fl_seq (fun Q210 hn210 hp210 => ?_)
  refine rg_plain_seq (n := 48) (rs := []) (own0 := own209) (K := [])
      (bs := [0])
      (ds := [⟨[], [], [], Fct.val 4 (.int .i64 0)⟩]) (by kernel_rfl) hz209 hd209 (fun _ h => nomatch h) ?_ ?_
  · refine steps_cons (fun own a wx hf hsl hE => ?_) ?_
    · exact sg_plain rfl rfl (or_assign rfl)
    exact steps_nil
  intro own211 a211 w211 hd211 hz211 hk211 hf211 hE211
  have e211_0 : a211.eval (.tmp 0) = .slice Al1 l1.length cl1 := (hk211 0 rfl).trans e209_0
  have e211_3 : a211.eval (.tmp 3) = .slice none 0 0 := (hk211 3 rfl).trans e209_3
  obtain ⟨(f_4 : a211.eval (.tmp 4) = .int .i64 0), -⟩ := hf211 [0] rfl
  have e211_4 := f_4
  have hX211 := Evo.step hX209 (fun _ => Nat.le_refl 0) hE211 rfl
  have b211_Al1 := RdO.evo rfl hE211 b209_Al1
  refine fl_block (fun Q212 hn212 hx212 hp212 => ?_)
  refine fl_loop (body := (fun s => ref04_Points_b1 l1 s.1 s.2)) (z := r) (show loopO _ _ = _ from hs) (fun (s : (List (Int × Int)) × Int) a wx => match s with | (out276, i278) => ∃ (ox : Own) (A274 : Option Addr) (c275 : Nat), a.defers = [] ∧ a.tmps.size = 48 ∧ a.eval (.tmp 0) = .slice Al1 l1.length cl1 ∧ a.eval (.tmp 3) = .slice A274 out276.length c275 ∧ a.eval (.tmp 4) = .int .i64 i278 ∧ Evo [] (fun _ => 0) ox w wx ∧ RdO ox [0] wx R57 Al1 cl1 l1 ∧ RwO ox 277 [] wx 57 R57 A274 c275 out276) ?_ ?_
  · exact ⟨own211, none, 0, hd211, hz211, e211_0, e211_3, e211_4, hX211, b211_Al1, RwO.nil_⟩
  · rintro ⟨out276, i278⟩ zz341 a341 w341 ⟨own341, A274, c275, hd342, hz342, e342_0, e342_3, e342_4, hE342, b342_Al1, b342_A274⟩ hs Q341 hn341 hp341 hz341
    have hs : ref04_Points_b1 l1 out276 i278 = some zz341 := hs
    refine fl_seq (fun Q343 hn343 hp343 => ?_)
    refine rg_plain_seq (n := 48) (rs := []) (own0 := own341) (K := [])
        (bs := [0, 0, 2, 7])
        (ds := [⟨[], [4], [], Fct.val 7 (.int .i64 i278)⟩,
        ⟨[], [0], [], Fct.val 8 (.slice Al1 l1.length cl1)⟩,
        ⟨[1], [], [], Fct.val 9 (.int .i64 (l1.length : Int))⟩,
        ⟨[0, 2], [], [], Fct.val 10 (.bool (decide (i278 < (l1.length : Int))))⟩]) (by kernel_rfl) hz342 hd342 (fun _ h => nomatch h) ?_ ?_
    · refine steps_cons (fun own a wx hf hsl hE => ?_) ?_
      · obtain ⟨s_4, -⟩ := hsl
        exact sg_plain rfl rfl (or_move (s_4.trans e342_4))
      refine steps_cons (fun own a wx hf hsl hE => ?_) ?_
      · obtain ⟨s_0, -⟩ := hsl
        exact sg_plain rfl rfl (or_move (s_0.trans e342_0))
      refine steps_cons (fun own a wx hf hsl hE => ?_) ?_
      · obtain ⟨(f_8 : a.eval (.tmp 8) = .slice Al1 l1.length cl1), -⟩ := hf
        exact sg_plain rfl rfl (or_len tu39 f_8 rfl)
      refine steps_cons (fun own a wx hf hsl hE => ?_) ?_
      · obtain ⟨(f_7 : a.eval (.tmp 7) = .int .i64 i278), (f_9 : a.eval (.tmp 9) = .int .i64 (l1.length : Int)), -⟩ := hf
        exact sg_plain rfl rfl (or_lss f_7 f_9 rfl)
      exact steps_nil
    intro own344 a344 w344 hd344 hz344 hk344 hf344 hE344
    have e344_0 : a344.eval (.tmp 0) = .slice Al1 l1.length cl1 := (hk344 0 rfl).trans e342_0
    have e344_3 : a344.eval (.tmp 3) = .slice A274 out276.length c275 := (hk344 3 rfl).trans e342_3
    have e344_4 : a344.eval (.tmp 4) = .int .i64 i278 := (hk344 4 rfl).trans e342_4
    obtain ⟨(f_10 : a344.eval (.tmp 10) = .bool (decide (i278 < (l1.length : Int)))), -⟩ := hf344 [3] rfl
    have e344_10 := f_10
    have hX344 := Evo.step hE342 (fun _ => Nat.le_refl 0) hE344 rfl
    have b344_Al1 := RdO.evo rfl hE344 b342_Al1
    have b344_A274 := RwO.evo rfl hE344 b342_A274
    refine fl_cond e344_10 hs (fun c345 hs => ?_) (fun c345 hs => ?_)
    · refine fl_skip ?_
      refine hn343 _ _ ?_
      refine fl_seq (fun Q346 hn346 hp346 => ?_)
      refine fl_block (fun Q347 hn347 hx347 hp347 => ?_)
      refine rg_plain_seq (n := 48) (rs := []) (own0 := own344) (K := [])
          (bs := [0, 1, 3])
          (ds := [⟨[], [3], [], Fct.val 13 (.slice A274 out276.length c275)⟩,
          ⟨[0], [], [], Fct.val 14 (.int .i64 (out276.length : Int))⟩,
          ⟨[1], [], [], Fct.val 5 (.int .i64 (out276.length : Int))⟩]) (by kernel_rfl) hz344 hd344 (fun _ h => nomatch h) ?_ ?_
      · refine steps_cons (fun own a wx hf hsl hE => ?_) ?_
        · obtain ⟨s_3, -⟩ := hsl
          exact sg_plain rfl rfl (or_move (s_3.trans e344_3))
        refine steps_cons (fun own a wx hf hsl hE => ?_) ?_
        · obtain ⟨(f_13 : a.eval (.tmp 13) = .slice A274 out276.length c275), -⟩ := hf
          exact sg_plain rfl rfl (or_len tu39 f_13 rfl)
        refine steps_cons (fun own a wx hf hsl hE => ?_) ?_
        · obtain ⟨(f_14 : a.eval (.tmp 14) = .int .i64 (out276.length : Int)), -⟩ := hf
          exact sg_plain rfl rfl (or_assign f_14)
        exact steps_nil
      intro own348 a348 w348 hd348 hz348 hk348 hf348 hE348
      have e348_0 : a348.eval (.tmp 0) = .slice Al1 l1.length cl1 := (hk348 0 rfl).trans e344_0
      have e348_3 : a348.eval (.tmp 3) = .slice A274 out276.length c275 := (hk348 3 rfl).trans e344_3
      have e348_4 : a348.eval (.tmp 4) = .int .i64 i278 := (hk348 4 rfl).trans e344_4
      obtain ⟨(f_5 : a348.eval (.tmp 5) = .int .i64 (out276.length : Int)), -⟩ := hf348 [2] rfl
      have e348_5 := f_5
      have hX348 := Evo.step hX344 (fun _ => Nat.le_refl 0) hE348 rfl
      have b348_Al1 := RdO.evo rfl hE348 b344_Al1
      have b348_A274 := RwO.evo rfl hE348 b344_A274
      refine fl_seq (fun Q349 hn349 hp349 => ?_)
      refine fl_block (fun Q350 hn350 hx350 hp350 => ?_)
      refine fl_loop (body := (fun s => ref04_Points_b2 l1 out276 i278 s)) (z := zz341) (show loopO _ _ = _ from hs) (fun (x361 : Int) a wx => ∃ (ox : Own), a.defers = [] ∧ a.tmps.size = 48 ∧ a.eval (.tmp 0) = .slice Al1 l1.length cl1 ∧ a.eval (.tmp 3) = .slice A274 out276.length c275 ∧ a.eval (.tmp 4) = .int .i64 i278 ∧ a.eval (.tmp 5) = .int .i64 x361 ∧ Evo [] (fun _ => 0) ox w wx ∧ RdO ox [0] wx R57 Al1 cl1 l1 ∧ RwO ox 277 [] wx 57 R57 A274 c275 out276) ?_ ?_
      · exact ⟨own348, hd348, hz348, e348_0, e348_3, e348_4, e348_5, hX348, b348_Al1, b348_A274⟩
      · rintro x361 zz371 a371 w371 ⟨own371, hd372, hz372, e372_0, e372_3, e372_4, e372_5, hE372, b372_Al1, b372_A274⟩ hs Q371 hn371 hp371 hz371
        have hs : ref04_Points_b2 l1 out276 i278 x361 = some zz371 := hs
        refine fl_seq (fun Q373 hn373 hp373 => ?_)
        obtain ⟨x374, hx374, hs⟩ := obind hs
        obtain ⟨x375, hx375, hs⟩ := obind hs
        obtain ⟨r376, hr376, hs⟩ := obind hs
        refine rg_draw_seq g_mixed (n := 48) (rs := []) (own0 := own371) (K := [])
            (bs := [0, 1, 3, 7, 7, 31, 63, 7, 7, 263, 903, 1927, 4095, 8191])
            (ds := [⟨[], [5], [], Fct.val 15 (.int .i64 x361)⟩,
            ⟨[0], [], [], Fct.val 16 (.bool (decide (0 < x361)))⟩,
            ⟨[1], [], [], Fct.val 17 (.bool (decide (0 < x361)))⟩,
            ⟨[2], [0], [], Fct.cond (decide (0 < x361)) (some 18) (Fct.val 18 (.slice Al1 l1.length cl1))⟩,
            ⟨[2], [4], [], Fct.cond (decide (0 < x361)) (some 19) (Fct.val 19 (.int .i64 i278))⟩,
            ⟨[2, 3, 4], [], [], Fct.cond (decide (0 < x361)) (some 20) (Fct.val 20 (.pointer (some ((adr Al1).add ((i278 : Int).toNat * R57.s)))))⟩,
            ⟨[2, 5], [], [], Fct.cond (decide (0 < x361)) (some 21) (Fct.val 21 (.agg #[.int .i64 x374.1, .int .i64 x374.2]))⟩,
            ⟨[2], [3], [], Fct.cond (decide (0 < x361)) (some 22) (Fct.val 22 (.slice A274 out276.length c275))⟩,
            ⟨[2], [5], [], Fct.cond (decide (0 < x361)) (some 23) (Fct.val 23 (.int .i64 x361))⟩,
            ⟨[2, 8], [], [], Fct.cond (decide (0 < x361)) (some 24) (Fct.val 24 (.int .i64 (sb x361 1)))⟩,
            ⟨[2, 7, 9], [], [], Fct.cond (decide (0 < x361)) (some 25) (Fct.val 25 (.pointer (some ((adr A274).add ((sb x361 1 : Int).toNat * R57.s)))))⟩,
            ⟨[2, 10], [], [], Fct.cond (decide (0 < x361)) (some 26) (Fct.val 26 (.agg #[.int .i64 x375.1, .int .i64 x375.2]))⟩,
            ⟨[2, 6, 11], [], [], Fct.cond (decide (0 < x361)) (some 27) (Fct.val 27 (.bool r376))⟩,
            ⟨[2, 12], [], [], Fct.val 28 (.bool ((decide (0 < x361)) && r376))⟩]) (by kernel_rfl) hz372 hd372 (fun _ h => nomatch h) ?_ ?_
        · refine steps_cons (fun own a wx hf hsl hE => ?_) ?_
          · obtain ⟨s_5, -⟩ := hsl
            exact sg_plain rfl rfl (or_move (s_5.trans e372_5))
          refine steps_cons (fun own a wx hf hsl hE => ?_) ?_
          · obtain ⟨(f_15 : a.eval (.tmp 15) = .int .i64 x361), -⟩ := hf
            exact sg_plain rfl rfl (or_gtr f_15 rfl rfl)
          refine steps_cons (fun own a wx hf hsl hE => ?_) ?_
          · obtain ⟨(f_16 : a.eval (.tmp 16) = .bool (decide (0 < x361))), -⟩ := hf
            exact sg_plain rfl rfl (or_move f_16)
          refine steps_cons (fun own a wx hf hsl hE => ?_) ?_
          · obtain ⟨(f_17 : a.eval (.tmp 17) = .bool (decide (0 < x361))), -⟩ := hf
            obtain ⟨s_0, -⟩ := hsl
            refine sg_t rfl rfl rfl f_17 (fun hg => ?_)
            exact or_move (s_0.trans e372_0)
          refine steps_cons (fun own a wx hf hsl hE => ?_) ?_
          · obtain ⟨(f_17 : a.eval (.tmp 17) = .bool (decide (0 < x361))), -⟩ := hf
            obtain ⟨s_4, -⟩ := hsl
            refine sg_t rfl rfl rfl f_17 (fun hg => ?_)
            exact or_move (s_4.trans e372_4)
          refine steps_cons (fun own a wx hf hsl hE => ?_) ?_
          · obtain ⟨(f_17 : a.eval (.tmp 17) = .bool (decide (0 < x361))), c_18, c_19, -⟩ := hf
            refine sg_t rfl rfl rfl f_17 (fun hg => ?_)
            have f_18 : a.eval (.tmp 18) = .slice Al1 l1.length cl1 := c_18.1 hg
            have f_19 : a.eval (.tmp 19) = .int .i64 i278 := c_19.1 hg
            exact or_index (R := R57) (l := l1) tl39 f_18 f_19 (RdO.some_ b372_Al1 (gd_t hx374 hg)) (gd_t hx374 hg)
          refine steps_cons (fun own a wx hf hsl hE => ?_) ?_
          · obtain ⟨(f_17 : a.eval (.tmp 17) = .bool (decide (0 < x361))), c_20, -⟩ := hf
            refine sg_t rfl rfl rfl f_17 (fun hg => ?_)
            have f_20 : a.eval (.tmp 20) = .pointer (some ((adr Al1).add ((i278 : Int).toNat * R57.s))) := c_20.1 hg
            exact or_load (l := E57.f x374) ta57 f_20 (RdO.cells (F := E57) (RdO.evo rfl hE b372_Al1) (gd_t hx374 hg)) rfl
          refine steps_cons (fun own a wx hf hsl hE => ?_) ?_
          · obtain ⟨(f_17 : a.eval (.tmp 17) = .bool (decide (0 < x361))), -⟩ := hf
            obtain ⟨s_3, -⟩ := hsl
            refine sg_t rfl rfl rfl f_17 (fun hg => ?_)
            exact or_move (s_3.trans e372_3)
          refine steps_cons (fun own a wx hf hsl hE => ?_) ?_
          · obtain ⟨(f_17 : a.eval (.tmp 17) = .bool (decide (0 < x361))), -⟩ := hf
            obtain ⟨s_5, -⟩ := hsl
            refine sg_t rfl rfl rfl f_17 (fun hg => ?_)
            exact or_move (s_5.trans e372_5)
          refine steps_cons (fun own a wx hf hsl hE => ?_) ?_
          · obtain ⟨(f_17 : a.eval (.tmp 17) = .bool (decide (0 < x361))), c_23, -⟩ := hf
            refine sg_t rfl rfl rfl f_17 (fun hg => ?_)
            have f_23 : a.eval (.tmp 23) = .int .i64 x361 := c_23.1 hg
            exact or_sub f_23 rfl rfl
          refine steps_cons (fun own a wx hf hsl hE => ?_) ?_
          · obtain ⟨(f_17 : a.eval (.tmp 17) = .bool (decide (0 < x361))), c_22, c_24, -⟩ := hf
            refine sg_t rfl rfl rfl f_17 (fun hg => ?_)
            have f_22 : a.eval (.tmp 22) = .slice A274 out276.length c275 := c_22.1 hg
            have f_24 : a.eval (.tmp 24) = .int .i64 (sb x361 1) := c_24.1 hg
            exact or_index (R := R57) (l := out276) tl39 f_22 f_24 (RdO.some_ (RwO.rd b372_A274) (gd_t hx375 hg)) (gd_t hx375 hg)
          refine steps_cons (fun own a wx hf hsl hE => ?_) ?_
          · obtain ⟨(f_17 : a.eval (.tmp 17) = .bool (decide (0 < x361))), c_25, -⟩ := hf
            refine sg_t rfl rfl rfl f_17 (fun hg => ?_)
            have f_25 : a.eval (.tmp 25) = .pointer (some ((adr A274).add ((sb x361 1 : Int).toNat * R57.s))) := c_25.1 hg
            exact or_load (l := E57.f x375) ta57 f_25 (RdO.cells (F := E57) (RwO.rd (RwO.evo rfl hE b372_A274)) (gd_t hx375 hg)) rfl
          refine steps_cons (fun own a wx hf hsl hE => ?_) ?_
          · obtain ⟨(f_17 : a.eval (.tmp 17) = .bool (decide (0 < x361))), c_21, c_26, -⟩ := hf
            refine sg_t rfl rfl rfl f_17 (fun hg => ?_)
            have f_21 : a.eval (.tmp 21) = .agg #[.int .i64 x374.1, .int .i64 x374.2] := c_21.1 hg
            have f_26 : a.eval (.tmp 26) = .agg #[.int .i64 x375.1, .int .i64 x375.2] := c_26.1 hg
            exact or_call cf33 (args2 f_21 f_26) (ref01_Less_w _ x374 x375  r376 (gd_t hr376 hg)) post_val
          refine steps_cons (fun own a wx hf hsl hE => ?_) ?_
          · obtain ⟨(f_17 : a.eval (.tmp 17) = .bool (decide (0 < x361))), c_27, -⟩ := hf
            exact sg_plain rfl rfl (or_and f_17 (fun hx => c_27.1 hx) rfl rfl)
          exact steps_nil
        intro own377 a377 w377 hd377 hz377 hk377 hf377 hE377
        have e377_0 : a377.eval (.tmp 0) = .slice Al1 l1.length cl1 := (hk377 0 rfl).trans e372_0
        have e377_3 : a377.eval (.tmp 3) = .slice A274 out276.length c275 := (hk377 3 rfl).trans e372_3
        have e377_4 : a377.eval (.tmp 4) = .int .i64 i278 := (hk377 4 rfl).trans e372_4
        have e377_5 : a377.eval (.tmp 5) = .int .i64 x361 := (hk377 5 rfl).trans e372_5
        obtain ⟨(f_28 : a377.eval (.tmp 28) = .bool ((decide (0 < x361)) && r376)), -⟩ := hf377 [13] rfl
        have e377_28 := f_28
        have hX377 := Evo.step hE372 (fun _ => Nat.le_refl 0) hE377 rfl
        have b377_Al1 := RdO.evo rfl hE377 b372_Al1
        have b377_A274 := RwO.evo rfl hE377 b372_A274
        refine fl_cond e377_28 hs (fun c378 hs => ?_) (fun c378 hs => ?_)
        · refine fl_skip ?_
          refine hn373 _ _ ?_
          refine fl_block (fun Q379 hn379 hx379 hp379 => ?_)
          refine rg_plain (n := 48) (rs := []) (own0 := own377) (K := [])
              (bs := [0, 1, 3])
              (ds := [⟨[], [5], [], Fct.val 29 (.int .i64 x361)⟩,
              ⟨[0], [], [], Fct.val 30 (.int .i64 (sb x361 1))⟩,
              ⟨[1], [], [], Fct.val 5 (.int .i64 (sb x361 1))⟩]) (by kernel_rfl) hz377 hd377 (fun _ h => nomatch h) ?_ ?_
          · refine steps_cons (fun own a wx hf hsl hE => ?_) ?_
            · obtain ⟨s_5, -⟩ := hsl
              exact sg_plain rfl rfl (or_move (s_5.trans e377_5))
            refine steps_cons (fun own a wx hf hsl hE => ?_) ?_
            · obtain ⟨(f_29 : a.eval (.tmp 29) = .int .i64 x361), -⟩ := hf
              exact sg_plain rfl rfl (or_sub f_29 rfl rfl)
            refine steps_cons (fun own a wx hf hsl hE => ?_) ?_
            · obtain ⟨(f_30 : a.eval (.tmp 30) = .int .i64 (sb x361 1)), -⟩ := hf
              exact sg_plain rfl rfl (or_assign f_30)
            exact steps_nil
          intro own380 a380 w380 hd380 hz380 hk380 hf380 hE380
          have e380_0 : a380.eval (.tmp 0) = .slice Al1 l1.length cl1 := (hk380 0 rfl).trans e377_0
          have e380_3 : a380.eval (.tmp 3) = .slice A274 out276.length c275 := (hk380 3 rfl).trans e377_3
          have e380_4 : a380.eval (.tmp 4) = .int .i64 i278 := (hk380 4 rfl).trans e377_4
          obtain ⟨(f_5 : a380.eval (.tmp 5) = .int .i64 (sb x361 1)), -⟩ := hf380 [2] rfl
          have e380_5 := f_5
          have hX380 := Evo.step hX377 (fun _ => Nat.le_refl 0) hE380 rfl
          have b380_Al1 := RdO.evo rfl hE380 b377_Al1
          have b380_A274 := RwO.evo rfl hE380 b377_A274
          refine hn379 _ _ ?_
          exact hn371 _ _ _ hs ⟨own380, hd380, hz380, e380_0, e380_3, e380_4, e380_5, hX380, b380_Al1, b380_A274⟩
        refine fl_exit ?_
        refine hp373 _ _ _ rfl ?_
        replace hs := hz371 _ hs
        refine hp371 _ _ _ rfl ?_
        refine hx350 _ _ ?_
        refine hn349 _ _ ?_
        obtain ⟨x383, hx383, hs⟩ := obind hs
        obtain ⟨x385, hx385, hs⟩ := obind hs
        obtain ⟨x388, hx388, hs⟩ := obind hs
        obtain ⟨x391, hx391, hs⟩ := obind hs
        refine rg_draw_seq g_mixed (n := 48) (rs := []) (own0 := own377) (K := [382, 386])
            (bs := [0, 0, 0, 6, 15, 0, 0, 96, 224, 480, 1023, 2047])
            (ds := [⟨[], [], [], Fct.row 382 [] 31 57 R57 ([] : List (Int × Int))⟩,
            ⟨[], [3], [], Fct.val 32 (.slice A274 out276.length c275)⟩,
            ⟨[], [5], [], Fct.val 33 (.int .i64 x361)⟩,
            ⟨[1, 2], [], [], Fct.view [277] 34 R57 x383⟩,
            ⟨[0, 3], [], [382], Fct.row 386 [] 35 57 R57 x385⟩,
            ⟨[], [0], [], Fct.val 36 (.slice Al1 l1.length cl1)⟩,
            ⟨[], [4], [], Fct.val 37 (.int .i64 i278)⟩,
            ⟨[5, 6], [], [], Fct.val 38 (.pointer (some ((adr Al1).add ((i278 : Int).toNat * R57.s))))⟩,
            ⟨[7], [], [], Fct.val 39 (.agg #[.int .i64 x388.1, .int .i64 x388.2])⟩,
            ⟨[8], [], [], Fct.row 390 [] 40 57 R57 [x388]⟩,
            ⟨[4, 9], [], [386], Fct.row 392 [] 41 57 R57 x391⟩,
            ⟨[10], [], [], Fct.rel [6, 41] (fun l => ∀ (A393 : Option Addr) (cA393 : Nat), l.getD 1 undef = .slice A393 x391.length cA393 → l.getD 0 undef = .slice A393 x391.length cA393)⟩]) (by kernel_rfl) hz377 hd377 (fun _ h => nomatch h) ?_ ?_
        · refine steps_cons (fun own a wx hf hsl hE => ?_) ?_
          · exact sg_plain rfl rfl (or_lit (lab := 382) (e := 57) (cs := #[]) (F := E57) (or_new [] rfl rfl trivial (by kernel_rfl)) rfl rfl (show 0 ≤ maxLen by decide))
          refine steps_cons (fun own a wx hf hsl hE => ?_) ?_
          · obtain ⟨s_3, -⟩ := hsl
            exact sg_plain rfl rfl (or_move (s_3.trans e377_3))
          refine steps_cons (fun own a wx hf hsl hE => ?_) ?_
          · obtain ⟨s_5, -⟩ := hsl
            exact sg_plain rfl rfl (or_move (s_5.trans e377_5))
          refine steps_cons (fun own a wx hf hsl hE => ?_) ?_
          · obtain ⟨(f_32 : a.eval (.tmp 32) = .slice A274 out276.length c275), (f_33 : a.eval (.tmp 33) = .int .i64 x361), -⟩ := hf
            exact sg_plain rfl rfl (or_view (R := R57) (l := out276) (L := [277]) tu39 ts57 f_32 Bnd.none_ (Bnd.some_ f_33) Bnd.none_ (RwO.rd (RwO.evo rfl hE b377_A274)) hx383 (.inl rfl) (by simp))
          refine steps_cons (fun own a wx hf hsl hE => ?_) ?_
          · obtain ⟨⟨⟨A381, cA381⟩, (f_31 : a.eval (.tmp 31) = .slice A381 ([] : List (Int × Int)).length cA381), (b_A381 : RwO own 382 [] wx 57 R57 A381 cA381 ([] : List (Int × Int)))⟩, ⟨⟨A384, cA384⟩, (f_34 : a.eval (.tmp 34) = .slice A384 x383.length cA384), (b_A384 : RdO own [277] wx R57 A384 cA384 x383)⟩, -⟩ := hf
            exact sg_plain rfl rfl (or_append (R := R57) (lab := 382) (lab2 := 386) (L := []) (L3 := []) tp39 f_31 b_A381 (by decide) f_34 b_A384 hx385 (by decide) (by decide) (mem_of rfl) (.inl (Rep.fl_flat _)))
          refine steps_cons (fun own a wx hf hsl hE => ?_) ?_
          · obtain ⟨s_0, -⟩ := hsl
            exact sg_plain rfl rfl (or_move (s_0.trans e377_0))
          refine steps_cons (fun own a wx hf hsl hE => ?_) ?_
          · obtain ⟨s_4, -⟩ := hsl
            exact sg_plain rfl rfl (or_move (s_4.trans e377_4))
          refine steps_cons (fun own a wx hf hsl hE => ?_) ?_
          · obtain ⟨(f_36 : a.eval (.tmp 36) = .slice Al1 l1.length cl1), (f_37 : a.eval (.tmp 37) = .int .i64 i278), -⟩ := hf
            exact sg_plain rfl rfl (or_index (R := R57) (l := l1) tl39 f_36 f_37 (RdO.some_ b377_Al1 hx388) hx388)
          refine steps_cons (fun own a wx hf hsl hE => ?_) ?_
          · obtain ⟨(f_38 : a.eval (.tmp 38) = .pointer (some ((adr Al1).add ((i278 : Int).toNat * R57.s)))), -⟩ := hf
            exact sg_plain rfl rfl (or_load (l := E57.f x388) ta57 f_38 (RdO.cells (F := E57) (RdO.evo rfl hE b377_Al1) hx388) rfl)
          refine steps_cons (fun own a wx hf hsl hE => ?_) ?_
          · obtain ⟨(f_39 : a.eval (.tmp 39) = .agg #[.int .i64 x388.1, .int .i64 x388.2]), -⟩ := hf
            exact sg_plain rfl rfl (or_lit (lab := 390) (e := 57) (cs := #[.int .i64 x388.1, .int .i64 x388.2]) (F := E57) (or_new [(39, .agg #[.int .i64 x388.1, .int .i64 x388.2])] rfl rfl ⟨f_39, trivial⟩ (by kernel_rfl)) rfl rfl (show 1 ≤ maxLen by decide))
          refine steps_cons (fun own a wx hf hsl hE => ?_) ?_
          · obtain ⟨⟨⟨A387, cA387⟩, (f_35 : a.eval (.tmp 35) = .slice A387 x385.length cA387), (b_A387 : RwO own 386 [] wx 57 R57 A387 cA387 x385)⟩, ⟨⟨A389, cA389⟩, (f_40 : a.eval (.tmp 40) = .slice A389 [x388].length cA389), (b_A389 : RwO own 390 [] wx 57 R57 A389 cA389 [x388])⟩, -⟩ := hf
            exact sg_plain rfl rfl (or_append (R := R57) (lab := 386) (lab2 := 392) (L := []) (L3 := []) tp39 f_35 b_A387 (by decide) f_40 (RwO.rd b_A389) hx391 (by decide) (by decide) (mem_of rfl) (.inl (Rep.fl_flat _)))
          refine steps_cons (fun own a wx hf hsl hE => ?_) ?_
          · obtain ⟨⟨⟨A393, cA393⟩, (f_41 : a.eval (.tmp 41) = .slice A393 x391.length cA393), (b_A393 : RwO own 392 [] wx 57 R57 A393 cA393 x391)⟩, -⟩ := hf
            exact sg_plain rfl rfl (or_mono (f := Fct.val 6 (.slice A393 x391.length cA393)) (or_assign f_41) (fun own' a' w' v' hp h => fun _ _ h0' => by cases (f_41.symm.trans ((hp.2 41 (by decide)).symm.trans h0')); exact h))
          exact steps_nil
        intro own394 a394 w394 hd394 hz394 hk394 hf394 hE394
        have e394_0 : a394.eval (.tmp 0) = .slice Al1 l1.length cl1 := (hk394 0 rfl).trans e377_0
        have e394_3 : a394.eval (.tmp 3) = .slice A274 out276.length c275 := (hk394 3 rfl).trans e377_3
        have e394_4 : a394.eval (.tmp 4) = .int .i64 i278 := (hk394 4 rfl).trans e377_4
        have e394_5 : a394.eval (.tmp 5) = .int .i64 x361 := (hk394 5 rfl).trans e377_5
        obtain ⟨⟨⟨A393, cA393⟩, (f_41 : a394.eval (.tmp 41) = .slice A393 x391.length cA393), (b_A393 : RwO own394 392 [] w394 57 R57 A393 cA393 x391)⟩, (q_6 : ∀ (A393 : Option Addr) (cA393 : Nat), a394.eval (.tmp 41) = .slice A393 x391.length cA393 → a394.eval (.tmp 6) = .slice A393 x391.length cA393), -⟩ := hf394 [10, 11] rfl
        have f_6 := q_6 _ _ f_41
        have e394_6 := f_6
        have hX394 := Evo.step hX377 (fun _ => Nat.le_refl 0) hE394 rfl
        have b394_Al1 := RdO.evo rfl hE394 b377_Al1
        have b394_A274 := RwO.evo rfl hE394 b377_A274
        have b394_A393 := b_A393
        obtain ⟨x397, hx397, hs⟩ := obind hs
        obtain ⟨x399, hx399, hs⟩ := obind hs
        refine rg_plain (n := 48) (rs := [Fct.rowAt 392 [] 57 R57 A393 cA393 x391]) (own0 := own394) (K := [392])
            (bs := [0, 0, 0, 6, 15, 31])
            (ds := [⟨[], [6], [], Fct.val 42 (.slice A393 x391.length cA393)⟩,
            ⟨[], [3], [], Fct.val 43 (.slice A274 out276.length c275)⟩,
            ⟨[], [5], [], Fct.val 44 (.int .i64 x361)⟩,
            ⟨[1, 2], [], [], Fct.view [277] 45 R57 x397⟩,
            ⟨[0, 3, 6], [], [392], Fct.row 400 [] 46 57 R57 x399⟩,
            ⟨[4], [], [], Fct.rel [3, 46] (fun l => ∀ (A401 : Option Addr) (cA401 : Nat), l.getD 1 undef = .slice A401 x399.length cA401 → l.getD 0 undef = .slice A401 x399.length cA401)⟩]) (by kernel_rfl) hz394 hd394 (by simp only [List.forall_mem_cons]; exact ⟨b394_A393, fun _ h => nomatch h⟩) ?_ ?_
        · refine steps_cons (fun own a wx hf hsl hE => ?_) ?_
          · obtain ⟨s_6, -⟩ := hsl
            exact sg_plain rfl rfl (or_move (s_6.trans e394_6))
          refine steps_cons (fun own a wx hf hsl hE => ?_) ?_
          · obtain ⟨s_3, -⟩ := hsl
            exact sg_plain rfl rfl (or_move (s_3.trans e394_3))
          refine steps_cons (fun own a wx hf hsl hE => ?_) ?_
          · obtain ⟨s_5, -⟩ := hsl
            exact sg_plain rfl rfl (or_move (s_5.trans e394_5))
          refine steps_cons (fun own a wx hf hsl hE => ?_) ?_
          · obtain ⟨(f_43 : a.eval (.tmp 43) = .slice A274 out276.length c275), (f_44 : a.eval (.tmp 44) = .int .i64 x361), -⟩ := hf
            exact sg_plain rfl rfl (or_view (R := R57) (l := out276) (L := [277]) tu39 ts57 f_43 (Bnd.some_ f_44) Bnd.none_ Bnd.none_ (RwO.rd (RwO.evo rfl hE b394_A274)) hx397 (.inl rfl) (by simp))
          refine steps_cons (fun own a wx hf hsl hE => ?_) ?_
          · obtain ⟨(f_42 : a.eval (.tmp 42) = .slice A393 x391.length cA393), ⟨⟨A398, cA398⟩, (f_45 : a.eval (.tmp 45) = .slice A398 x397.length cA398), (b_A398 : RdO own [277] wx R57 A398 cA398 x397)⟩, (b_A393 : RwO own 392 [] wx 57 R57 A393 cA393 x391), -⟩ := hf
            exact sg_plain rfl rfl (or_append (R := R57) (lab := 392) (lab2 := 400) (L := []) (L3 := []) tp39 f_42 b_A393 (by decide) f_45 b_A398 hx399 (by decide) (by decide) (mem_of rfl) (.inl (Rep.fl_flat _)))
          refine steps_cons (fun own a wx hf hsl hE => ?_) ?_
          · obtain ⟨⟨⟨A401, cA401⟩, (f_46 : a.eval (.tmp 46) = .slice A401 x399.length cA401), (b_A401 : RwO own 400 [] wx 57 R57 A401 cA401 x399)⟩, -⟩ := hf
            exact sg_plain rfl rfl (or_mono (f := Fct.val 3 (.slice A401 x399.length cA401)) (or_assign f_46) (fun own' a' w' v' hp h => fun _ _ h0' => by cases (f_46.symm.trans ((hp.2 46 (by decide)).symm.trans h0')); exact h))
          exact steps_nil
        intro own402 a402 w402 hd402 hz402 hk402 hf402 hE402
        have e402_0 : a402.eval (.tmp 0) = .slice Al1 l1.length cl1 := (hk402 0 rfl).trans e394_0
        have e402_4 : a402.eval (.tmp 4) = .int .i64 i278 := (hk402 4 rfl).trans e394_4
        obtain ⟨⟨⟨A401, cA401⟩, (f_46 : a402.eval (.tmp 46) = .slice A401 x399.length cA401), (b_A401 : RwO own402 400 [] w402 57 R57 A401 cA401 x399)⟩, (q_3 : ∀ (A401 : Option Addr) (cA401 : Nat), a402.eval (.tmp 46) = .slice A401 x399.length cA401 → a402.eval (.tmp 3) = .slice A401 x399.length cA401), -⟩ := hf402 [4, 5] rfl
        have f_3 := q_3 _ _ f_46
        have e402_3 := f_3
        have hX402 := Evo.step hX394 (fun _ => Nat.le_refl 0) hE402 rfl
        have b402_Al1 := RdO.evo rfl hE402 b394_Al1
        have b402_A401 := b_A401
        refine hn347 _ _ ?_
        refine hn346 _ _ ?_
        refine rg_plain (n := 48) (rs := []) (own0 := own402) (K := [])
            (bs := [0, 1, 3])
            (ds := [⟨[], [4], [], Fct.val 11 (.int .i64 i278)⟩,
            ⟨[0], [], [], Fct.val 12 (.int .i64 (ad i278 1))⟩,
            ⟨[1], [], [], Fct.val 4 (.int .i64 (ad i278 1))⟩]) (by kernel_rfl) hz402 hd402 (fun _ h => nomatch h) ?_ ?_
        · refine steps_cons (fun own a wx hf hsl hE => ?_) ?_
          · obtain ⟨s_4, -⟩ := hsl
            exact sg_plain rfl rfl (or_move (s_4.trans e402_4))
          refine steps_cons (fun own a wx hf hsl hE => ?_) ?_
          · obtain ⟨(f_11 : a.eval (.tmp 11) = .int .i64 i278), -⟩ := hf
            exact sg_plain rfl rfl (or_add f_11 rfl rfl)
          refine steps_cons (fun own a wx hf hsl hE => ?_) ?_
          · obtain ⟨(f_12 : a.eval (.tmp 12) = .int .i64 (ad i278 1)), -⟩ := hf
            exact sg_plain rfl rfl (or_assign f_12)
          exact steps_nil
        intro own403 a403 w403 hd403 hz403 hk403 hf403 hE403
        have e403_0 : a403.eval (.tmp 0) = .slice Al1 l1.length cl1 := (hk403 0 rfl).trans e402_0
        have e403_3 : a403.eval (.tmp 3) = .slice A401 x399.length cA401 := (hk403 3 rfl).trans e402_3
        obtain ⟨(f_4 : a403.eval (.tmp 4) = .int .i64 (ad i278 1)), -⟩ := hf403 [2] rfl
        have e403_4 := f_4
        have hX403 := Evo.step hX402 (fun _ => Nat.le_refl 0) hE403 rfl
        have b403_Al1 := RdO.evo rfl hE403 b402_Al1
        have b403_A401 := RwO.evo rfl hE403 b402_A401
        exact hn341 _ _ _ hs ⟨(rl [(400, 277)] own403), A401, cA401, hd403, hz403, e403_0, e403_3, e403_4, (Evo.rl_ hX403 (fun _ => Nat.le_refl 0) rfl), (RdO.rl_ (mm := [(400, 277)]) b403_Al1), (RwO.rl_ (mm := [(400, 277)]) b403_A401)⟩
    refine fl_exit ?_
    refine hp343 _ _ _ rfl ?_
    replace hs := hz341 _ hs
    refine hp341 _ _ _ rfl ?_
    refine hx212 _ _ ?_
    refine hn210 _ _ ?_
    refine rg_plain_seq (n := 48) (rs := []) (own0 := own344) (K := [])
        (bs := [0, 1])
        (ds := [⟨[], [3], [], Fct.val 47 (.slice A274 out276.length c275)⟩,
        ⟨[0], [], [], Fct.val 2 (.slice A274 out276.length c275)⟩]) (by kernel_rfl) hz344 hd344 (fun _ h => nomatch h) ?_ ?_
    · refine steps_cons (fun own a wx hf hsl hE => ?_) ?_
      · obtain ⟨s_3, -⟩ := hsl
        exact sg_plain rfl rfl (or_move (s_3.trans e344_3))
      refine steps_cons (fun own a wx hf hsl hE => ?_) ?_
      · obtain ⟨(f_47 : a.eval (.tmp 47) = .slice A274 out276.length c275), -⟩ := hf
        exact sg_plain rfl rfl (or_assign f_47)
      exact steps_nil
    intro own404 a404 w404 hd404 hz404 hk404 hf404 hE404
    obtain ⟨(f_2 : a404.eval (.tmp 2) = .slice A274 out276.length c275), -⟩ := hf404 [1] rfl
    have e404_2 := f_2
    have hX404 := Evo.step hX344 (fun _ => Nat.le_refl 0) hE404 rfl
    have b404_A274 := RwO.evo rfl hE404 b344_A274
    refine fl_ret ?_
    obtain rfl := (osome hs).symm
    exact hret _ _ _ _ (.inl rfl) hd404 (results1_ rfl (RVal.tmp_ e404_2)) ⟨(rl [(277, 1)] own404), (A274, c275), rfl, (Evo.rl_ hX404 (fun _ => Nat.le_refl 0) rfl), (RwO.rl_ (mm := [(277, 1)]) b404_A274)⟩

theorem ref04_Rows_w (w : World) (l1 : List (List Int)) (Al1 : Option Addr) (cl1 : Nat) (hl1 : RdO (fun _ => 0) [0] w R22 Al1 cl1 l1) (r : List Int) (hs : ref04_Rows l1 = some r) :
    Calls Try.prog 23 #[.slice Al1 l1.length cl1] w fun e w' => ∃ (own' : Own) (x : Option Addr × Nat), e = .returned (.slice x.1 r.length x.2) ∧ Evo [] (fun _ => 0) own' w w' ∧ RwO own' 1 [] w' 3 R3 x.1 x.2 r := by
  refine fl_enter (n := 49) rfl rfl rfl (Nat.le_of_ble_eq_true rfl) ?_
  intro a0 Q hd0 hz0 harg hret
  have ha0 := harg 0 _ rfl
  clear harg
  have hE0 : Evo [] (fun _ => 0) (fun _ => 0) w w := Evo.refl _ _ _
  refine rg_plain_seq (n := 49) (rs := []) (own0 := (fun _ => 0)) (K := [])
      (bs := [0])
      (ds := [⟨[], [], [], Fct.val 2 (.slice none 0 0)⟩]) (by kernel_rfl) hz0 hd0 (fun _ h => nomatch h) ?_ ?_
  · refine steps_cons (fun own a wx hf hsl hE => ?_) ?_
    · exact sg_plain rfl rfl (or_assign rfl)
    exact steps_nil
  intro own238 a238 w238 hd238 hz238 hk238 hf238 hE238
  have e238_0 : a238.eval (.tmp 0) = .slice Al1 l1.length cl1 := (hk238 0 rfl).trans ha0
  have hX238 := Evo.step hE0 (fun _ => Nat.le_refl 0) hE238 rfl
  have b238_Al1 := RdO.evo rfl hE238 hl1
  refine rg_plain_seq (n := 49) (rs := []) (own0 := own238) (K := [])
      (bs := [0])
      (ds := [⟨[], [], [], Fct.val 3 (.slice none 0 0)⟩]) (by kernel_rfl) hz238 hd238 (fun _ h => nomatch h) ?_ ?_
  · refine steps_cons (fun own a wx hf hsl hE => ?_) ?_
    · exact sg_plain rfl rfl (or_assign rfl)
    exact steps_nil
  intro own239 a239 w239 hd239 hz239 hk239 hf239 hE239
  have e239_0 : a239.eval (.tmp 0) = .slice Al1 l1.length cl1 := (hk239 0 rfl).trans e238_0
  obtain ⟨(f_3 : a239.eval (.tmp 3) = .slice none 0 0), -⟩ := hf239 [0] rfl
  have e239_3 := f_3
  have hX239 := Evo.step hX238 (fun _ => Nat.le_refl 0) hE239 rfl
  have b239_Al1 := RdO.evo rfl hE239 b238_Al1
  refine fl_seq (fun Q240 hn240 hp240 => ?_)
  refine rg_plain_seq (n := 49) (rs := []) (own0 := own239) (K := [])
      (bs := [0])
      (ds := [⟨[], [], [], Fct.val 4 (.int .i64 0)⟩]) (by kernel_rfl) hz239 hd239 (fun _ h => nomatch h) ?_ ?_
  · refine steps_cons (fun own a wx hf hsl hE => ?_) ?_
    · exact sg_plain rfl rfl (or_assign rfl)
    exact steps_nil
  intro own241 a241 w241 hd241 hz241 hk241 hf241 hE241
  have e241_0 : a241.eval (.tmp 0) = .slice Al1 l1.length cl1 := (hk241 0 rfl).trans e239_0
  have e241_3 : a241.eval (.tmp 3) = .slice none 0 0 := (hk241 3 rfl).trans e239_3
  obtain ⟨(f_4 : a241.eval (.tmp 4) = .int .i64 0), -⟩ := hf241 [0] rfl
  have e241_4 := f_4
  have hX241 := Evo.step hX239 (fun _ => Nat.le_refl 0) hE241 rfl
  have b241_Al1 := RdO.evo rfl hE241 b239_Al1
  refine fl_block (fun Q242 hn242 hx242 hp242 => ?_)
  refine fl_loop (body := (fun s => ref04_Rows_b1 l1 s.1 s.2)) (z := r) (show loopO _ _ = _ from hs) (fun (s : (List Int) × Int) a wx => match s with | (out316, i318) => ∃ (ox : Own) (A314 : Option Addr) (c315 : Nat), a.defers = [] ∧ a.tmps.size = 49 ∧ a.eval (.tmp 0) = .slice Al1 l1.length cl1 ∧ a.eval (.tmp 3) = .slice A314 out316.length c315 ∧ a.eval (.tmp 4) = .int .i64 i318 ∧ Evo [] (fun _ => 0) ox w wx ∧ RdO ox [0] wx R22 Al1 cl1 l1 ∧ RwO ox 317 [] wx 3 R3 A314 c315 out316) ?_ ?_
  · exact ⟨own241, none, 0, hd241, hz241, e241_0, e241_3, e241_4, hX241, b241_Al1, RwO.nil_⟩
  · rintro ⟨out316, i318⟩ zz391 a391 w391 ⟨own391, A314, c315, hd392, hz392, e392_0, e392_3, e392_4, hE392, b392_Al1, b392_A314⟩ hs Q391 hn391 hp391 hz391
    have hs : ref04_Rows_b1 l1 out316 i318 = some zz391 := hs
    refine fl_seq (fun Q393 hn393 hp393 => ?_)
    refine rg_plain_seq (n := 49) (rs := []) (own0 := own391) (K := [])
        (bs := [0, 0, 2, 7])
        (ds := [⟨[], [4], [], Fct.val 7 (.int .i64 i318)⟩,
        ⟨[], [0], [], Fct.val 8 (.slice Al1 l1.length cl1)⟩,
        ⟨[1], [], [], Fct.val 9 (.int .i64 (l1.length : Int))⟩,
        ⟨[0, 2], [], [], Fct.val 10 (.bool (decide (i318 < (l1.length : Int))))⟩]) (by kernel_rfl) hz392 hd392 (fun _ h => nomatch h) ?_ ?_
    · refine steps_cons (fun own a wx hf hsl hE => ?_) ?_
      · obtain ⟨s_4, -⟩ := hsl
        exact sg_plain rfl rfl (or_move (s_4.trans e392_4))
      refine steps_cons (fun own a wx hf hsl hE => ?_) ?_
      · obtain ⟨s_0, -⟩ := hsl
        exact sg_plain rfl rfl (or_move (s_0.trans e392_0))
      refine steps_cons (fun own a wx hf hsl hE => ?_) ?_
      · obtain ⟨(f_8 : a.eval (.tmp 8) = .slice Al1 l1.length cl1), -⟩ := hf
        exact sg_plain rfl rfl (or_len tu35 f_8 rfl)
      refine steps_cons (fun own a wx hf hsl hE => ?_) ?_
      · obtain ⟨(f_7 : a.eval (.tmp 7) = .int .i64 i318), (f_9 : a.eval (.tmp 9) = .int .i64 (l1.length : Int)), -⟩ := hf
        exact sg_plain rfl rfl (or_lss f_7 f_9 rfl)
      exact steps_nil
    intro own394 a394 w394 hd394 hz394 hk394 hf394 hE394
    have e394_0 : a394.eval (.tmp 0) = .slice Al1 l1.length cl1 := (hk394 0 rfl).trans e392_0
    have e394_3 : a394.eval (.tmp 3) = .slice A314 out316.length c315 := (hk394 3 rfl).trans e392_3
    have e394_4 : a394.eval (.tmp 4) = .int .i64 i318 := (hk394 4 rfl).trans e392_4
    obtain ⟨(f_10 : a394.eval (.tmp 10) = .bool (decide (i318 < (l1.length : Int)))), -⟩ := hf394 [3] rfl
    have e394_10 := f_10
    have hX394 := Evo.step hE392 (fun _ => Nat.le_refl 0) hE394 rfl
    have b394_Al1 := RdO.evo rfl hE394 b392_Al1
    have b394_A314 := RwO.evo rfl hE394 b392_A314
    refine fl_cond e394_10 hs (fun c395 hs => ?_) (fun c395 hs => ?_)
    · refine fl_skip ?_
      refine hn393 _ _ ?_
      refine fl_seq (fun Q396 hn396 hp396 => ?_)
      refine fl_block (fun Q397 hn397 hx397 hp397 => ?_)
      refine rg_plain_seq (n := 49) (rs := []) (own0 := own394) (K := [])
          (bs := [0, 1, 3])
          (ds := [⟨[], [3], [], Fct.val 13 (.slice A314 out316.length c315)⟩,
          ⟨[0], [], [], Fct.val 14 (.int .i64 (out316.length : Int))⟩,
          ⟨[1], [], [], Fct.val 5 (.int .i64 (out316.length : Int))⟩]) (by kernel_rfl) hz394 hd394 (fun _ h => nomatch h) ?_ ?_
      · refine steps_cons (fun own a wx hf hsl hE => ?_) ?_
        · obtain ⟨s_3, -⟩ := hsl
          exact sg_plain rfl rfl (or_move (s_3.trans e394_3))
        refine steps_cons (fun own a wx hf hsl hE => ?_) ?_
        · obtain ⟨(f_13 : a.eval (.tmp 13) = .slice A314 out316.length c315), -⟩ := hf
          exact sg_plain rfl rfl (or_len tu22 f_13 rfl)
        refine steps_cons (fun own a wx hf hsl hE => ?_) ?_
        · obtain ⟨(f_14 : a.eval (.tmp 14) = .int .i64 (out316.length : Int)), -⟩ := hf
          exact sg_plain rfl rfl (or_assign f_14)
        exact steps_nil
      intro own398 a398 w398 hd398 hz398 hk398 hf398 hE398
      have e398_0 : a398.eval (.tmp 0) = .slice Al1 l1.length cl1 := (hk398 0 rfl).trans e394_0
      have e398_3 : a398.eval (.tmp 3) = .slice A314 out316.length c315 := (hk398 3 rfl).trans e394_3
      have e398_4 : a398.eval (.tmp 4) = .int .i64 i318 := (hk398 4 rfl).trans e394_4
      obtain ⟨(f_5 : a398.eval (.tmp 5) = .int .i64 (out316.length : Int)), -⟩ := hf398 [2] rfl
      have e398_5 := f_5
      have hX398 := Evo.step hX394 (fun _ => Nat.le_refl 0) hE398 rfl
      have b398_Al1 := RdO.evo rfl hE398 b394_Al1
      have b398_A314 := RwO.evo rfl hE398 b394_A314
      refine fl_seq (fun Q399 hn399 hp399 => ?_)
      refine fl_block (fun Q400 hn400 hx400 hp400 => ?_)
      refine fl_loop (body := (fun s => ref04_Rows_b2 l1 out316 i318 s)) (z := zz391) (show loopO _ _ = _ from hs) (fun (x414 : Int) a wx => ∃ (ox : Own), a.defers = [] ∧ a.tmps.size = 49 ∧ a.eval (.tmp 0) = .slice Al1 l1.length cl1 ∧ a.eval (.tmp 3) = .slice A314 out316.length c315 ∧ a.eval (.tmp 4) = .int .i64 i318 ∧ a.eval (.tmp 5) = .int .i64 x414 ∧ Evo [] (fun _ => 0) ox w wx ∧ RdO ox [0] wx R22 Al1 cl1 l1 ∧ RwO ox 317 [] wx 3 R3 A314 c315 out316) ?_ ?_
      · exact ⟨own398, hd398, hz398, e398_0, e398_3, e398_4, e398_5, hX398, b398_Al1, b398_A314⟩
      · rintro x414 zz428 a428 w428 ⟨own428, hd429, hz429, e429_0, e429_3, e429_4, e429_5, hE429, b429_Al1, b429_A314⟩ hs Q428 hn428 hp428 hz428
        have hs : ref04_Rows_b2 l1 out316 i318 x414 = some zz428 := hs
        refine fl_seq (fun Q430 hn430 hp430 => ?_)
        obtain ⟨x431, hx431, hs⟩ := obind hs
        obtain ⟨x433, hx433, hs⟩ := obind hs
        obtain ⟨x434, hx434, hs⟩ := obind hs
        obtain ⟨r436, hr436, hs⟩ := obind hs
        obtain ⟨x437, hx437, hs⟩ := obind hs
        refine rg_draw_seq g_mixed (n := 49) (rs := []) (own0 := own428) (K := [])
            (bs := [0, 1, 3, 7, 7, 31, 63, 7, 7, 7, 519, 1799, 3847, 8071, 16263, 32767, 65535, 131071])
            (ds := [⟨[], [5], [], Fct.val 15 (.int .i64 x414)⟩,
            ⟨[0], [], [], Fct.val 16 (.bool (decide (0 < x414)))⟩,
            ⟨[1], [], [], Fct.val 17 (.bool (decide (0 < x414)))⟩,
            ⟨[2], [0], [], Fct.cond (decide (0 < x414)) (some 18) (Fct.val 18 (.slice Al1 l1.length cl1))⟩,
            ⟨[2], [4], [], Fct.cond (decide (0 < x414)) (some 19) (Fct.val 19 (.int .i64 i318))⟩,
            ⟨[2, 3, 4], [], [], Fct.cond (decide (0 < x414)) (some 20) (Fct.val 20 (.pointer (some ((adr Al1).add ((i318 : Int).toNat * R22.s)))))⟩,
            ⟨[2, 5], [], [], Fct.cond (decide (0 < x414)) (some 21) (Fct.nest X22 [0] 21 (fun (y : (Option Addr × Nat)) => .slice y.1 x431.length y.2) x431)⟩,
            ⟨[2], [0], [], Fct.cond (decide (0 < x414)) (some 22) (Fct.val 22 (.slice Al1 l1.length cl1))⟩,
            ⟨[2], [3], [], Fct.cond (decide (0 < x414)) (some 23) (Fct.val 23 (.slice A314 out316.length c315))⟩,
            ⟨[2], [5], [], Fct.cond (decide (0 < x414)) (some 24) (Fct.val 24 (.int .i64 x414))⟩,
            ⟨[2, 9], [], [], Fct.cond (decide (0 < x414)) (some 25) (Fct.val 25 (.int .i64 (sb x414 1)))⟩,
            ⟨[2, 8, 10], [], [], Fct.cond (decide (0 < x414)) (some 26) (Fct.val 26 (.pointer (some ((adr A314).add ((sb x414 1 : Int).toNat * R3.s)))))⟩,
            ⟨[2, 11], [], [], Fct.cond (decide (0 < x414)) (some 27) (Fct.val 27 (.int .i64 x433))⟩,
            ⟨[2, 7, 12], [], [], Fct.cond (decide (0 < x414)) (some 28) (Fct.val 28 (.pointer (some ((adr Al1).add ((x433 : Int).toNat * R22.s)))))⟩,
            ⟨[2, 13], [], [], Fct.cond (decide (0 < x414)) (some 29) (Fct.nest X22 [0] 29 (fun (y : (Option Addr × Nat)) => .slice y.1 x434.length y.2) x434)⟩,
            ⟨[2, 6, 14], [], [], Fct.cond (decide (0 < x414)) (some 30) (Fct.val 30 (.int .i64 r436))⟩,
            ⟨[2, 15], [], [], Fct.cond (decide (0 < x414)) (some 31) (Fct.val 31 (.bool (decide (r436 < 0))))⟩,
            ⟨[2, 16], [], [], Fct.val 32 (.bool x437)⟩]) (by kernel_rfl) hz429 hd429 (fun _ h => nomatch h) ?_ ?_
        · refine steps_cons (fun own a wx hf hsl hE => ?_) ?_
          · obtain ⟨s_5, -⟩ := hsl
            exact sg_plain rfl rfl (or_move (s_5.trans e429_5))
          refine steps_cons (fun own a wx hf hsl hE => ?_) ?_
          · obtain ⟨(f_15 : a.eval (.tmp 15) = .int .i64 x414), -⟩ := hf
            exact sg_plain rfl rfl (or_gtr f_15 rfl rfl)
          refine steps_cons (fun own a wx hf hsl hE => ?_) ?_
          · obtain ⟨(f_16 : a.eval (.tmp 16) = .bool (decide (0 < x414))), -⟩ := hf
            exact sg_plain rfl rfl (or_move f_16)
          refine steps_cons (fun own a wx hf hsl hE => ?_) ?_
          · obtain ⟨(f_17 : a.eval (.tmp 17) = .bool (decide (0 < x414))), -⟩ := hf
            obtain ⟨s_0, -⟩ := hsl
            refine sg_t rfl rfl rfl f_17 (fun hg => ?_)
            exact or_move (s_0.trans e429_0)
          refine steps_cons (fun own a wx hf hsl hE => ?_) ?_
          · obtain ⟨(f_17 : a.eval (.tmp 17) = .bool (decide (0 < x414))), -⟩ := hf
            obtain ⟨s_4, -⟩ := hsl
            refine sg_t rfl rfl rfl f_17 (fun hg => ?_)
            exact or_move (s_4.trans e429_4)
          refine steps_cons (fun own a wx hf hsl hE => ?_) ?_
          · obtain ⟨(f_17 : a.eval (.tmp 17) = .bool (decide (0 < x414))), c_18, c_19, -⟩ := hf
            refine sg_t rfl rfl rfl f_17 (fun hg => ?_)
            have f_18 : a.eval (.tmp 18) = .slice Al1 l1.length cl1 := c_18.1 hg
            have f_19 : a.eval (.tmp 19) = .int .i64 i318 := c_19.1 hg
            exact or_index (R := R22) (l := l1) tl35 f_18 f_19 (RdO.some_ b429_Al1 (gd_t hx431 hg)) (gd_t hx431 hg)
          refine steps_cons (fun own a wx hf hsl hE => ?_) ?_
          · obtain ⟨(f_17 : a.eval (.tmp 17) = .bool (decide (0 < x414))), c_20, -⟩ := hf
            refine sg_t rfl rfl rfl f_17 (fun hg => ?_)
            have f_20 : a.eval (.tmp 20) = .pointer (some ((adr Al1).add ((i318 : Int).toNat * R22.s))) := c_20.1 hg
            exact or_loadN1 X22 0 to22 f_20 (Addr.add_zero' _).symm (RdO.evo rfl hE b429_Al1) (gd_t hx431 hg) (fun _ => rfl)
          refine steps_cons (fun own a wx hf hsl hE => ?_) ?_
          · obtain ⟨(f_17 : a.eval (.tmp 17) = .bool (decide (0 < x414))), -⟩ := hf
            obtain ⟨s_0, -⟩ := hsl
            refine sg_t rfl rfl rfl f_17 (fun hg => ?_)
            exact or_move (s_0.trans e429_0)
          refine steps_cons (fun own a wx hf hsl hE => ?_) ?_
          · obtain ⟨(f_17 : a.eval (.tmp 17) = .bool (decide (0 < x414))), -⟩ := hf
            obtain ⟨s_3, -⟩ := hsl
            refine sg_t rfl rfl rfl f_17 (fun hg => ?_)
            exact or_move (s_3.trans e429_3)
          refine steps_cons (fun own a wx hf hsl hE => ?_) ?_
          · obtain ⟨(f_17 : a.eval (.tmp 17) = .bool (decide (0 < x414))), -⟩ := hf
            obtain ⟨s_5, -⟩ := hsl
            refine sg_t rfl rfl rfl f_17 (fun hg => ?_)
            exact or_move (s_5.trans e429_5)
          refine steps_cons (fun own a wx hf hsl hE => ?_) ?_
          · obtain ⟨(f_17 : a.eval (.tmp 17) = .bool (decide (0 < x414))), c_24, -⟩ := hf
            refine sg_t rfl rfl rfl f_17 (fun hg => ?_)
            have f_24 : a.eval (.tmp 24) = .int .i64 x414 := c_24.1 hg
            exact or_sub f_24 rfl rfl
          refine steps_cons (fun own a wx hf hsl hE => ?_) ?_
          · obtain ⟨(f_17 : a.eval (.tmp 17) = .bool (decide (0 < x414))), c_23, c_25, -⟩ := hf
            refine sg_t rfl rfl rfl f_17 (fun hg => ?_)
            have f_23 : a.eval (.tmp 23) = .slice A314 out316.length c315 := c_23.1 hg
            have f_25 : a.eval (.tmp 25) = .int .i64 (sb x414 1) := c_25.1 hg
            exact or_index (R := R3) (l := out316) tl22 f_23 f_25 (RdO.some_ (RwO.rd b429_A314) (gd_t hx433 hg)) (gd_t hx433 hg)
          refine steps_cons (fun own a wx hf hsl hE => ?_) ?_
          · obtain ⟨(f_17 : a.eval (.tmp 17) = .bool (decide (0 < x414))), c_26, -⟩ := hf
            refine sg_t rfl rfl rfl f_17 (fun hg => ?_)
            have f_26 : a.eval (.tmp 26) = .pointer (some ((adr A314).add ((sb x414 1 : Int).toNat * R3.s))) := c_26.1 hg
            exact or_load1 to3 f_26 (CellsAt.zero (RdO.cells (F := E3) (RwO.rd (RwO.evo rfl hE b429_A314)) (gd_t hx433 hg)) rfl)
          refine steps_cons (fun own a wx hf hsl hE => ?_) ?_
          · obtain ⟨(f_17 : a.eval (.tmp 17) = .bool (decide (0 < x414))), c_22, c_27, -⟩ := hf
            refine sg_t rfl rfl rfl f_17 (fun hg => ?_)
            have f_22 : a.eval (.tmp 22) = .slice Al1 l1.length cl1 := c_22.1 hg
            have f_27 : a.eval (.tmp 27) = .int .i64 x433 := c_27.1 hg
            exact or_index (R := R22) (l := l1) tl35 f_22 f_27 (RdO.some_ b429_Al1 (gd_t hx434 hg)) (gd_t hx434 hg)
          refine steps_cons (fun own a wx hf hsl hE => ?_) ?_
          · obtain ⟨(f_17 : a.eval (.tmp 17) = .bool (decide (0 < x414))), c_28, -⟩ := hf
            refine sg_t rfl rfl rfl f_17 (fun hg => ?_)
            have f_28 : a.eval (.tmp 28) = .pointer (some ((adr Al1).add ((x433 : Int).toNat * R22.s))) := c_28.1 hg
            exact or_loadN1 X22 0 to22 f_28 (Addr.add_zero' _).symm (RdO.evo rfl hE b429_Al1) (gd_t hx434 hg) (fun _ => rfl)
          refine steps_cons (fun own a wx hf hsl hE => ?_) ?_
          · obtain ⟨(f_17 : a.eval (.tmp 17) = .bool (decide (0 < x414))), c_21, c_29, -⟩ := hf
            refine sg_t rfl rfl rfl f_17 (fun hg => ?_)
            obtain ⟨⟨A432, cA432⟩, (f_21 : a.eval (.tmp 21) = .slice A432 x431.length cA432), (b_A432 : RdO own [0] wx R3 A432 cA432 x431)⟩ := c_21.1 hg
            obtain ⟨⟨A435, cA435⟩, (f_29 : a.eval (.tmp 29) = .slice A435 x434.length cA435), (b_A435 : RdO own [0] wx R3 A435 cA435 x434)⟩ := c_29.1 hg
            exact or_call cf17 (args2 f_21 f_29) (ref04_Compare_w _ x431 A432 cA432 x434 A435 cA435 (RdO.zero b_A432) (RdO.zero b_A435) r436 (gd_t hr436 hg)) post_val
          refine steps_cons (fun own a wx hf hsl hE => ?_) ?_
          · obtain ⟨(f_17 : a.eval (.tmp 17) = .bool (decide (0 < x414))), c_30, -⟩ := hf
            refine sg_t rfl rfl rfl f_17 (fun hg => ?_)
            have f_30 : a.eval (.tmp 30) = .int .i64 r436 := c_30.1 hg
            exact or_lss f_30 rfl rfl
          refine steps_cons (fun own a wx hf hsl hE => ?_) ?_
          · obtain ⟨(f_17 : a.eval (.tmp 17) = .bool (decide (0 < x414))), c_31, -⟩ := hf
            exact sg_plain rfl rfl (or_and f_17 (fun hx => c_31.1 hx) rfl (osome hx437).symm)
          exact steps_nil
        intro own438 a438 w438 hd438 hz438 hk438 hf438 hE438
        have e438_0 : a438.eval (.tmp 0) = .slice Al1 l1.length cl1 := (hk438 0 rfl).trans e429_0
        have e438_3 : a438.eval (.tmp 3) = .slice A314 out316.length c315 := (hk438 3 rfl).trans e429_3
        have e438_4 : a438.eval (.tmp 4) = .int .i64 i318 := (hk438 4 rfl).trans e429_4
        have e438_5 : a438.eval (.tmp 5) = .int .i64 x414 := (hk438 5 rfl).trans e429_5
        obtain ⟨(f_32 : a438.eval (.tmp 32) = .bool x437), -⟩ := hf438 [17] rfl
        have e438_32 := f_32
        have hX438 := Evo.step hE429 (fun _ => Nat.le_refl 0) hE438 rfl
        have b438_Al1 := RdO.evo rfl hE438 b429_Al1
        have b438_A314 := RwO.evo rfl hE438 b429_A314
        refine fl_cond e438_32 hs (fun c439 hs => ?_) (fun c439 hs => ?_)
        · refine fl_skip ?_
          refine hn430 _ _ ?_
          refine fl_block (fun Q440 hn440 hx440 hp440 => ?_)
          refine rg_plain (n := 49) (rs := []) (own0 := own438) (K := [])
              (bs := [0, 1, 3])
              (ds := [⟨[], [5], [], Fct.val 33 (.int .i64 x414)⟩,
              ⟨[0], [], [], Fct.val 34 (.int .i64 (sb x414 1))⟩,
              ⟨[1], [], [], Fct.val 5 (.int .i64 (sb x414 1))⟩]) (by kernel_rfl) hz438 hd438 (fun _ h => nomatch h) ?_ ?_
          · refine steps_cons (fun own a wx hf hsl hE => ?_) ?_
            · obtain ⟨s_5, -⟩ := hsl
              exact sg_plain rfl rfl (or_move (s_5.trans e438_5))
            refine steps_cons (fun own a wx hf hsl hE => ?_) ?_
            · obtain ⟨(f_33 : a.eval (.tmp 33) = .int .i64 x414), -⟩ := hf
              exact sg_plain rfl rfl (or_sub f_33 rfl rfl)
            refine steps_cons (fun own a wx hf hsl hE => ?_) ?_
            · obtain ⟨(f_34 : a.eval (.tmp 34) = .int .i64 (sb x414 1)), -⟩ := hf
              exact sg_plain rfl rfl (or_assign f_34)
            exact steps_nil
          intro own441 a441 w441 hd441 hz441 hk441 hf441 hE441
          have e441_0 : a441.eval (.tmp 0) = .slice Al1 l1.length cl1 := (hk441 0 rfl).trans e438_0
          have e441_3 : a441.eval (.tmp 3) = .slice A314 out316.length c315 := (hk441 3 rfl).trans e438_3
          have e441_4 : a441.eval (.tmp 4) = .int .i64 i318 := (hk441 4 rfl).trans e438_4
          obtain ⟨(f_5 : a441.eval (.tmp 5) = .int .i64 (sb x414 1)), -⟩ := hf441 [2] rfl
          have e441_5 := f_5
          have hX441 := Evo.step hX438 (fun _ => Nat.le_refl 0) hE441 rfl
          have b441_Al1 := RdO.evo rfl hE441 b438_Al1
          have b441_A314 := RwO.evo rfl hE441 b438_A314
          refine hn440 _ _ ?_
          exact hn428 _ _ _ hs ⟨own441, hd441, hz441, e441_0, e441_3, e441_4, e441_5, hX441, b441_Al1, b441_A314⟩
        refine fl_exit ?_
        refine hp430 _ _ _ rfl ?_
        replace hs := hz428 _ hs
        refine hp428 _ _ _ rfl ?_
        refine hx400 _ _ ?_
        refine hn399 _ _ ?_
        obtain ⟨x444, hx444, hs⟩ := obind hs
        obtain ⟨x446, hx446, hs⟩ := obind hs
        obtain ⟨x451, hx451, hs⟩ := obind hs
        refine rg_plain_seq (n := 49) (rs := []) (own0 := own438) (K := [443, 447])
            (bs := [0, 0, 0, 6, 15, 0, 32, 127, 255])
            (ds := [⟨[], [], [], Fct.row 443 [] 35 3 R3 ([] : List Int)⟩,
            ⟨[], [3], [], Fct.val 36 (.slice A314 out316.length c315)⟩,
            ⟨[], [5], [], Fct.val 37 (.int .i64 x414)⟩,
            ⟨[1, 2], [], [], Fct.view [317] 38 R3 x444⟩,
            ⟨[0, 3], [], [443], Fct.row 447 [] 39 3 R3 x446⟩,
            ⟨[], [4], [], Fct.val 40 (.int .i64 i318)⟩,
            ⟨[5], [], [], Fct.row 450 [] 41 3 R3 [i318]⟩,
            ⟨[4, 6], [], [447], Fct.row 452 [] 42 3 R3 x451⟩,
            ⟨[7], [], [], Fct.rel [6, 42] (fun l => ∀ (A453 : Option Addr) (cA453 : Nat), l.getD 1 undef = .slice A453 x451.length cA453 → l.getD 0 undef = .slice A453 x451.length cA453)⟩]) (by kernel_rfl) hz438 hd438 (fun _ h => nomatch h) ?_ ?_
        · refine steps_cons (fun own a wx hf hsl hE => ?_) ?_
          · exact sg_plain rfl rfl (or_lit (lab := 443) (e := 3) (cs := #[]) (F := E3) (or_new [] rfl rfl trivial (by kernel_rfl)) rfl rfl (show 0 ≤ maxLen by decide))
          refine steps_cons (fun own a wx hf hsl hE => ?_) ?_
          · obtain ⟨s_3, -⟩ := hsl
            exact sg_plain rfl rfl (or_move (s_3.trans e438_3))
          refine steps_cons (fun own a wx hf hsl hE => ?_) ?_
          · obtain ⟨s_5, -⟩ := hsl
            exact sg_plain rfl rfl (or_move (s_5.trans e438_5))
          refine steps_cons (fun own a wx hf hsl hE => ?_) ?_
          · obtain ⟨(f_36 : a.eval (.tmp 36) = .slice A314 out316.length c315), (f_37 : a.eval (.tmp 37) = .int .i64 x414), -⟩ := hf
            exact sg_plain rfl rfl (or_view (R := R3) (l := out316) (L := [317]) tu22 ts3 f_36 Bnd.none_ (Bnd.some_ f_37) Bnd.none_ (RwO.rd (RwO.evo rfl hE b438_A314)) hx444 (.inl rfl) (by simp))
          refine steps_cons (fun own a wx hf hsl hE => ?_) ?_
          · obtain ⟨⟨⟨A442, cA442⟩, (f_35 : a.eval (.tmp 35) = .slice A442 ([] : List Int).length cA442), (b_A442 : RwO own 443 [] wx 3 R3 A442 cA442 ([] : List Int))⟩, ⟨⟨A445, cA445⟩, (f_38 : a.eval (.tmp 38) = .slice A445 x444.length cA445), (b_A445 : RdO own [317] wx R3 A445 cA445 x444)⟩, -⟩ := hf
            exact sg_plain rfl rfl (or_append (R := R3) (lab := 443) (lab2 := 447) (L := []) (L3 := []) tp22 f_35 b_A442 (by decide) f_38 b_A445 hx446 (by decide) (by decide) (mem_of rfl) (.inl (Rep.fl_flat _)))
          refine steps_cons (fun own a wx hf hsl hE => ?_) ?_
          · obtain ⟨s_4, -⟩ := hsl
            exact sg_plain rfl rfl (or_move (s_4.trans e438_4))
          refine steps_cons (fun own a wx hf hsl hE => ?_) ?_
          · obtain ⟨(f_40 : a.eval (.tmp 40) = .int .i64 i318), -⟩ := hf
            exact sg_plain rfl rfl (or_lit (lab := 450) (e := 3) (cs := #[.int .i64 i318]) (F := E3) (or_new [(40, .int .i64 i318)] rfl rfl ⟨f_40, trivial⟩ (by kernel_rfl)) rfl rfl (show 1 ≤ maxLen by decide))
          refine steps_cons (fun own a wx hf hsl hE => ?_) ?_
          · obtain ⟨⟨⟨A448, cA448⟩, (f_39 : a.eval (.tmp 39) = .slice A448 x446.length cA448), (b_A448 : RwO own 447 [] wx 3 R3 A448 cA448 x446)⟩, ⟨⟨A449, cA449⟩, (f_41 : a.eval (.tmp 41) = .slice A449 [i318].length cA449), (b_A449 : RwO own 450 [] wx 3 R3 A449 cA449 [i318])⟩, -⟩ := hf
            exact sg_plain rfl rfl (or_append (R := R3) (lab := 447) (lab2 := 452) (L := []) (L3 := []) tp22 f_39 b_A448 (by decide) f_41 (RwO.rd b_A449) hx451 (by decide) (by decide) (mem_of rfl) (.inl (Rep.fl_flat _)))
          refine steps_cons (fun own a wx hf hsl hE => ?_) ?_
          · obtain ⟨⟨⟨A453, cA453⟩, (f_42 : a.eval (.tmp 42) = .slice A453 x451.length cA453), (b_A453 : RwO own 452 [] wx 3 R3 A453 cA453 x451)⟩, -⟩ := hf
            exact sg_plain rfl rfl (or_mono (f := Fct.val 6 (.slice A453 x451.length cA453)) (or_assign f_42) (fun own' a' w' v' hp h => fun _ _ h0' => by cases (f_42.symm.trans ((hp.2 42 (by decide)).symm.trans h0')); exact h))
          exact steps_nil
        intro own454 a454 w454 hd454 hz454 hk454 hf454 hE454
        have e454_0 : a454.eval (.tmp 0) = .slice Al1 l1.length cl1 := (hk454 0 rfl).trans e438_0
        have e454_3 : a454.eval (.tmp 3) = .slice A314 out316.length c315 := (hk454 3 rfl).trans e438_3
        have e454_4 : a454.eval (.tmp 4) = .int .i64 i318 := (hk454 4 rfl).trans e438_4
        have e454_5 : a454.eval (.tmp 5) = .int .i64 x414 := (hk454 5 rfl).trans e438_5
        obtain ⟨⟨⟨A453, cA453⟩, (f_42 : a454.eval (.tmp 42) = .slice A453 x451.length cA453), (b_A453 : RwO own454 452 [] w454 3 R3 A453 cA453 x451)⟩, (q_6 : ∀ (A453 : Option Addr) (cA453 : Nat), a454.eval (.tmp 42) = .slice A453 x451.length cA453 → a454.eval (.tmp 6) = .slice A453 x451.length cA453), -⟩ := hf454 [7, 8] rfl
        have f_6 := q_6 _ _ f_42
        have e454_6 := f_6
        have hX454 := Evo.step hX438 (fun _ => Nat.le_refl 0) hE454 rfl
        have b454_Al1 := RdO.evo rfl hE454 b438_Al1
        have b454_A314 := RwO.evo rfl hE454 b438_A314
        have b454_A453 := b_A453
        obtain ⟨x457, hx457, hs⟩ := obind hs
        obtain ⟨x459, hx459, hs⟩ := obind hs
        refine rg_plain (n := 49) (rs := [Fct.rowAt 452 [] 3 R3 A453 cA453 x451]) (own0 := own454) (K := [452])
            (bs := [0, 0, 0, 6, 15, 31])
            (ds := [⟨[], [6], [], Fct.val 43 (.slice A453 x451.length cA453)⟩,
            ⟨[], [3], [], Fct.val 44 (.slice A314 out316.length c315)⟩,
            ⟨[], [5], [], Fct.val 45 (.int .i64 x414)⟩,
            ⟨[1, 2], [], [], Fct.view [317] 46 R3 x457⟩,
            ⟨[0, 3, 6], [], [452], Fct.row 460 [] 47 3 R3 x459⟩,
            ⟨[4], [], [], Fct.rel [3, 47] (fun l => ∀ (A461 : Option Addr) (cA461 : Nat), l.getD 1 undef = .slice A461 x459.length cA461 → l.getD 0 undef = .slice A461 x459.length cA461)⟩]) (by kernel_rfl) hz454 hd454 (by simp only [List.forall_mem_cons]; exact ⟨b454_A453, fun _ h => nomatch h⟩) ?_ ?_
        · refine steps_cons (fun own a wx hf hsl hE => ?_) ?_
          · obtain ⟨s_6, -⟩ := hsl
            exact sg_plain rfl rfl (or_move (s_6.trans e454_6))
          refine steps_cons (fun own a wx hf hsl hE => ?_) ?_
          · obtain ⟨s_3, -⟩ := hsl
            exact sg_plain rfl rfl (or_move (s_3.trans e454_3))
          refine steps_cons (fun own a wx hf hsl hE => ?_) ?_
          · obtain ⟨s_5, -⟩ := hsl
            exact sg_plain rfl rfl (or_move (s_5.trans e454_5))
          refine steps_cons (fun own a wx hf hsl hE => ?_) ?_
          · obtain ⟨(f_44 : a.eval (.tmp 44) = .slice A314 out316.length c315), (f_45 : a.eval (.tmp 45) = .int .i64 x414), -⟩ := hf
            exact sg_plain rfl rfl (or_view (R := R3) (l := out316) (L := [317]) tu22 ts3 f_44 (Bnd.some_ f_45) Bnd.none_ Bnd.none_ (RwO.rd (RwO.evo rfl hE b454_A314)) hx457 (.inl rfl) (by simp))
          refine steps_cons (fun own a wx hf hsl hE => ?_) ?_
          · obtain ⟨(f_43 : a.eval (.tmp 43) = .slice A453 x451.length cA453), ⟨⟨A458, cA458⟩, (f_46 : a.eval (.tmp 46) = .slice A458 x457.length cA458), (b_A458 : RdO own [317] wx R3 A458 cA458 x457)⟩, (b_A453 : RwO own 452 [] wx 3 R3 A453 cA453 x451), -⟩ := hf
            exact sg_plain rfl rfl (or_append (R := R3) (lab := 452) (lab2 := 460) (L := []) (L3 := []) tp22 f_43 b_A453 (by decide) f_46 b_A458 hx459 (by decide) (by decide) (mem_of rfl) (.inl (Rep.fl_flat _)))
          refine steps_cons (fun own a wx hf hsl hE => ?_) ?_
          · obtain ⟨⟨⟨A461, cA461⟩, (f_47 : a.eval (.tmp 47) = .slice A461 x459.length cA461), (b_A461 : RwO own 460 [] wx 3 R3 A461 cA461 x459)⟩, -⟩ := hf
            exact sg_plain rfl rfl (or_mono (f := Fct.val 3 (.slice A461 x459.length cA461)) (or_assign f_47) (fun own' a' w' v' hp h => fun _ _ h0' => by cases (f_47.symm.trans ((hp.2 47 (by decide)).symm.trans h0')); exact h))
          exact steps_nil
        intro own462 a462 w462 hd462 hz462 hk462 hf462 hE462
        have e462_0 : a462.eval (.tmp 0) = .slice Al1 l1.length cl1 := (hk462 0 rfl).trans e454_0
        have e462_4 : a462.eval (.tmp 4) = .int .i64 i318 := (hk462 4 rfl).trans e454_4
        obtain ⟨⟨⟨A461, cA461⟩, (f_47 : a462.eval (.tmp 47) = .slice A461 x459.length cA461), (b_A461 : RwO own462 460 [] w462 3 R3 A461 cA461 x459)⟩, (q_3 : ∀ (A461 : Option Addr) (cA461 : Nat), a462.eval (.tmp 47) = .slice A461 x459.length cA461 → a462.eval (.tmp 3) = .slice A461 x459.length cA461), -⟩ := hf462 [4, 5] rfl
        have f_3 := q_3 _ _ f_47
        have e462_3 := f_3
        have hX462 := Evo.step hX454 (fun _ => Nat.le_refl 0) hE462 rfl
        have b462_Al1 := RdO.evo rfl hE462 b454_Al1
        have b462_A461 := b_A461
        refine hn397 _ _ ?_
        refine hn396 _ _ ?_
        refine rg_plain (n := 49) (rs := []) (own0 := own462) (K := [])
            (bs := [0, 1, 3])
            (ds := [⟨[], [4], [], Fct.val 11 (.int .i64 i318)⟩,
            ⟨[0], [], [], Fct.val 12 (.int .i64 (ad i318 1))⟩,
            ⟨[1], [], [], Fct.val 4 (.int .i64 (ad i318 1))⟩]) (by kernel_rfl) hz462 hd462 (fun _ h => nomatch h) ?_ ?_
        · refine steps_cons (fun own a wx hf hsl hE => ?_) ?_
          · obtain ⟨s_4, -⟩ := hsl
            exact sg_plain rfl rfl (or_move (s_4.trans e462_4))
          refine steps_cons (fun own a wx hf hsl hE => ?_) ?_
          · obtain ⟨(f_11 : a.eval (.tmp 11) = .int .i64 i318), -⟩ := hf
            exact sg_plain rfl rfl (or_add f_11 rfl rfl)
          refine steps_cons (fun own a wx hf hsl hE => ?_) ?_
          · obtain ⟨(f_12 : a.eval (.tmp 12) = .int .i64 (ad i318 1)), -⟩ := hf
            exact sg_plain rfl rfl (or_assign f_12)
          exact steps_nil
        intro own463 a463 w463 hd463 hz463 hk463 hf463 hE463
        have e463_0 : a463.eval (.tmp 0) = .slice Al1 l1.length cl1 := (hk463 0 rfl).trans e462_0
        have e463_3 : a463.eval (.tmp 3) = .slice A461 x459.length cA461 := (hk463 3 rfl).trans e462_3
        obtain ⟨(f_4 : a463.eval (.tmp 4) = .int .i64 (ad i318 1)), -⟩ := hf463 [2] rfl
        have e463_4 := f_4
        have hX463 := Evo.step hX462 (fun _ => Nat.le_refl 0) hE463 rfl
        have b463_Al1 := RdO.evo rfl hE463 b462_Al1
        have b463_A461 := RwO.evo rfl hE463 b462_A461
        exact hn391 _ _ _ hs ⟨(rl [(460, 317)] own463), A461, cA461, hd463, hz463, e463_0, e463_3, e463_4, (Evo.rl_ hX463 (fun _ => Nat.le_refl 0) rfl), (RdO.rl_ (mm := [(460, 317)]) b463_Al1), (RwO.rl_ (mm := [(460, 317)]) b463_A461)⟩
    refine fl_exit ?_
    refine hp393 _ _ _ rfl ?_
    replace hs := hz391 _ hs
    refine hp391 _ _ _ rfl ?_
    refine hx242 _ _ ?_
    refine hn240 _ _ ?_
    refine rg_plain_seq (n := 49) (rs := []) (own0 := own394) (K := [])
        (bs := [0, 1])
        (ds := [⟨[], [3], [], Fct.val 48 (.slice A314 out316.length c315)⟩,
        ⟨[0], [], [], Fct.val 2 (.slice A314 out316.length c315)⟩]) (by kernel_rfl) hz394 hd394 (fun _ h => nomatch h) ?_ ?_
    · refine steps_cons (fun own a wx hf hsl hE => ?_) ?_
      · obtain ⟨s_3, -⟩ := hsl
        exact sg_plain rfl rfl (or_move (s_3.trans e394_3))
      refine steps_cons (fun own a wx hf hsl hE => ?_) ?_
      · obtain ⟨(f_48 : a.eval (.tmp 48) = .slice A314 out316.length c315), -⟩ := hf
        exact sg_plain rfl rfl (or_assign f_48)
      exact steps_nil
    intro own464 a464 w464 hd464 hz464 hk464 hf464 hE464
    obtain ⟨(f_2 : a464.eval (.tmp 2) = .slice A314 out316.length c315), -⟩ := hf464 [1] rfl
    have e464_2 := f_2
    have hX464 := Evo.step hX394 (fun _ => Nat.le_refl 0) hE464 rfl
    have b464_A314 := RwO.evo rfl hE464 b394_A314
    refine fl_ret ?_
    obtain rfl := (osome hs).symm
    exact hret _ _ _ _ (.inl rfl) hd464 (results1_ rfl (RVal.tmp_ e464_2)) ⟨(rl [(317, 1)] own464), (A314, c315), rfl, (Evo.rl_ hX464 (fun _ => Nat.le_refl 0) rfl), (RwO.rl_ (mm := [(317, 1)]) b464_A314)⟩

theorem ref04_Uniq_w (w : World) (l1 : List Int) (Al1 : Option Addr) (cl1 : Nat) (hl1 : RdO (fun _ => 0) [0] w R3 Al1 cl1 l1) (r : List Int) (hs : ref04_Uniq l1 = some r) :
    Calls Try.prog 25 #[.slice Al1 l1.length cl1] w fun e w' => ∃ (own' : Own) (x : Option Addr × Nat), e = .returned (.slice x.1 r.length x.2) ∧ Evo [] (fun _ => 0) own' w w' ∧ RwO own' 1 [] w' 3 R3 x.1 x.2 r := by
  refine fl_enter (n := 31) rfl rfl rfl (Nat.le_of_ble_eq_true rfl) ?_
  intro a0 Q hd0 hz0 harg hret
  have ha0 := harg 0 _ rfl
  clear harg
  have hE0 : Evo [] (fun _ => 0) (fun _ => 0) w w := Evo.refl _ _ _
  refine rg_plain_seq (n := 31) (rs := []) (own0 := (fun _ => 0)) (K := [])
      (bs := [0])
      (ds := [⟨[], [], [], Fct.val 2 (.slice none 0 0)⟩]) (by kernel_rfl) hz0 hd0 (fun _ h => nomatch h) ?_ ?_
  · refine steps_cons (fun own a wx hf hsl hE => ?_) ?_
    · exact sg_plain rfl rfl (or_assign rfl)
    exact steps_nil
  intro own203 a203 w203 hd203 hz203 hk203 hf203 hE203
  have e203_0 : a203.eval (.tmp 0) = .slice Al1 l1.length cl1 := (hk203 0 rfl).trans ha0
  have hX203 := Evo.step hE0 (fun _ => Nat.le_refl 0) hE203 rfl
  have b203_Al1 := RdO.evo rfl hE203 hl1
  refine rg_plain_seq (n := 31) (rs := []) (own0 := own203) (K := [])
      (bs := [0])
      (ds := [⟨[], [], [], Fct.val 3 (.slice none 0 0)⟩]) (by kernel_rfl) hz203 hd203 (fun _ h => nomatch h) ?_ ?_
  · refine steps_cons (fun own a wx hf hsl hE => ?_) ?_
    · exact sg_plain rfl rfl (or_assign rfl)
    exact steps_nil
  intro own204 a204 w204 hd204 hz204 hk204 hf204 hE204
  have e204_0 : a204.eval (.tmp 0) = .slice Al1 l1.length cl1 := (hk204 0 rfl).trans e203_0
  obtain ⟨(f_3 : a204.eval (.tmp 3) = .slice none 0 0), -⟩ := hf204 [0] rfl
  have e204_3 := f_3
  have hX204 := Evo.step hX203 (fun _ => Nat.le_refl 0) hE204 rfl
  have b204_Al1 := RdO.evo rfl hE204 b203_Al1
  refine fl_seq (fun Q205 hn205 hp205 => ?_)
  refine rg_plain_seq (n := 31) (rs := []) (own0 := own204) (K := [])
      (bs := [0])
      (ds := [⟨[], [], [], Fct.val 4 (.int .i64 0)⟩]) (by kernel_rfl) hz204 hd204 (fun _ h => nomatch h) ?_ ?_
  · refine steps_cons (fun own a wx hf hsl hE => ?_) ?_
    · exact sg_plain rfl rfl (or_assign rfl)
    exact steps_nil
  intro own206 a206 w206 hd206 hz206 hk206 hf206 hE206
  have e206_0 : a206.eval (.tmp 0) = .slice Al1 l1.length cl1 := (hk206 0 rfl).trans e204_0
  have e206_3 : a206.eval (.tmp 3) = .slice none 0 0 := (hk206 3 rfl).trans e204_3
  obtain ⟨(f_4 : a206.eval (.tmp 4) = .int .i64 0), -⟩ := hf206 [0] rfl
  have e206_4 := f_4
  have hX206 := Evo.step hX204 (fun _ => Nat.le_refl 0) hE206 rfl
  have b206_Al1 := RdO.evo rfl hE206 b204_Al1
  refine fl_block (fun Q207 hn207 hx207 hp207 => ?_)
  refine fl_loop (body := (fun s => ref04_Uniq_b1 l1 s.1 s.2)) (z := r) (show loopO _ _ = _ from hs) (fun (s : (List Int) × Int) a wx => match s with | (out270, i272) => ∃ (ox : Own) (A268 : Option Addr) (c269 : Nat), a.defers = [] ∧ a.tmps.size = 31 ∧ a.eval (.tmp 0) = .slice Al1 l1.length cl1 ∧ a.eval (.tmp 3) = .slice A268 out270.length c269 ∧ a.eval (.tmp 4) = .int .i64 i272 ∧ Evo [] (fun _ => 0) ox w wx ∧ RdO ox [0] wx R3 Al1 cl1 l1 ∧ RwO ox 271 [] wx 3 R3 A268 c269 out270) ?_ ?_
  · exact ⟨own206, none, 0, hd206, hz206, e206_0, e206_3, e206_4, hX206, b206_Al1, RwO.nil_⟩
  · rintro ⟨out270, i272⟩ zz333 a333 w333 ⟨own333, A268, c269, hd334, hz334, e334_0, e334_3, e334_4, hE334, b334_Al1, b334_A268⟩ hs Q333 hn333 hp333 hz333
    have hs : ref04_Uniq_b1 l1 out270 i272 = some zz333 := hs
    refine fl_seq (fun Q335 hn335 hp335 => ?_)
    refine rg_plain_seq (n := 31) (rs := []) (own0 := own333) (K := [])
        (bs := [0, 0, 2, 7])
        (ds := [⟨[], [4], [], Fct.val 7 (.int .i64 i272)⟩,
        ⟨[], [0], [], Fct.val 8 (.slice Al1 l1.length cl1)⟩,
        ⟨[1], [], [], Fct.val 9 (.int .i64 (l1.length : Int))⟩,
        ⟨[0, 2], [], [], Fct.val 10 (.bool (decide (i272 < (l1.length : Int))))⟩]) (by kernel_rfl) hz334 hd334 (fun _ h => nomatch h) ?_ ?_
    · refine steps_cons (fun own a wx hf hsl hE => ?_) ?_
      · obtain ⟨s_4, -⟩ := hsl
        exact sg_plain rfl rfl (or_move (s_4.trans e334_4))
      refine steps_cons (fun own a wx hf hsl hE => ?_) ?_
      · obtain ⟨s_0, -⟩ := hsl
        exact sg_plain rfl rfl (or_move (s_0.trans e334_0))
      refine steps_cons (fun own a wx hf hsl hE => ?_) ?_
      · obtain ⟨(f_8 : a.eval (.tmp 8) = .slice Al1 l1.length cl1), -⟩ := hf
        exact sg_plain rfl rfl (or_len tu22 f_8 rfl)
      refine steps_cons (fun own a wx hf hsl hE => ?_) ?_
      · obtain ⟨(f_7 : a.eval (.tmp 7) = .int .i64 i272), (f_9 : a.eval (.tmp 9) = .int .i64 (l1.length : Int)), -⟩ := hf
        exact sg_plain rfl rfl (or_lss f_7 f_9 rfl)
      exact steps_nil
    intro own336 a336 w336 hd336 hz336 hk336 hf336 hE336
    have e336_0 : a336.eval (.tmp 0) = .slice Al1 l1.length cl1 := (hk336 0 rfl).trans e334_0
    have e336_3 : a336.eval (.tmp 3) = .slice A268 out270.length c269 := (hk336 3 rfl).trans e334_3
    have e336_4 : a336.eval (.tmp 4) = .int .i64 i272 := (hk336 4 rfl).trans e334_4
    obtain ⟨(f_10 : a336.eval (.tmp 10) = .bool (decide (i272 < (l1.length : Int)))), -⟩ := hf336 [3] rfl
    have e336_10 := f_10
    have hX336 := Evo.step hE334 (fun _ => Nat.le_refl 0) hE336 rfl
    have b336_Al1 := RdO.evo rfl hE336 b334_Al1
    have b336_A268 := RwO.evo rfl hE336 b334_A268
    refine fl_cond e336_10 hs (fun c337 hs => ?_) (fun c337 hs => ?_)
    · refine fl_skip ?_
      refine hn335 _ _ ?_
      refine fl_seq (fun Q338 hn338 hp338 => ?_)
      refine fl_block (fun Q366 hn366 hx366 hp366 => ?_)
      have K381 : ∀ (a381 : Act) (w381 : World) (own381 : Own) (out379 : List Int) (A377 : Option Addr) (c378 : Nat), a381.defers = [] → a381.tmps.size = 31 → a381.eval (.tmp 0) = .slice Al1 l1.length cl1 → a381.eval (.tmp 3) = .slice A377 out379.length c378 → a381.eval (.tmp 4) = .int .i64 i272 → Evo [] (fun _ => 0) own381 w w381 → RdO own381 [0] w381 R3 Al1 cl1 l1 → RwO own381 380 [] w381 3 R3 A377 c378 out379 → ref04_Uniq_k2 i272 out379 = some zz333 → (Q366 .normal a381 w381 ∧ Q366 (.exit 1) a381 w381) := by
        intro a381 w381 own381 out379 A377 c378 hd382 hz382 e382_0 e382_3 e382_4 hE382 b382_Al1 b382_A377 hs
        refine and_both (hn366 _ _) (hx366 _ _) ?_
        refine hn338 _ _ ?_
        refine rg_plain (n := 31) (rs := []) (own0 := own381) (K := [])
            (bs := [0, 1, 3])
            (ds := [⟨[], [4], [], Fct.val 11 (.int .i64 i272)⟩,
            ⟨[0], [], [], Fct.val 12 (.int .i64 (ad i272 1))⟩,
            ⟨[1], [], [], Fct.val 4 (.int .i64 (ad i272 1))⟩]) (by kernel_rfl) hz382 hd382 (fun _ h => nomatch h) ?_ ?_
        · refine steps_cons (fun own a wx hf hsl hE => ?_) ?_
          · obtain ⟨s_4, -⟩ := hsl
            exact sg_plain rfl rfl (or_move (s_4.trans e382_4))
          refine steps_cons (fun own a wx hf hsl hE => ?_) ?_
          · obtain ⟨(f_11 : a.eval (.tmp 11) = .int .i64 i272), -⟩ := hf
            exact sg_plain rfl rfl (or_add f_11 rfl rfl)
          refine steps_cons (fun own a wx hf hsl hE => ?_) ?_
          · obtain ⟨(f_12 : a.eval (.tmp 12) = .int .i64 (ad i272 1)), -⟩ := hf
            exact sg_plain rfl rfl (or_assign f_12)
          exact steps_nil
        intro own383 a383 w383 hd383 hz383 hk383 hf383 hE383
        have e383_0 : a383.eval (.tmp 0) = .slice Al1 l1.length cl1 := (hk383 0 rfl).trans e382_0
        have e383_3 : a383.eval (.tmp 3) = .slice A377 out379.length c378 := (hk383 3 rfl).trans e382_3
        obtain ⟨(f_4 : a383.eval (.tmp 4) = .int .i64 (ad i272 1)), -⟩ := hf383 [2] rfl
        have e383_4 := f_4
        have hX383 := Evo.step hE382 (fun _ => Nat.le_refl 0) hE383 rfl
        have b383_Al1 := RdO.evo rfl hE383 b382_Al1
        have b383_A377 := RwO.evo rfl hE383 b382_A377
        exact hn333 _ _ _ hs ⟨(rl [(380, 271)] own383), A377, c378, hd383, hz383, e383_0, e383_3, e383_4, (Evo.rl_ hX383 (fun _ => Nat.le_refl 0) rfl), (RdO.rl_ (mm := [(380, 271)]) b383_Al1), (RwO.rl_ (mm := [(380, 271)]) b383_A377)⟩
      obtain ⟨x384, hx384, hs⟩ := obind hs
      obtain ⟨r385, hr385, hs⟩ := obind hs
      refine rg_plain_seq (n := 31) (rs := []) (own0 := own336) (K := [])
          (bs := [0, 0, 0, 6, 14, 31, 63, 127, 127, 255, 1023])
          (ds := [⟨[], [3], [], Fct.val 14 (.slice A268 out270.length c269)⟩,
          ⟨[], [0], [], Fct.val 15 (.slice Al1 l1.length cl1)⟩,
          ⟨[], [4], [], Fct.val 16 (.int .i64 i272)⟩,
          ⟨[1, 2], [], [], Fct.val 17 (.pointer (some ((adr Al1).add ((i272 : Int).toNat * R3.s))))⟩,
          ⟨[3], [], [], Fct.val 18 (.int .i64 x384)⟩,
          ⟨[0, 4], [], [], Fct.val 19 (.tuple #[.int .i64 r385.1, .bool r385.2])⟩,
          ⟨[5], [], [], Fct.val 13 (.tuple #[.int .i64 r385.1, .bool r385.2])⟩,
          ⟨[6], [], [], Fct.val 20 (.int .i64 r385.1)⟩,
          ⟨[6], [], [], Fct.val 21 (.bool r385.2)⟩,
          ⟨[7], [], [], Fct.val 5 (.int .i64 r385.1)⟩,
          ⟨[8], [], [], Fct.val 6 (.bool r385.2)⟩]) (by kernel_rfl) hz336 hd336 (fun _ h => nomatch h) ?_ ?_
      · refine steps_cons (fun own a wx hf hsl hE => ?_) ?_
        · obtain ⟨s_3, -⟩ := hsl
          exact sg_plain rfl rfl (or_move (s_3.trans e336_3))
        refine steps_cons (fun own a wx hf hsl hE => ?_) ?_
        · obtain ⟨s_0, -⟩ := hsl
          exact sg_plain rfl rfl (or_move (s_0.trans e336_0))
        refine steps_cons (fun own a wx hf hsl hE => ?_) ?_
        · obtain ⟨s_4, -⟩ := hsl
          exact sg_plain rfl rfl (or_move (s_4.trans e336_4))
        refine steps_cons (fun own a wx hf hsl hE => ?_) ?_
        · obtain ⟨(f_15 : a.eval (.tmp 15) = .slice Al1 l1.length cl1), (f_16 : a.eval (.tmp 16) = .int .i64 i272), -⟩ := hf
          exact sg_plain rfl rfl (or_index (R := R3) (l := l1) tl22 f_15 f_16 (RdO.some_ b336_Al1 hx384) hx384)
        refine steps_cons (fun own a wx hf hsl hE => ?_) ?_
        · obtain ⟨(f_17 : a.eval (.tmp 17) = .pointer (some ((adr Al1).add ((i272 : Int).toNat * R3.s)))), -⟩ := hf
          exact sg_plain rfl rfl (or_load1 to3 f_17 (CellsAt.zero (RdO.cells (F := E3) (RdO.evo rfl hE b336_Al1) hx384) rfl))
        refine steps_cons (fun own a wx hf hsl hE => ?_) ?_
        · obtain ⟨(f_14 : a.eval (.tmp 14) = .slice A268 out270.length c269), (f_18 : a.eval (.tmp 18) = .int .i64 x384), -⟩ := hf
          exact sg_plain rfl rfl (or_call cf12 (args2 f_14 f_18) (ref04_Find_w _ out270 A268 c269 x384 (RdO.zero (RwO.rd (RwO.evo rfl hE b336_A268))) r385 hr385) post_val)
        refine steps_cons (fun own a wx hf hsl hE => ?_) ?_
        · obtain ⟨(f_19 : a.eval (.tmp 19) = .tuple #[.int .i64 r385.1, .bool r385.2]), -⟩ := hf
          exact sg_plain rfl rfl (or_move f_19)
        refine steps_cons (fun own a wx hf hsl hE => ?_) ?_
        · obtain ⟨(f_13 : a.eval (.tmp 13) = .tuple #[.int .i64 r385.1, .bool r385.2]), -⟩ := hf
          exact sg_plain rfl rfl (or_k [(13, .tuple #[.int .i64 r385.1, .bool r385.2])] rfl rfl ⟨f_13, trivial⟩ (by kernel_rfl))
        refine steps_cons (fun own a wx hf hsl hE => ?_) ?_
        · obtain ⟨(f_13 : a.eval (.tmp 13) = .tuple #[.int .i64 r385.1, .bool r385.2]), -⟩ := hf
          exact sg_plain rfl rfl (or_k [(13, .tuple #[.int .i64 r385.1, .bool r385.2])] rfl rfl ⟨f_13, trivial⟩ (by kernel_rfl))
        refine steps_cons (fun own a wx hf hsl hE => ?_) ?_
        · obtain ⟨(f_20 : a.eval (.tmp 20) = .int .i64 r385.1), -⟩ := hf
          exact sg_plain rfl rfl (or_assign f_20)
        refine steps_cons (fun own a wx hf hsl hE => ?_) ?_
        · obtain ⟨(f_21 : a.eval (.tmp 21) = .bool r385.2), -⟩ := hf
          exact sg_plain rfl rfl (or_assign f_21)
        exact steps_nil
      intro own386 a386 w386 hd386 hz386 hk386 hf386 hE386
      have e386_0 : a386.eval (.tmp 0) = .slice Al1 l1.length cl1 := (hk386 0 rfl).trans e336_0
      have e386_3 : a386.eval (.tmp 3) = .slice A268 out270.length c269 := (hk386 3 rfl).trans e336_3
      have e386_4 : a386.eval (.tmp 4) = .int .i64 i272 := (hk386 4 rfl).trans e336_4
      obtain ⟨(f_6 : a386.eval (.tmp 6) = .bool r385.2), -⟩ := hf386 [10] rfl
      have e386_6 := f_6
      have hX386 := Evo.step hX336 (fun _ => Nat.le_refl 0) hE386 rfl
      have b386_Al1 := RdO.evo rfl hE386 b336_Al1
      have b386_A268 := RwO.evo rfl hE386 b336_A268
      refine rg_plain_seq (n := 31) (rs := []) (own0 := own386) (K := [])
          (bs := [0, 1])
          (ds := [⟨[], [6], [], Fct.val 22 (.bool r385.2)⟩,
          ⟨[0], [], [], Fct.val 23 (.bool (!r385.2))⟩]) (by kernel_rfl) hz386 hd386 (fun _ h => nomatch h) ?_ ?_
      · refine steps_cons (fun own a wx hf hsl hE => ?_) ?_
        · obtain ⟨s_6, -⟩ := hsl
          exact sg_plain rfl rfl (or_move (s_6.trans e386_6))
        refine steps_cons (fun own a wx hf hsl hE => ?_) ?_
        · obtain ⟨(f_22 : a.eval (.tmp 22) = .bool r385.2), -⟩ := hf
          exact sg_plain rfl rfl (or_not f_22 rfl)
        exact steps_nil
      intro own387 a387 w387 hd387 hz387 hk387 hf387 hE387
      have e387_0 : a387.eval (.tmp 0) = .slice Al1 l1.length cl1 := (hk387 0 rfl).trans e386_0
      have e387_3 : a387.eval (.tmp 3) = .slice A268 out270.length c269 := (hk387 3 rfl).trans e386_3
      have e387_4 : a387.eval (.tmp 4) = .int .i64 i272 := (hk387 4 rfl).trans e386_4
      obtain ⟨(f_23 : a387.eval (.tmp 23) = .bool (!r385.2)), -⟩ := hf387 [1] rfl
      have e387_23 := f_23
      have hX387 := Evo.step hX386 (fun _ => Nat.le_refl 0) hE387 rfl
      have b387_Al1 := RdO.evo rfl hE387 b386_Al1
      have b387_A268 := RwO.evo rfl hE387 b386_A268
      refine fl_cond e387_23 hs (fun c388 hs => ?_) (fun c388 hs => ?_)
      · obtain ⟨x389, hx389, hs⟩ := obind hs
        obtain ⟨r390, hr390, hs⟩ := obind hs
        refine rg_plain (n := 31) (rs := []) (own0 := own387) (K := [])
            (bs := [0, 0, 0, 6, 14, 31, 63])
            (ds := [⟨[], [3], [], Fct.val 24 (.slice A268 out270.length c269)⟩,
            ⟨[], [0], [], Fct.val 25 (.slice Al1 l1.length cl1)⟩,
            ⟨[], [4], [], Fct.val 26 (.int .i64 i272)⟩,
            ⟨[1, 2], [], [], Fct.val 27 (.pointer (some ((adr Al1).add ((i272 : Int).toNat * R3.s))))⟩,
            ⟨[3], [], [], Fct.val 28 (.int .i64 x389)⟩,
            ⟨[0, 4], [], [], Fct.row 392 [] 29 3 R3 r390⟩,
            ⟨[5], [], [], Fct.rel [3, 29] (fun l => ∀ (A391 : Option Addr) (cA391 : Nat), l.getD 1 undef = .slice A391 r390.length cA391 → l.getD 0 undef = .slice A391 r390.length cA391)⟩]) (by kernel_rfl) hz387 hd387 (fun _ h => nomatch h) ?_ ?_
        · refine steps_cons (fun own a wx hf hsl hE => ?_) ?_
          · obtain ⟨s_3, -⟩ := hsl
            exact sg_plain rfl rfl (or_move (s_3.trans e387_3))
          refine steps_cons (fun own a wx hf hsl hE => ?_) ?_
          · obtain ⟨s_0, -⟩ := hsl
            exact sg_plain rfl rfl (or_move (s_0.trans e387_0))
          refine steps_cons (fun own a wx hf hsl hE => ?_) ?_
          · obtain ⟨s_4, -⟩ := hsl
            exact sg_plain rfl rfl (or_move (s_4.trans e387_4))
          refine steps_cons (fun own a wx hf hsl hE => ?_) ?_
          · obtain ⟨(f_25 : a.eval (.tmp 25) = .slice Al1 l1.length cl1), (f_26 : a.eval (.tmp 26) = .int .i64 i272), -⟩ := hf
            exact sg_plain rfl rfl (or_index (R := R3) (l := l1) tl22 f_25 f_26 (RdO.some_ b387_Al1 hx389) hx389)
          refine steps_cons (fun own a wx hf hsl hE => ?_) ?_
          · obtain ⟨(f_27 : a.eval (.tmp 27) = .pointer (some ((adr Al1).add ((i272 : Int).toNat * R3.s)))), -⟩ := hf
            exact sg_plain rfl rfl (or_load1 to3 f_27 (CellsAt.zero (RdO.cells (F := E3) (RdO.evo rfl hE b387_Al1) hx389) rfl))
          refine steps_cons (fun own a wx hf hsl hE => ?_) ?_
          · obtain ⟨(f_24 : a.eval (.tmp 24) = .slice A268 out270.length c269), (f_28 : a.eval (.tmp 28) = .int .i64 x389), -⟩ := hf
            exact sg_plain rfl rfl (or_call cf7 (args2 f_24 f_28) (ref04_Put_w _ out270 A268 c269 x389 (RdO.zero (RwO.rd (RwO.evo rfl hE b387_A268))) r390 hr390) (post_row (m' := (look0 [(1, 392)])) (.inl (Rep.fl_flat _)) rfl rfl (fun _ => rfl)))
          refine steps_cons (fun own a wx hf hsl hE => ?_) ?_
          · obtain ⟨⟨⟨A391, cA391⟩, (f_29 : a.eval (.tmp 29) = .slice A391 r390.length cA391), (b_A391 : RwO own 392 [] wx 3 R3 A391 cA391 r390)⟩, -⟩ := hf
            exact sg_plain rfl rfl (or_mono (f := Fct.val 3 (.slice A391 r390.length cA391)) (or_assign f_29) (fun own' a' w' v' hp h => fun _ _ h0' => by cases (f_29.symm.trans ((hp.2 29 (by decide)).symm.trans h0')); exact h))
          exact steps_nil
        intro own393 a393 w393 hd393 hz393 hk393 hf393 hE393
        have e393_0 : a393.eval (.tmp 0) = .slice Al1 l1.length cl1 := (hk393 0 rfl).trans e387_0
        have e393_4 : a393.eval (.tmp 4) = .int .i64 i272 := (hk393 4 rfl).trans e387_4
        obtain ⟨⟨⟨A391, cA391⟩, (f_29 : a393.eval (.tmp 29) = .slice A391 r390.length cA391), (b_A391 : RwO own393 392 [] w393 3 R3 A391 cA391 r390)⟩, (q_3 : ∀ (A391 : Option Addr) (cA391 : Nat), a393.eval (.tmp 29) = .slice A391 r390.length cA391 → a393.eval (.tmp 3) = .slice A391 r390.length cA391), -⟩ := hf393 [5, 6] rfl
        have f_3 := q_3 _ _ f_29
        have e393_3 := f_3
        have hX393 := Evo.step hX387 (fun _ => Nat.le_refl 0) hE393 rfl
        have b393_Al1 := RdO.evo rfl hE393 b387_Al1
        have b393_A391 := b_A391
        exact (K381 _ _ (rl [(392, 380)] own393) _ A391 cA391 hd393 hz393 e393_0 e393_3 e393_4 (Evo.rl_ hX393 (fun _ => Nat.le_refl 0) rfl) (RdO.rl_ (mm := [(392, 380)]) b393_Al1) (RwO.rl_ (mm := [(392, 380)]) b393_A391) hs).1
      refine fl_skip ?_
      exact (K381 _ _ (rl [(271, 380)] own387) _ A268 c269 hd387 hz387 e387_0 e387_3 e387_4 (Evo.rl_ hX387 (fun _ => Nat.le_refl 0) rfl) (RdO.rl_ (mm := [(271, 380)]) b387_Al1) (RwO.rl_ (mm := [(271, 380)]) b387_A268) hs).1
    refine fl_exit ?_
    refine hp335 _ _ _ rfl ?_
    replace hs := hz333 _ hs
    refine hp333 _ _ _ rfl ?_
    refine hx207 _ _ ?_
    refine hn205 _ _ ?_
    refine rg_plain_seq (n := 31) (rs := []) (own0 := own336) (K := [])
        (bs := [0, 1])
        (ds := [⟨[], [3], [], Fct.val 30 (.slice A268 out270.length c269)⟩,
        ⟨[0], [], [], Fct.val 2 (.slice A268 out270.length c269)⟩]) (by kernel_rfl) hz336 hd336 (fun _ h => nomatch h) ?_ ?_
    · refine steps_cons (fun own a wx hf hsl hE => ?_) ?_
      · obtain ⟨s_3, -⟩ := hsl
        exact sg_plain rfl rfl (or_move (s_3.trans e336_3))
      refine steps_cons (fun own a wx hf hsl hE => ?_) ?_
      · obtain ⟨(f_30 : a.eval (.tmp 30) = .slice A268 out270.length c269), -⟩ := hf
        exact sg_plain rfl rfl (or_assign f_30)
      exact steps_nil
    intro own394 a394 w394 hd394 hz394 hk394 hf394 hE394
    obtain ⟨(f_2 : a394.eval (.tmp 2) = .slice A268 out270.length c269), -⟩ := hf394 [1] rfl
    have e394_2 := f_2
    have hX394 := Evo.step hX336 (fun _ => Nat.le_refl 0) hE394 rfl
    have b394_A268 := RwO.evo rfl hE394 b336_A268
    refine fl_ret ?_
    obtain rfl := (osome hs).symm
    exact hret _ _ _ _ (.inl rfl) hd394 (results1_ rfl (RVal.tmp_ e394_2)) ⟨(rl [(271, 1)] own394), (A268, c269), rfl, (Evo.rl_ hX394 (fun _ => Nat.le_refl 0) rfl), (RwO.rl_ (mm := [(271, 1)]) b394_A268)⟩

end Go.Proofs.Ythbjlgklmamhjaa
