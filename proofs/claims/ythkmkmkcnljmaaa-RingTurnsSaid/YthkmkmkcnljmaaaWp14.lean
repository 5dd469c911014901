/-
  Chapter 03. The walks.
-/
import Derived.Test.YthkmkmkcnljmaaaWp13
import Derived.Test.YthkmkmkcnljmaaaSp14
namespace Go.Proofs.Ythkmkmkcnljmaaa
open Go.RowKit
set_option linter.unusedVariables false
theorem ref03_Turned_w (w : World) (l1 : List (Int × Int)) (Al1 : Option Addr) (cl1 : Nat) (hl1 : RdO (fun _ => 0) [0] w R49 Al1 cl1 l1) (r : List (Int × Int)) (hs : ref03_Turned l1 = some r) :
    Calls Try.prog 26 #[.slice Al1 l1.length cl1] w fun e w' => ∃ (own' : Own) (x : Option Addr × Nat), e = .returned (.slice x.1 r.length x.2) ∧ Evo [] (fun _ => 0) own' w w' ∧ RwO own' 1 [] w' 49 R49 x.1 x.2 r := by
  refine fl_enter (n := 25) rfl rfl rfl (Nat.le_of_ble_eq_true rfl) ?_
  intro a0 Q hd0 hz0 harg hret
  have ha0 := harg 0 _ rfl
  clear harg
  have hE0 : Evo [] (fun _ => 0) (fun _ => 0) w w := Evo.refl _ _ _
  refine rg_plain_seq (n := 25) (rs := []) (own0 := (fun _ => 0)) (K := [])
      (bs := [0])
      (ds := [⟨[], [], [], Fct.val 2 (.slice none 0 0)⟩]) (by kernel_rfl) hz0 hd0 (fun _ h => nomatch h) ?_ ?_
  · refine steps_cons (fun own a wx hf hsl hE => ?_) ?_
    · exact sg_plain rfl rfl (or_assign rfl)
    exact steps_nil
  intro own77 a77 w77 hd77 hz77 hk77 hf77 hE77
  have e77_0 : a77.eval (.tmp 0) = .slice Al1 l1.length cl1 := (hk77 0 rfl).trans ha0
  have hX77 := Evo.step hE0 (fun _ => Nat.le_refl 0) hE77 rfl
  have b77_Al1 := RdO.evo rfl hE77 hl1
  refine rg_plain_seq (n := 25) (rs := []) (own0 := own77) (K := [])
      (bs := [0])
      (ds := [⟨[], [], [], Fct.val 3 (.slice none 0 0)⟩]) (by kernel_rfl) hz77 hd77 (fun _ h => nomatch h) ?_ ?_
  · refine steps_cons (fun own a wx hf hsl hE => ?_) ?_
    · exact sg_plain rfl rfl (or_assign rfl)
    exact steps_nil
  intro own78 a78 w78 hd78 hz78 hk78 hf78 hE78
  have e78_0 : a78.eval (.tmp 0) = .slice Al1 l1.length cl1 := (hk78 0 rfl).trans e77_0
  obtain ⟨(f_3 : a78.eval (.tmp 3) = .slice none 0 0), -⟩ := hf78 [0] rfl
  have e78_3 := f_3
  have hX78 := Evo.step hX77 (fun _ => Nat.le_refl 0) hE78 rfl
  have b78_Al1 := RdO.evo rfl hE78 b77_Al1
  refine fl_seq (fun Q79 hn79 hp79 => ?_)
  refine rg_plain_seq (n := 25) (rs := []) (own0 := own78) (K := [])
      (bs := [0])
      (ds := [⟨[], [], [], Fct.val 4 (.int .i64 0)⟩]) (by kernel_rfl) hz78 hd78 (fun _ h => nomatch h) ?_ ?_
  · refine steps_cons (fun own a wx hf hsl hE => ?_) ?_
    · exact sg_plain rfl rfl (or_assign rfl)
    exact steps_nil
  intro own80 a80 w80 hd80 hz80 hk80 hf80 hE80
  have e80_0 : a80.eval (.tmp 0) = .slice Al1 l1.length cl1 := (hk80 0 rfl).trans e78_0
  have e80_3 : a80.eval (.tmp 3) = .slice none 0 0 := (hk80 3 rfl).trans e78_3
  obtain ⟨(f_4 : a80.eval (.tmp 4) = .int .i64 0), -⟩ := hf80 [0] rfl
  have e80_4 := f_4
  have hX80 := Evo.step hX78 (fun _ => Nat.le_refl 0) hE80 rfl
  have b80_Al1 := RdO.evo rfl hE80 b78_Al1
  refine fl_block (fun Q81 hn81 hx81 hp81 => ?_)
  refine fl_loop (body := (fun s => ref03_Turned_b1 l1 s.1 s.2)) (z := r) (show loopO _ _ = _ from hs) (fun (s : (List (Int × Int)) × Int) a wx => match s with | (out100, i102) => ∃ (ox : Own) (A98 : Option Addr) (c99 : Nat), a.defers = [] ∧ a.tmps.size = 25 ∧ a.eval (.tmp 0) = .slice Al1 l1.length cl1 ∧ a.eval (.tmp 3) = .slice A98 out100.length c99 ∧ a.eval (.tmp 4) = .int .i64 i102 ∧ Evo [] (fun _ => 0) ox w wx ∧ RdO ox [0] wx R49 Al1 cl1 l1 ∧ RwO ox 101 [] wx 49 R49 A98 c99 out100) ?_ ?_
  · exact ⟨own80, none, 0, hd80, hz80, e80_0, e80_3, e80_4, hX80, b80_Al1, RwO.nil_⟩
  · rintro ⟨out100, i102⟩ zz122 a122 w122 ⟨own122, A98, c99, hd123, hz123, e123_0, e123_3, e123_4, hE123, b123_Al1, b123_A98⟩ hs Q122 hn122 hp122 hz122
    have hs : ref03_Turned_b1 l1 out100 i102 = some zz122 := hs
    refine fl_seq (fun Q124 hn124 hp124 => ?_)
    refine rg_plain_seq (n := 25) (rs := []) (own0 := own122) (K := [])
        (bs := [0, 0, 2, 7])
        (ds := [⟨[], [4], [], Fct.val 5 (.int .i64 i102)⟩,
        ⟨[], [0], [], Fct.val 6 (.slice Al1 l1.length cl1)⟩,
        ⟨[1], [], [], Fct.val 7 (.int .i64 (l1.length : Int))⟩,
        ⟨[0, 2], [], [], Fct.val 8 (.bool (decide (i102 < (l1.length : Int))))⟩]) (by kernel_rfl) hz123 hd123 (fun _ h => nomatch h) ?_ ?_
    · refine steps_cons (fun own a wx hf hsl hE => ?_) ?_
      · obtain ⟨s_4, -⟩ := hsl
        exact sg_plain rfl rfl (or_move (s_4.trans e123_4))
      refine steps_cons (fun own a wx hf hsl hE => ?_) ?_
      · obtain ⟨s_0, -⟩ := hsl
        exact sg_plain rfl rfl (or_move (s_0.trans e123_0))
      refine steps_cons (fun own a wx hf hsl hE => ?_) ?_
      · obtain ⟨(f_6 : a.eval (.tmp 6) = .slice Al1 l1.length cl1), -⟩ := hf
        exact sg_plain rfl rfl (or_len tu24 f_6 rfl)
      refine steps_cons (fun own a wx hf hsl hE => ?_) ?_
      · obtain ⟨(f_5 : a.eval (.tmp 5) = .int .i64 i102), (f_7 : a.eval (.tmp 7) = .int .i64 (l1.length : Int)), -⟩ := hf
        exact sg_plain rfl rfl (or_lss f_5 f_7 rfl)
      exact steps_nil
    intro own125 a125 w125 hd125 hz125 hk125 hf125 hE125
    have e125_0 : a125.eval (.tmp 0) = .slice Al1 l1.length cl1 := (hk125 0 rfl).trans e123_0
    have e125_3 : a125.eval (.tmp 3) = .slice A98 out100.length c99 := (hk125 3 rfl).trans e123_3
    have e125_4 : a125.eval (.tmp 4) = .int .i64 i102 := (hk125 4 rfl).trans e123_4
    obtain ⟨(f_8 : a125.eval (.tmp 8) = .bool (decide (i102 < (l1.length : Int)))), -⟩ := hf125 [3] rfl
    have e125_8 := f_8
    have hX125 := Evo.step hE123 (fun _ => Nat.le_refl 0) hE125 rfl
    have b125_Al1 := RdO.evo rfl hE125 b123_Al1
    have b125_A98 := RwO.evo rfl hE125 b123_A98
    refine fl_cond e125_8 hs (fun c126 hs => ?_) (fun c126 hs => ?_)
    · refine fl_skip ?_
      refine hn124 _ _ ?_
      refine fl_seq (fun Q127 hn127 hp127 => ?_)
      refine fl_block (fun Q128 hn128 hx128 hp128 => ?_)
      obtain ⟨x133, hx133, hs⟩ := obind hs
      obtain ⟨x134, hx134, hs⟩ := obind hs
      obtain ⟨x137, hx137, hs⟩ := obind hs
      refine rg_plain (n := 25) (rs := [Fct.rowAt 101 [] 49 R49 A98 c99 out100]) (own0 := own125) (K := [101])
          (bs := [0, 0, 0, 4, 0, 28, 0, 64, 252, 510, 1022, 2046, 4095, 8191])
          (ds := [⟨[], [3], [], Fct.val 11 (.slice A98 out100.length c99)⟩,
          ⟨[], [0], [], Fct.val 12 (.slice Al1 l1.length cl1)⟩,
          ⟨[], [0], [], Fct.val 13 (.slice Al1 l1.length cl1)⟩,
          ⟨[2], [], [], Fct.val 14 (.int .i64 (l1.length : Int))⟩,
          ⟨[], [4], [], Fct.val 15 (.int .i64 i102)⟩,
          ⟨[3, 4], [], [], Fct.val 16 (.int .i64 (sb (l1.length : Int) i102))⟩,
          ⟨[], [0], [], Fct.val 17 (.slice Al1 l1.length cl1)⟩,
          ⟨[6], [], [], Fct.val 18 (.int .i64 (l1.length : Int))⟩,
          ⟨[5, 7], [], [], Fct.val 19 (.int .i64 x133)⟩,
          ⟨[1, 8], [], [], Fct.val 20 (.pointer (some ((adr Al1).add ((x133 : Int).toNat * R49.s))))⟩,
          ⟨[9], [], [], Fct.val 21 (.agg #[.int .i64 x134.1, .int .i64 x134.2])⟩,
          ⟨[10], [], [], Fct.row 136 [] 22 49 R49 [x134]⟩,
          ⟨[0, 11, 14], [], [101], Fct.row 138 [] 23 49 R49 x137⟩,
          ⟨[12], [], [], Fct.rel [3, 23] (fun l => ∀ (A139 : Option Addr) (cA139 : Nat), l.getD 1 undef = .slice A139 x137.length cA139 → l.getD 0 undef = .slice A139 x137.length cA139)⟩]) (by kernel_rfl) hz125 hd125 (by simp only [List.forall_mem_cons]; exact ⟨b125_A98, fun _ h => nomatch h⟩) ?_ ?_
      · refine steps_cons (fun own a wx hf hsl hE => ?_) ?_
        · obtain ⟨s_3, -⟩ := hsl
          exact sg_plain rfl rfl (or_move (s_3.trans e125_3))
        refine steps_cons (fun own a wx hf hsl hE => ?_) ?_
        · obtain ⟨s_0, -⟩ := hsl
          exact sg_plain rfl rfl (or_move (s_0.trans e125_0))
        refine steps_cons (fun own a wx hf hsl hE => ?_) ?_
        · obtain ⟨s_0, -⟩ := hsl
          exact sg_plain rfl rfl (or_move (s_0.trans e125_0))
        refine steps_cons (fun own a wx hf hsl hE => ?_) ?_
        · obtain ⟨(f_13 : a.eval (.tmp 13) = .slice Al1 l1.length cl1), -⟩ := hf
          exact sg_plain rfl rfl (or_len tu24 f_13 rfl)
        refine steps_cons (fun own a wx hf hsl hE => ?_) ?_
        · obtain ⟨s_4, -⟩ := hsl
          exact sg_plain rfl rfl (or_move (s_4.trans e125_4))
        refine steps_cons (fun own a wx hf hsl hE => ?_) ?_
        · obtain ⟨(f_14 : a.eval (.tmp 14) = .int .i64 (l1.length : Int)), (f_15 : a.eval (.tmp 15) = .int .i64 i102), -⟩ := hf
          exact sg_plain rfl rfl (or_sub f_14 f_15 rfl)
        refine steps_cons (fun own a wx hf hsl hE => ?_) ?_
        · obtain ⟨s_0, -⟩ := hsl
          exact sg_plain rfl rfl (or_move (s_0.trans e125_0))
        refine steps_cons (fun own a wx hf hsl hE => ?_) ?_
        · obtain ⟨(f_17 : a.eval (.tmp 17) = .slice Al1 l1.length cl1), -⟩ := hf
          exact sg_plain rfl rfl (or_len tu24 f_17 rfl)
        refine steps_cons (fun own a wx hf hsl hE => ?_) ?_
        · obtain ⟨(f_16 : a.eval (.tmp 16) = .int .i64 (sb (l1.length : Int) i102)), (f_18 : a.eval (.tmp 18) = .int .i64 (l1.length : Int)), -⟩ := hf
          exact sg_plain rfl rfl (or_rem f_16 f_18 hx133)
        refine steps_cons (fun own a wx hf hsl hE => ?_) ?_
        · obtain ⟨(f_12 : a.eval (.tmp 12) = .slice Al1 l1.length cl1), (f_19 : a.eval (.tmp 19) = .int .i64 x133), -⟩ := hf
          exact sg_plain rfl rfl (or_index (R := R49) (l := l1) tl24 f_12 f_19 (RdO.some_ b125_Al1 hx134) hx134)
        refine steps_cons (fun own a wx hf hsl hE => ?_) ?_
        · obtain ⟨(f_20 : a.eval (.tmp 20) = .pointer (some ((adr Al1).add ((x133 : Int).toNat * R49.s)))), -⟩ := hf
          exact sg_plain rfl rfl (or_load (l := E49.f x134) ta49 f_20 (RdO.cells (F := E49) (RdO.evo rfl hE b125_Al1) hx134) rfl)
        refine steps_cons (fun own a wx hf hsl hE => ?_) ?_
        · obtain ⟨(f_21 : a.eval (.tmp 21) = .agg #[.int .i64 x134.1, .int .i64 x134.2]), -⟩ := hf
          exact sg_plain rfl rfl (or_lit (lab := 136) (e := 49) (cs := #[.int .i64 x134.1, .int .i64 x134.2]) (F := E49) (or_new [(21, .agg #[.int .i64 x134.1, .int .i64 x134.2])] rfl rfl ⟨f_21, trivial⟩ (by kernel_rfl)) rfl rfl (show 1 ≤ maxLen by decide))
        refine steps_cons (fun own a wx hf hsl hE => ?_) ?_
        · obtain ⟨(f_11 : a.eval (.tmp 11) = .slice A98 out100.length c99), ⟨⟨A135, cA135⟩, (f_22 : a.eval (.tmp 22) = .slice A135 [x134].length cA135), (b_A135 : RwO own 136 [] wx 49 R49 A135 cA135 [x134])⟩, (b_A98 : RwO own 101 [] wx 49 R49 A98 c99 out100), -⟩ := hf
          exact sg_plain rfl rfl (or_append (R := R49) (lab := 101) (lab2 := 138) (L := []) (L3 := []) tp24 f_11 b_A98 (by decide) f_22 (RwO.rd b_A135) hx137 (by decide) (by decide) (mem_of rfl) (.inl (Rep.fl_flat _)))
        refine steps_cons (fun own a wx hf hsl hE => ?_) ?_
        · obtain ⟨⟨⟨A139, cA139⟩, (f_23 : a.eval (.tmp 23) = .slice A139 x137.length cA139), (b_A139 : RwO own 138 [] wx 49 R49 A139 cA139 x137)⟩, -⟩ := hf
          exact sg_plain rfl rfl (or_mono (f := Fct.val 3 (.slice A139 x137.length cA139)) (or_assign f_23) (fun own' a' w' v' hp h => fun _ _ h0' => by cases (f_23.symm.trans ((hp.2 23 (by decide)).symm.trans h0')); exact h))
        exact steps_nil
      intro own140 a140 w140 hd140 hz140 hk140 hf140 hE140
      have e140_0 : a140.eval (.tmp 0) = .slice Al1 l1.length cl1 := (hk140 0 rfl).trans e125_0
      have e140_4 : a140.eval (.tmp 4) = .int .i64 i102 := (hk140 4 rfl).trans e125_4
      obtain ⟨⟨⟨A139, cA139⟩, (f_23 : a140.eval (.tmp 23) = .slice A139 x137.length cA139), (b_A139 : RwO own140 138 [] w140 49 R49 A139 cA139 x137)⟩, (q_3 : ∀ (A139 : Option Addr) (cA139 : Nat), a140.eval (.tmp 23) = .slice A139 x137.length cA139 → a140.eval (.tmp 3) = .slice A139 x137.length cA139), -⟩ := hf140 [12, 13] rfl
      have f_3 := q_3 _ _ f_23
      have e140_3 := f_3
      have hX140 := Evo.step hX125 (fun _ => Nat.le_refl 0) hE140 rfl
      have b140_Al1 := RdO.evo rfl hE140 b125_Al1
      have b140_A139 := b_A139
      refine hn128 _ _ ?_
      refine hn127 _ _ ?_
      refine rg_plain (n := 25) (rs := []) (own0 := own140) (K := [])
          (bs := [0, 1, 3])
          (ds := [⟨[], [4], [], Fct.val 9 (.int .i64 i102)⟩,
          ⟨[0], [], [], Fct.val 10 (.int .i64 (ad i102 1))⟩,
          ⟨[1], [], [], Fct.val 4 (.int .i64 (ad i102 1))⟩]) (by kernel_rfl) hz140 hd140 (fun _ h => nomatch h) ?_ ?_
      · refine steps_cons (fun own a wx hf hsl hE => ?_) ?_
        · obtain ⟨s_4, -⟩ := hsl
          exact sg_plain rfl rfl (or_move (s_4.trans e140_4))
        refine steps_cons (fun own a wx hf hsl hE => ?_) ?_
        · obtain ⟨(f_9 : a.eval (.tmp 9) = .int .i64 i102), -⟩ := hf
          exact sg_plain rfl rfl (or_add f_9 rfl rfl)
        refine steps_cons (fun own a wx hf hsl hE => ?_) ?_
        · obtain ⟨(f_10 : a.eval (.tmp 10) = .int .i64 (ad i102 1)), -⟩ := hf
          exact sg_plain rfl rfl (or_assign f_10)
        exact steps_nil
      intro own141 a141 w141 hd141 hz141 hk141 hf141 hE141
      have e141_0 : a141.eval (.tmp 0) = .slice Al1 l1.length cl1 := (hk141 0 rfl).trans e140_0
      have e141_3 : a141.eval (.tmp 3) = .slice A139 x137.length cA139 := (hk141 3 rfl).trans e140_3
      obtain ⟨(f_4 : a141.eval (.tmp 4) = .int .i64 (ad i102 1)), -⟩ := hf141 [2] rfl
      have e141_4 := f_4
      have hX141 := Evo.step hX140 (fun _ => Nat.le_refl 0) hE141 rfl
      have b141_Al1 := RdO.evo rfl hE141 b140_Al1
      have b141_A139 := RwO.evo rfl hE141 b140_A139
      exact hn122 _ _ _ hs ⟨(rl [(138, 101)] own141), A139, cA139, hd141, hz141, e141_0, e141_3, e141_4, (Evo.rl_ hX141 (fun _ => Nat.le_refl 0) rfl), (RdO.rl_ (mm := [(138, 101)]) b141_Al1), (RwO.rl_ (mm := [(138, 101)]) b141_A139)⟩
    refine fl_exit ?_
    refine hp124 _ _ _ rfl ?_
    replace hs := hz122 _ hs
    refine hp122 _ _ _ rfl ?_
    refine hx81 _ _ ?_
    refine hn79 _ _ ?_
    refine rg_plain_seq (n := 25) (rs := []) (own0 := own125) (K := [])
        (bs := [0, 1])
        (ds := [⟨[], [3], [], Fct.val 24 (.slice A98 out100.length c99)⟩,
        ⟨[0], [], [], Fct.val 2 (.slice A98 out100.length c99)⟩]) (by kernel_rfl) hz125 hd125 (fun _ h => nomatch h) ?_ ?_
    · refine steps_cons (fun own a wx hf hsl hE => ?_) ?_
      · obtain ⟨s_3, -⟩ := hsl
        exact sg_plain rfl rfl (or_move (s_3.trans e125_3))
      refine steps_cons (fun own a wx hf hsl hE => ?_) ?_
      · obtain ⟨(f_24 : a.eval (.tmp 24) = .slice A98 out100.length c99), -⟩ := hf
        exact sg_plain rfl rfl (or_assign f_24)
      exact steps_nil
    intro own142 a142 w142 hd142 hz142 hk142 hf142 hE142
    obtain ⟨(f_2 : a142.eval (.tmp 2) = .slice A98 out100.length c99), -⟩ := hf142 [1] rfl
    have e142_2 := f_2
    have hX142 := Evo.step hX125 (fun _ => Nat.le_refl 0) hE142 rfl
    have b142_A98 := RwO.evo rfl hE142 b125_A98
    refine fl_ret ?_
    obtain rfl := (osome hs).symm
    exact hret _ _ _ _ (.inl rfl) hd142 (results1_ rfl (RVal.tmp_ e142_2)) ⟨(rl [(101, 1)] own142), (A98, c99), rfl, (Evo.rl_ hX142 (fun _ => Nat.le_refl 0) rfl), (RwO.rl_ (mm := [(101, 1)]) b142_A98)⟩

theorem ref03_From_w (w : World) (l1 : List (Int × Int)) (Al1 : Option Addr) (cl1 : Nat) (x2 : Int) (hl1 : RdO (fun _ => 0) [0] w R49 Al1 cl1 l1) (r : List (Int × Int)) (hs : ref03_From l1 x2 = some r) :
    Calls Try.prog 27 #[.slice Al1 l1.length cl1, .int .i64 x2] w fun e w' => ∃ (own' : Own) (x : Option Addr × Nat), e = .returned (.slice x.1 r.length x.2) ∧ Evo [] (fun _ => 0) own' w w' ∧ RwO own' 1 [] w' 49 R49 x.1 x.2 r := by
  refine fl_enter (n := 26) rfl rfl rfl (Nat.le_of_ble_eq_true rfl) ?_
  intro a0 Q hd0 hz0 harg hret
  have ha0 := harg 0 _ rfl
  have ha1 := harg 1 _ rfl
  clear harg
  have hE0 : Evo [] (fun _ => 0) (fun _ => 0) w w := Evo.refl _ _ _
  refine rg_plain_seq (n := 26) (rs := []) (own0 := (fun _ => 0)) (K := [])
      (bs := [0])
      (ds := [⟨[], [], [], Fct.val 4 (.slice none 0 0)⟩]) (by kernel_rfl) hz0 hd0 (fun _ h => nomatch h) ?_ ?_
  · refine steps_cons (fun own a wx hf hsl hE => ?_) ?_
    · exact sg_plain rfl rfl (or_assign rfl)
    exact steps_nil
  intro own77 a77 w77 hd77 hz77 hk77 hf77 hE77
  have e77_0 : a77.eval (.tmp 0) = .slice Al1 l1.length cl1 := (hk77 0 rfl).trans ha0
  have e77_1 : a77.eval (.tmp 1) = .int .i64 x2 := (hk77 1 rfl).trans ha1
  have hX77 := Evo.step hE0 (fun _ => Nat.le_refl 0) hE77 rfl
  have b77_Al1 := RdO.evo rfl hE77 hl1
  refine rg_plain_seq (n := 26) (rs := []) (own0 := own77) (K := [])
      (bs := [0])
      (ds := [⟨[], [], [], Fct.val 5 (.slice none 0 0)⟩]) (by kernel_rfl) hz77 hd77 (fun _ h => nomatch h) ?_ ?_
  · refine steps_cons (fun own a wx hf hsl hE => ?_) ?_
    · exact sg_plain rfl rfl (or_assign rfl)
    exact steps_nil
  intro own78 a78 w78 hd78 hz78 hk78 hf78 hE78
  have e78_0 : a78.eval (.tmp 0) = .slice Al1 l1.length cl1 := (hk78 0 rfl).trans e77_0
  have e78_1 : a78.eval (.tmp 1) = .int .i64 x2 := (hk78 1 rfl).trans e77_1
  obtain ⟨(f_5 : a78.eval (.tmp 5) = .slice none 0 0), -⟩ := hf78 [0] rfl
  have e78_5 := f_5
  have hX78 := Evo.step hX77 (fun _ => Nat.le_refl 0) hE78 rfl
  have b78_Al1 := RdO.evo rfl hE78 b77_Al1
  refine fl_seq (fun Q79 hn79 hp79 => ?_)
  refine rg_plain_seq (n := 26) (rs := []) (own0 := own78) (K := [])
      (bs := [0])
      (ds := [⟨[], [], [], Fct.val 6 (.int .i64 0)⟩]) (by kernel_rfl) hz78 hd78 (fun _ h => nomatch h) ?_ ?_
  · refine steps_cons (fun own a wx hf hsl hE => ?_) ?_
    · exact sg_plain rfl rfl (or_assign rfl)
    exact steps_nil
  intro own80 a80 w80 hd80 hz80 hk80 hf80 hE80
  have e80_0 : a80.eval (.tmp 0) = .slice Al1 l1.length cl1 := (hk80 0 rfl).trans e78_0
  have e80_1 : a80.eval (.tmp 1) = .int .i64 x2 := (hk80 1 rfl).trans e78_1
  have e80_5 : a80.eval (.tmp 5) = .slice none 0 0 := (hk80 5 rfl).trans e78_5
  obtain ⟨(f_6 : a80.eval (.tmp 6) = .int .i64 0), -⟩ := hf80 [0] rfl
  have e80_6 := f_6
  have hX80 := Evo.step hX78 (fun _ => Nat.le_refl 0) hE80 rfl
  have b80_Al1 := RdO.evo rfl hE80 b78_Al1
  refine fl_block (fun Q81 hn81 hx81 hp81 => ?_)
  refine fl_loop (body := (fun s => ref03_From_b1 l1 x2 s.1 s.2)) (z := r) (show loopO _ _ = _ from hs) (fun (s : (List (Int × Int)) × Int) a wx => match s with | (out100, i102) => ∃ (ox : Own) (A98 : Option Addr) (c99 : Nat), a.defers = [] ∧ a.tmps.size = 26 ∧ a.eval (.tmp 0) = .slice Al1 l1.length cl1 ∧ a.eval (.tmp 1) = .int .i64 x2 ∧ a.eval (.tmp 5) = .slice A98 out100.length c99 ∧ a.eval (.tmp 6) = .int .i64 i102 ∧ Evo [] (fun _ => 0) ox w wx ∧ RdO ox [0] wx R49 Al1 cl1 l1 ∧ RwO ox 101 [] wx 49 R49 A98 c99 out100) ?_ ?_
  · exact ⟨own80, none, 0, hd80, hz80, e80_0, e80_1, e80_5, e80_6, hX80, b80_Al1, RwO.nil_⟩
  · rintro ⟨out100, i102⟩ zz122 a122 w122 ⟨own122, A98, c99, hd123, hz123, e123_0, e123_1, e123_5, e123_6, hE123, b123_Al1, b123_A98⟩ hs Q122 hn122 hp122 hz122
    have hs : ref03_From_b1 l1 x2 out100 i102 = some zz122 := hs
    refine fl_seq (fun Q124 hn124 hp124 => ?_)
    refine rg_plain_seq (n := 26) (rs := []) (own0 := own122) (K := [])
        (bs := [0, 0, 2, 7])
        (ds := [⟨[], [6], [], Fct.val 7 (.int .i64 i102)⟩,
        ⟨[], [0], [], Fct.val 8 (.slice Al1 l1.length cl1)⟩,
        ⟨[1], [], [], Fct.val 9 (.int .i64 (l1.length : Int))⟩,
        ⟨[0, 2], [], [], Fct.val 10 (.bool (decide (i102 < (l1.length : Int))))⟩]) (by kernel_rfl) hz123 hd123 (fun _ h => nomatch h) ?_ ?_
    · refine steps_cons (fun own a wx hf hsl hE => ?_) ?_
      · obtain ⟨s_6, -⟩ := hsl
        exact sg_plain rfl rfl (or_move (s_6.trans e123_6))
      refine steps_cons (fun own a wx hf hsl hE => ?_) ?_
      · obtain ⟨s_0, -⟩ := hsl
        exact sg_plain rfl rfl (or_move (s_0.trans e123_0))
      refine steps_cons (fun own a wx hf hsl hE => ?_) ?_
      · obtain ⟨(f_8 : a.eval (.tmp 8) = .slice Al1 l1.length cl1), -⟩ := hf
        exact sg_plain rfl rfl (or_len tu24 f_8 rfl)
      refine steps_cons (fun own a wx hf hsl hE => ?_) ?_
      · obtain ⟨(f_7 : a.eval (.tmp 7) = .int .i64 i102), (f_9 : a.eval (.tmp 9) = .int .i64 (l1.length : Int)), -⟩ := hf
        exact sg_plain rfl rfl (or_lss f_7 f_9 rfl)
      exact steps_nil
    intro own125 a125 w125 hd125 hz125 hk125 hf125 hE125
    have e125_0 : a125.eval (.tmp 0) = .slice Al1 l1.length cl1 := (hk125 0 rfl).trans e123_0
    have e125_1 : a125.eval (.tmp 1) = .int .i64 x2 := (hk125 1 rfl).trans e123_1
    have e125_5 : a125.eval (.tmp 5) = .slice A98 out100.length c99 := (hk125 5 rfl).trans e123_5
    have e125_6 : a125.eval (.tmp 6) = .int .i64 i102 := (hk125 6 rfl).trans e123_6
    obtain ⟨(f_10 : a125.eval (.tmp 10) = .bool (decide (i102 < (l1.length : Int)))), -⟩ := hf125 [3] rfl
    have e125_10 := f_10
    have hX125 := Evo.step hE123 (fun _ => Nat.le_refl 0) hE125 rfl
    have b125_Al1 := RdO.evo rfl hE125 b123_Al1
    have b125_A98 := RwO.evo rfl hE125 b123_A98
    refine fl_cond e125_10 hs (fun c126 hs => ?_) (fun c126 hs => ?_)
    · refine fl_skip ?_
      refine hn124 _ _ ?_
      refine fl_seq (fun Q127 hn127 hp127 => ?_)
      refine fl_block (fun Q128 hn128 hx128 hp128 => ?_)
      obtain ⟨x133, hx133, hs⟩ := obind hs
      obtain ⟨x134, hx134, hs⟩ := obind hs
      obtain ⟨x137, hx137, hs⟩ := obind hs
      refine rg_plain (n := 26) (rs := [Fct.rowAt 101 [] 49 R49 A98 c99 out100]) (own0 := own125) (K := [101])
          (bs := [0, 0, 0, 0, 12, 0, 32, 124, 254, 510, 1022, 2047, 4095])
          (ds := [⟨[], [5], [], Fct.val 13 (.slice A98 out100.length c99)⟩,
          ⟨[], [0], [], Fct.val 14 (.slice Al1 l1.length cl1)⟩,
          ⟨[], [1], [], Fct.val 15 (.int .i64 x2)⟩,
          ⟨[], [6], [], Fct.val 16 (.int .i64 i102)⟩,
          ⟨[2, 3], [], [], Fct.val 17 (.int .i64 (ad x2 i102))⟩,
          ⟨[], [0], [], Fct.val 18 (.slice Al1 l1.length cl1)⟩,
          ⟨[5], [], [], Fct.val 19 (.int .i64 (l1.length : Int))⟩,
          ⟨[4, 6], [], [], Fct.val 20 (.int .i64 x133)⟩,
          ⟨[1, 7], [], [], Fct.val 21 (.pointer (some ((adr Al1).add ((x133 : Int).toNat * R49.s))))⟩,
          ⟨[8], [], [], Fct.val 22 (.agg #[.int .i64 x134.1, .int .i64 x134.2])⟩,
          ⟨[9], [], [], Fct.row 136 [] 23 49 R49 [x134]⟩,
          ⟨[0, 10, 13], [], [101], Fct.row 138 [] 24 49 R49 x137⟩,
          ⟨[11], [], [], Fct.rel [5, 24] (fun l => ∀ (A139 : Option Addr) (cA139 : Nat), l.getD 1 undef = .slice A139 x137.length cA139 → l.getD 0 undef = .slice A139 x137.length cA139)⟩]) (by kernel_rfl) hz125 hd125 (by simp only [List.forall_mem_cons]; exact ⟨b125_A98, fun _ h => nomatch h⟩) ?_ ?_
      · refine steps_cons (fun own a wx hf hsl hE => ?_) ?_
        · obtain ⟨s_5, -⟩ := hsl
          exact sg_plain rfl rfl (or_move (s_5.trans e125_5))
        refine steps_cons (fun own a wx hf hsl hE => ?_) ?_
        · obtain ⟨s_0, -⟩ := hsl
          exact sg_plain rfl rfl (or_move (s_0.trans e125_0))
        refine steps_cons (fun own a wx hf hsl hE => ?_) ?_
        · obtain ⟨s_1, -⟩ := hsl
          exact sg_plain rfl rfl (or_move (s_1.trans e125_1))
        refine steps_cons (fun own a wx hf hsl hE => ?_) ?_
        · obtain ⟨s_6, -⟩ := hsl
          exact sg_plain rfl rfl (or_move (s_6.trans e125_6))
        refine steps_cons (fun own a wx hf hsl hE => ?_) ?_
        · obtain ⟨(f_15 : a.eval (.tmp 15) = .int .i64 x2), (f_16 : a.eval (.tmp 16) = .int .i64 i102), -⟩ := hf
          exact sg_plain rfl rfl (or_add f_15 f_16 rfl)
        refine steps_cons (fun own a wx hf hsl hE => ?_) ?_
        · obtain ⟨s_0, -⟩ := hsl
          exact sg_plain rfl rfl (or_move (s_0.trans e125_0))
        refine steps_cons (fun own a wx hf hsl hE => ?_) ?_
        · obtain ⟨(f_18 : a.eval (.tmp 18) = .slice Al1 l1.length cl1), -⟩ := hf
          exact sg_plain rfl rfl (or_len tu24 f_18 rfl)
        refine steps_cons (fun own a wx hf hsl hE => ?_) ?_
        · obtain ⟨(f_17 : a.eval (.tmp 17) = .int .i64 (ad x2 i102)), (f_19 : a.eval (.tmp 19) = .int .i64 (l1.length : Int)), -⟩ := hf
          exact sg_plain rfl rfl (or_rem f_17 f_19 hx133)
        refine steps_cons (fun own a wx hf hsl hE => ?_) ?_
        · obtain ⟨(f_14 : a.eval (.tmp 14) = .slice Al1 l1.length cl1), (f_20 : a.eval (.tmp 20) = .int .i64 x133), -⟩ := hf
          exact sg_plain rfl rfl (or_index (R := R49) (l := l1) tl24 f_14 f_20 (RdO.some_ b125_Al1 hx134) hx134)
        refine steps_cons (fun own a wx hf hsl hE => ?_) ?_
        · obtain ⟨(f_21 : a.eval (.tmp 21) = .pointer (some ((adr Al1).add ((x133 : Int).toNat * R49.s)))), -⟩ := hf
          exact sg_plain rfl rfl (or_load (l := E49.f x134) ta49 f_21 (RdO.cells (F := E49) (RdO.evo rfl hE b125_Al1) hx134) rfl)
        refine steps_cons (fun own a wx hf hsl hE => ?_) ?_
        · obtain ⟨(f_22 : a.eval (.tmp 22) = .agg #[.int .i64 x134.1, .int .i64 x134.2]), -⟩ := hf
          exact sg_plain rfl rfl (or_lit (lab := 136) (e := 49) (cs := #[.int .i64 x134.1, .int .i64 x134.2]) (F := E49) (or_new [(22, .agg #[.int .i64 x134.1, .int .i64 x134.2])] rfl rfl ⟨f_22, trivial⟩ (by kernel_rfl)) rfl rfl (show 1 ≤ maxLen by decide))
        refine steps_cons (fun own a wx hf hsl hE => ?_) ?_
        · obtain ⟨(f_13 : a.eval (.tmp 13) = .slice A98 out100.length c99), ⟨⟨A135, cA135⟩, (f_23 : a.eval (.tmp 23) = .slice A135 [x134].length cA135), (b_A135 : RwO own 136 [] wx 49 R49 A135 cA135 [x134])⟩, (b_A98 : RwO own 101 [] wx 49 R49 A98 c99 out100), -⟩ := hf
          exact sg_plain rfl rfl (or_append (R := R49) (lab := 101) (lab2 := 138) (L := []) (L3 := []) tp24 f_13 b_A98 (by decide) f_23 (RwO.rd b_A135) hx137 (by decide) (by decide) (mem_of rfl) (.inl (Rep.fl_flat _)))
        refine steps_cons (fun own a wx hf hsl hE => ?_) ?_
        · obtain ⟨⟨⟨A139, cA139⟩, (f_24 : a.eval (.tmp 24) = .slice A139 x137.length cA139), (b_A139 : RwO own 138 [] wx 49 R49 A139 cA139 x137)⟩, -⟩ := hf
          exact sg_plain rfl rfl (or_mono (f := Fct.val 5 (.slice A139 x137.length cA139)) (or_assign f_24) (fun own' a' w' v' hp h => fun _ _ h0' => by cases (f_24.symm.trans ((hp.2 24 (by decide)).symm.trans h0')); exact h))
        exact steps_nil
      intro own140 a140 w140 hd140 hz140 hk140 hf140 hE140
      have e140_0 : a140.eval (.tmp 0) = .slice Al1 l1.length cl1 := (hk140 0 rfl).trans e125_0
      have e140_1 : a140.eval (.tmp 1) = .int .i64 x2 := (hk140 1 rfl).trans e125_1
      have e140_6 : a140.eval (.tmp 6) = .int .i64 i102 := (hk140 6 rfl).trans e125_6
      obtain ⟨⟨⟨A139, cA139⟩, (f_24 : a140.eval (.tmp 24) = .slice A139 x137.length cA139), (b_A139 : RwO own140 138 [] w140 49 R49 A139 cA139 x137)⟩, (q_5 : ∀ (A139 : Option Addr) (cA139 : Nat), a140.eval (.tmp 24) = .slice A139 x137.length cA139 → a140.eval (.tmp 5) = .slice A139 x137.length cA139), -⟩ := hf140 [11, 12] rfl
      have f_5 := q_5 _ _ f_24
      have e140_5 := f_5
      have hX140 := Evo.step hX125 (fun _ => Nat.le_refl 0) hE140 rfl
      have b140_Al1 := RdO.evo rfl hE140 b125_Al1
      have b140_A139 := b_A139
      refine hn128 _ _ ?_
      refine hn127 _ _ ?_
      refine rg_plain (n := 26) (rs := []) (own0 := own140) (K := [])
          (bs := [0, 1, 3])
          (ds := [⟨[], [6], [], Fct.val 11 (.int .i64 i102)⟩,
          ⟨[0], [], [], Fct.val 12 (.int .i64 (ad i102 1))⟩,
          ⟨[1], [], [], Fct.val 6 (.int .i64 (ad i102 1))⟩]) (by kernel_rfl) hz140 hd140 (fun _ h => nomatch h) ?_ ?_
      · refine steps_cons (fun own a wx hf hsl hE => ?_) ?_
        · obtain ⟨s_6, -⟩ := hsl
          exact sg_plain rfl rfl (or_move (s_6.trans e140_6))
        refine steps_cons (fun own a wx hf hsl hE => ?_) ?_
        · obtain ⟨(f_11 : a.eval (.tmp 11) = .int .i64 i102), -⟩ := hf
          exact sg_plain rfl rfl (or_add f_11 rfl rfl)
        refine steps_cons (fun own a wx hf hsl hE => ?_) ?_
        · obtain ⟨(f_12 : a.eval (.tmp 12) = .int .i64 (ad i102 1)), -⟩ := hf
          exact sg_plain rfl rfl (or_assign f_12)
        exact steps_nil
      intro own141 a141 w141 hd141 hz141 hk141 hf141 hE141
      have e141_0 : a141.eval (.tmp 0) = .slice Al1 l1.length cl1 := (hk141 0 rfl).trans e140_0
      have e141_1 : a141.eval (.tmp 1) = .int .i64 x2 := (hk141 1 rfl).trans e140_1
      have e141_5 : a141.eval (.tmp 5) = .slice A139 x137.length cA139 := (hk141 5 rfl).trans e140_5
      obtain ⟨(f_6 : a141.eval (.tmp 6) = .int .i64 (ad i102 1)), -⟩ := hf141 [2] rfl
      have e141_6 := f_6
      have hX141 := Evo.step hX140 (fun _ => Nat.le_refl 0) hE141 rfl
      have b141_Al1 := RdO.evo rfl hE141 b140_Al1
      have b141_A139 := RwO.evo rfl hE141 b140_A139
      exact hn122 _ _ _ hs ⟨(rl [(138, 101)] own141), A139, cA139, hd141, hz141, e141_0, e141_1, e141_5, e141_6, (Evo.rl_ hX141 (fun _ => Nat.le_refl 0) rfl), (RdO.rl_ (mm := [(138, 101)]) b141_Al1), (RwO.rl_ (mm := [(138, 101)]) b141_A139)⟩
    refine fl_exit ?_
    refine hp124 _ _ _ rfl ?_
    replace hs := hz122 _ hs
    refine hp122 _ _ _ rfl ?_
    refine hx81 _ _ ?_
    refine hn79 _ _ ?_
    refine rg_plain_seq (n := 26) (rs := []) (own0 := own125) (K := [])
        (bs := [0, 1])
        (ds := [⟨[], [5], [], Fct.val 25 (.slice A98 out100.length c99)⟩,
        ⟨[0], [], [], Fct.val 4 (.slice A98 out100.length c99)⟩]) (by kernel_rfl) hz125 hd125 (fun _ h => nomatch h) ?_ ?_
    · refine steps_cons (fun own a wx hf hsl hE => ?_) ?_
      · obtain ⟨s_5, -⟩ := hsl
        exact sg_plain rfl rfl (or_move (s_5.trans e125_5))
      refine steps_cons (fun own a wx hf hsl hE => ?_) ?_
      · obtain ⟨(f_25 : a.eval (.tmp 25) = .slice A98 out100.length c99), -⟩ := hf
        exact sg_plain rfl rfl (or_assign f_25)
      exact steps_nil
    intro own142 a142 w142 hd142 hz142 hk142 hf142 hE142
    obtain ⟨(f_4 : a142.eval (.tmp 4) = .slice A98 out100.length c99), -⟩ := hf142 [1] rfl
    have e142_4 := f_4
    have hX142 := Evo.step hX125 (fun _ => Nat.le_refl 0) hE142 rfl
    have b142_A98 := RwO.evo rfl hE142 b125_A98
    refine fl_ret ?_
    obtain rfl := (osome hs).symm
    exact hret _ _ _ _ (.inl rfl) hd142 (results1_ rfl (RVal.tmp_ e142_4)) ⟨(rl [(101, 1)] own142), (A98, c99), rfl, (Evo.rl_ hX142 (fun _ => Nat.le_refl 0) rfl), (RwO.rl_ (mm := [(101, 1)]) b142_A98)⟩

theorem ref01_Less_w (w : World) (x1 : Int × Int) (b2 : Int × Int) (r : Bool) (hs : ref01_Less x1 b2 = some r) :
    Calls Try.prog 52 #[.agg #[.int .i64 x1.1, .int .i64 x1.2], .agg #[.int .i64 b2.1, .int .i64 b2.2]] w fun e w' => ∃ own' : Own, e = .returned (.bool r) ∧ Evo [] (fun _ => 0) own' w w' := by
  refine fl_enter (n := 20) rfl rfl rfl (Nat.le_of_ble_eq_true rfl) ?_
  intro a0 Q hd0 hz0 harg hret
  have ha0 := harg 0 _ rfl
  have ha1 := harg 1 _ rfl
  clear harg
  have hE0 : Evo [] (fun _ => 0) (fun _ => 0) w w := Evo.refl _ _ _
  refine rg_plain_seq (n := 20) (rs := []) (own0 := (fun _ => 0)) (K := [])
      (bs := [0, 0, 0])
      (ds := [⟨[], [0], [], Fct.blk 22 2 (fun g => .pointer (some ⟨g, 0, none⟩)) 49 #[.int .i64 x1.1, .int .i64 x1.2]⟩,
      ⟨[], [1], [], Fct.blk 24 3 (fun g => .pointer (some ⟨g, 0, none⟩)) 49 #[.int .i64 b2.1, .int .i64 b2.2]⟩,
      ⟨[], [], [], Fct.val 4 (.bool false)⟩]) (by kernel_rfl) hz0 hd0 (fun _ h => nomatch h) ?_ ?_
  · refine steps_cons (fun own a wx hf hsl hE => ?_) ?_
    · obtain ⟨s_0, -⟩ := hsl
      exact sg_plain rfl rfl (or_new [(0, .agg #[.int .i64 x1.1, .int .i64 x1.2])] rfl rfl ⟨(s_0.trans ha0), trivial⟩ (by kernel_rfl))
    refine steps_cons (fun own a wx hf hsl hE => ?_) ?_
    · obtain ⟨s_1, -⟩ := hsl
      exact sg_plain rfl rfl (or_new [(1, .agg #[.int .i64 b2.1, .int .i64 b2.2])] rfl rfl ⟨(s_1.trans ha1), trivial⟩ (by kernel_rfl))
    refine steps_cons (fun own a wx hf hsl hE => ?_) ?_
    · exact sg_plain rfl rfl (or_assign rfl)
    exact steps_nil
  intro own25 a25 w25 hd25 hz25 hk25 hf25 hE25
  obtain ⟨⟨g21, (f_2 : a25.eval (.tmp 2) = .pointer (some ⟨g21, 0, none⟩)), (b_g21 : BlkO own25 22 w25 g21 49 #[.int .i64 x1.1, .int .i64 x1.2])⟩, ⟨g23, (f_3 : a25.eval (.tmp 3) = .pointer (some ⟨g23, 0, none⟩)), (b_g23 : BlkO own25 24 w25 g23 49 #[.int .i64 b2.1, .int .i64 b2.2])⟩, -⟩ := hf25 [0, 1] rfl
  have e25_2 := f_2
  have e25_3 := f_3
  have hX25 := Evo.step hE0 (fun _ => Nat.le_refl 0) hE25 rfl
  have b25_g21 := b_g21
  have b25_g23 := b_g23
  refine fl_seq (fun Q26 hn26 hp26 => ?_)
  refine rg_plain_seq (n := 20) (rs := []) (own0 := own25) (K := [])
      (bs := [0, 1, 0, 4, 15])
      (ds := [⟨[], [2], [], Fct.val 5 (.pointer (some ⟨g21, 0, none⟩))⟩,
      ⟨[0], [], [], Fct.val 6 (.int .i64 x1.1)⟩,
      ⟨[], [3], [], Fct.val 7 (.pointer (some ⟨g23, 0, none⟩))⟩,
      ⟨[2], [], [], Fct.val 8 (.int .i64 b2.1)⟩,
      ⟨[1, 3], [], [], Fct.val 9 (.bool (!decide (x1.1 = b2.1)))⟩]) (by kernel_rfl) hz25 hd25 (fun _ h => nomatch h) ?_ ?_
  · refine steps_cons (fun own a wx hf hsl hE => ?_) ?_
    · obtain ⟨s_2, -⟩ := hsl
      exact sg_plain rfl rfl (or_field fo49_0 (s_2.trans e25_2) (by rfl))
    refine steps_cons (fun own a wx hf hsl hE => ?_) ?_
    · obtain ⟨(f_5 : a.eval (.tmp 5) = .pointer (some ⟨g21, 0, none⟩)), -⟩ := hf
      exact sg_plain rfl rfl (or_load1 to3 f_5 (Blk.at_ (BlkO.evo (by decide) hE b25_g21).2 0 rfl))
    refine steps_cons (fun own a wx hf hsl hE => ?_) ?_
    · obtain ⟨s_3, -⟩ := hsl
      exact sg_plain rfl rfl (or_field fo49_0 (s_3.trans e25_3) (by rfl))
    refine steps_cons (fun own a wx hf hsl hE => ?_) ?_
    · obtain ⟨(f_7 : a.eval (.tmp 7) = .pointer (some ⟨g23, 0, none⟩)), -⟩ := hf
      exact sg_plain rfl rfl (or_load1 to3 f_7 (Blk.at_ (BlkO.evo (by decide) hE b25_g23).2 0 rfl))
    refine steps_cons (fun own a wx hf hsl hE => ?_) ?_
    · obtain ⟨(f_6 : a.eval (.tmp 6) = .int .i64 x1.1), (f_8 : a.eval (.tmp 8) = .int .i64 b2.1), -⟩ := hf
      exact sg_plain rfl rfl (or_neq f_6 f_8 rfl)
    exact steps_nil
  intro own27 a27 w27 hd27 hz27 hk27 hf27 hE27
  have e27_2 : a27.eval (.tmp 2) = .pointer (some ⟨g21, 0, none⟩) := (hk27 2 rfl).trans e25_2
  have e27_3 : a27.eval (.tmp 3) = .pointer (some ⟨g23, 0, none⟩) := (hk27 3 rfl).trans e25_3
  obtain ⟨(f_9 : a27.eval (.tmp 9) = .bool (!decide (x1.1 = b2.1))), -⟩ := hf27 [4] rfl
  have e27_9 := f_9
  have hX27 := Evo.step hX25 (fun _ => Nat.le_refl 0) hE27 rfl
  have b27_g21 := BlkO.evo (by decide) hE27 b25_g21
  have b27_g23 := BlkO.evo (by decide) hE27 b25_g23
  refine fl_cond e27_9 hs (fun c28 hs => ?_) (fun c28 hs => ?_)
  · refine rg_plain_seq (n := 20) (rs := []) (own0 := own27) (K := [])
        (bs := [0, 1, 0, 4, 15, 31])
        (ds := [⟨[], [2], [], Fct.val 10 (.pointer (some ⟨g21, 0, none⟩))⟩,
        ⟨[0], [], [], Fct.val 11 (.int .i64 x1.1)⟩,
        ⟨[], [3], [], Fct.val 12 (.pointer (some ⟨g23, 0, none⟩))⟩,
        ⟨[2], [], [], Fct.val 13 (.int .i64 b2.1)⟩,
        ⟨[1, 3], [], [], Fct.val 14 (.bool (decide (x1.1 < b2.1)))⟩,
        ⟨[4], [], [], Fct.val 4 (.bool (decide (x1.1 < b2.1)))⟩]) (by kernel_rfl) hz27 hd27 (fun _ h => nomatch h) ?_ ?_
    · refine steps_cons (fun own a wx hf hsl hE => ?_) ?_
      · obtain ⟨s_2, -⟩ := hsl
        exact sg_plain rfl rfl (or_field fo49_0 (s_2.trans e27_2) (by rfl))
      refine steps_cons (fun own a wx hf hsl hE => ?_) ?_
      · obtain ⟨(f_10 : a.eval (.tmp 10) = .pointer (some ⟨g21, 0, none⟩)), -⟩ := hf
        exact sg_plain rfl rfl (or_load1 to3 f_10 (Blk.at_ (BlkO.evo (by decide) hE b27_g21).2 0 rfl))
      refine steps_cons (fun own a wx hf hsl hE => ?_) ?_
      · obtain ⟨s_3, -⟩ := hsl
        exact sg_plain rfl rfl (or_field fo49_0 (s_3.trans e27_3) (by rfl))
      refine steps_cons (fun own a wx hf hsl hE => ?_) ?_
      · obtain ⟨(f_12 : a.eval (.tmp 12) = .pointer (some ⟨g23, 0, none⟩)), -⟩ := hf
        exact sg_plain rfl rfl (or_load1 to3 f_12 (Blk.at_ (BlkO.evo (by decide) hE b27_g23).2 0 rfl))
      refine steps_cons (fun own a wx hf hsl hE => ?_) ?_
      · obtain ⟨(f_11 : a.eval (.tmp 11) = .int .i64 x1.1), (f_13 : a.eval (.tmp 13) = .int .i64 b2.1), -⟩ := hf
        exact sg_plain rfl rfl (or_lss f_11 f_13 rfl)
      refine steps_cons (fun own a wx hf hsl hE => ?_) ?_
      · obtain ⟨(f_14 : a.eval (.tmp 14) = .bool (decide (x1.1 < b2.1))), -⟩ := hf
        exact sg_plain rfl rfl (or_assign f_14)
      exact steps_nil
    intro own29 a29 w29 hd29 hz29 hk29 hf29 hE29
    obtain ⟨(f_4 : a29.eval (.tmp 4) = .bool (decide (x1.1 < b2.1))), -⟩ := hf29 [5] rfl
    have e29_4 := f_4
    have hX29 := Evo.step hX27 (fun _ => Nat.le_refl 0) hE29 rfl
    refine fl_ret ?_
    refine hp26 _ _ _ rfl ?_
    obtain rfl := osome hs
    exact hret _ _ _ _ (.inl rfl) hd29 (results1_ rfl (RVal.tmp_ e29_4)) ⟨own29, rfl, hX29⟩
  refine fl_skip ?_
  refine hn26 _ _ ?_
  refine rg_plain_seq (n := 20) (rs := []) (own0 := own27) (K := [])
      (bs := [0, 1, 0, 4, 15, 31])
      (ds := [⟨[], [2], [], Fct.val 15 (.pointer (some ⟨g21, 1, none⟩))⟩,
      ⟨[0], [], [], Fct.val 16 (.int .i64 x1.2)⟩,
      ⟨[], [3], [], Fct.val 17 (.pointer (some ⟨g23, 1, none⟩))⟩,
      ⟨[2], [], [], Fct.val 18 (.int .i64 b2.2)⟩,
      ⟨[1, 3], [], [], Fct.val 19 (.bool (decide (x1.2 < b2.2)))⟩,
      ⟨[4], [], [], Fct.val 4 (.bool (decide (x1.2 < b2.2)))⟩]) (by kernel_rfl) hz27 hd27 (fun _ h => nomatch h) ?_ ?_
  · refine steps_cons (fun own a wx hf hsl hE => ?_) ?_
    · obtain ⟨s_2, -⟩ := hsl
      exact sg_plain rfl rfl (or_field fo49_1 (s_2.trans e27_2) (by rfl))
    refine steps_cons (fun own a wx hf hsl hE => ?_) ?_
    · obtain ⟨(f_15 : a.eval (.tmp 15) = .pointer (some ⟨g21, 1, none⟩)), -⟩ := hf
      exact sg_plain rfl rfl (or_load1 to3 f_15 (Blk.at_ (BlkO.evo (by decide) hE b27_g21).2 1 rfl))
    refine steps_cons (fun own a wx hf hsl hE => ?_) ?_
    · obtain ⟨s_3, -⟩ := hsl
      exact sg_plain rfl rfl (or_field fo49_1 (s_3.trans e27_3) (by rfl))
    refine steps_cons (fun own a wx hf hsl hE => ?_) ?_
    · obtain ⟨(f_17 : a.eval (.tmp 17) = .pointer (some ⟨g23, 1, none⟩)), -⟩ := hf
      exact sg_plain rfl rfl (or_load1 to3 f_17 (Blk.at_ (BlkO.evo (by decide) hE b27_g23).2 1 rfl))
    refine steps_cons (fun own a wx hf hsl hE => ?_) ?_
    · obtain ⟨(f_16 : a.eval (.tmp 16) = .int .i64 x1.2), (f_18 : a.eval (.tmp 18) = .int .i64 b2.2), -⟩ := hf
      exact sg_plain rfl rfl (or_lss f_16 f_18 rfl)
    refine steps_cons (fun own a wx hf hsl hE => ?_) ?_
    · obtain ⟨(f_19 : a.eval (.tmp 19) = .bool (decide (x1.2 < b2.2))), -⟩ := hf
      exact sg_plain rfl rfl (or_assign f_19)
    exact steps_nil
  intro own30 a30 w30 hd30 hz30 hk30 hf30 hE30
  obtain ⟨(f_4 : a30.eval (.tmp 4) = .bool (decide (x1.2 < b2.2))), -⟩ := hf30 [5] rfl
  have e30_4 := f_4
  have hX30 := Evo.step hX27 (fun _ => Nat.le_refl 0) hE30 rfl
  refine fl_ret ?_
  obtain rfl := osome hs
  exact hret _ _ _ _ (.inl rfl) hd30 (results1_ rfl (RVal.tmp_ e30_4)) ⟨own30, rfl, hX30⟩

theorem ref03_First_w (w : World) (l1 : List (Int × Int)) (Al1 : Option Addr) (cl1 : Nat) (hl1 : RdO (fun _ => 0) [0] w R49 Al1 cl1 l1) (r : Int) (hs : ref03_First l1 = some r) :
    Calls Try.prog 28 #[.slice Al1 l1.length cl1] w fun e w' => ∃ own' : Own, e = .returned (.int .i64 r) ∧ Evo [] (fun _ => 0) own' w w' := by
  refine fl_enter (n := 22) rfl rfl rfl (Nat.le_of_ble_eq_true rfl) ?_
  intro a0 Q hd0 hz0 harg hret
  have ha0 := harg 0 _ rfl
  clear harg
  have hE0 : Evo [] (fun _ => 0) (fun _ => 0) w w := Evo.refl _ _ _
  refine rg_plain_seq (n := 22) (rs := []) (own0 := (fun _ => 0)) (K := [])
      (bs := [0])
      (ds := [⟨[], [], [], Fct.val 2 (.int .i64 0)⟩]) (by kernel_rfl) hz0 hd0 (fun _ h => nomatch h) ?_ ?_
  · refine steps_cons (fun own a wx hf hsl hE => ?_) ?_
    · exact sg_plain rfl rfl (or_assign rfl)
    exact steps_nil
  intro own134 a134 w134 hd134 hz134 hk134 hf134 hE134
  have e134_0 : a134.eval (.tmp 0) = .slice Al1 l1.length cl1 := (hk134 0 rfl).trans ha0
  have hX134 := Evo.step hE0 (fun _ => Nat.le_refl 0) hE134 rfl
  have b134_Al1 := RdO.evo rfl hE134 hl1
  refine rg_plain_seq (n := 22) (rs := []) (own0 := own134) (K := [])
      (bs := [0])
      (ds := [⟨[], [], [], Fct.val 3 (.int .i64 0)⟩]) (by kernel_rfl) hz134 hd134 (fun _ h => nomatch h) ?_ ?_
  · refine steps_cons (fun own a wx hf hsl hE => ?_) ?_
    · exact sg_plain rfl rfl (or_assign rfl)
    exact steps_nil
  intro own135 a135 w135 hd135 hz135 hk135 hf135 hE135
  have e135_0 : a135.eval (.tmp 0) = .slice Al1 l1.length cl1 := (hk135 0 rfl).trans e134_0
  obtain ⟨(f_3 : a135.eval (.tmp 3) = .int .i64 0), -⟩ := hf135 [0] rfl
  have e135_3 := f_3
  have hX135 := Evo.step hX134 (fun _ => Nat.le_refl 0) hE135 rfl
  have b135_Al1 := RdO.evo rfl hE135 b134_Al1
  refine fl_seq (fun Q136 hn136 hp136 => ?_)
  refine rg_plain_seq (n := 22) (rs := []) (own0 := own135) (K := [])
      (bs := [0])
      (ds := [⟨[], [], [], Fct.val 4 (.int .i64 1)⟩]) (by kernel_rfl) hz135 hd135 (fun _ h => nomatch h) ?_ ?_
  · refine steps_cons (fun own a wx hf hsl hE => ?_) ?_
    · exact sg_plain rfl rfl (or_assign rfl)
    exact steps_nil
  intro own137 a137 w137 hd137 hz137 hk137 hf137 hE137
  have e137_0 : a137.eval (.tmp 0) = .slice Al1 l1.length cl1 := (hk137 0 rfl).trans e135_0
  have e137_3 : a137.eval (.tmp 3) = .int .i64 0 := (hk137 3 rfl).trans e135_3
  obtain ⟨(f_4 : a137.eval (.tmp 4) = .int .i64 1), -⟩ := hf137 [0] rfl
  have e137_4 := f_4
  have hX137 := Evo.step hX135 (fun _ => Nat.le_refl 0) hE137 rfl
  have b137_Al1 := RdO.evo rfl hE137 b135_Al1
  refine fl_block (fun Q138 hn138 hx138 hp138 => ?_)
  refine fl_loop (body := (fun s => ref03_First_b1 l1 s.1 s.2)) (z := r) (show loopO _ _ = _ from hs) (fun (s : Int × Int) a wx => match s with | (x177, i178) => ∃ (ox : Own), a.defers = [] ∧ a.tmps.size = 22 ∧ a.eval (.tmp 0) = .slice Al1 l1.length cl1 ∧ a.eval (.tmp 3) = .int .i64 x177 ∧ a.eval (.tmp 4) = .int .i64 i178 ∧ Evo [] (fun _ => 0) ox w wx ∧ RdO ox [0] wx R49 Al1 cl1 l1) ?_ ?_
  · exact ⟨own137, hd137, hz137, e137_0, e137_3, e137_4, hX137, b137_Al1⟩
  · rintro ⟨x177, i178⟩ zz217 a217 w217 ⟨own217, hd218, hz218, e218_0, e218_3, e218_4, hE218, b218_Al1⟩ hs Q217 hn217 hp217 hz217
    have hs : ref03_First_b1 l1 x177 i178 = some zz217 := hs
    refine fl_seq (fun Q219 hn219 hp219 => ?_)
    refine rg_plain_seq (n := 22) (rs := []) (own0 := own217) (K := [])
        (bs := [0, 0, 2, 7])
        (ds := [⟨[], [4], [], Fct.val 5 (.int .i64 i178)⟩,
        ⟨[], [0], [], Fct.val 6 (.slice Al1 l1.length cl1)⟩,
        ⟨[1], [], [], Fct.val 7 (.int .i64 (l1.length : Int))⟩,
        ⟨[0, 2], [], [], Fct.val 8 (.bool (decide (i178 < (l1.length : Int))))⟩]) (by kernel_rfl) hz218 hd218 (fun _ h => nomatch h) ?_ ?_
    · refine steps_cons (fun own a wx hf hsl hE => ?_) ?_
      · obtain ⟨s_4, -⟩ := hsl
        exact sg_plain rfl rfl (or_move (s_4.trans e218_4))
      refine steps_cons (fun own a wx hf hsl hE => ?_) ?_
      · obtain ⟨s_0, -⟩ := hsl
        exact sg_plain rfl rfl (or_move (s_0.trans e218_0))
      refine steps_cons (fun own a wx hf hsl hE => ?_) ?_
      · obtain ⟨(f_6 : a.eval (.tmp 6) = .slice Al1 l1.length cl1), -⟩ := hf
        exact sg_plain rfl rfl (or_len tu24 f_6 rfl)
      refine steps_cons (fun own a wx hf hsl hE => ?_) ?_
      · obtain ⟨(f_5 : a.eval (.tmp 5) = .int .i64 i178), (f_7 : a.eval (.tmp 7) = .int .i64 (l1.length : Int)), -⟩ := hf
        exact sg_plain rfl rfl (or_lss f_5 f_7 rfl)
      exact steps_nil
    intro own220 a220 w220 hd220 hz220 hk220 hf220 hE220
    have e220_0 : a220.eval (.tmp 0) = .slice Al1 l1.length cl1 := (hk220 0 rfl).trans e218_0
    have e220_3 : a220.eval (.tmp 3) = .int .i64 x177 := (hk220 3 rfl).trans e218_3
    have e220_4 : a220.eval (.tmp 4) = .int .i64 i178 := (hk220 4 rfl).trans e218_4
    obtain ⟨(f_8 : a220.eval (.tmp 8) = .bool (decide (i178 < (l1.length : Int)))), -⟩ := hf220 [3] rfl
    have e220_8 := f_8
    have hX220 := Evo.step hE218 (fun _ => Nat.le_refl 0) hE220 rfl
    have b220_Al1 := RdO.evo rfl hE220 b218_Al1
    refine fl_cond e220_8 hs (fun c221 hs => ?_) (fun c221 hs => ?_)
    · refine fl_skip ?_
      refine hn219 _ _ ?_
      refine fl_seq (fun Q222 hn222 hp222 => ?_)
      refine fl_block (fun Q239 hn239 hx239 hp239 => ?_)
      have K247 : ∀ (a247 : Act) (w247 : World) (own247 : Own) (x246 : Int), a247.defers = [] → a247.tmps.size = 22 → a247.eval (.tmp 0) = .slice Al1 l1.length cl1 → a247.eval (.tmp 3) = .int .i64 x246 → a247.eval (.tmp 4) = .int .i64 i178 → Evo [] (fun _ => 0) own247 w w247 → RdO own247 [0] w247 R49 Al1 cl1 l1 → ref03_First_k2 i178 x246 = some zz217 → (Q239 .normal a247 w247 ∧ Q239 (.exit 1) a247 w247) := by
        intro a247 w247 own247 x246 hd248 hz248 e248_0 e248_3 e248_4 hE248 b248_Al1 hs
        refine and_both (hn239 _ _) (hx239 _ _) ?_
        refine hn222 _ _ ?_
        refine rg_plain (n := 22) (rs := []) (own0 := own247) (K := [])
            (bs := [0, 1, 3])
            (ds := [⟨[], [4], [], Fct.val 9 (.int .i64 i178)⟩,
            ⟨[0], [], [], Fct.val 10 (.int .i64 (ad i178 1))⟩,
            ⟨[1], [], [], Fct.val 4 (.int .i64 (ad i178 1))⟩]) (by kernel_rfl) hz248 hd248 (fun _ h => nomatch h) ?_ ?_
        · refine steps_cons (fun own a wx hf hsl hE => ?_) ?_
          · obtain ⟨s_4, -⟩ := hsl
            exact sg_plain rfl rfl (or_move (s_4.trans e248_4))
          refine steps_cons (fun own a wx hf hsl hE => ?_) ?_
          · obtain ⟨(f_9 : a.eval (.tmp 9) = .int .i64 i178), -⟩ := hf
            exact sg_plain rfl rfl (or_add f_9 rfl rfl)
          refine steps_cons (fun own a wx hf hsl hE => ?_) ?_
          · obtain ⟨(f_10 : a.eval (.tmp 10) = .int .i64 (ad i178 1)), -⟩ := hf
            exact sg_plain rfl rfl (or_assign f_10)
          exact steps_nil
        intro own249 a249 w249 hd249 hz249 hk249 hf249 hE249
        have e249_0 : a249.eval (.tmp 0) = .slice Al1 l1.length cl1 := (hk249 0 rfl).trans e248_0
        have e249_3 : a249.eval (.tmp 3) = .int .i64 x246 := (hk249 3 rfl).trans e248_3
        obtain ⟨(f_4 : a249.eval (.tmp 4) = .int .i64 (ad i178 1)), -⟩ := hf249 [2] rfl
        have e249_4 := f_4
        have hX249 := Evo.step hE248 (fun _ => Nat.le_refl 0) hE249 rfl
        have b249_Al1 := RdO.evo rfl hE249 b248_Al1
        exact hn217 _ _ _ hs ⟨own249, hd249, hz249, e249_0, e249_3, e249_4, hX249, b249_Al1⟩
      obtain ⟨x250, hx250, hs⟩ := obind hs
      obtain ⟨x251, hx251, hs⟩ := obind hs
      obtain ⟨r252, hr252, hs⟩ := obind hs
      refine rg_draw_seq g_mixed (n := 22) (rs := []) (own0 := own220) (K := [])
          (bs := [0, 0, 3, 7, 0, 0, 48, 112, 255])
          (ds := [⟨[], [0], [], Fct.val 11 (.slice Al1 l1.length cl1)⟩,
          ⟨[], [4], [], Fct.val 12 (.int .i64 i178)⟩,
          ⟨[0, 1], [], [], Fct.val 13 (.pointer (some ((adr Al1).add ((i178 : Int).toNat * R49.s))))⟩,
          ⟨[2], [], [], Fct.val 14 (.agg #[.int .i64 x250.1, .int .i64 x250.2])⟩,
          ⟨[], [0], [], Fct.val 15 (.slice Al1 l1.length cl1)⟩,
          ⟨[], [3], [], Fct.val 16 (.int .i64 x177)⟩,
          ⟨[4, 5], [], [], Fct.val 17 (.pointer (some ((adr Al1).add ((x177 : Int).toNat * R49.s))))⟩,
          ⟨[6], [], [], Fct.val 18 (.agg #[.int .i64 x251.1, .int .i64 x251.2])⟩,
          ⟨[3, 7], [], [], Fct.val 19 (.bool r252)⟩]) (by kernel_rfl) hz220 hd220 (fun _ h => nomatch h) ?_ ?_
      · refine steps_cons (fun own a wx hf hsl hE => ?_) ?_
        · obtain ⟨s_0, -⟩ := hsl
          exact sg_plain rfl rfl (or_move (s_0.trans e220_0))
        refine steps_cons (fun own a wx hf hsl hE => ?_) ?_
        · obtain ⟨s_4, -⟩ := hsl
          exact sg_plain rfl rfl (or_move (s_4.trans e220_4))
        refine steps_cons (fun own a wx hf hsl hE => ?_) ?_
        · obtain ⟨(f_11 : a.eval (.tmp 11) = .slice Al1 l1.length cl1), (f_12 : a.eval (.tmp 12) = .int .i64 i178), -⟩ := hf
          exact sg_plain rfl rfl (or_index (R := R49) (l := l1) tl24 f_11 f_12 (RdO.some_ b220_Al1 hx250) hx250)
        refine steps_cons (fun own a wx hf hsl hE => ?_) ?_
        · obtain ⟨(f_13 : a.eval (.tmp 13) = .pointer (some ((adr Al1).add ((i178 : Int).toNat * R49.s)))), -⟩ := hf
          exact sg_plain rfl rfl (or_load (l := E49.f x250) ta49 f_13 (RdO.cells (F := E49) (RdO.evo rfl hE b220_Al1) hx250) rfl)
        refine steps_cons (fun own a wx hf hsl hE => ?_) ?_
        · obtain ⟨s_0, -⟩ := hsl
          exact sg_plain rfl rfl (or_move (s_0.trans e220_0))
        refine steps_cons (fun own a wx hf hsl hE => ?_) ?_
        · obtain ⟨s_3, -⟩ := hsl
          exact sg_plain rfl rfl (or_move (s_3.trans e220_3))
        refine steps_cons (fun own a wx hf hsl hE => ?_) ?_
        · obtain ⟨(f_15 : a.eval (.tmp 15) = .slice Al1 l1.length cl1), (f_16 : a.eval (.tmp 16) = .int .i64 x177), -⟩ := hf
          exact sg_plain rfl rfl (or_index (R := R49) (l := l1) tl24 f_15 f_16 (RdO.some_ b220_Al1 hx251) hx251)
        refine steps_cons (fun own a wx hf hsl hE => ?_) ?_
        · obtain ⟨(f_17 : a.eval (.tmp 17) = .pointer (some ((adr Al1).add ((x177 : Int).toNat * R49.s)))), -⟩ := hf
          exact sg_plain rfl rfl (or_load (l := E49.f x251) ta49 f_17 (RdO.cells (F := E49) (RdO.evo rfl hE b220_Al1) hx251) rfl)
        refine steps_cons (fun own a wx hf hsl hE => ?_) ?_
        · obtain ⟨(f_14 : a.eval (.tmp 14) = .agg #[.int .i64 x250.1, .int .i64 x250.2]), (f_18 : a.eval (.tmp 18) = .agg #[.int .i64 x251.1, .int .i64 x251.2]), -⟩ := hf
          exact sg_plain rfl rfl (or_call cf52 (args2 f_14 f_18) (ref01_Less_w _ x250 x251  r252 hr252) post_val)
        exact steps_nil
      intro own253 a253 w253 hd253 hz253 hk253 hf253 hE253
      have e253_0 : a253.eval (.tmp 0) = .slice Al1 l1.length cl1 := (hk253 0 rfl).trans e220_0
      have e253_3 : a253.eval (.tmp 3) = .int .i64 x177 := (hk253 3 rfl).trans e220_3
      have e253_4 : a253.eval (.tmp 4) = .int .i64 i178 := (hk253 4 rfl).trans e220_4
      obtain ⟨(f_19 : a253.eval (.tmp 19) = .bool r252), -⟩ := hf253 [8] rfl
      have e253_19 := f_19
      have hX253 := Evo.step hX220 (fun _ => Nat.le_refl 0) hE253 rfl
      have b253_Al1 := RdO.evo rfl hE253 b220_Al1
      refine fl_cond e253_19 hs (fun c254 hs => ?_) (fun c254 hs => ?_)
      · refine rg_plain (n := 22) (rs := []) (own0 := own253) (K := [])
            (bs := [0, 1])
            (ds := [⟨[], [4], [], Fct.val 20 (.int .i64 i178)⟩,
            ⟨[0], [], [], Fct.val 3 (.int .i64 i178)⟩]) (by kernel_rfl) hz253 hd253 (fun _ h => nomatch h) ?_ ?_
        · refine steps_cons (fun own a wx hf hsl hE => ?_) ?_
          · obtain ⟨s_4, -⟩ := hsl
            exact sg_plain rfl rfl (or_move (s_4.trans e253_4))
          refine steps_cons (fun own a wx hf hsl hE => ?_) ?_
          · obtain ⟨(f_20 : a.eval (.tmp 20) = .int .i64 i178), -⟩ := hf
            exact sg_plain rfl rfl (or_assign f_20)
          exact steps_nil
        intro own255 a255 w255 hd255 hz255 hk255 hf255 hE255
        have e255_0 : a255.eval (.tmp 0) = .slice Al1 l1.length cl1 := (hk255 0 rfl).trans e253_0
        have e255_4 : a255.eval (.tmp 4) = .int .i64 i178 := (hk255 4 rfl).trans e253_4
        obtain ⟨(f_3 : a255.eval (.tmp 3) = .int .i64 i178), -⟩ := hf255 [1] rfl
        have e255_3 := f_3
        have hX255 := Evo.step hX253 (fun _ => Nat.le_refl 0) hE255 rfl
        have b255_Al1 := RdO.evo rfl hE255 b253_Al1
        exact (K247 _ _ own255 _ hd255 hz255 e255_0 e255_3 e255_4 hX255 b255_Al1 hs).1
      refine fl_skip ?_
      exact (K247 _ _ own253 _ hd253 hz253 e253_0 e253_3 e253_4 hX253 b253_Al1 hs).1
    refine fl_exit ?_
    refine hp219 _ _ _ rfl ?_
    replace hs := hz217 _ hs
    refine hp217 _ _ _ rfl ?_
    refine hx138 _ _ ?_
    refine hn136 _ _ ?_
    refine rg_plain_seq (n := 22) (rs := []) (own0 := own220) (K := [])
        (bs := [0, 1])
        (ds := [⟨[], [3], [], Fct.val 21 (.int .i64 x177)⟩,
        ⟨[0], [], [], Fct.val 2 (.int .i64 x177)⟩]) (by kernel_rfl) hz220 hd220 (fun _ h => nomatch h) ?_ ?_
    · refine steps_cons (fun own a wx hf hsl hE => ?_) ?_
      · obtain ⟨s_3, -⟩ := hsl
        exact sg_plain rfl rfl (or_move (s_3.trans e220_3))
      refine steps_cons (fun own a wx hf hsl hE => ?_) ?_
      · obtain ⟨(f_21 : a.eval (.tmp 21) = .int .i64 x177), -⟩ := hf
        exact sg_plain rfl rfl (or_assign f_21)
      exact steps_nil
    intro own256 a256 w256 hd256 hz256 hk256 hf256 hE256
    obtain ⟨(f_2 : a256.eval (.tmp 2) = .int .i64 x177), -⟩ := hf256 [1] rfl
    have e256_2 := f_2
    have hX256 := Evo.step hX220 (fun _ => Nat.le_refl 0) hE256 rfl
    refine fl_ret ?_
    obtain rfl := (osome hs).symm
    exact hret _ _ _ _ (.inl rfl) hd256 (results1_ rfl (RVal.tmp_ e256_2)) ⟨own256, rfl, hX256⟩

theorem ring_Alike_1_w (w : World) (x1 : Int) (f1 : List (Int × Int)) (gf1 : Nat) (tf1 : TypeId) (Af1_0 : Option Addr) (cf1_0 : Nat) (f2 : List (Int × Int)) (gf2 : Nat) (tf2 : TypeId) (Af2_0 : Option Addr) (cf2_0 : Nat) (hgf1 : BlkO (fun _ => 0) 0 w gf1 tf1 #[.slice Af1_0 f1.length cf1_0]) (hAf1_0 : RdO (fun _ => 0) [0] w R32 Af1_0 cf1_0 f1) (hgf2 : BlkO (fun _ => 0) 0 w gf2 tf2 #[.slice Af2_0 f2.length cf2_0]) (hAf2_0 : RdO (fun _ => 0) [0] w R32 Af2_0 cf2_0 f2) (r : Bool) (hs : ring_Alike_1 x1 f1 f2 = some r) :
    Calls Try.prog 53 #[.int .i64 x1, .pointer (some ⟨gf1, 0, none⟩), .pointer (some ⟨gf2, 0, none⟩)] w fun e w' => ∃ own' : Own, e = .returned (.bool r) ∧ Evo [] (fun _ => 0) own' w w' := by
  refine fl_enter (n := 26) rfl rfl rfl (Nat.le_of_ble_eq_true rfl) ?_
  intro a0 Q hd0 hz0 harg hret
  have ha0 := harg 0 _ rfl
  have ha1 := harg 1 _ rfl
  have ha2 := harg 2 _ rfl
  clear harg
  have hE0 : Evo [] (fun _ => 0) (fun _ => 0) w w := Evo.refl _ _ _
  refine rg_plain_seq (n := 26) (rs := []) (own0 := (fun _ => 0)) (K := [])
      (bs := [0])
      (ds := [⟨[], [], [], Fct.val 4 (.bool false)⟩]) (by kernel_rfl) hz0 hd0 (fun _ h => nomatch h) ?_ ?_
  · refine steps_cons (fun own a wx hf hsl hE => ?_) ?_
    · exact sg_plain rfl rfl (or_assign rfl)
    exact steps_nil
  intro own69 a69 w69 hd69 hz69 hk69 hf69 hE69
  have e69_0 : a69.eval (.tmp 0) = .int .i64 x1 := (hk69 0 rfl).trans ha0
  have e69_1 : a69.eval (.tmp 1) = .pointer (some ⟨gf1, 0, none⟩) := (hk69 1 rfl).trans ha1
  have e69_2 : a69.eval (.tmp 2) = .pointer (some ⟨gf2, 0, none⟩) := (hk69 2 rfl).trans ha2
  have hX69 := Evo.step hE0 (fun _ => Nat.le_refl 0) hE69 rfl
  have b69_Af1_0 := RdO.evo rfl hE69 hAf1_0
  have b69_gf1 := BlkO.evo (by decide) hE69 hgf1
  have b69_Af2_0 := RdO.evo rfl hE69 hAf2_0
  have b69_gf2 := BlkO.evo (by decide) hE69 hgf2
  refine fl_seq (fun Q70 hn70 hp70 => ?_)
  refine rg_plain_seq (n := 26) (rs := []) (own0 := own69) (K := [])
      (bs := [0, 1, 0])
      (ds := [⟨[], [1], [], Fct.val 7 (.slice Af1_0 f1.length cf1_0)⟩,
      ⟨[0], [], [], Fct.val 8 (.int .i64 (f1.length : Int))⟩,
      ⟨[], [], [], Fct.val 9 (.int .i64 0)⟩]) (by kernel_rfl) hz69 hd69 (fun _ h => nomatch h) ?_ ?_
  · refine steps_cons (fun own a wx hf hsl hE => ?_) ?_
    · obtain ⟨s_1, -⟩ := hsl
      exact sg_plain rfl rfl (or_load1 to22 (s_1.trans e69_1) (Blk.at_ (BlkO.evo (by decide) hE b69_gf1).2 0 rfl))
    refine steps_cons (fun own a wx hf hsl hE => ?_) ?_
    · obtain ⟨(f_7 : a.eval (.tmp 7) = .slice Af1_0 f1.length cf1_0), -⟩ := hf
      exact sg_plain rfl rfl (or_len tu22 f_7 rfl)
    refine steps_cons (fun own a wx hf hsl hE => ?_) ?_
    · exact sg_plain rfl rfl (or_move rfl)
    exact steps_nil
  intro own71 a71 w71 hd71 hz71 hk71 hf71 hE71
  have e71_0 : a71.eval (.tmp 0) = .int .i64 x1 := (hk71 0 rfl).trans e69_0
  have e71_2 : a71.eval (.tmp 2) = .pointer (some ⟨gf2, 0, none⟩) := (hk71 2 rfl).trans e69_2
  obtain ⟨(f_7 : a71.eval (.tmp 7) = .slice Af1_0 f1.length cf1_0), (f_8 : a71.eval (.tmp 8) = .int .i64 (f1.length : Int)), (f_9 : a71.eval (.tmp 9) = .int .i64 0), -⟩ := hf71 [0, 1, 2] rfl
  have e71_7 := f_7
  have e71_8 := f_8
  have e71_9 := f_9
  have hX71 := Evo.step hX69 (fun _ => Nat.le_refl 0) hE71 rfl
  have b71_Af1_0 := RdO.evo rfl hE71 b69_Af1_0
  have b71_Af2_0 := RdO.evo rfl hE71 b69_Af2_0
  have b71_gf2 := BlkO.evo (by decide) hE71 b69_gf2
  refine fl_block (fun Q72 hn72 hx72 hp72 => ?_)
  refine fl_loop (body := (fun s => ring_Alike_1_b1 x1 f1 f2 s)) (z := r) (show loopO _ _ = _ from hs) (fun (x90 : Int) a wx => ∃ (ox : Own), a.defers = [] ∧ a.tmps.size = 26 ∧ a.eval (.tmp 0) = .int .i64 x1 ∧ a.eval (.tmp 2) = .pointer (some ⟨gf2, 0, none⟩) ∧ a.eval (.tmp 7) = .slice Af1_0 f1.length cf1_0 ∧ a.eval (.tmp 8) = .int .i64 (f1.length : Int) ∧ a.eval (.tmp 9) = .int .i64 x90 ∧ Evo [] (fun _ => 0) ox w wx ∧ BlkO ox 0 wx gf2 tf2 #[.slice Af2_0 f2.length cf2_0] ∧ RdO ox [0] wx R32 Af2_0 cf2_0 f2 ∧ RdO ox [0] wx R32 Af1_0 cf1_0 f1) ?_ ?_
  · exact ⟨own71, hd71, hz71, e71_0, e71_2, e71_7, e71_8, e71_9, hX71, b71_gf2, b71_Af2_0, b71_Af1_0⟩
  · rintro x90 zz108 a108 w108 ⟨own108, hd109, hz109, e109_0, e109_2, e109_7, e109_8, e109_9, hE109, b109_gf2, b109_Af2_0, b109_Af1_0⟩ hs Q108 hn108 hp108 hz108
    have hs : ring_Alike_1_b1 x1 f1 f2 x90 = some zz108 := hs
    refine rg_plain_seq (n := 26) (rs := []) (own0 := own108) (K := [])
        (bs := [0])
        (ds := [⟨[], [9, 8], [], Fct.val 10 (.bool (decide (x90 < (f1.length : Int))))⟩]) (by kernel_rfl) hz109 hd109 (fun _ h => nomatch h) ?_ ?_
    · refine steps_cons (fun own a wx hf hsl hE => ?_) ?_
      · obtain ⟨s_9, s_8, -⟩ := hsl
        exact sg_plain rfl rfl (or_lss (s_9.trans e109_9) (s_8.trans e109_8) rfl)
      exact steps_nil
    intro own110 a110 w110 hd110 hz110 hk110 hf110 hE110
    have e110_0 : a110.eval (.tmp 0) = .int .i64 x1 := (hk110 0 rfl).trans e109_0
    have e110_2 : a110.eval (.tmp 2) = .pointer (some ⟨gf2, 0, none⟩) := (hk110 2 rfl).trans e109_2
    have e110_7 : a110.eval (.tmp 7) = .slice Af1_0 f1.length cf1_0 := (hk110 7 rfl).trans e109_7
    have e110_8 : a110.eval (.tmp 8) = .int .i64 (f1.length : Int) := (hk110 8 rfl).trans e109_8
    have e110_9 : a110.eval (.tmp 9) = .int .i64 x90 := (hk110 9 rfl).trans e109_9
    obtain ⟨(f_10 : a110.eval (.tmp 10) = .bool (decide (x90 < (f1.length : Int)))), -⟩ := hf110 [0] rfl
    have e110_10 := f_10
    have hX110 := Evo.step hE109 (fun _ => Nat.le_refl 0) hE110 rfl
    have b110_gf2 := BlkO.evo (by decide) hE110 b109_gf2
    have b110_Af2_0 := RdO.evo rfl hE110 b109_Af2_0
    have b110_Af1_0 := RdO.evo rfl hE110 b109_Af1_0
    refine fl_seq (fun Q111 hn111 hp111 => ?_)
    refine fl_cond e110_10 hs (fun c112 hs => ?_) (fun c112 hs => ?_)
    · refine fl_skip ?_
      refine hn111 _ _ ?_
      refine fl_seq (fun Q113 hn113 hp113 => ?_)
      refine fl_block (fun Q114 hn114 hx114 hp114 => ?_)
      obtain ⟨x115, hx115, hs⟩ := obind hs
      refine rg_plain_seq (n := 26) (rs := []) (own0 := own110) (K := [117])
          (bs := [0, 0, 2, 0, 15, 31])
          (ds := [⟨[], [9], [], Fct.val 11 (.int .i64 x90)⟩,
          ⟨[], [7, 9], [], Fct.val 12 (.pointer (some ((adr Af1_0).add ((x90 : Int).toNat * R32.s))))⟩,
          ⟨[1], [], [], Fct.val 13 (.agg #[.int .i64 x115.1, .int .i64 x115.2])⟩,
          ⟨[], [], [], Fct.blk 117 6 (fun g => .pointer (some ⟨g, 0, none⟩)) 32 #[.int .i64 0, .int .i64 0]⟩,
          ⟨[0], [], [], Fct.val 5 (.int .i64 x90)⟩,
          ⟨[3, 2], [], [117], Fct.blk 118 6 (fun g => .pointer (some ⟨g, 0, none⟩)) 32 #[.int .i64 x115.1, .int .i64 x115.2]⟩]) (by kernel_rfl) hz110 hd110 (fun _ h => nomatch h) ?_ ?_
      · refine steps_cons (fun own a wx hf hsl hE => ?_) ?_
        · obtain ⟨s_9, -⟩ := hsl
          exact sg_plain rfl rfl (or_move (s_9.trans e110_9))
        refine steps_cons (fun own a wx hf hsl hE => ?_) ?_
        · obtain ⟨s_7, s_9, -⟩ := hsl
          exact sg_plain rfl rfl (or_index (R := R32) (l := f1) tl22 (s_7.trans e110_7) (s_9.trans e110_9) (RdO.some_ b110_Af1_0 hx115) hx115)
        refine steps_cons (fun own a wx hf hsl hE => ?_) ?_
        · obtain ⟨(f_12 : a.eval (.tmp 12) = .pointer (some ((adr Af1_0).add ((x90 : Int).toNat * R32.s)))), -⟩ := hf
          exact sg_plain rfl rfl (or_load (l := E32.f x115) ta32 f_12 (RdO.cells (F := E32) (RdO.evo rfl hE b110_Af1_0) hx115) rfl)
        refine steps_cons (fun own a wx hf hsl hE => ?_) ?_
        · exact sg_plain rfl rfl (or_new [] rfl rfl trivial (by kernel_rfl))
        refine steps_cons (fun own a wx hf hsl hE => ?_) ?_
        · obtain ⟨(f_11 : a.eval (.tmp 11) = .int .i64 x90), -⟩ := hf
          exact sg_plain rfl rfl (or_assign f_11)
        refine steps_cons (fun own a wx hf hsl hE => ?_) ?_
        · obtain ⟨⟨g116, (f_6 : a.eval (.tmp 6) = .pointer (some ⟨g116, 0, none⟩)), (b_g116 : BlkO own 117 wx g116 32 #[.int .i64 0, .int .i64 0])⟩, (f_13 : a.eval (.tmp 13) = .agg #[.int .i64 x115.1, .int .i64 x115.2]), -⟩ := hf
          exact sg_plain rfl rfl (or_store (l := #[.int .i64 x115.1, .int .i64 x115.2]) (lab := 117) (lab2 := 118) ts32 f_6 f_13 b_g116 (by simp) (by kernel_rfl) (mem_of rfl) (by decide) (by kernel_rfl) (fun own' a' w' ha hb => ⟨_, (ha 6).trans f_6, hb⟩))
        exact steps_nil
      intro own119 a119 w119 hd119 hz119 hk119 hf119 hE119
      have e119_0 : a119.eval (.tmp 0) = .int .i64 x1 := (hk119 0 rfl).trans e110_0
      have e119_2 : a119.eval (.tmp 2) = .pointer (some ⟨gf2, 0, none⟩) := (hk119 2 rfl).trans e110_2
      have e119_7 : a119.eval (.tmp 7) = .slice Af1_0 f1.length cf1_0 := (hk119 7 rfl).trans e110_7
      have e119_8 : a119.eval (.tmp 8) = .int .i64 (f1.length : Int) := (hk119 8 rfl).trans e110_8
      have e119_9 : a119.eval (.tmp 9) = .int .i64 x90 := (hk119 9 rfl).trans e110_9
      obtain ⟨⟨g116, (f_6 : a119.eval (.tmp 6) = .pointer (some ⟨g116, 0, none⟩)), (b_g116 : BlkO own119 118 w119 g116 32 #[.int .i64 x115.1, .int .i64 x115.2])⟩, (f_5 : a119.eval (.tmp 5) = .int .i64 x90), -⟩ := hf119 [5, 4] rfl
      have e119_6 := f_6
      have e119_5 := f_5
      have hX119 := Evo.step hX110 (fun _ => Nat.le_refl 0) hE119 rfl
      have b119_gf2 := BlkO.evo (by decide) hE119 b110_gf2
      have b119_Af2_0 := RdO.evo rfl hE119 b110_Af2_0
      have b119_Af1_0 := RdO.evo rfl hE119 b110_Af1_0
      have b119_g116 := b_g116
      obtain ⟨x120, hx120, hs⟩ := obind hs
      obtain ⟨x121, hx121, hs⟩ := obind hs
      refine rg_draw_seq g_mixed (n := 26) (rs := []) (own0 := own119) (K := [])
          (bs := [0, 0, 0, 0, 12, 0, 32, 124, 254, 510, 1023])
          (ds := [⟨[], [6], [], Fct.val 14 (.agg #[.int .i64 x115.1, .int .i64 x115.2])⟩,
          ⟨[], [2], [], Fct.val 15 (.slice Af2_0 f2.length cf2_0)⟩,
          ⟨[], [0], [], Fct.val 16 (.int .i64 x1)⟩,
          ⟨[], [5], [], Fct.val 17 (.int .i64 x90)⟩,
          ⟨[2, 3], [], [], Fct.val 18 (.int .i64 (ad x1 x90))⟩,
          ⟨[], [2], [], Fct.val 19 (.slice Af2_0 f2.length cf2_0)⟩,
          ⟨[5], [], [], Fct.val 20 (.int .i64 (f2.length : Int))⟩,
          ⟨[4, 6], [], [], Fct.val 21 (.int .i64 x120)⟩,
          ⟨[1, 7], [], [], Fct.val 22 (.pointer (some ((adr Af2_0).add ((x120 : Int).toNat * R32.s))))⟩,
          ⟨[8], [], [], Fct.val 23 (.agg #[.int .i64 x121.1, .int .i64 x121.2])⟩,
          ⟨[0, 9], [], [], Fct.val 24 (.bool (!decide (x115 = x121)))⟩]) (by kernel_rfl) hz119 hd119 (fun _ h => nomatch h) ?_ ?_
      · refine steps_cons (fun own a wx hf hsl hE => ?_) ?_
        · obtain ⟨s_6, -⟩ := hsl
          exact sg_plain rfl rfl (or_load (l := [.int .i64 x115.1, .int .i64 x115.2]) ta32 (s_6.trans e119_6) (Blk.cellsFrom (BlkO.evo (by decide) hE b119_g116).2 0 rfl) rfl)
        refine steps_cons (fun own a wx hf hsl hE => ?_) ?_
        · obtain ⟨s_2, -⟩ := hsl
          exact sg_plain rfl rfl (or_load1 to22 (s_2.trans e119_2) (Blk.at_ (BlkO.evo (by decide) hE b119_gf2).2 0 rfl))
        refine steps_cons (fun own a wx hf hsl hE => ?_) ?_
        · obtain ⟨s_0, -⟩ := hsl
          exact sg_plain rfl rfl (or_move (s_0.trans e119_0))
        refine steps_cons (fun own a wx hf hsl hE => ?_) ?_
        · obtain ⟨s_5, -⟩ := hsl
          exact sg_plain rfl rfl (or_move (s_5.trans e119_5))
        refine steps_cons (fun own a wx hf hsl hE => ?_) ?_
        · obtain ⟨(f_16 : a.eval (.tmp 16) = .int .i64 x1), (f_17 : a.eval (.tmp 17) = .int .i64 x90), -⟩ := hf
          exact sg_plain rfl rfl (or_add f_16 f_17 rfl)
        refine steps_cons (fun own a wx hf hsl hE => ?_) ?_
        · obtain ⟨s_2, -⟩ := hsl
          exact sg_plain rfl rfl (or_load1 to22 (s_2.trans e119_2) (Blk.at_ (BlkO.evo (by decide) hE b119_gf2).2 0 rfl))
        refine steps_cons (fun own a wx hf hsl hE => ?_) ?_
        · obtain ⟨(f_19 : a.eval (.tmp 19) = .slice Af2_0 f2.length cf2_0), -⟩ := hf
          exact sg_plain rfl rfl (or_len tu22 f_19 rfl)
        refine steps_cons (fun own a wx hf hsl hE => ?_) ?_
        · obtain ⟨(f_18 : a.eval (.tmp 18) = .int .i64 (ad x1 x90)), (f_20 : a.eval (.tmp 20) = .int .i64 (f2.length : Int)), -⟩ := hf
          exact sg_plain rfl rfl (or_rem f_18 f_20 hx120)
        refine steps_cons (fun own a wx hf hsl hE => ?_) ?_
        · obtain ⟨(f_15 : a.eval (.tmp 15) = .slice Af2_0 f2.length cf2_0), (f_21 : a.eval (.tmp 21) = .int .i64 x120), -⟩ := hf
          exact sg_plain rfl rfl (or_index (R := R32) (l := f2) tl22 f_15 f_21 (RdO.some_ b119_Af2_0 hx121) hx121)
        refine steps_cons (fun own a wx hf hsl hE => ?_) ?_
        · obtain ⟨(f_22 : a.eval (.tmp 22) = .pointer (some ((adr Af2_0).add ((x120 : Int).toNat * R32.s)))), -⟩ := hf
          exact sg_plain rfl rfl (or_load (l := E32.f x121) ta32 f_22 (RdO.cells (F := E32) (RdO.evo rfl hE b119_Af2_0) hx121) rfl)
        refine steps_cons (fun own a wx hf hsl hE => ?_) ?_
        · obtain ⟨(f_14 : a.eval (.tmp 14) = .agg #[.int .i64 x115.1, .int .i64 x115.2]), (f_23 : a.eval (.tmp 23) = .agg #[.int .i64 x121.1, .int .i64 x121.2]), -⟩ := hf
          exact sg_plain rfl rfl (or_neqA sg32 f_14 f_23 (sn32 x115.1 x115.2 x121.1 x121.2 _) rfl)
        exact steps_nil
      intro own122 a122 w122 hd122 hz122 hk122 hf122 hE122
      have e122_0 : a122.eval (.tmp 0) = .int .i64 x1 := (hk122 0 rfl).trans e119_0
      have e122_2 : a122.eval (.tmp 2) = .pointer (some ⟨gf2, 0, none⟩) := (hk122 2 rfl).trans e119_2
      have e122_7 : a122.eval (.tmp 7) = .slice Af1_0 f1.length cf1_0 := (hk122 7 rfl).trans e119_7
      have e122_8 : a122.eval (.tmp 8) = .int .i64 (f1.length : Int) := (hk122 8 rfl).trans e119_8
      have e122_9 : a122.eval (.tmp 9) = .int .i64 x90 := (hk122 9 rfl).trans e119_9
      obtain ⟨(f_24 : a122.eval (.tmp 24) = .bool (!decide (x115 = x121))), -⟩ := hf122 [10] rfl
      have e122_24 := f_24
      have hX122 := Evo.step hX119 (fun _ => Nat.le_refl 0) hE122 rfl
      have b122_gf2 := BlkO.evo (by decide) hE122 b119_gf2
      have b122_Af2_0 := RdO.evo rfl hE122 b119_Af2_0
      have b122_Af1_0 := RdO.evo rfl hE122 b119_Af1_0
      refine fl_cond e122_24 hs (fun c123 hs => ?_) (fun c123 hs => ?_)
      · refine rg_plain_seq (n := 26) (rs := []) (own0 := own122) (K := [])
            (bs := [0])
            (ds := [⟨[], [], [], Fct.val 4 (.bool false)⟩]) (by kernel_rfl) hz122 hd122 (fun _ h => nomatch h) ?_ ?_
        · refine steps_cons (fun own a wx hf hsl hE => ?_) ?_
          · exact sg_plain rfl rfl (or_assign rfl)
          exact steps_nil
        intro own124 a124 w124 hd124 hz124 hk124 hf124 hE124
        obtain ⟨(f_4 : a124.eval (.tmp 4) = .bool false), -⟩ := hf124 [0] rfl
        have e124_4 := f_4
        have hX124 := Evo.step hX122 (fun _ => Nat.le_refl 0) hE124 rfl
        refine fl_ret ?_
        refine hp114 _ _ _ rfl ?_
        refine hp113 _ _ _ rfl ?_
        replace hs := hz108 _ hs
        refine hp108 _ _ _ rfl ?_
        refine hp72 _ _ _ rfl ?_
        refine hp70 _ _ _ rfl ?_
        obtain rfl := osome hs
        exact hret _ _ _ _ (.inl rfl) hd124 (results1_ rfl (RVal.tmp_ e124_4)) ⟨own124, rfl, hX124⟩
      refine fl_skip ?_
      refine hn114 _ _ ?_
      refine hn113 _ _ ?_
      refine rg_plain (n := 26) (rs := []) (own0 := own122) (K := [])
          (bs := [0, 1])
          (ds := [⟨[], [9], [], Fct.val 25 (.int .i64 (ad x90 1))⟩,
          ⟨[0], [], [], Fct.val 9 (.int .i64 (ad x90 1))⟩]) (by kernel_rfl) hz122 hd122 (fun _ h => nomatch h) ?_ ?_
      · refine steps_cons (fun own a wx hf hsl hE => ?_) ?_
        · obtain ⟨s_9, -⟩ := hsl
          exact sg_plain rfl rfl (or_add (s_9.trans e122_9) rfl rfl)
        refine steps_cons (fun own a wx hf hsl hE => ?_) ?_
        · obtain ⟨(f_25 : a.eval (.tmp 25) = .int .i64 (ad x90 1)), -⟩ := hf
          exact sg_plain rfl rfl (or_move f_25)
        exact steps_nil
      intro own125 a125 w125 hd125 hz125 hk125 hf125 hE125
      have e125_0 : a125.eval (.tmp 0) = .int .i64 x1 := (hk125 0 rfl).trans e122_0
      have e125_2 : a125.eval (.tmp 2) = .pointer (some ⟨gf2, 0, none⟩) := (hk125 2 rfl).trans e122_2
      have e125_7 : a125.eval (.tmp 7) = .slice Af1_0 f1.length cf1_0 := (hk125 7 rfl).trans e122_7
      have e125_8 : a125.eval (.tmp 8) = .int .i64 (f1.length : Int) := (hk125 8 rfl).trans e122_8
      obtain ⟨(f_9 : a125.eval (.tmp 9) = .int .i64 (ad x90 1)), -⟩ := hf125 [1] rfl
      have e125_9 := f_9
      have hX125 := Evo.step hX122 (fun _ => Nat.le_refl 0) hE125 rfl
      have b125_gf2 := BlkO.evo (by decide) hE125 b122_gf2
      have b125_Af2_0 := RdO.evo rfl hE125 b122_Af2_0
      have b125_Af1_0 := RdO.evo rfl hE125 b122_Af1_0
      exact hn108 _ _ _ hs ⟨own125, hd125, hz125, e125_0, e125_2, e125_7, e125_8, e125_9, hX125, b125_gf2, b125_Af2_0, b125_Af1_0⟩
    refine fl_exit ?_
    refine hp111 _ _ _ rfl ?_
    replace hs := hz108 _ hs
    refine hp108 _ _ _ rfl ?_
    refine hx72 _ _ ?_
    refine hn70 _ _ ?_
    refine rg_plain_seq (n := 26) (rs := []) (own0 := own110) (K := [])
        (bs := [0])
        (ds := [⟨[], [], [], Fct.val 4 (.bool true)⟩]) (by kernel_rfl) hz110 hd110 (fun _ h => nomatch h) ?_ ?_
    · refine steps_cons (fun own a wx hf hsl hE => ?_) ?_
      · exact sg_plain rfl rfl (or_assign rfl)
      exact steps_nil
    intro own126 a126 w126 hd126 hz126 hk126 hf126 hE126
    obtain ⟨(f_4 : a126.eval (.tmp 4) = .bool true), -⟩ := hf126 [0] rfl
    have e126_4 := f_4
    have hX126 := Evo.step hX110 (fun _ => Nat.le_refl 0) hE126 rfl
    refine fl_ret ?_
    obtain rfl := osome hs
    exact hret _ _ _ _ (.inl rfl) hd126 (results1_ rfl (RVal.tmp_ e126_4)) ⟨own126, rfl, hX126⟩

theorem ring_Alike_w (w : World) (x1 : List (Int × Int)) (Ax1 : Option Addr) (cx1 : Nat) (b2 : List (Int × Int)) (Ab2 : Option Addr) (cb2 : Nat) (hx1 : RdO (fun _ => 0) [0] w R32 Ax1 cx1 x1) (hb2 : RdO (fun _ => 0) [0] w R32 Ab2 cb2 b2) (r : Bool) (hs : ring_Alike x1 b2 = some r) :
    Calls Try.prog 29 #[.slice Ax1 x1.length cx1, .slice Ab2 b2.length cb2] w fun e w' => ∃ own' : Own, e = .returned (.bool r) ∧ Evo [] (fun _ => 0) own' w w' := by
  refine fl_enter (n := 25) rfl rfl rfl (Nat.le_of_ble_eq_true rfl) ?_
  intro a0 Q hd0 hz0 harg hret
  have ha0 := harg 0 _ rfl
  have ha1 := harg 1 _ rfl
  clear harg
  have hE0 : Evo [] (fun _ => 0) (fun _ => 0) w w := Evo.refl _ _ _
  refine rg_plain_seq (n := 25) (rs := []) (own0 := (fun _ => 0)) (K := [])
      (bs := [0, 0, 0])
      (ds := [⟨[], [0], [], Fct.blk 64 2 (fun g => .pointer (some ⟨g, 0, none⟩)) 22 #[.slice Ax1 x1.length cx1]⟩,
      ⟨[], [1], [], Fct.blk 66 3 (fun g => .pointer (some ⟨g, 0, none⟩)) 22 #[.slice Ab2 b2.length cb2]⟩,
      ⟨[], [], [], Fct.val 4 (.bool false)⟩]) (by kernel_rfl) hz0 hd0 (fun _ h => nomatch h) ?_ ?_
  · refine steps_cons (fun own a wx hf hsl hE => ?_) ?_
    · obtain ⟨s_0, -⟩ := hsl
      exact sg_plain rfl rfl (or_new [(0, .slice Ax1 x1.length cx1)] rfl rfl ⟨(s_0.trans ha0), trivial⟩ (by kernel_rfl))
    refine steps_cons (fun own a wx hf hsl hE => ?_) ?_
    · obtain ⟨s_1, -⟩ := hsl
      exact sg_plain rfl rfl (or_new [(1, .slice Ab2 b2.length cb2)] rfl rfl ⟨(s_1.trans ha1), trivial⟩ (by kernel_rfl))
    refine steps_cons (fun own a wx hf hsl hE => ?_) ?_
    · exact sg_plain rfl rfl (or_assign rfl)
    exact steps_nil
  intro own67 a67 w67 hd67 hz67 hk67 hf67 hE67
  obtain ⟨⟨g63, (f_2 : a67.eval (.tmp 2) = .pointer (some ⟨g63, 0, none⟩)), (b_g63 : BlkO own67 64 w67 g63 22 #[.slice Ax1 x1.length cx1])⟩, ⟨g65, (f_3 : a67.eval (.tmp 3) = .pointer (some ⟨g65, 0, none⟩)), (b_g65 : BlkO own67 66 w67 g65 22 #[.slice Ab2 b2.length cb2])⟩, -⟩ := hf67 [0, 1] rfl
  have e67_2 := f_2
  have e67_3 := f_3
  have hX67 := Evo.step hE0 (fun _ => Nat.le_refl 0) hE67 rfl
  have b67_Ax1 := RdO.evo rfl hE67 hx1
  have b67_Ab2 := RdO.evo rfl hE67 hb2
  have b67_g63 := b_g63
  have b67_g65 := b_g65
  refine rg_plain_seq (n := 25) (rs := []) (own0 := own67) (K := [])
      (bs := [0, 1])
      (ds := [⟨[], [2, 3], [], Fct.val 7 (.func (.func 53) #[] #[.pointer (some ⟨g63, 0, none⟩), .pointer (some ⟨g65, 0, none⟩)])⟩,
      ⟨[0], [], [], Fct.val 5 (.func (.func 53) #[] #[.pointer (some ⟨g63, 0, none⟩), .pointer (some ⟨g65, 0, none⟩)])⟩]) (by kernel_rfl) hz67 hd67 (fun _ h => nomatch h) ?_ ?_
  · refine steps_cons (fun own a wx hf hsl hE => ?_) ?_
    · obtain ⟨s_2, s_3, -⟩ := hsl
      exact sg_plain rfl rfl (or_k [(2, .pointer (some ⟨g63, 0, none⟩)), (3, .pointer (some ⟨g65, 0, none⟩))] rfl rfl ⟨(s_2.trans e67_2), (s_3.trans e67_3), trivial⟩ (by kernel_rfl))
    refine steps_cons (fun own a wx hf hsl hE => ?_) ?_
    · obtain ⟨(f_7 : a.eval (.tmp 7) = .func (.func 53) #[] #[.pointer (some ⟨g63, 0, none⟩), .pointer (some ⟨g65, 0, none⟩)]), -⟩ := hf
      exact sg_plain rfl rfl (or_assign f_7)
    exact steps_nil
  intro own68 a68 w68 hd68 hz68 hk68 hf68 hE68
  have e68_2 : a68.eval (.tmp 2) = .pointer (some ⟨g63, 0, none⟩) := (hk68 2 rfl).trans e67_2
  have e68_3 : a68.eval (.tmp 3) = .pointer (some ⟨g65, 0, none⟩) := (hk68 3 rfl).trans e67_3
  obtain ⟨(f_5 : a68.eval (.tmp 5) = .func (.func 53) #[] #[.pointer (some ⟨g63, 0, none⟩), .pointer (some ⟨g65, 0, none⟩)]), -⟩ := hf68 [1] rfl
  have e68_5 := f_5
  have hX68 := Evo.step hX67 (fun _ => Nat.le_refl 0) hE68 rfl
  have b68_Ax1 := RdO.evo rfl hE68 b67_Ax1
  have b68_Ab2 := RdO.evo rfl hE68 b67_Ab2
  have b68_g63 := BlkO.evo (by decide) hE68 b67_g63
  have b68_g65 := BlkO.evo (by decide) hE68 b67_g65
  refine fl_seq (fun Q69 hn69 hp69 => ?_)
  refine rg_plain_seq (n := 25) (rs := []) (own0 := own68) (K := [])
      (bs := [0, 1, 0, 4, 15])
      (ds := [⟨[], [2], [], Fct.val 8 (.slice Ax1 x1.length cx1)⟩,
      ⟨[0], [], [], Fct.val 9 (.int .i64 (x1.length : Int))⟩,
      ⟨[], [3], [], Fct.val 10 (.slice Ab2 b2.length cb2)⟩,
      ⟨[2], [], [], Fct.val 11 (.int .i64 (b2.length : Int))⟩,
      ⟨[1, 3], [], [], Fct.val 12 (.bool (!decide ((x1.length : Int) = (b2.length : Int))))⟩]) (by kernel_rfl) hz68 hd68 (fun _ h => nomatch h) ?_ ?_
  · refine steps_cons (fun own a wx hf hsl hE => ?_) ?_
    · obtain ⟨s_2, -⟩ := hsl
      exact sg_plain rfl rfl (or_load1 to22 (s_2.trans e68_2) (Blk.at_ (BlkO.evo (by decide) hE b68_g63).2 0 rfl))
    refine steps_cons (fun own a wx hf hsl hE => ?_) ?_
    · obtain ⟨(f_8 : a.eval (.tmp 8) = .slice Ax1 x1.length cx1), -⟩ := hf
      exact sg_plain rfl rfl (or_len tu22 f_8 rfl)
    refine steps_cons (fun own a wx hf hsl hE => ?_) ?_
    · obtain ⟨s_3, -⟩ := hsl
      exact sg_plain rfl rfl (or_load1 to22 (s_3.trans e68_3) (Blk.at_ (BlkO.evo (by decide) hE b68_g65).2 0 rfl))
    refine steps_cons (fun own a wx hf hsl hE => ?_) ?_
    · obtain ⟨(f_10 : a.eval (.tmp 10) = .slice Ab2 b2.length cb2), -⟩ := hf
      exact sg_plain rfl rfl (or_len tu22 f_10 rfl)
    refine steps_cons (fun own a wx hf hsl hE => ?_) ?_
    · obtain ⟨(f_9 : a.eval (.tmp 9) = .int .i64 (x1.length : Int)), (f_11 : a.eval (.tmp 11) = .int .i64 (b2.length : Int)), -⟩ := hf
      exact sg_plain rfl rfl (or_neq f_9 f_11 rfl)
    exact steps_nil
  intro own70 a70 w70 hd70 hz70 hk70 hf70 hE70
  have e70_2 : a70.eval (.tmp 2) = .pointer (some ⟨g63, 0, none⟩) := (hk70 2 rfl).trans e68_2
  have e70_3 : a70.eval (.tmp 3) = .pointer (some ⟨g65, 0, none⟩) := (hk70 3 rfl).trans e68_3
  have e70_5 : a70.eval (.tmp 5) = .func (.func 53) #[] #[.pointer (some ⟨g63, 0, none⟩), .pointer (some ⟨g65, 0, none⟩)] := (hk70 5 rfl).trans e68_5
  obtain ⟨(f_12 : a70.eval (.tmp 12) = .bool (!decide ((x1.length : Int) = (b2.length : Int)))), -⟩ := hf70 [4] rfl
  have e70_12 := f_12
  have hX70 := Evo.step hX68 (fun _ => Nat.le_refl 0) hE70 rfl
  have b70_Ax1 := RdO.evo rfl hE70 b68_Ax1
  have b70_Ab2 := RdO.evo rfl hE70 b68_Ab2
  have b70_g63 := BlkO.evo (by decide) hE70 b68_g63
  have b70_g65 := BlkO.evo (by decide) hE70 b68_g65
  refine fl_cond e70_12 hs (fun c71 hs => ?_) (fun c71 hs => ?_)
  · refine rg_plain_seq (n := 25) (rs := []) (own0 := own70) (K := [])
        (bs := [0])
        (ds := [⟨[], [], [], Fct.val 4 (.bool false)⟩]) (by kernel_rfl) hz70 hd70 (fun _ h => nomatch h) ?_ ?_
    · refine steps_cons (fun own a wx hf hsl hE => ?_) ?_
      · exact sg_plain rfl rfl (or_assign rfl)
      exact steps_nil
    intro own72 a72 w72 hd72 hz72 hk72 hf72 hE72
    obtain ⟨(f_4 : a72.eval (.tmp 4) = .bool false), -⟩ := hf72 [0] rfl
    have e72_4 := f_4
    have hX72 := Evo.step hX70 (fun _ => Nat.le_refl 0) hE72 rfl
    refine fl_ret ?_
    refine hp69 _ _ _ rfl ?_
    obtain rfl := osome hs
    exact hret _ _ _ _ (.inl rfl) hd72 (results1_ rfl (RVal.tmp_ e72_4)) ⟨own72, rfl, hX72⟩
  refine fl_skip ?_
  refine hn69 _ _ ?_
  refine fl_seq (fun Q73 hn73 hp73 => ?_)
  refine rg_plain_seq (n := 25) (rs := []) (own0 := own70) (K := [])
      (bs := [0, 1, 0])
      (ds := [⟨[], [3], [], Fct.val 13 (.slice Ab2 b2.length cb2)⟩,
      ⟨[0], [], [], Fct.val 14 (.int .i64 (b2.length : Int))⟩,
      ⟨[], [], [], Fct.val 15 (.int .i64 0)⟩]) (by kernel_rfl) hz70 hd70 (fun _ h => nomatch h) ?_ ?_
  · refine steps_cons (fun own a wx hf hsl hE => ?_) ?_
    · obtain ⟨s_3, -⟩ := hsl
      exact sg_plain rfl rfl (or_load1 to22 (s_3.trans e70_3) (Blk.at_ (BlkO.evo (by decide) hE b70_g65).2 0 rfl))
    refine steps_cons (fun own a wx hf hsl hE => ?_) ?_
    · obtain ⟨(f_13 : a.eval (.tmp 13) = .slice Ab2 b2.length cb2), -⟩ := hf
      exact sg_plain rfl rfl (or_len tu22 f_13 rfl)
    refine steps_cons (fun own a wx hf hsl hE => ?_) ?_
    · exact sg_plain rfl rfl (or_move rfl)
    exact steps_nil
  intro own74 a74 w74 hd74 hz74 hk74 hf74 hE74
  have e74_2 : a74.eval (.tmp 2) = .pointer (some ⟨g63, 0, none⟩) := (hk74 2 rfl).trans e70_2
  have e74_5 : a74.eval (.tmp 5) = .func (.func 53) #[] #[.pointer (some ⟨g63, 0, none⟩), .pointer (some ⟨g65, 0, none⟩)] := (hk74 5 rfl).trans e70_5
  obtain ⟨(f_14 : a74.eval (.tmp 14) = .int .i64 (b2.length : Int)), (f_15 : a74.eval (.tmp 15) = .int .i64 0), -⟩ := hf74 [1, 2] rfl
  have e74_14 := f_14
  have e74_15 := f_15
  have hX74 := Evo.step hX70 (fun _ => Nat.le_refl 0) hE74 rfl
  have b74_Ax1 := RdO.evo rfl hE74 b70_Ax1
  have b74_Ab2 := RdO.evo rfl hE74 b70_Ab2
  have b74_g63 := BlkO.evo (by decide) hE74 b70_g63
  have b74_g65 := BlkO.evo (by decide) hE74 b70_g65
  refine fl_block (fun Q75 hn75 hx75 hp75 => ?_)
  refine fl_loop (body := (fun s => ring_Alike_b1 x1 b2 s)) (z := r) (show loopO _ _ = _ from hs) (fun (x88 : Int) a wx => ∃ (ox : Own), a.defers = [] ∧ a.tmps.size = 25 ∧ a.eval (.tmp 2) = .pointer (some ⟨g63, 0, none⟩) ∧ a.eval (.tmp 5) = .func (.func 53) #[] #[.pointer (some ⟨g63, 0, none⟩), .pointer (some ⟨g65, 0, none⟩)] ∧ a.eval (.tmp 14) = .int .i64 (b2.length : Int) ∧ a.eval (.tmp 15) = .int .i64 x88 ∧ Evo [] (fun _ => 0) ox w wx ∧ BlkO ox 64 wx g63 22 #[.slice Ax1 x1.length cx1] ∧ RdO ox [0] wx R32 Ax1 cx1 x1 ∧ BlkO ox 66 wx g65 22 #[.slice Ab2 b2.length cb2] ∧ RdO ox [0] wx R32 Ab2 cb2 b2) ?_ ?_
  · exact ⟨own74, hd74, hz74, e74_2, e74_5, e74_14, e74_15, hX74, b74_g63, b74_Ax1, b74_g65, b74_Ab2⟩
  · rintro x88 zz101 a101 w101 ⟨own101, hd102, hz102, e102_2, e102_5, e102_14, e102_15, hE102, b102_g63, b102_Ax1, b102_g65, b102_Ab2⟩ hs Q101 hn101 hp101 hz101
    have hs : ring_Alike_b1 x1 b2 x88 = some zz101 := hs
    refine rg_plain_seq (n := 25) (rs := []) (own0 := own101) (K := [])
        (bs := [0])
        (ds := [⟨[], [15, 14], [], Fct.val 16 (.bool (decide (x88 < (b2.length : Int))))⟩]) (by kernel_rfl) hz102 hd102 (fun _ h => nomatch h) ?_ ?_
    · refine steps_cons (fun own a wx hf hsl hE => ?_) ?_
      · obtain ⟨s_15, s_14, -⟩ := hsl
        exact sg_plain rfl rfl (or_lss (s_15.trans e102_15) (s_14.trans e102_14) rfl)
      exact steps_nil
    intro own103 a103 w103 hd103 hz103 hk103 hf103 hE103
    have e103_2 : a103.eval (.tmp 2) = .pointer (some ⟨g63, 0, none⟩) := (hk103 2 rfl).trans e102_2
    have e103_5 : a103.eval (.tmp 5) = .func (.func 53) #[] #[.pointer (some ⟨g63, 0, none⟩), .pointer (some ⟨g65, 0, none⟩)] := (hk103 5 rfl).trans e102_5
    have e103_14 : a103.eval (.tmp 14) = .int .i64 (b2.length : Int) := (hk103 14 rfl).trans e102_14
    have e103_15 : a103.eval (.tmp 15) = .int .i64 x88 := (hk103 15 rfl).trans e102_15
    obtain ⟨(f_16 : a103.eval (.tmp 16) = .bool (decide (x88 < (b2.length : Int)))), -⟩ := hf103 [0] rfl
    have e103_16 := f_16
    have hX103 := Evo.step hE102 (fun _ => Nat.le_refl 0) hE103 rfl
    have b103_g63 := BlkO.evo (by decide) hE103 b102_g63
    have b103_Ax1 := RdO.evo rfl hE103 b102_Ax1
    have b103_g65 := BlkO.evo (by decide) hE103 b102_g65
    have b103_Ab2 := RdO.evo rfl hE103 b102_Ab2
    refine fl_seq (fun Q104 hn104 hp104 => ?_)
    refine fl_cond e103_16 hs (fun c105 hs => ?_) (fun c105 hs => ?_)
    · refine fl_skip ?_
      refine hn104 _ _ ?_
      refine fl_seq (fun Q106 hn106 hp106 => ?_)
      refine fl_block (fun Q107 hn107 hx107 hp107 => ?_)
      refine rg_plain_seq (n := 25) (rs := []) (own0 := own103) (K := [])
          (bs := [0, 1])
          (ds := [⟨[], [15], [], Fct.val 17 (.int .i64 x88)⟩,
          ⟨[0], [], [], Fct.val 6 (.int .i64 x88)⟩]) (by kernel_rfl) hz103 hd103 (fun _ h => nomatch h) ?_ ?_
      · refine steps_cons (fun own a wx hf hsl hE => ?_) ?_
        · obtain ⟨s_15, -⟩ := hsl
          exact sg_plain rfl rfl (or_move (s_15.trans e103_15))
        refine steps_cons (fun own a wx hf hsl hE => ?_) ?_
        · obtain ⟨(f_17 : a.eval (.tmp 17) = .int .i64 x88), -⟩ := hf
          exact sg_plain rfl rfl (or_assign f_17)
        exact steps_nil
      intro own108 a108 w108 hd108 hz108 hk108 hf108 hE108
      have e108_2 : a108.eval (.tmp 2) = .pointer (some ⟨g63, 0, none⟩) := (hk108 2 rfl).trans e103_2
      have e108_5 : a108.eval (.tmp 5) = .func (.func 53) #[] #[.pointer (some ⟨g63, 0, none⟩), .pointer (some ⟨g65, 0, none⟩)] := (hk108 5 rfl).trans e103_5
      have e108_14 : a108.eval (.tmp 14) = .int .i64 (b2.length : Int) := (hk108 14 rfl).trans e103_14
      have e108_15 : a108.eval (.tmp 15) = .int .i64 x88 := (hk108 15 rfl).trans e103_15
      obtain ⟨(f_6 : a108.eval (.tmp 6) = .int .i64 x88), -⟩ := hf108 [1] rfl
      have e108_6 := f_6
      have hX108 := Evo.step hX103 (fun _ => Nat.le_refl 0) hE108 rfl
      have b108_g63 := BlkO.evo (by decide) hE108 b103_g63
      have b108_Ax1 := RdO.evo rfl hE108 b103_Ax1
      have b108_g65 := BlkO.evo (by decide) hE108 b103_g65
      have b108_Ab2 := RdO.evo rfl hE108 b103_Ab2
      obtain ⟨r109, hr109, hs⟩ := obind hs
      refine rg_plain_seq (n := 25) (rs := []) (own0 := own108) (K := [])
          (bs := [0, 0, 3])
          (ds := [⟨[], [5], [], Fct.val 18 (.func (.func 53) #[] #[.pointer (some ⟨g63, 0, none⟩), .pointer (some ⟨g65, 0, none⟩)])⟩,
          ⟨[], [6], [], Fct.val 19 (.int .i64 x88)⟩,
          ⟨[0, 1], [], [], Fct.val 20 (.bool r109)⟩]) (by kernel_rfl) hz108 hd108 (fun _ h => nomatch h) ?_ ?_
      · refine steps_cons (fun own a wx hf hsl hE => ?_) ?_
        · obtain ⟨s_5, -⟩ := hsl
          exact sg_plain rfl rfl (or_move (s_5.trans e108_5))
        refine steps_cons (fun own a wx hf hsl hE => ?_) ?_
        · obtain ⟨s_6, -⟩ := hsl
          exact sg_plain rfl rfl (or_move (s_6.trans e108_6))
        refine steps_cons (fun own a wx hf hsl hE => ?_) ?_
        · obtain ⟨(f_18 : a.eval (.tmp 18) = .func (.func 53) #[] #[.pointer (some ⟨g63, 0, none⟩), .pointer (some ⟨g65, 0, none⟩)]), (f_19 : a.eval (.tmp 19) = .int .i64 x88), -⟩ := hf
          exact sg_plain rfl rfl (or_callf cf53 f_18 (args1 f_19) rfl (ring_Alike_1_w _ x88 x1 g63 22 Ax1 cx1 b2 g65 22 Ab2 cb2 (BlkO.zero_ (BlkO.evo (by decide) hE b108_g63)) (RdO.zero (RdO.evo rfl hE b108_Ax1)) (BlkO.zero_ (BlkO.evo (by decide) hE b108_g65)) (RdO.zero (RdO.evo rfl hE b108_Ab2)) r109 hr109) post_val)
        exact steps_nil
      intro own110 a110 w110 hd110 hz110 hk110 hf110 hE110
      have e110_2 : a110.eval (.tmp 2) = .pointer (some ⟨g63, 0, none⟩) := (hk110 2 rfl).trans e108_2
      have e110_5 : a110.eval (.tmp 5) = .func (.func 53) #[] #[.pointer (some ⟨g63, 0, none⟩), .pointer (some ⟨g65, 0, none⟩)] := (hk110 5 rfl).trans e108_5
      have e110_14 : a110.eval (.tmp 14) = .int .i64 (b2.length : Int) := (hk110 14 rfl).trans e108_14
      have e110_15 : a110.eval (.tmp 15) = .int .i64 x88 := (hk110 15 rfl).trans e108_15
      obtain ⟨(f_20 : a110.eval (.tmp 20) = .bool r109), -⟩ := hf110 [2] rfl
      have e110_20 := f_20
      have hX110 := Evo.step hX108 (fun _ => Nat.le_refl 0) hE110 rfl
      have b110_g63 := BlkO.evo (by decide) hE110 b108_g63
      have b110_Ax1 := RdO.evo rfl hE110 b108_Ax1
      have b110_g65 := BlkO.evo (by decide) hE110 b108_g65
      have b110_Ab2 := RdO.evo rfl hE110 b108_Ab2
      refine fl_cond e110_20 hs (fun c111 hs => ?_) (fun c111 hs => ?_)
      · refine rg_plain_seq (n := 25) (rs := []) (own0 := own110) (K := [])
            (bs := [0])
            (ds := [⟨[], [], [], Fct.val 4 (.bool true)⟩]) (by kernel_rfl) hz110 hd110 (fun _ h => nomatch h) ?_ ?_
        · refine steps_cons (fun own a wx hf hsl hE => ?_) ?_
          · exact sg_plain rfl rfl (or_assign rfl)
          exact steps_nil
        intro own112 a112 w112 hd112 hz112 hk112 hf112 hE112
        obtain ⟨(f_4 : a112.eval (.tmp 4) = .bool true), -⟩ := hf112 [0] rfl
        have e112_4 := f_4
        have hX112 := Evo.step hX110 (fun _ => Nat.le_refl 0) hE112 rfl
        refine fl_ret ?_
        refine hp107 _ _ _ rfl ?_
        refine hp106 _ _ _ rfl ?_
        replace hs := hz101 _ hs
        refine hp101 _ _ _ rfl ?_
        refine hp75 _ _ _ rfl ?_
        refine hp73 _ _ _ rfl ?_
        obtain rfl := osome hs
        exact hret _ _ _ _ (.inl rfl) hd112 (results1_ rfl (RVal.tmp_ e112_4)) ⟨own112, rfl, hX112⟩
      refine fl_skip ?_
      refine hn107 _ _ ?_
      refine hn106 _ _ ?_
      refine rg_plain (n := 25) (rs := []) (own0 := own110) (K := [])
          (bs := [0, 1])
          (ds := [⟨[], [15], [], Fct.val 21 (.int .i64 (ad x88 1))⟩,
          ⟨[0], [], [], Fct.val 15 (.int .i64 (ad x88 1))⟩]) (by kernel_rfl) hz110 hd110 (fun _ h => nomatch h) ?_ ?_
      · refine steps_cons (fun own a wx hf hsl hE => ?_) ?_
        · obtain ⟨s_15, -⟩ := hsl
          exact sg_plain rfl rfl (or_add (s_15.trans e110_15) rfl rfl)
        refine steps_cons (fun own a wx hf hsl hE => ?_) ?_
        · obtain ⟨(f_21 : a.eval (.tmp 21) = .int .i64 (ad x88 1)), -⟩ := hf
          exact sg_plain rfl rfl (or_move f_21)
        exact steps_nil
      intro own113 a113 w113 hd113 hz113 hk113 hf113 hE113
      have e113_2 : a113.eval (.tmp 2) = .pointer (some ⟨g63, 0, none⟩) := (hk113 2 rfl).trans e110_2
      have e113_5 : a113.eval (.tmp 5) = .func (.func 53) #[] #[.pointer (some ⟨g63, 0, none⟩), .pointer (some ⟨g65, 0, none⟩)] := (hk113 5 rfl).trans e110_5
      have e113_14 : a113.eval (.tmp 14) = .int .i64 (b2.length : Int) := (hk113 14 rfl).trans e110_14
      obtain ⟨(f_15 : a113.eval (.tmp 15) = .int .i64 (ad x88 1)), -⟩ := hf113 [1] rfl
      have e113_15 := f_15
      have hX113 := Evo.step hX110 (fun _ => Nat.le_refl 0) hE113 rfl
      have b113_g63 := BlkO.evo (by decide) hE113 b110_g63
      have b113_Ax1 := RdO.evo rfl hE113 b110_Ax1
      have b113_g65 := BlkO.evo (by decide) hE113 b110_g65
      have b113_Ab2 := RdO.evo rfl hE113 b110_Ab2
      exact hn101 _ _ _ hs ⟨own113, hd113, hz113, e113_2, e113_5, e113_14, e113_15, hX113, b113_g63, b113_Ax1, b113_g65, b113_Ab2⟩
    refine fl_exit ?_
    refine hp104 _ _ _ rfl ?_
    replace hs := hz101 _ hs
    refine hp101 _ _ _ rfl ?_
    refine hx75 _ _ ?_
    refine hn73 _ _ ?_
    refine rg_plain_seq (n := 25) (rs := []) (own0 := own103) (K := [])
        (bs := [0, 1, 3, 7])
        (ds := [⟨[], [2], [], Fct.val 22 (.slice Ax1 x1.length cx1)⟩,
        ⟨[0], [], [], Fct.val 23 (.int .i64 (x1.length : Int))⟩,
        ⟨[1], [], [], Fct.val 24 (.bool (decide ((x1.length : Int) = 0)))⟩,
        ⟨[2], [], [], Fct.val 4 (.bool (decide ((x1.length : Int) = 0)))⟩]) (by kernel_rfl) hz103 hd103 (fun _ h => nomatch h) ?_ ?_
    · refine steps_cons (fun own a wx hf hsl hE => ?_) ?_
      · obtain ⟨s_2, -⟩ := hsl
        exact sg_plain rfl rfl (or_load1 to22 (s_2.trans e103_2) (Blk.at_ (BlkO.evo (by decide) hE b103_g63).2 0 rfl))
      refine steps_cons (fun own a wx hf hsl hE => ?_) ?_
      · obtain ⟨(f_22 : a.eval (.tmp 22) = .slice Ax1 x1.length cx1), -⟩ := hf
        exact sg_plain rfl rfl (or_len tu22 f_22 rfl)
      refine steps_cons (fun own a wx hf hsl hE => ?_) ?_
      · obtain ⟨(f_23 : a.eval (.tmp 23) = .int .i64 (x1.length : Int)), -⟩ := hf
        exact sg_plain rfl rfl (or_eql f_23 rfl rfl)
      refine steps_cons (fun own a wx hf hsl hE => ?_) ?_
      · obtain ⟨(f_24 : a.eval (.tmp 24) = .bool (decide ((x1.length : Int) = 0))), -⟩ := hf
        exact sg_plain rfl rfl (or_assign f_24)
      exact steps_nil
    intro own114 a114 w114 hd114 hz114 hk114 hf114 hE114
    obtain ⟨(f_4 : a114.eval (.tmp 4) = .bool (decide ((x1.length : Int) = 0))), -⟩ := hf114 [3] rfl
    have e114_4 := f_4
    have hX114 := Evo.step hX103 (fun _ => Nat.le_refl 0) hE114 rfl
    refine fl_ret ?_
    obtain rfl := osome hs
    exact hret _ _ _ _ (.inl rfl) hd114 (results1_ rfl (RVal.tmp_ e114_4)) ⟨own114, rfl, hX114⟩

theorem ref03_Alike_w (w : World) (x1 : List (Int × Int)) (Ax1 : Option Addr) (cx1 : Nat) (b2 : List (Int × Int)) (Ab2 : Option Addr) (cb2 : Nat) (hx1 : RdO (fun _ => 0) [0] w R49 Ax1 cx1 x1) (hb2 : RdO (fun _ => 0) [0] w R49 Ab2 cb2 b2) (r : Bool) (hs : ref03_Alike x1 b2 = some r) :
    Calls Try.prog 30 #[.slice Ax1 x1.length cx1, .slice Ab2 b2.length cb2] w fun e w' => ∃ own' : Own, e = .returned (.bool r) ∧ Evo [] (fun _ => 0) own' w w' := by
  refine fl_enter (n := 20) rfl rfl rfl (Nat.le_of_ble_eq_true rfl) ?_
  intro a0 Q hd0 hz0 harg hret
  have ha0 := harg 0 _ rfl
  have ha1 := harg 1 _ rfl
  clear harg
  have hE0 : Evo [] (fun _ => 0) (fun _ => 0) w w := Evo.refl _ _ _
  refine rg_plain_seq (n := 20) (rs := []) (own0 := (fun _ => 0)) (K := [])
      (bs := [0])
      (ds := [⟨[], [], [], Fct.val 4 (.bool false)⟩]) (by kernel_rfl) hz0 hd0 (fun _ h => nomatch h) ?_ ?_
  · refine steps_cons (fun own a wx hf hsl hE => ?_) ?_
    · exact sg_plain rfl rfl (or_assign rfl)
    exact steps_nil
  intro own65 a65 w65 hd65 hz65 hk65 hf65 hE65
  have e65_0 : a65.eval (.tmp 0) = .slice Ax1 x1.length cx1 := (hk65 0 rfl).trans ha0
  have e65_1 : a65.eval (.tmp 1) = .slice Ab2 b2.length cb2 := (hk65 1 rfl).trans ha1
  have hX65 := Evo.step hE0 (fun _ => Nat.le_refl 0) hE65 rfl
  have b65_Ax1 := RdO.evo rfl hE65 hx1
  have b65_Ab2 := RdO.evo rfl hE65 hb2
  refine fl_seq (fun Q66 hn66 hp66 => ?_)
  obtain ⟨r67, hr67, hs⟩ := obind hs
  refine rg_plain_seq (n := 20) (rs := []) (own0 := own65) (K := [])
      (bs := [0, 0, 3])
      (ds := [⟨[], [0], [], Fct.val 6 (.slice Ax1 x1.length cx1)⟩,
      ⟨[], [1], [], Fct.val 7 (.slice Ab2 b2.length cb2)⟩,
      ⟨[0, 1], [], [], Fct.val 8 (.bool r67)⟩]) (by kernel_rfl) hz65 hd65 (fun _ h => nomatch h) ?_ ?_
  · refine steps_cons (fun own a wx hf hsl hE => ?_) ?_
    · obtain ⟨s_0, -⟩ := hsl
      exact sg_plain rfl rfl (or_move (s_0.trans e65_0))
    refine steps_cons (fun own a wx hf hsl hE => ?_) ?_
    · obtain ⟨s_1, -⟩ := hsl
      exact sg_plain rfl rfl (or_move (s_1.trans e65_1))
    refine steps_cons (fun own a wx hf hsl hE => ?_) ?_
    · obtain ⟨(f_6 : a.eval (.tmp 6) = .slice Ax1 x1.length cx1), (f_7 : a.eval (.tmp 7) = .slice Ab2 b2.length cb2), -⟩ := hf
      exact sg_plain rfl rfl (or_call cf49 (args2 f_6 f_7) (ref03_Same_w _ x1 Ax1 cx1 b2 Ab2 cb2 (RdO.zero (RdO.evo rfl hE b65_Ax1)) (RdO.zero (RdO.evo rfl hE b65_Ab2)) r67 hr67) post_val)
    exact steps_nil
  intro own68 a68 w68 hd68 hz68 hk68 hf68 hE68
  have e68_0 : a68.eval (.tmp 0) = .slice Ax1 x1.length cx1 := (hk68 0 rfl).trans e65_0
  have e68_1 : a68.eval (.tmp 1) = .slice Ab2 b2.length cb2 := (hk68 1 rfl).trans e65_1
  obtain ⟨(f_8 : a68.eval (.tmp 8) = .bool r67), -⟩ := hf68 [2] rfl
  have e68_8 := f_8
  have hX68 := Evo.step hX65 (fun _ => Nat.le_refl 0) hE68 rfl
  have b68_Ax1 := RdO.evo rfl hE68 b65_Ax1
  have b68_Ab2 := RdO.evo rfl hE68 b65_Ab2
  refine fl_cond e68_8 hs (fun c69 hs => ?_) (fun c69 hs => ?_)
  · refine rg_plain_seq (n := 20) (rs := []) (own0 := own68) (K := [])
        (bs := [0])
        (ds := [⟨[], [], [], Fct.val 4 (.bool true)⟩]) (by kernel_rfl) hz68 hd68 (fun _ h => nomatch h) ?_ ?_
    · refine steps_cons (fun own a wx hf hsl hE => ?_) ?_
      · exact sg_plain rfl rfl (or_assign rfl)
      exact steps_nil
    intro own70 a70 w70 hd70 hz70 hk70 hf70 hE70
    obtain ⟨(f_4 : a70.eval (.tmp 4) = .bool true), -⟩ := hf70 [0] rfl
    have e70_4 := f_4
    have hX70 := Evo.step hX68 (fun _ => Nat.le_refl 0) hE70 rfl
    refine fl_ret ?_
    refine hp66 _ _ _ rfl ?_
    obtain rfl := osome hs
    exact hret _ _ _ _ (.inl rfl) hd70 (results1_ rfl (RVal.tmp_ e70_4)) ⟨own70, rfl, hX70⟩
  refine fl_skip ?_
  refine hn66 _ _ ?_
  refine fl_seq (fun Q71 hn71 hp71 => ?_)
  refine rg_plain_seq (n := 20) (rs := []) (own0 := own68) (K := [])
      (bs := [0])
      (ds := [⟨[], [], [], Fct.val 5 (.int .i64 1)⟩]) (by kernel_rfl) hz68 hd68 (fun _ h => nomatch h) ?_ ?_
  · refine steps_cons (fun own a wx hf hsl hE => ?_) ?_
    · exact sg_plain rfl rfl (or_assign rfl)
    exact steps_nil
  intro own72 a72 w72 hd72 hz72 hk72 hf72 hE72
  have e72_0 : a72.eval (.tmp 0) = .slice Ax1 x1.length cx1 := (hk72 0 rfl).trans e68_0
  have e72_1 : a72.eval (.tmp 1) = .slice Ab2 b2.length cb2 := (hk72 1 rfl).trans e68_1
  obtain ⟨(f_5 : a72.eval (.tmp 5) = .int .i64 1), -⟩ := hf72 [0] rfl
  have e72_5 := f_5
  have hX72 := Evo.step hX68 (fun _ => Nat.le_refl 0) hE72 rfl
  have b72_Ax1 := RdO.evo rfl hE72 b68_Ax1
  have b72_Ab2 := RdO.evo rfl hE72 b68_Ab2
  refine fl_block (fun Q73 hn73 hx73 hp73 => ?_)
  refine fl_loop (body := (fun s => ref03_Alike_b1 x1 b2 s)) (z := r) (show loopO _ _ = _ from hs) (fun (i88 : Int) a wx => ∃ (ox : Own), a.defers = [] ∧ a.tmps.size = 20 ∧ a.eval (.tmp 0) = .slice Ax1 x1.length cx1 ∧ a.eval (.tmp 1) = .slice Ab2 b2.length cb2 ∧ a.eval (.tmp 5) = .int .i64 i88 ∧ Evo [] (fun _ => 0) ox w wx ∧ RdO ox [0] wx R49 Ax1 cx1 x1 ∧ RdO ox [0] wx R49 Ab2 cb2 b2) ?_ ?_
  · exact ⟨own72, hd72, hz72, e72_0, e72_1, e72_5, hX72, b72_Ax1, b72_Ab2⟩
  · rintro i88 zz103 a103 w103 ⟨own103, hd104, hz104, e104_0, e104_1, e104_5, hE104, b104_Ax1, b104_Ab2⟩ hs Q103 hn103 hp103 hz103
    have hs : ref03_Alike_b1 x1 b2 i88 = some zz103 := hs
    refine fl_seq (fun Q105 hn105 hp105 => ?_)
    refine rg_plain_seq (n := 20) (rs := []) (own0 := own103) (K := [])
        (bs := [0, 0, 2, 7])
        (ds := [⟨[], [5], [], Fct.val 9 (.int .i64 i88)⟩,
        ⟨[], [1], [], Fct.val 10 (.slice Ab2 b2.length cb2)⟩,
        ⟨[1], [], [], Fct.val 11 (.int .i64 (b2.length : Int))⟩,
        ⟨[0, 2], [], [], Fct.val 12 (.bool (decide (i88 < (b2.length : Int))))⟩]) (by kernel_rfl) hz104 hd104 (fun _ h => nomatch h) ?_ ?_
    · refine steps_cons (fun own a wx hf hsl hE => ?_) ?_
      · obtain ⟨s_5, -⟩ := hsl
        exact sg_plain rfl rfl (or_move (s_5.trans e104_5))
      refine steps_cons (fun own a wx hf hsl hE => ?_) ?_
      · obtain ⟨s_1, -⟩ := hsl
        exact sg_plain rfl rfl (or_move (s_1.trans e104_1))
      refine steps_cons (fun own a wx hf hsl hE => ?_) ?_
      · obtain ⟨(f_10 : a.eval (.tmp 10) = .slice Ab2 b2.length cb2), -⟩ := hf
        exact sg_plain rfl rfl (or_len tu24 f_10 rfl)
      refine steps_cons (fun own a wx hf hsl hE => ?_) ?_
      · obtain ⟨(f_9 : a.eval (.tmp 9) = .int .i64 i88), (f_11 : a.eval (.tmp 11) = .int .i64 (b2.length : Int)), -⟩ := hf
        exact sg_plain rfl rfl (or_lss f_9 f_11 rfl)
      exact steps_nil
    intro own106 a106 w106 hd106 hz106 hk106 hf106 hE106
    have e106_0 : a106.eval (.tmp 0) = .slice Ax1 x1.length cx1 := (hk106 0 rfl).trans e104_0
    have e106_1 : a106.eval (.tmp 1) = .slice Ab2 b2.length cb2 := (hk106 1 rfl).trans e104_1
    have e106_5 : a106.eval (.tmp 5) = .int .i64 i88 := (hk106 5 rfl).trans e104_5
    obtain ⟨(f_12 : a106.eval (.tmp 12) = .bool (decide (i88 < (b2.length : Int)))), -⟩ := hf106 [3] rfl
    have e106_12 := f_12
    have hX106 := Evo.step hE104 (fun _ => Nat.le_refl 0) hE106 rfl
    have b106_Ax1 := RdO.evo rfl hE106 b104_Ax1
    have b106_Ab2 := RdO.evo rfl hE106 b104_Ab2
    refine fl_cond e106_12 hs (fun c107 hs => ?_) (fun c107 hs => ?_)
    · refine fl_skip ?_
      refine hn105 _ _ ?_
      refine fl_seq (fun Q108 hn108 hp108 => ?_)
      refine fl_block (fun Q109 hn109 hx109 hp109 => ?_)
      obtain ⟨r110, hr110, hs⟩ := obind hs
      obtain ⟨r113, hr113, hs⟩ := obind hs
      refine rg_plain_seq (n := 20) (rs := []) (own0 := own106) (K := [])
          (bs := [0, 0, 0, 6, 15])
          (ds := [⟨[], [0], [], Fct.val 15 (.slice Ax1 x1.length cx1)⟩,
          ⟨[], [1], [], Fct.val 16 (.slice Ab2 b2.length cb2)⟩,
          ⟨[], [5], [], Fct.val 17 (.int .i64 i88)⟩,
          ⟨[1, 2], [], [], Fct.row 112 [] 18 49 R49 r110⟩,
          ⟨[0, 3], [], [], Fct.val 19 (.bool r113)⟩]) (by kernel_rfl) hz106 hd106 (fun _ h => nomatch h) ?_ ?_
      · refine steps_cons (fun own a wx hf hsl hE => ?_) ?_
        · obtain ⟨s_0, -⟩ := hsl
          exact sg_plain rfl rfl (or_move (s_0.trans e106_0))
        refine steps_cons (fun own a wx hf hsl hE => ?_) ?_
        · obtain ⟨s_1, -⟩ := hsl
          exact sg_plain rfl rfl (or_move (s_1.trans e106_1))
        refine steps_cons (fun own a wx hf hsl hE => ?_) ?_
        · obtain ⟨s_5, -⟩ := hsl
          exact sg_plain rfl rfl (or_move (s_5.trans e106_5))
        refine steps_cons (fun own a wx hf hsl hE => ?_) ?_
        · obtain ⟨(f_16 : a.eval (.tmp 16) = .slice Ab2 b2.length cb2), (f_17 : a.eval (.tmp 17) = .int .i64 i88), -⟩ := hf
          exact sg_plain rfl rfl (or_call cf27 (args2 f_16 f_17) (ref03_From_w _ b2 Ab2 cb2 i88 (RdO.zero (RdO.evo rfl hE b106_Ab2)) r110 hr110) (post_row (m' := (look0 [(1, 112)])) (.inl (Rep.fl_flat _)) rfl rfl (fun _ => rfl)))
        refine steps_cons (fun own a wx hf hsl hE => ?_) ?_
        · obtain ⟨(f_15 : a.eval (.tmp 15) = .slice Ax1 x1.length cx1), ⟨⟨A111, cA111⟩, (f_18 : a.eval (.tmp 18) = .slice A111 r110.length cA111), (b_A111 : RwO own 112 [] wx 49 R49 A111 cA111 r110)⟩, -⟩ := hf
          exact sg_plain rfl rfl (or_call cf49 (args2 f_15 f_18) (ref03_Same_w _ x1 Ax1 cx1 r110 A111 cA111 (RdO.zero (RdO.evo rfl hE b106_Ax1)) (RdO.zero (RwO.rd b_A111)) r113 hr113) post_val)
        exact steps_nil
      intro own114 a114 w114 hd114 hz114 hk114 hf114 hE114
      have e114_0 : a114.eval (.tmp 0) = .slice Ax1 x1.length cx1 := (hk114 0 rfl).trans e106_0
      have e114_1 : a114.eval (.tmp 1) = .slice Ab2 b2.length cb2 := (hk114 1 rfl).trans e106_1
      have e114_5 : a114.eval (.tmp 5) = .int .i64 i88 := (hk114 5 rfl).trans e106_5
      obtain ⟨(f_19 : a114.eval (.tmp 19) = .bool r113), -⟩ := hf114 [4] rfl
      have e114_19 := f_19
      have hX114 := Evo.step hX106 (fun _ => Nat.le_refl 0) hE114 rfl
      have b114_Ax1 := RdO.evo rfl hE114 b106_Ax1
      have b114_Ab2 := RdO.evo rfl hE114 b106_Ab2
      refine fl_cond e114_19 hs (fun c115 hs => ?_) (fun c115 hs => ?_)
      · refine rg_plain_seq (n := 20) (rs := []) (own0 := own114) (K := [])
            (bs := [0])
            (ds := [⟨[], [], [], Fct.val 4 (.bool true)⟩]) (by kernel_rfl) hz114 hd114 (fun _ h => nomatch h) ?_ ?_
        · refine steps_cons (fun own a wx hf hsl hE => ?_) ?_
          · exact sg_plain rfl rfl (or_assign rfl)
          exact steps_nil
        intro own116 a116 w116 hd116 hz116 hk116 hf116 hE116
        obtain ⟨(f_4 : a116.eval (.tmp 4) = .bool true), -⟩ := hf116 [0] rfl
        have e116_4 := f_4
        have hX116 := Evo.step hX114 (fun _ => Nat.le_refl 0) hE116 rfl
        refine fl_ret ?_
        refine hp109 _ _ _ rfl ?_
        refine hp108 _ _ _ rfl ?_
        replace hs := hz103 _ hs
        refine hp103 _ _ _ rfl ?_
        refine hp73 _ _ _ rfl ?_
        refine hp71 _ _ _ rfl ?_
        obtain rfl := osome hs
        exact hret _ _ _ _ (.inl rfl) hd116 (results1_ rfl (RVal.tmp_ e116_4)) ⟨own116, rfl, hX116⟩
      refine fl_skip ?_
      refine hn109 _ _ ?_
      refine hn108 _ _ ?_
      refine rg_plain (n := 20) (rs := []) (own0 := own114) (K := [])
          (bs := [0, 1, 3])
          (ds := [⟨[], [5], [], Fct.val 13 (.int .i64 i88)⟩,
          ⟨[0], [], [], Fct.val 14 (.int .i64 (ad i88 1))⟩,
          ⟨[1], [], [], Fct.val 5 (.int .i64 (ad i88 1))⟩]) (by kernel_rfl) hz114 hd114 (fun _ h => nomatch h) ?_ ?_
      · refine steps_cons (fun own a wx hf hsl hE => ?_) ?_
        · obtain ⟨s_5, -⟩ := hsl
          exact sg_plain rfl rfl (or_move (s_5.trans e114_5))
        refine steps_cons (fun own a wx hf hsl hE => ?_) ?_
        · obtain ⟨(f_13 : a.eval (.tmp 13) = .int .i64 i88), -⟩ := hf
          exact sg_plain rfl rfl (or_add f_13 rfl rfl)
        refine steps_cons (fun own a wx hf hsl hE => ?_) ?_
        · obtain ⟨(f_14 : a.eval (.tmp 14) = .int .i64 (ad i88 1)), -⟩ := hf
          exact sg_plain rfl rfl (or_assign f_14)
        exact steps_nil
      intro own117 a117 w117 hd117 hz117 hk117 hf117 hE117
      have e117_0 : a117.eval (.tmp 0) = .slice Ax1 x1.length cx1 := (hk117 0 rfl).trans e114_0
      have e117_1 : a117.eval (.tmp 1) = .slice Ab2 b2.length cb2 := (hk117 1 rfl).trans e114_1
      obtain ⟨(f_5 : a117.eval (.tmp 5) = .int .i64 (ad i88 1)), -⟩ := hf117 [2] rfl
      have e117_5 := f_5
      have hX117 := Evo.step hX114 (fun _ => Nat.le_refl 0) hE117 rfl
      have b117_Ax1 := RdO.evo rfl hE117 b114_Ax1
      have b117_Ab2 := RdO.evo rfl hE117 b114_Ab2
      exact hn103 _ _ _ hs ⟨own117, hd117, hz117, e117_0, e117_1, e117_5, hX117, b117_Ax1, b117_Ab2⟩
    refine fl_exit ?_
    refine hp105 _ _ _ rfl ?_
    replace hs := hz103 _ hs
    refine hp103 _ _ _ rfl ?_
    refine hx73 _ _ ?_
    refine hn71 _ _ ?_
    refine rg_plain_seq (n := 20) (rs := []) (own0 := own106) (K := [])
        (bs := [0])
        (ds := [⟨[], [], [], Fct.val 4 (.bool false)⟩]) (by kernel_rfl) hz106 hd106 (fun _ h => nomatch h) ?_ ?_
    · refine steps_cons (fun own a wx hf hsl hE => ?_) ?_
      · exact sg_plain rfl rfl (or_assign rfl)
      exact steps_nil
    intro own118 a118 w118 hd118 hz118 hk118 hf118 hE118
    obtain ⟨(f_4 : a118.eval (.tmp 4) = .bool false), -⟩ := hf118 [0] rfl
    have e118_4 := f_4
    have hX118 := Evo.step hX106 (fun _ => Nat.le_refl 0) hE118 rfl
    refine fl_ret ?_
    obtain rfl := osome hs
    exact hret _ _ _ _ (.inl rfl) hd118 (results1_ rfl (RVal.tmp_ e118_4)) ⟨own118, rfl, hX118⟩

end Go.Proofs.Ythkmkmkcnljmaaa
