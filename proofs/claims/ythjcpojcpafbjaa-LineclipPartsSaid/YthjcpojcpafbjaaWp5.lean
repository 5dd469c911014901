/-
  Chapter 22. The walks.
-/
import Derived.Test.YthjcpojcpafbjaaWp2
import Derived.Test.YthjcpojcpafbjaaWp3
import Derived.Test.YthjcpojcpafbjaaSp5
namespace Go.Proofs.Ythjcpojcpafbjaa
open Go.RowKit
set_option linter.unusedVariables false
theorem law01_Ofs_w (w : World) (l1 : List (Int × Int)) (Al1 : Option Addr) (cl1 : Nat) (hl1 : RdO (fun _ => 0) [0] w R34 Al1 cl1 l1) (r : List (Int × Int)) (hs : law01_Ofs l1 = some r) :
    Calls Try.prog 8 #[.slice Al1 l1.length cl1] w fun e w' => ∃ (own' : Own) (x : Option Addr × Nat), e = .returned (.slice x.1 r.length x.2) ∧ Evo [] (fun _ => 0) own' w w' ∧ RwO own' 1 [] w' 37 R37 x.1 x.2 r := by
  refine fl_enter (n := 20) rfl rfl rfl (Nat.le_of_ble_eq_true rfl) ?_
  intro a0 Q hd0 hz0 harg hret
  have ha0 := harg 0 _ rfl
  clear harg
  have hE0 : Evo [] (fun _ => 0) (fun _ => 0) w w := Evo.refl _ _ _
  refine rg_plain_seq (n := 20) (rs := []) (own0 := (fun _ => 0)) (K := [])
      (bs := [0])
      (ds := [⟨[], [], [], Fct.val 2 (.slice none 0 0)⟩]) (by kernel_rfl) hz0 hd0 (fun _ h => nomatch h) ?_ ?_
  · refine steps_cons (fun own a wx hf hsl hE => ?_) ?_
    · exact sg_plain rfl rfl (or_assign rfl)
    exact steps_nil
  intro own77 a77 w77 hd77 hz77 hk77 hf77 hE77
  have e77_0 : a77.eval (.tmp 0) = .slice Al1 l1.length cl1 := (hk77 0 rfl).trans ha0
  have hX77 := Evo.step hE0 (fun _ => Nat.le_refl 0) hE77 rfl
  have b77_Al1 := RdO.evo rfl hE77 hl1
  refine rg_plain_seq (n := 20) (rs := []) (own0 := own77) (K := [])
      (bs := [0])
      (ds := [⟨[], [], [], Fct.val 3 (.slice none 0 0)⟩]) (by kernel_rfl) hz77 hd77 (fun _ h => nomatch h) ?_ ?_
  · refine steps_cons (fun own a wx hf hsl hE => ?_) ?_
    · exact sg_plain rfl rfl (or_assign rfl)
    exact steps_nil
  intro own78 a78 w78 hd78 hz78 hk78 hf78 hE78
  have e78_0 : a78.eval (.tmp 0) = .slice Al1 l1.length cl1 := (hk78 0 rfl).trans e77_0
  obtain ⟨(f_3 : a78.eval (.tmp 3) = .slice none 0 0), -⟩ := hf78 [0] rfl
  have e78_3 := f_3
  have hX78 := Evo.step hX77 (fun _ => Nat.le_refl 0) hE78 rfl
  have b78_Al1 := RdO.evo rfl hE78 b77_Al1
  refine fl_seq (fun Q79 hn79 hp79 => ?_)
  refine rg_plain_seq (n := 20) (rs := []) (own0 := own78) (K := [])
      (bs := [0])
      (ds := [⟨[], [], [], Fct.val 4 (.int .i64 0)⟩]) (by kernel_rfl) hz78 hd78 (fun _ h => nomatch h) ?_ ?_
  · refine steps_cons (fun own a wx hf hsl hE => ?_) ?_
    · exact sg_plain rfl rfl (or_assign rfl)
    exact steps_nil
  intro own80 a80 w80 hd80 hz80 hk80 hf80 hE80
  have e80_0 : a80.eval (.tmp 0) = .slice Al1 l1.length cl1 := (hk80 0 rfl).trans e78_0
  have e80_3 : a80.eval (.tmp 3) = .slice none 0 0 := (hk80 3 rfl).trans e78_3
  obtain ⟨(f_4 : a80.eval (.tmp 4) = .int .i64 0), -⟩ := hf80 [0] rfl
  have e80_4 := f_4
  have hX80 := Evo.step hX78 (fun _ => Nat.le_refl 0) hE80 rfl
  have b80_Al1 := RdO.evo rfl hE80 b78_Al1
  refine fl_block (fun Q81 hn81 hx81 hp81 => ?_)
  refine fl_loop (body := (fun s => law01_Ofs_b1 l1 s.1 s.2)) (z := r) (show loopO _ _ = _ from hs) (fun (s : (List (Int × Int)) × Int) a wx => match s with | (out100, i102) => ∃ (ox : Own) (A98 : Option Addr) (c99 : Nat), a.defers = [] ∧ a.tmps.size = 20 ∧ a.eval (.tmp 0) = .slice Al1 l1.length cl1 ∧ a.eval (.tmp 3) = .slice A98 out100.length c99 ∧ a.eval (.tmp 4) = .int .i64 i102 ∧ Evo [] (fun _ => 0) ox w wx ∧ RdO ox [0] wx R34 Al1 cl1 l1 ∧ RwO ox 101 [] wx 37 R37 A98 c99 out100) ?_ ?_
  · exact ⟨own80, none, 0, hd80, hz80, e80_0, e80_3, e80_4, hX80, b80_Al1, RwO.nil_⟩
  · rintro ⟨out100, i102⟩ zz122 a122 w122 ⟨own122, A98, c99, hd123, hz123, e123_0, e123_3, e123_4, hE123, b123_Al1, b123_A98⟩ hs Q122 hn122 hp122 hz122
    have hs : law01_Ofs_b1 l1 out100 i102 = some zz122 := hs
    refine fl_seq (fun Q124 hn124 hp124 => ?_)
    refine rg_plain_seq (n := 20) (rs := []) (own0 := own122) (K := [])
        (bs := [0, 0, 2, 7])
        (ds := [⟨[], [4], [], Fct.val 5 (.int .i64 i102)⟩,
        ⟨[], [0], [], Fct.val 6 (.slice Al1 l1.length cl1)⟩,
        ⟨[1], [], [], Fct.val 7 (.int .i64 (l1.length : Int))⟩,
        ⟨[0, 2], [], [], Fct.val 8 (.bool (decide (i102 < (l1.length : Int))))⟩]) (by kernel_rfl) hz123 hd123 (fun _ h => nomatch h) ?_ ?_
    · refine steps_cons (fun own a wx hf hsl hE => ?_) ?_
      · obtain ⟨s_4, -⟩ := hsl
        exact sg_plain rfl rfl (or_move (s_4.trans e123_4))
      refine steps_cons (fun own a wx hf hsl hE => ?_) ?_
      · obtain ⟨s_0, -⟩ := hsl
        exact sg_plain rfl rfl (or_move (s_0.trans e123_0))
      refine steps_cons (fun own a wx hf hsl hE => ?_) ?_
      · obtain ⟨(f_6 : a.eval (.tmp 6) = .slice Al1 l1.length cl1), -⟩ := hf
        exact sg_plain rfl rfl (or_len tu24 f_6 rfl)
      refine steps_cons (fun own a wx hf hsl hE => ?_) ?_
      · obtain ⟨(f_5 : a.eval (.tmp 5) = .int .i64 i102), (f_7 : a.eval (.tmp 7) = .int .i64 (l1.length : Int)), -⟩ := hf
        exact sg_plain rfl rfl (or_lss f_5 f_7 rfl)
      exact steps_nil
    intro own125 a125 w125 hd125 hz125 hk125 hf125 hE125
    have e125_0 : a125.eval (.tmp 0) = .slice Al1 l1.length cl1 := (hk125 0 rfl).trans e123_0
    have e125_3 : a125.eval (.tmp 3) = .slice A98 out100.length c99 := (hk125 3 rfl).trans e123_3
    have e125_4 : a125.eval (.tmp 4) = .int .i64 i102 := (hk125 4 rfl).trans e123_4
    obtain ⟨(f_8 : a125.eval (.tmp 8) = .bool (decide (i102 < (l1.length : Int)))), -⟩ := hf125 [3] rfl
    have e125_8 := f_8
    have hX125 := Evo.step hE123 (fun _ => Nat.le_refl 0) hE125 rfl
    have b125_Al1 := RdO.evo rfl hE125 b123_Al1
    have b125_A98 := RwO.evo rfl hE125 b123_A98
    refine fl_cond e125_8 hs (fun c126 hs => ?_) (fun c126 hs => ?_)
    · refine fl_skip ?_
      refine hn124 _ _ ?_
      refine fl_seq (fun Q127 hn127 hp127 => ?_)
      refine fl_block (fun Q128 hn128 hx128 hp128 => ?_)
      obtain ⟨x133, hx133, hs⟩ := obind hs
      obtain ⟨r134, hr134, hs⟩ := obind hs
      obtain ⟨x137, hx137, hs⟩ := obind hs
      refine rg_plain (n := 20) (rs := [Fct.rowAt 101 [] 37 R37 A98 c99 out100]) (own0 := own125) (K := [101])
          (bs := [0, 0, 0, 6, 14, 30, 62, 127, 255])
          (ds := [⟨[], [3], [], Fct.val 11 (.slice A98 out100.length c99)⟩,
          ⟨[], [0], [], Fct.val 12 (.slice Al1 l1.length cl1)⟩,
          ⟨[], [4], [], Fct.val 13 (.int .i64 i102)⟩,
          ⟨[1, 2], [], [], Fct.val 14 (.pointer (some ((adr Al1).add ((i102 : Int).toNat * R34.s))))⟩,
          ⟨[3], [], [], Fct.val 15 (.agg #[.int .i64 x133.1, .int .i64 x133.2])⟩,
          ⟨[4], [], [], Fct.val 16 (.agg #[.int .i64 r134.1, .int .i64 r134.2])⟩,
          ⟨[5], [], [], Fct.row 136 [] 17 37 R37 [r134]⟩,
          ⟨[0, 6, 9], [], [101], Fct.row 138 [] 18 37 R37 x137⟩,
          ⟨[7], [], [], Fct.rel [3, 18] (fun l => ∀ (A139 : Option Addr) (cA139 : Nat), l.getD 1 undef = .slice A139 x137.length cA139 → l.getD 0 undef = .slice A139 x137.length cA139)⟩]) (by kernel_rfl) hz125 hd125 (by simp only [List.forall_mem_cons]; exact ⟨b125_A98, fun _ h => nomatch h⟩) ?_ ?_
      · refine steps_cons (fun own a wx hf hsl hE => ?_) ?_
        · obtain ⟨s_3, -⟩ := hsl
          exact sg_plain rfl rfl (or_move (s_3.trans e125_3))
        refine steps_cons (fun own a wx hf hsl hE => ?_) ?_
        · obtain ⟨s_0, -⟩ := hsl
          exact sg_plain rfl rfl (or_move (s_0.trans e125_0))
        refine steps_cons (fun own a wx hf hsl hE => ?_) ?_
        · obtain ⟨s_4, -⟩ := hsl
          exact sg_plain rfl rfl (or_move (s_4.trans e125_4))
        refine steps_cons (fun own a wx hf hsl hE => ?_) ?_
        · obtain ⟨(f_12 : a.eval (.tmp 12) = .slice Al1 l1.length cl1), (f_13 : a.eval (.tmp 13) = .int .i64 i102), -⟩ := hf
          exact sg_plain rfl rfl (or_index (R := R34) (l := l1) tl24 f_12 f_13 (RdO.some_ b125_Al1 hx133) hx133)
        refine steps_cons (fun own a wx hf hsl hE => ?_) ?_
        · obtain ⟨(f_14 : a.eval (.tmp 14) = .pointer (some ((adr Al1).add ((i102 : Int).toNat * R34.s)))), -⟩ := hf
          exact sg_plain rfl rfl (or_load (l := E34.f x133) ta34 f_14 (RdO.cells (F := E34) (RdO.evo rfl hE b125_Al1) hx133) rfl)
        refine steps_cons (fun own a wx hf hsl hE => ?_) ?_
        · obtain ⟨(f_15 : a.eval (.tmp 15) = .agg #[.int .i64 x133.1, .int .i64 x133.2]), -⟩ := hf
          exact sg_plain rfl rfl (or_call cf26 (args1 f_15) (law01_Of_w _ x133  r134 hr134) post_val)
        refine steps_cons (fun own a wx hf hsl hE => ?_) ?_
        · obtain ⟨(f_16 : a.eval (.tmp 16) = .agg #[.int .i64 r134.1, .int .i64 r134.2]), -⟩ := hf
          exact sg_plain rfl rfl (or_lit (lab := 136) (e := 37) (cs := #[.int .i64 r134.1, .int .i64 r134.2]) (F := E37) (or_new [(16, .agg #[.int .i64 r134.1, .int .i64 r134.2])] rfl rfl ⟨f_16, trivial⟩ (by kernel_rfl)) rfl rfl (show 1 ≤ maxLen by decide))
        refine steps_cons (fun own a wx hf hsl hE => ?_) ?_
        · obtain ⟨(f_11 : a.eval (.tmp 11) = .slice A98 out100.length c99), ⟨⟨A135, cA135⟩, (f_17 : a.eval (.tmp 17) = .slice A135 [r134].length cA135), (b_A135 : RwO own 136 [] wx 37 R37 A135 cA135 [r134])⟩, (b_A98 : RwO own 101 [] wx 37 R37 A98 c99 out100), -⟩ := hf
          exact sg_plain rfl rfl (or_append (R := R37) (lab := 101) (lab2 := 138) (L := []) (L3 := []) tp26 f_11 b_A98 (by decide) f_17 (RwO.rd b_A135) hx137 (by decide) (by decide) (mem_of rfl) (.inl (Rep.fl_flat _)))
        refine steps_cons (fun own a wx hf hsl hE => ?_) ?_
        · obtain ⟨⟨⟨A139, cA139⟩, (f_18 : a.eval (.tmp 18) = .slice A139 x137.length cA139), (b_A139 : RwO own 138 [] wx 37 R37 A139 cA139 x137)⟩, -⟩ := hf
          exact sg_plain rfl rfl (or_mono (f := Fct.val 3 (.slice A139 x137.length cA139)) (or_assign f_18) (fun own' a' w' v' hp h => fun _ _ h0' => by cases (f_18.symm.trans ((hp.2 18 (by decide)).symm.trans h0')); exact h))
        exact steps_nil
      intro own140 a140 w140 hd140 hz140 hk140 hf140 hE140
      have e140_0 : a140.eval (.tmp 0) = .slice Al1 l1.length cl1 := (hk140 0 rfl).trans e125_0
      have e140_4 : a140.eval (.tmp 4) = .int .i64 i102 := (hk140 4 rfl).trans e125_4
      obtain ⟨⟨⟨A139, cA139⟩, (f_18 : a140.eval (.tmp 18) = .slice A139 x137.length cA139), (b_A139 : RwO own140 138 [] w140 37 R37 A139 cA139 x137)⟩, (q_3 : ∀ (A139 : Option Addr) (cA139 : Nat), a140.eval (.tmp 18) = .slice A139 x137.length cA139 → a140.eval (.tmp 3) = .slice A139 x137.length cA139), -⟩ := hf140 [7, 8] rfl
      have f_3 := q_3 _ _ f_18
      have e140_3 := f_3
      have hX140 := Evo.step hX125 (fun _ => Nat.le_refl 0) hE140 rfl
      have b140_Al1 := RdO.evo rfl hE140 b125_Al1
      have b140_A139 := b_A139
      refine hn128 _ _ ?_
      refine hn127 _ _ ?_
      refine rg_plain (n := 20) (rs := []) (own0 := own140) (K := [])
          (bs := [0, 1, 3])
          (ds := [⟨[], [4], [], Fct.val 9 (.int .i64 i102)⟩,
          ⟨[0], [], [], Fct.val 10 (.int .i64 (ad i102 1))⟩,
          ⟨[1], [], [], Fct.val 4 (.int .i64 (ad i102 1))⟩]) (by kernel_rfl) hz140 hd140 (fun _ h => nomatch h) ?_ ?_
      · refine steps_cons (fun own a wx hf hsl hE => ?_) ?_
        · obtain ⟨s_4, -⟩ := hsl
          exact sg_plain rfl rfl (or_move (s_4.trans e140_4))
        refine steps_cons (fun own a wx hf hsl hE => ?_) ?_
        · obtain ⟨(f_9 : a.eval (.tmp 9) = .int .i64 i102), -⟩ := hf
          exact sg_plain rfl rfl (or_add f_9 rfl rfl)
        refine steps_cons (fun own a wx hf hsl hE => ?_) ?_
        · obtain ⟨(f_10 : a.eval (.tmp 10) = .int .i64 (ad i102 1)), -⟩ := hf
          exact sg_plain rfl rfl (or_assign f_10)
        exact steps_nil
      intro own141 a141 w141 hd141 hz141 hk141 hf141 hE141
      have e141_0 : a141.eval (.tmp 0) = .slice Al1 l1.length cl1 := (hk141 0 rfl).trans e140_0
      have e141_3 : a141.eval (.tmp 3) = .slice A139 x137.length cA139 := (hk141 3 rfl).trans e140_3
      obtain ⟨(f_4 : a141.eval (.tmp 4) = .int .i64 (ad i102 1)), -⟩ := hf141 [2] rfl
      have e141_4 := f_4
      have hX141 := Evo.step hX140 (fun _ => Nat.le_refl 0) hE141 rfl
      have b141_Al1 := RdO.evo rfl hE141 b140_Al1
      have b141_A139 := RwO.evo rfl hE141 b140_A139
      exact hn122 _ _ _ hs ⟨(rl [(138, 101)] own141), A139, cA139, hd141, hz141, e141_0, e141_3, e141_4, (Evo.rl_ hX141 (fun _ => Nat.le_refl 0) rfl), (RdO.rl_ (mm := [(138, 101)]) b141_Al1), (RwO.rl_ (mm := [(138, 101)]) b141_A139)⟩
    refine fl_exit ?_
    refine hp124 _ _ _ rfl ?_
    replace hs := hz122 _ hs
    refine hp122 _ _ _ rfl ?_
    refine hx81 _ _ ?_
    refine hn79 _ _ ?_
    refine rg_plain_seq (n := 20) (rs := []) (own0 := own125) (K := [])
        (bs := [0, 1])
        (ds := [⟨[], [3], [], Fct.val 19 (.slice A98 out100.length c99)⟩,
        ⟨[0], [], [], Fct.val 2 (.slice A98 out100.length c99)⟩]) (by kernel_rfl) hz125 hd125 (fun _ h => nomatch h) ?_ ?_
    · refine steps_cons (fun own a wx hf hsl hE => ?_) ?_
      · obtain ⟨s_3, -⟩ := hsl
        exact sg_plain rfl rfl (or_move (s_3.trans e125_3))
      refine steps_cons (fun own a wx hf hsl hE => ?_) ?_
      · obtain ⟨(f_19 : a.eval (.tmp 19) = .slice A98 out100.length c99), -⟩ := hf
        exact sg_plain rfl rfl (or_assign f_19)
      exact steps_nil
    intro own142 a142 w142 hd142 hz142 hk142 hf142 hE142
    obtain ⟨(f_2 : a142.eval (.tmp 2) = .slice A98 out100.length c99), -⟩ := hf142 [1] rfl
    have e142_2 := f_2
    have hX142 := Evo.step hX125 (fun _ => Nat.le_refl 0) hE142 rfl
    have b142_A98 := RwO.evo rfl hE142 b125_A98
    refine fl_ret ?_
    obtain rfl := (osome hs).symm
    exact hret _ _ _ _ (.inl rfl) hd142 (results1_ rfl (RVal.tmp_ e142_2)) ⟨(rl [(101, 1)] own142), (A98, c99), rfl, (Evo.rl_ hX142 (fun _ => Nat.le_refl 0) rfl), (RwO.rl_ (mm := [(101, 1)]) b142_A98)⟩

theorem ref03_Same_w (w : World) (x1 : List (Int × Int)) (Ax1 : Option Addr) (cx1 : Nat) (b2 : List (Int × Int)) (Ab2 : Option Addr) (cb2 : Nat) (hx1 : RdO (fun _ => 0) [0] w R37 Ax1 cx1 x1) (hb2 : RdO (fun _ => 0) [0] w R37 Ab2 cb2 b2) (r : Bool) (hs : ref03_Same x1 b2 = some r) :
    Calls Try.prog 37 #[.slice Ax1 x1.length cx1, .slice Ab2 b2.length cb2] w fun e w' => ∃ own' : Own, e = .returned (.bool r) ∧ Evo [] (fun _ => 0) own' w w' := by
  refine fl_enter (n := 26) rfl rfl rfl (Nat.le_of_ble_eq_true rfl) ?_
  intro a0 Q hd0 hz0 harg hret
  have ha0 := harg 0 _ rfl
  have ha1 := harg 1 _ rfl
  clear harg
  have hE0 : Evo [] (fun _ => 0) (fun _ => 0) w w := Evo.refl _ _ _
  refine rg_plain_seq (n := 26) (rs := []) (own0 := (fun _ => 0)) (K := [])
      (bs := [0])
      (ds := [⟨[], [], [], Fct.val 4 (.bool false)⟩]) (by kernel_rfl) hz0 hd0 (fun _ h => nomatch h) ?_ ?_
  · refine steps_cons (fun own a wx hf hsl hE => ?_) ?_
    · exact sg_plain rfl rfl (or_assign rfl)
    exact steps_nil
  intro own58 a58 w58 hd58 hz58 hk58 hf58 hE58
  have e58_0 : a58.eval (.tmp 0) = .slice Ax1 x1.length cx1 := (hk58 0 rfl).trans ha0
  have e58_1 : a58.eval (.tmp 1) = .slice Ab2 b2.length cb2 := (hk58 1 rfl).trans ha1
  have hX58 := Evo.step hE0 (fun _ => Nat.le_refl 0) hE58 rfl
  have b58_Ax1 := RdO.evo rfl hE58 hx1
  have b58_Ab2 := RdO.evo rfl hE58 hb2
  refine fl_seq (fun Q59 hn59 hp59 => ?_)
  refine rg_plain_seq (n := 26) (rs := []) (own0 := own58) (K := [])
      (bs := [0, 1, 0, 4, 15])
      (ds := [⟨[], [0], [], Fct.val 6 (.slice Ax1 x1.length cx1)⟩,
      ⟨[0], [], [], Fct.val 7 (.int .i64 (x1.length : Int))⟩,
      ⟨[], [1], [], Fct.val 8 (.slice Ab2 b2.length cb2)⟩,
      ⟨[2], [], [], Fct.val 9 (.int .i64 (b2.length : Int))⟩,
      ⟨[1, 3], [], [], Fct.val 10 (.bool (!decide ((x1.length : Int) = (b2.length : Int))))⟩]) (by kernel_rfl) hz58 hd58 (fun _ h => nomatch h) ?_ ?_
  · refine steps_cons (fun own a wx hf hsl hE => ?_) ?_
    · obtain ⟨s_0, -⟩ := hsl
      exact sg_plain rfl rfl (or_move (s_0.trans e58_0))
    refine steps_cons (fun own a wx hf hsl hE => ?_) ?_
    · obtain ⟨(f_6 : a.eval (.tmp 6) = .slice Ax1 x1.length cx1), -⟩ := hf
      exact sg_plain rfl rfl (or_len tu26 f_6 rfl)
    refine steps_cons (fun own a wx hf hsl hE => ?_) ?_
    · obtain ⟨s_1, -⟩ := hsl
      exact sg_plain rfl rfl (or_move (s_1.trans e58_1))
    refine steps_cons (fun own a wx hf hsl hE => ?_) ?_
    · obtain ⟨(f_8 : a.eval (.tmp 8) = .slice Ab2 b2.length cb2), -⟩ := hf
      exact sg_plain rfl rfl (or_len tu26 f_8 rfl)
    refine steps_cons (fun own a wx hf hsl hE => ?_) ?_
    · obtain ⟨(f_7 : a.eval (.tmp 7) = .int .i64 (x1.length : Int)), (f_9 : a.eval (.tmp 9) = .int .i64 (b2.length : Int)), -⟩ := hf
      exact sg_plain rfl rfl (or_neq f_7 f_9 rfl)
    exact steps_nil
  intro own60 a60 w60 hd60 hz60 hk60 hf60 hE60
  have e60_0 : a60.eval (.tmp 0) = .slice Ax1 x1.length cx1 := (hk60 0 rfl).trans e58_0
  have e60_1 : a60.eval (.tmp 1) = .slice Ab2 b2.length cb2 := (hk60 1 rfl).trans e58_1
  obtain ⟨(f_10 : a60.eval (.tmp 10) = .bool (!decide ((x1.length : Int) = (b2.length : Int)))), -⟩ := hf60 [4] rfl
  have e60_10 := f_10
  have hX60 := Evo.step hX58 (fun _ => Nat.le_refl 0) hE60 rfl
  have b60_Ax1 := RdO.evo rfl hE60 b58_Ax1
  have b60_Ab2 := RdO.evo rfl hE60 b58_Ab2
  refine fl_cond e60_10 hs (fun c61 hs => ?_) (fun c61 hs => ?_)
  · refine rg_plain_seq (n := 26) (rs := []) (own0 := own60) (K := [])
        (bs := [0])
        (ds := [⟨[], [], [], Fct.val 4 (.bool false)⟩]) (by kernel_rfl) hz60 hd60 (fun _ h => nomatch h) ?_ ?_
    · refine steps_cons (fun own a wx hf hsl hE => ?_) ?_
      · exact sg_plain rfl rfl (or_assign rfl)
      exact steps_nil
    intro own62 a62 w62 hd62 hz62 hk62 hf62 hE62
    obtain ⟨(f_4 : a62.eval (.tmp 4) = .bool false), -⟩ := hf62 [0] rfl
    have e62_4 := f_4
    have hX62 := Evo.step hX60 (fun _ => Nat.le_refl 0) hE62 rfl
    refine fl_ret ?_
    refine hp59 _ _ _ rfl ?_
    obtain rfl := osome hs
    exact hret _ _ _ _ (.inl rfl) hd62 (results1_ rfl (RVal.tmp_ e62_4)) ⟨own62, rfl, hX62⟩
  refine fl_skip ?_
  refine hn59 _ _ ?_
  refine fl_seq (fun Q63 hn63 hp63 => ?_)
  refine rg_plain_seq (n := 26) (rs := []) (own0 := own60) (K := [])
      (bs := [0])
      (ds := [⟨[], [], [], Fct.val 5 (.int .i64 0)⟩]) (by kernel_rfl) hz60 hd60 (fun _ h => nomatch h) ?_ ?_
  · refine steps_cons (fun own a wx hf hsl hE => ?_) ?_
    · exact sg_plain rfl rfl (or_assign rfl)
    exact steps_nil
  intro own64 a64 w64 hd64 hz64 hk64 hf64 hE64
  have e64_0 : a64.eval (.tmp 0) = .slice Ax1 x1.length cx1 := (hk64 0 rfl).trans e60_0
  have e64_1 : a64.eval (.tmp 1) = .slice Ab2 b2.length cb2 := (hk64 1 rfl).trans e60_1
  obtain ⟨(f_5 : a64.eval (.tmp 5) = .int .i64 0), -⟩ := hf64 [0] rfl
  have e64_5 := f_5
  have hX64 := Evo.step hX60 (fun _ => Nat.le_refl 0) hE64 rfl
  have b64_Ax1 := RdO.evo rfl hE64 b60_Ax1
  have b64_Ab2 := RdO.evo rfl hE64 b60_Ab2
  refine fl_block (fun Q65 hn65 hx65 hp65 => ?_)
  refine fl_loop (body := (fun s => ref03_Same_b1 x1 b2 s)) (z := r) (show loopO _ _ = _ from hs) (fun (i78 : Int) a wx => ∃ (ox : Own), a.defers = [] ∧ a.tmps.size = 26 ∧ a.eval (.tmp 0) = .slice Ax1 x1.length cx1 ∧ a.eval (.tmp 1) = .slice Ab2 b2.length cb2 ∧ a.eval (.tmp 5) = .int .i64 i78 ∧ Evo [] (fun _ => 0) ox w wx ∧ RdO ox [0] wx R37 Ax1 cx1 x1 ∧ RdO ox [0] wx R37 Ab2 cb2 b2) ?_ ?_
  · exact ⟨own64, hd64, hz64, e64_0, e64_1, e64_5, hX64, b64_Ax1, b64_Ab2⟩
  · rintro i78 zz91 a91 w91 ⟨own91, hd92, hz92, e92_0, e92_1, e92_5, hE92, b92_Ax1, b92_Ab2⟩ hs Q91 hn91 hp91 hz91
    have hs : ref03_Same_b1 x1 b2 i78 = some zz91 := hs
    refine fl_seq (fun Q93 hn93 hp93 => ?_)
    refine rg_plain_seq (n := 26) (rs := []) (own0 := own91) (K := [])
        (bs := [0, 0, 2, 7])
        (ds := [⟨[], [5], [], Fct.val 11 (.int .i64 i78)⟩,
        ⟨[], [0], [], Fct.val 12 (.slice Ax1 x1.length cx1)⟩,
        ⟨[1], [], [], Fct.val 13 (.int .i64 (x1.length : Int))⟩,
        ⟨[0, 2], [], [], Fct.val 14 (.bool (decide (i78 < (x1.length : Int))))⟩]) (by kernel_rfl) hz92 hd92 (fun _ h => nomatch h) ?_ ?_
    · refine steps_cons (fun own a wx hf hsl hE => ?_) ?_
      · obtain ⟨s_5, -⟩ := hsl
        exact sg_plain rfl rfl (or_move (s_5.trans e92_5))
      refine steps_cons (fun own a wx hf hsl hE => ?_) ?_
      · obtain ⟨s_0, -⟩ := hsl
        exact sg_plain rfl rfl (or_move (s_0.trans e92_0))
      refine steps_cons (fun own a wx hf hsl hE => ?_) ?_
      · obtain ⟨(f_12 : a.eval (.tmp 12) = .slice Ax1 x1.length cx1), -⟩ := hf
        exact sg_plain rfl rfl (or_len tu26 f_12 rfl)
      refine steps_cons (fun own a wx hf hsl hE => ?_) ?_
      · obtain ⟨(f_11 : a.eval (.tmp 11) = .int .i64 i78), (f_13 : a.eval (.tmp 13) = .int .i64 (x1.length : Int)), -⟩ := hf
        exact sg_plain rfl rfl (or_lss f_11 f_13 rfl)
      exact steps_nil
    intro own94 a94 w94 hd94 hz94 hk94 hf94 hE94
    have e94_0 : a94.eval (.tmp 0) = .slice Ax1 x1.length cx1 := (hk94 0 rfl).trans e92_0
    have e94_1 : a94.eval (.tmp 1) = .slice Ab2 b2.length cb2 := (hk94 1 rfl).trans e92_1
    have e94_5 : a94.eval (.tmp 5) = .int .i64 i78 := (hk94 5 rfl).trans e92_5
    obtain ⟨(f_14 : a94.eval (.tmp 14) = .bool (decide (i78 < (x1.length : Int)))), -⟩ := hf94 [3] rfl
    have e94_14 := f_14
    have hX94 := Evo.step hE92 (fun _ => Nat.le_refl 0) hE94 rfl
    have b94_Ax1 := RdO.evo rfl hE94 b92_Ax1
    have b94_Ab2 := RdO.evo rfl hE94 b92_Ab2
    refine fl_cond e94_14 hs (fun c95 hs => ?_) (fun c95 hs => ?_)
    · refine fl_skip ?_
      refine hn93 _ _ ?_
      refine fl_seq (fun Q96 hn96 hp96 => ?_)
      refine fl_block (fun Q97 hn97 hx97 hp97 => ?_)
      obtain ⟨x98, hx98, hs⟩ := obind hs
      obtain ⟨x99, hx99, hs⟩ := obind hs
      refine rg_draw_seq g_mixed (n := 26) (rs := []) (own0 := own94) (K := [])
          (bs := [0, 0, 3, 7, 0, 0, 48, 112, 255])
          (ds := [⟨[], [0], [], Fct.val 17 (.slice Ax1 x1.length cx1)⟩,
          ⟨[], [5], [], Fct.val 18 (.int .i64 i78)⟩,
          ⟨[0, 1], [], [], Fct.val 19 (.pointer (some ((adr Ax1).add ((i78 : Int).toNat * R37.s))))⟩,
          ⟨[2], [], [], Fct.val 20 (.agg #[.int .i64 x98.1, .int .i64 x98.2])⟩,
          ⟨[], [1], [], Fct.val 21 (.slice Ab2 b2.length cb2)⟩,
          ⟨[], [5], [], Fct.val 22 (.int .i64 i78)⟩,
          ⟨[4, 5], [], [], Fct.val 23 (.pointer (some ((adr Ab2).add ((i78 : Int).toNat * R37.s))))⟩,
          ⟨[6], [], [], Fct.val 24 (.agg #[.int .i64 x99.1, .int .i64 x99.2])⟩,
          ⟨[3, 7], [], [], Fct.val 25 (.bool (!decide (x98 = x99)))⟩]) (by kernel_rfl) hz94 hd94 (fun _ h => nomatch h) ?_ ?_
      · refine steps_cons (fun own a wx hf hsl hE => ?_) ?_
        · obtain ⟨s_0, -⟩ := hsl
          exact sg_plain rfl rfl (or_move (s_0.trans e94_0))
        refine steps_cons (fun own a wx hf hsl hE => ?_) ?_
        · obtain ⟨s_5, -⟩ := hsl
          exact sg_plain rfl rfl (or_move (s_5.trans e94_5))
        refine steps_cons (fun own a wx hf hsl hE => ?_) ?_
        · obtain ⟨(f_17 : a.eval (.tmp 17) = .slice Ax1 x1.length cx1), (f_18 : a.eval (.tmp 18) = .int .i64 i78), -⟩ := hf
          exact sg_plain rfl rfl (or_index (R := R37) (l := x1) tl26 f_17 f_18 (RdO.some_ b94_Ax1 hx98) hx98)
        refine steps_cons (fun own a wx hf hsl hE => ?_) ?_
        · obtain ⟨(f_19 : a.eval (.tmp 19) = .pointer (some ((adr Ax1).add ((i78 : Int).toNat * R37.s)))), -⟩ := hf
          exact sg_plain rfl rfl (or_load (l := E37.f x98) ta37 f_19 (RdO.cells (F := E37) (RdO.evo rfl hE b94_Ax1) hx98) rfl)
        refine steps_cons (fun own a wx hf hsl hE => ?_) ?_
        · obtain ⟨s_1, -⟩ := hsl
          exact sg_plain rfl rfl (or_move (s_1.trans e94_1))
        refine steps_cons (fun own a wx hf hsl hE => ?_) ?_
        · obtain ⟨s_5, -⟩ := hsl
          exact sg_plain rfl rfl (or_move (s_5.trans e94_5))
        refine steps_cons (fun own a wx hf hsl hE => ?_) ?_
        · obtain ⟨(f_21 : a.eval (.tmp 21) = .slice Ab2 b2.length cb2), (f_22 : a.eval (.tmp 22) = .int .i64 i78), -⟩ := hf
          exact sg_plain rfl rfl (or_index (R := R37) (l := b2) tl26 f_21 f_22 (RdO.some_ b94_Ab2 hx99) hx99)
        refine steps_cons (fun own a wx hf hsl hE => ?_) ?_
        · obtain ⟨(f_23 : a.eval (.tmp 23) = .pointer (some ((adr Ab2).add ((i78 : Int).toNat * R37.s)))), -⟩ := hf
          exact sg_plain rfl rfl (or_load (l := E37.f x99) ta37 f_23 (RdO.cells (F := E37) (RdO.evo rfl hE b94_Ab2) hx99) rfl)
        refine steps_cons (fun own a wx hf hsl hE => ?_) ?_
        · obtain ⟨(f_20 : a.eval (.tmp 20) = .agg #[.int .i64 x98.1, .int .i64 x98.2]), (f_24 : a.eval (.tmp 24) = .agg #[.int .i64 x99.1, .int .i64 x99.2]), -⟩ := hf
          exact sg_plain rfl rfl (or_neqA sg37 f_20 f_24 (sn37 x98.1 x98.2 x99.1 x99.2 _) rfl)
        exact steps_nil
      intro own100 a100 w100 hd100 hz100 hk100 hf100 hE100
      have e100_0 : a100.eval (.tmp 0) = .slice Ax1 x1.length cx1 := (hk100 0 rfl).trans e94_0
      have e100_1 : a100.eval (.tmp 1) = .slice Ab2 b2.length cb2 := (hk100 1 rfl).trans e94_1
      have e100_5 : a100.eval (.tmp 5) = .int .i64 i78 := (hk100 5 rfl).trans e94_5
      obtain ⟨(f_25 : a100.eval (.tmp 25) = .bool (!decide (x98 = x99))), -⟩ := hf100 [8] rfl
      have e100_25 := f_25
      have hX100 := Evo.step hX94 (fun _ => Nat.le_refl 0) hE100 rfl
      have b100_Ax1 := RdO.evo rfl hE100 b94_Ax1
      have b100_Ab2 := RdO.evo rfl hE100 b94_Ab2
      refine fl_cond e100_25 hs (fun c101 hs => ?_) (fun c101 hs => ?_)
      · refine rg_plain_seq (n := 26) (rs := []) (own0 := own100) (K := [])
            (bs := [0])
            (ds := [⟨[], [], [], Fct.val 4 (.bool false)⟩]) (by kernel_rfl) hz100 hd100 (fun _ h => nomatch h) ?_ ?_
        · refine steps_cons (fun own a wx hf hsl hE => ?_) ?_
          · exact sg_plain rfl rfl (or_assign rfl)
          exact steps_nil
        intro own102 a102 w102 hd102 hz102 hk102 hf102 hE102
        obtain ⟨(f_4 : a102.eval (.tmp 4) = .bool false), -⟩ := hf102 [0] rfl
        have e102_4 := f_4
        have hX102 := Evo.step hX100 (fun _ => Nat.le_refl 0) hE102 rfl
        refine fl_ret ?_
        refine hp97 _ _ _ rfl ?_
        refine hp96 _ _ _ rfl ?_
        replace hs := hz91 _ hs
        refine hp91 _ _ _ rfl ?_
        refine hp65 _ _ _ rfl ?_
        refine hp63 _ _ _ rfl ?_
        obtain rfl := osome hs
        exact hret _ _ _ _ (.inl rfl) hd102 (results1_ rfl (RVal.tmp_ e102_4)) ⟨own102, rfl, hX102⟩
      refine fl_skip ?_
      refine hn97 _ _ ?_
      refine hn96 _ _ ?_
      refine rg_plain (n := 26) (rs := []) (own0 := own100) (K := [])
          (bs := [0, 1, 3])
          (ds := [⟨[], [5], [], Fct.val 15 (.int .i64 i78)⟩,
          ⟨[0], [], [], Fct.val 16 (.int .i64 (ad i78 1))⟩,
          ⟨[1], [], [], Fct.val 5 (.int .i64 (ad i78 1))⟩]) (by kernel_rfl) hz100 hd100 (fun _ h => nomatch h) ?_ ?_
      · refine steps_cons (fun own a wx hf hsl hE => ?_) ?_
        · obtain ⟨s_5, -⟩ := hsl
          exact sg_plain rfl rfl (or_move (s_5.trans e100_5))
        refine steps_cons (fun own a wx hf hsl hE => ?_) ?_
        · obtain ⟨(f_15 : a.eval (.tmp 15) = .int .i64 i78), -⟩ := hf
          exact sg_plain rfl rfl (or_add f_15 rfl rfl)
        refine steps_cons (fun own a wx hf hsl hE => ?_) ?_
        · obtain ⟨(f_16 : a.eval (.tmp 16) = .int .i64 (ad i78 1)), -⟩ := hf
          exact sg_plain rfl rfl (or_assign f_16)
        exact steps_nil
      intro own103 a103 w103 hd103 hz103 hk103 hf103 hE103
      have e103_0 : a103.eval (.tmp 0) = .slice Ax1 x1.length cx1 := (hk103 0 rfl).trans e100_0
      have e103_1 : a103.eval (.tmp 1) = .slice Ab2 b2.length cb2 := (hk103 1 rfl).trans e100_1
      obtain ⟨(f_5 : a103.eval (.tmp 5) = .int .i64 (ad i78 1)), -⟩ := hf103 [2] rfl
      have e103_5 := f_5
      have hX103 := Evo.step hX100 (fun _ => Nat.le_refl 0) hE103 rfl
      have b103_Ax1 := RdO.evo rfl hE103 b100_Ax1
      have b103_Ab2 := RdO.evo rfl hE103 b100_Ab2
      exact hn91 _ _ _ hs ⟨own103, hd103, hz103, e103_0, e103_1, e103_5, hX103, b103_Ax1, b103_Ab2⟩
    refine fl_exit ?_
    refine hp93 _ _ _ rfl ?_
    replace hs := hz91 _ hs
    refine hp91 _ _ _ rfl ?_
    refine hx65 _ _ ?_
    refine hn63 _ _ ?_
    refine rg_plain_seq (n := 26) (rs := []) (own0 := own94) (K := [])
        (bs := [0])
        (ds := [⟨[], [], [], Fct.val 4 (.bool true)⟩]) (by kernel_rfl) hz94 hd94 (fun _ h => nomatch h) ?_ ?_
    · refine steps_cons (fun own a wx hf hsl hE => ?_) ?_
      · exact sg_plain rfl rfl (or_assign rfl)
      exact steps_nil
    intro own104 a104 w104 hd104 hz104 hk104 hf104 hE104
    obtain ⟨(f_4 : a104.eval (.tmp 4) = .bool true), -⟩ := hf104 [0] rfl
    have e104_4 := f_4
    have hX104 := Evo.step hX94 (fun _ => Nat.le_refl 0) hE104 rfl
    refine fl_ret ?_
    obtain rfl := osome hs
    exact hret _ _ _ _ (.inl rfl) hd104 (results1_ rfl (RVal.tmp_ e104_4)) ⟨own104, rfl, hX104⟩

theorem law03_Same_w (w : World) (l1 : List (Int × Int)) (Al1 : Option Addr) (cl1 : Nat) (x2 : List (Int × Int)) (Ax2 : Option Addr) (cx2 : Nat) (hl1 : RdO (fun _ => 0) [0] w R34 Al1 cl1 l1) (hx2 : RdO (fun _ => 0) [0] w R37 Ax2 cx2 x2) (r : Bool) (hs : law03_Same l1 x2 = some r) :
    Calls Try.prog 27 #[.slice Al1 l1.length cl1, .slice Ax2 x2.length cx2] w fun e w' => ∃ own' : Own, e = .returned (.bool r) ∧ Evo [] (fun _ => 0) own' w w' := by
  refine fl_enter (n := 9) rfl rfl rfl (Nat.le_of_ble_eq_true rfl) ?_
  intro a0 Q hd0 hz0 harg hret
  have ha0 := harg 0 _ rfl
  have ha1 := harg 1 _ rfl
  clear harg
  have hE0 : Evo [] (fun _ => 0) (fun _ => 0) w w := Evo.refl _ _ _
  refine rg_plain_seq (n := 9) (rs := []) (own0 := (fun _ => 0)) (K := [])
      (bs := [0])
      (ds := [⟨[], [], [], Fct.val 4 (.bool false)⟩]) (by kernel_rfl) hz0 hd0 (fun _ h => nomatch h) ?_ ?_
  · refine steps_cons (fun own a wx hf hsl hE => ?_) ?_
    · exact sg_plain rfl rfl (or_assign rfl)
    exact steps_nil
  intro own17 a17 w17 hd17 hz17 hk17 hf17 hE17
  have e17_0 : a17.eval (.tmp 0) = .slice Al1 l1.length cl1 := (hk17 0 rfl).trans ha0
  have e17_1 : a17.eval (.tmp 1) = .slice Ax2 x2.length cx2 := (hk17 1 rfl).trans ha1
  have hX17 := Evo.step hE0 (fun _ => Nat.le_refl 0) hE17 rfl
  have b17_Al1 := RdO.evo rfl hE17 hl1
  have b17_Ax2 := RdO.evo rfl hE17 hx2
  obtain ⟨r18, hr18, hs⟩ := obind hs
  obtain ⟨r21, hr21, hs⟩ := obind hs
  refine rg_plain_seq (n := 9) (rs := []) (own0 := own17) (K := [])
      (bs := [0, 1, 0, 7, 15])
      (ds := [⟨[], [0], [], Fct.val 5 (.slice Al1 l1.length cl1)⟩,
      ⟨[0], [], [], Fct.row 20 [] 6 37 R37 r18⟩,
      ⟨[], [1], [], Fct.val 7 (.slice Ax2 x2.length cx2)⟩,
      ⟨[1, 2], [], [], Fct.val 8 (.bool r21)⟩,
      ⟨[3], [], [], Fct.val 4 (.bool r21)⟩]) (by kernel_rfl) hz17 hd17 (fun _ h => nomatch h) ?_ ?_
  · refine steps_cons (fun own a wx hf hsl hE => ?_) ?_
    · obtain ⟨s_0, -⟩ := hsl
      exact sg_plain rfl rfl (or_move (s_0.trans e17_0))
    refine steps_cons (fun own a wx hf hsl hE => ?_) ?_
    · obtain ⟨(f_5 : a.eval (.tmp 5) = .slice Al1 l1.length cl1), -⟩ := hf
      exact sg_plain rfl rfl (or_call cf8 (args1 f_5) (law01_Ofs_w _ l1 Al1 cl1 (RdO.zero (RdO.evo rfl hE b17_Al1)) r18 hr18) (post_row (m' := (look0 [(1, 20)])) (.inl (Rep.fl_flat _)) rfl rfl (fun _ => rfl)))
    refine steps_cons (fun own a wx hf hsl hE => ?_) ?_
    · obtain ⟨s_1, -⟩ := hsl
      exact sg_plain rfl rfl (or_move (s_1.trans e17_1))
    refine steps_cons (fun own a wx hf hsl hE => ?_) ?_
    · obtain ⟨⟨⟨A19, cA19⟩, (f_6 : a.eval (.tmp 6) = .slice A19 r18.length cA19), (b_A19 : RwO own 20 [] wx 37 R37 A19 cA19 r18)⟩, (f_7 : a.eval (.tmp 7) = .slice Ax2 x2.length cx2), -⟩ := hf
      exact sg_plain rfl rfl (or_call cf37 (args2 f_6 f_7) (ref03_Same_w _ r18 A19 cA19 x2 Ax2 cx2 (RdO.zero (RwO.rd b_A19)) (RdO.zero (RdO.evo rfl hE b17_Ax2)) r21 hr21) post_val)
    refine steps_cons (fun own a wx hf hsl hE => ?_) ?_
    · obtain ⟨(f_8 : a.eval (.tmp 8) = .bool r21), -⟩ := hf
      exact sg_plain rfl rfl (or_assign f_8)
    exact steps_nil
  intro own22 a22 w22 hd22 hz22 hk22 hf22 hE22
  obtain ⟨(f_4 : a22.eval (.tmp 4) = .bool r21), -⟩ := hf22 [4] rfl
  have e22_4 := f_4
  have hX22 := Evo.step hX17 (fun _ => Nat.le_refl 0) hE22 rfl
  refine fl_ret ?_
  obtain rfl := (osome hs).symm
  exact hret _ _ _ _ (.inl rfl) hd22 (results1_ rfl (RVal.tmp_ e22_4)) ⟨own22, rfl, hX22⟩

theorem law22_Same_w (w : World) (l1 : List (List (Int × Int))) (Al1 : Option Addr) (cl1 : Nat) (x2 : List (List (Int × Int))) (Ax2 : Option Addr) (cx2 : Nat) (hl1 : RdO (fun _ => 0) [0] w R24 Al1 cl1 l1) (hx2 : RdO (fun _ => 0) [0] w R26 Ax2 cx2 x2) (r : Bool) (hs : law22_Same l1 x2 = some r) :
    Calls Try.prog 11 #[.slice Al1 l1.length cl1, .slice Ax2 x2.length cx2] w fun e w' => ∃ own' : Own, e = .returned (.bool r) ∧ Evo [] (fun _ => 0) own' w w' := by
  refine fl_enter (n := 27) rfl rfl rfl (Nat.le_of_ble_eq_true rfl) ?_
  intro a0 Q hd0 hz0 harg hret
  have ha0 := harg 0 _ rfl
  have ha1 := harg 1 _ rfl
  clear harg
  have hE0 : Evo [] (fun _ => 0) (fun _ => 0) w w := Evo.refl _ _ _
  refine rg_plain_seq (n := 27) (rs := []) (own0 := (fun _ => 0)) (K := [])
      (bs := [0])
      (ds := [⟨[], [], [], Fct.val 4 (.bool false)⟩]) (by kernel_rfl) hz0 hd0 (fun _ h => nomatch h) ?_ ?_
  · refine steps_cons (fun own a wx hf hsl hE => ?_) ?_
    · exact sg_plain rfl rfl (or_assign rfl)
    exact steps_nil
  intro own67 a67 w67 hd67 hz67 hk67 hf67 hE67
  have e67_0 : a67.eval (.tmp 0) = .slice Al1 l1.length cl1 := (hk67 0 rfl).trans ha0
  have e67_1 : a67.eval (.tmp 1) = .slice Ax2 x2.length cx2 := (hk67 1 rfl).trans ha1
  have hX67 := Evo.step hE0 (fun _ => Nat.le_refl 0) hE67 rfl
  have b67_Al1 := RdO.evo rfl hE67 hl1
  have b67_Ax2 := RdO.evo rfl hE67 hx2
  refine fl_seq (fun Q68 hn68 hp68 => ?_)
  refine rg_plain_seq (n := 27) (rs := []) (own0 := own67) (K := [])
      (bs := [0, 1, 0, 4, 15])
      (ds := [⟨[], [0], [], Fct.val 6 (.slice Al1 l1.length cl1)⟩,
      ⟨[0], [], [], Fct.val 7 (.int .i64 (l1.length : Int))⟩,
      ⟨[], [1], [], Fct.val 8 (.slice Ax2 x2.length cx2)⟩,
      ⟨[2], [], [], Fct.val 9 (.int .i64 (x2.length : Int))⟩,
      ⟨[1, 3], [], [], Fct.val 10 (.bool (!decide ((l1.length : Int) = (x2.length : Int))))⟩]) (by kernel_rfl) hz67 hd67 (fun _ h => nomatch h) ?_ ?_
  · refine steps_cons (fun own a wx hf hsl hE => ?_) ?_
    · obtain ⟨s_0, -⟩ := hsl
      exact sg_plain rfl rfl (or_move (s_0.trans e67_0))
    refine steps_cons (fun own a wx hf hsl hE => ?_) ?_
    · obtain ⟨(f_6 : a.eval (.tmp 6) = .slice Al1 l1.length cl1), -⟩ := hf
      exact sg_plain rfl rfl (or_len tu22 f_6 rfl)
    refine steps_cons (fun own a wx hf hsl hE => ?_) ?_
    · obtain ⟨s_1, -⟩ := hsl
      exact sg_plain rfl rfl (or_move (s_1.trans e67_1))
    refine steps_cons (fun own a wx hf hsl hE => ?_) ?_
    · obtain ⟨(f_8 : a.eval (.tmp 8) = .slice Ax2 x2.length cx2), -⟩ := hf
      exact sg_plain rfl rfl (or_len tu23 f_8 rfl)
    refine steps_cons (fun own a wx hf hsl hE => ?_) ?_
    · obtain ⟨(f_7 : a.eval (.tmp 7) = .int .i64 (l1.length : Int)), (f_9 : a.eval (.tmp 9) = .int .i64 (x2.length : Int)), -⟩ := hf
      exact sg_plain rfl rfl (or_neq f_7 f_9 rfl)
    exact steps_nil
  intro own69 a69 w69 hd69 hz69 hk69 hf69 hE69
  have e69_0 : a69.eval (.tmp 0) = .slice Al1 l1.length cl1 := (hk69 0 rfl).trans e67_0
  have e69_1 : a69.eval (.tmp 1) = .slice Ax2 x2.length cx2 := (hk69 1 rfl).trans e67_1
  obtain ⟨(f_10 : a69.eval (.tmp 10) = .bool (!decide ((l1.length : Int) = (x2.length : Int)))), -⟩ := hf69 [4] rfl
  have e69_10 := f_10
  have hX69 := Evo.step hX67 (fun _ => Nat.le_refl 0) hE69 rfl
  have b69_Al1 := RdO.evo rfl hE69 b67_Al1
  have b69_Ax2 := RdO.evo rfl hE69 b67_Ax2
  refine fl_cond e69_10 hs (fun c70 hs => ?_) (fun c70 hs => ?_)
  · refine rg_plain_seq (n := 27) (rs := []) (own0 := own69) (K := [])
        (bs := [0])
        (ds := [⟨[], [], [], Fct.val 4 (.bool false)⟩]) (by kernel_rfl) hz69 hd69 (fun _ h => nomatch h) ?_ ?_
    · refine steps_cons (fun own a wx hf hsl hE => ?_) ?_
      · exact sg_plain rfl rfl (or_assign rfl)
      exact steps_nil
    intro own71 a71 w71 hd71 hz71 hk71 hf71 hE71
    obtain ⟨(f_4 : a71.eval (.tmp 4) = .bool false), -⟩ := hf71 [0] rfl
    have e71_4 := f_4
    have hX71 := Evo.step hX69 (fun _ => Nat.le_refl 0) hE71 rfl
    refine fl_ret ?_
    refine hp68 _ _ _ rfl ?_
    obtain rfl := osome hs
    exact hret _ _ _ _ (.inl rfl) hd71 (results1_ rfl (RVal.tmp_ e71_4)) ⟨own71, rfl, hX71⟩
  refine fl_skip ?_
  refine hn68 _ _ ?_
  refine fl_seq (fun Q72 hn72 hp72 => ?_)
  refine rg_plain_seq (n := 27) (rs := []) (own0 := own69) (K := [])
      (bs := [0])
      (ds := [⟨[], [], [], Fct.val 5 (.int .i64 0)⟩]) (by kernel_rfl) hz69 hd69 (fun _ h => nomatch h) ?_ ?_
  · refine steps_cons (fun own a wx hf hsl hE => ?_) ?_
    · exact sg_plain rfl rfl (or_assign rfl)
    exact steps_nil
  intro own73 a73 w73 hd73 hz73 hk73 hf73 hE73
  have e73_0 : a73.eval (.tmp 0) = .slice Al1 l1.length cl1 := (hk73 0 rfl).trans e69_0
  have e73_1 : a73.eval (.tmp 1) = .slice Ax2 x2.length cx2 := (hk73 1 rfl).trans e69_1
  obtain ⟨(f_5 : a73.eval (.tmp 5) = .int .i64 0), -⟩ := hf73 [0] rfl
  have e73_5 := f_5
  have hX73 := Evo.step hX69 (fun _ => Nat.le_refl 0) hE73 rfl
  have b73_Al1 := RdO.evo rfl hE73 b69_Al1
  have b73_Ax2 := RdO.evo rfl hE73 b69_Ax2
  refine fl_block (fun Q74 hn74 hx74 hp74 => ?_)
  refine fl_loop (body := (fun s => law22_Same_b1 l1 x2 s)) (z := r) (show loopO _ _ = _ from hs) (fun (i90 : Int) a wx => ∃ (ox : Own), a.defers = [] ∧ a.tmps.size = 27 ∧ a.eval (.tmp 0) = .slice Al1 l1.length cl1 ∧ a.eval (.tmp 1) = .slice Ax2 x2.length cx2 ∧ a.eval (.tmp 5) = .int .i64 i90 ∧ Evo [] (fun _ => 0) ox w wx ∧ RdO ox [0] wx R24 Al1 cl1 l1 ∧ RdO ox [0] wx R26 Ax2 cx2 x2) ?_ ?_
  · exact ⟨own73, hd73, hz73, e73_0, e73_1, e73_5, hX73, b73_Al1, b73_Ax2⟩
  · rintro i90 zz106 a106 w106 ⟨own106, hd107, hz107, e107_0, e107_1, e107_5, hE107, b107_Al1, b107_Ax2⟩ hs Q106 hn106 hp106 hz106
    have hs : law22_Same_b1 l1 x2 i90 = some zz106 := hs
    refine fl_seq (fun Q108 hn108 hp108 => ?_)
    refine rg_plain_seq (n := 27) (rs := []) (own0 := own106) (K := [])
        (bs := [0, 0, 2, 7])
        (ds := [⟨[], [5], [], Fct.val 11 (.int .i64 i90)⟩,
        ⟨[], [0], [], Fct.val 12 (.slice Al1 l1.length cl1)⟩,
        ⟨[1], [], [], Fct.val 13 (.int .i64 (l1.length : Int))⟩,
        ⟨[0, 2], [], [], Fct.val 14 (.bool (decide (i90 < (l1.length : Int))))⟩]) (by kernel_rfl) hz107 hd107 (fun _ h => nomatch h) ?_ ?_
    · refine steps_cons (fun own a wx hf hsl hE => ?_) ?_
      · obtain ⟨s_5, -⟩ := hsl
        exact sg_plain rfl rfl (or_move (s_5.trans e107_5))
      refine steps_cons (fun own a wx hf hsl hE => ?_) ?_
      · obtain ⟨s_0, -⟩ := hsl
        exact sg_plain rfl rfl (or_move (s_0.trans e107_0))
      refine steps_cons (fun own a wx hf hsl hE => ?_) ?_
      · obtain ⟨(f_12 : a.eval (.tmp 12) = .slice Al1 l1.length cl1), -⟩ := hf
        exact sg_plain rfl rfl (or_len tu22 f_12 rfl)
      refine steps_cons (fun own a wx hf hsl hE => ?_) ?_
      · obtain ⟨(f_11 : a.eval (.tmp 11) = .int .i64 i90), (f_13 : a.eval (.tmp 13) = .int .i64 (l1.length : Int)), -⟩ := hf
        exact sg_plain rfl rfl (or_lss f_11 f_13 rfl)
      exact steps_nil
    intro own109 a109 w109 hd109 hz109 hk109 hf109 hE109
    have e109_0 : a109.eval (.tmp 0) = .slice Al1 l1.length cl1 := (hk109 0 rfl).trans e107_0
    have e109_1 : a109.eval (.tmp 1) = .slice Ax2 x2.length cx2 := (hk109 1 rfl).trans e107_1
    have e109_5 : a109.eval (.tmp 5) = .int .i64 i90 := (hk109 5 rfl).trans e107_5
    obtain ⟨(f_14 : a109.eval (.tmp 14) = .bool (decide (i90 < (l1.length : Int)))), -⟩ := hf109 [3] rfl
    have e109_14 := f_14
    have hX109 := Evo.step hE107 (fun _ => Nat.le_refl 0) hE109 rfl
    have b109_Al1 := RdO.evo rfl hE109 b107_Al1
    have b109_Ax2 := RdO.evo rfl hE109 b107_Ax2
    refine fl_cond e109_14 hs (fun c110 hs => ?_) (fun c110 hs => ?_)
    · refine fl_skip ?_
      refine hn108 _ _ ?_
      refine fl_seq (fun Q111 hn111 hp111 => ?_)
      refine fl_block (fun Q112 hn112 hx112 hp112 => ?_)
      obtain ⟨x113, hx113, hs⟩ := obind hs
      obtain ⟨x115, hx115, hs⟩ := obind hs
      obtain ⟨r117, hr117, hs⟩ := obind hs
      refine rg_draw_seq g_mixed (n := 27) (rs := []) (own0 := own109) (K := [])
          (bs := [0, 0, 3, 7, 0, 0, 48, 112, 255, 511])
          (ds := [⟨[], [0], [], Fct.val 17 (.slice Al1 l1.length cl1)⟩,
          ⟨[], [5], [], Fct.val 18 (.int .i64 i90)⟩,
          ⟨[0, 1], [], [], Fct.val 19 (.pointer (some ((adr Al1).add ((i90 : Int).toNat * R24.s))))⟩,
          ⟨[2], [], [], Fct.nest X24 [0] 20 (fun (y : (Option Addr × Nat)) => .slice y.1 x113.length y.2) x113⟩,
          ⟨[], [1], [], Fct.val 21 (.slice Ax2 x2.length cx2)⟩,
          ⟨[], [5], [], Fct.val 22 (.int .i64 i90)⟩,
          ⟨[4, 5], [], [], Fct.val 23 (.pointer (some ((adr Ax2).add ((i90 : Int).toNat * R26.s))))⟩,
          ⟨[6], [], [], Fct.nest X26 [0] 24 (fun (y : (Option Addr × Nat)) => .slice y.1 x115.length y.2) x115⟩,
          ⟨[3, 7], [], [], Fct.val 25 (.bool r117)⟩,
          ⟨[8], [], [], Fct.val 26 (.bool (!r117))⟩]) (by kernel_rfl) hz109 hd109 (fun _ h => nomatch h) ?_ ?_
      · refine steps_cons (fun own a wx hf hsl hE => ?_) ?_
        · obtain ⟨s_0, -⟩ := hsl
          exact sg_plain rfl rfl (or_move (s_0.trans e109_0))
        refine steps_cons (fun own a wx hf hsl hE => ?_) ?_
        · obtain ⟨s_5, -⟩ := hsl
          exact sg_plain rfl rfl (or_move (s_5.trans e109_5))
        refine steps_cons (fun own a wx hf hsl hE => ?_) ?_
        · obtain ⟨(f_17 : a.eval (.tmp 17) = .slice Al1 l1.length cl1), (f_18 : a.eval (.tmp 18) = .int .i64 i90), -⟩ := hf
          exact sg_plain rfl rfl (or_index (R := R24) (l := l1) tl22 f_17 f_18 (RdO.some_ b109_Al1 hx113) hx113)
        refine steps_cons (fun own a wx hf hsl hE => ?_) ?_
        · obtain ⟨(f_19 : a.eval (.tmp 19) = .pointer (some ((adr Al1).add ((i90 : Int).toNat * R24.s)))), -⟩ := hf
          exact sg_plain rfl rfl (or_loadN1 X24 0 to24 f_19 (Addr.add_zero' _).symm (RdO.evo rfl hE b109_Al1) hx113 (fun _ => rfl))
        refine steps_cons (fun own a wx hf hsl hE => ?_) ?_
        · obtain ⟨s_1, -⟩ := hsl
          exact sg_plain rfl rfl (or_move (s_1.trans e109_1))
        refine steps_cons (fun own a wx hf hsl hE => ?_) ?_
        · obtain ⟨s_5, -⟩ := hsl
          exact sg_plain rfl rfl (or_move (s_5.trans e109_5))
        refine steps_cons (fun own a wx hf hsl hE => ?_) ?_
        · obtain ⟨(f_21 : a.eval (.tmp 21) = .slice Ax2 x2.length cx2), (f_22 : a.eval (.tmp 22) = .int .i64 i90), -⟩ := hf
          exact sg_plain rfl rfl (or_index (R := R26) (l := x2) tl23 f_21 f_22 (RdO.some_ b109_Ax2 hx115) hx115)
        refine steps_cons (fun own a wx hf hsl hE => ?_) ?_
        · obtain ⟨(f_23 : a.eval (.tmp 23) = .pointer (some ((adr Ax2).add ((i90 : Int).toNat * R26.s)))), -⟩ := hf
          exact sg_plain rfl rfl (or_loadN1 X26 0 to26 f_23 (Addr.add_zero' _).symm (RdO.evo rfl hE b109_Ax2) hx115 (fun _ => rfl))
        refine steps_cons (fun own a wx hf hsl hE => ?_) ?_
        · obtain ⟨⟨⟨A114, cA114⟩, (f_20 : a.eval (.tmp 20) = .slice A114 x113.length cA114), (b_A114 : RdO own [0] wx R34 A114 cA114 x113)⟩, ⟨⟨A116, cA116⟩, (f_24 : a.eval (.tmp 24) = .slice A116 x115.length cA116), (b_A116 : RdO own [0] wx R37 A116 cA116 x115)⟩, -⟩ := hf
          exact sg_plain rfl rfl (or_call cf27 (args2 f_20 f_24) (law03_Same_w _ x113 A114 cA114 x115 A116 cA116 (RdO.zero b_A114) (RdO.zero b_A116) r117 hr117) post_val)
        refine steps_cons (fun own a wx hf hsl hE => ?_) ?_
        · obtain ⟨(f_25 : a.eval (.tmp 25) = .bool r117), -⟩ := hf
          exact sg_plain rfl rfl (or_not f_25 rfl)
        exact steps_nil
      intro own118 a118 w118 hd118 hz118 hk118 hf118 hE118
      have e118_0 : a118.eval (.tmp 0) = .slice Al1 l1.length cl1 := (hk118 0 rfl).trans e109_0
      have e118_1 : a118.eval (.tmp 1) = .slice Ax2 x2.length cx2 := (hk118 1 rfl).trans e109_1
      have e118_5 : a118.eval (.tmp 5) = .int .i64 i90 := (hk118 5 rfl).trans e109_5
      obtain ⟨(f_26 : a118.eval (.tmp 26) = .bool (!r117)), -⟩ := hf118 [9] rfl
      have e118_26 := f_26
      have hX118 := Evo.step hX109 (fun _ => Nat.le_refl 0) hE118 rfl
      have b118_Al1 := RdO.evo rfl hE118 b109_Al1
      have b118_Ax2 := RdO.evo rfl hE118 b109_Ax2
      refine fl_cond e118_26 hs (fun c119 hs => ?_) (fun c119 hs => ?_)
      · refine rg_plain_seq (n := 27) (rs := []) (own0 := own118) (K := [])
            (bs := [0])
            (ds := [⟨[], [], [], Fct.val 4 (.bool false)⟩]) (by kernel_rfl) hz118 hd118 (fun _ h => nomatch h) ?_ ?_
        · refine steps_cons (fun own a wx hf hsl hE => ?_) ?_
          · exact sg_plain rfl rfl (or_assign rfl)
          exact steps_nil
        intro own120 a120 w120 hd120 hz120 hk120 hf120 hE120
        obtain ⟨(f_4 : a120.eval (.tmp 4) = .bool false), -⟩ := hf120 [0] rfl
        have e120_4 := f_4
        have hX120 := Evo.step hX118 (fun _ => Nat.le_refl 0) hE120 rfl
        refine fl_ret ?_
        refine hp112 _ _ _ rfl ?_
        refine hp111 _ _ _ rfl ?_
        replace hs := hz106 _ hs
        refine hp106 _ _ _ rfl ?_
        refine hp74 _ _ _ rfl ?_
        refine hp72 _ _ _ rfl ?_
        obtain rfl := osome hs
        exact hret _ _ _ _ (.inl rfl) hd120 (results1_ rfl (RVal.tmp_ e120_4)) ⟨own120, rfl, hX120⟩
      refine fl_skip ?_
      refine hn112 _ _ ?_
      refine hn111 _ _ ?_
      refine rg_plain (n := 27) (rs := []) (own0 := own118) (K := [])
          (bs := [0, 1, 3])
          (ds := [⟨[], [5], [], Fct.val 15 (.int .i64 i90)⟩,
          ⟨[0], [], [], Fct.val 16 (.int .i64 (ad i90 1))⟩,
          ⟨[1], [], [], Fct.val 5 (.int .i64 (ad i90 1))⟩]) (by kernel_rfl) hz118 hd118 (fun _ h => nomatch h) ?_ ?_
      · refine steps_cons (fun own a wx hf hsl hE => ?_) ?_
        · obtain ⟨s_5, -⟩ := hsl
          exact sg_plain rfl rfl (or_move (s_5.trans e118_5))
        refine steps_cons (fun own a wx hf hsl hE => ?_) ?_
        · obtain ⟨(f_15 : a.eval (.tmp 15) = .int .i64 i90), -⟩ := hf
          exact sg_plain rfl rfl (or_add f_15 rfl rfl)
        refine steps_cons (fun own a wx hf hsl hE => ?_) ?_
        · obtain ⟨(f_16 : a.eval (.tmp 16) = .int .i64 (ad i90 1)), -⟩ := hf
          exact sg_plain rfl rfl (or_assign f_16)
        exact steps_nil
      intro own121 a121 w121 hd121 hz121 hk121 hf121 hE121
      have e121_0 : a121.eval (.tmp 0) = .slice Al1 l1.length cl1 := (hk121 0 rfl).trans e118_0
      have e121_1 : a121.eval (.tmp 1) = .slice Ax2 x2.length cx2 := (hk121 1 rfl).trans e118_1
      obtain ⟨(f_5 : a121.eval (.tmp 5) = .int .i64 (ad i90 1)), -⟩ := hf121 [2] rfl
      have e121_5 := f_5
      have hX121 := Evo.step hX118 (fun _ => Nat.le_refl 0) hE121 rfl
      have b121_Al1 := RdO.evo rfl hE121 b118_Al1
      have b121_Ax2 := RdO.evo rfl hE121 b118_Ax2
      exact hn106 _ _ _ hs ⟨own121, hd121, hz121, e121_0, e121_1, e121_5, hX121, b121_Al1, b121_Ax2⟩
    refine fl_exit ?_
    refine hp108 _ _ _ rfl ?_
    replace hs := hz106 _ hs
    refine hp106 _ _ _ rfl ?_
    refine hx74 _ _ ?_
    refine hn72 _ _ ?_
    refine rg_plain_seq (n := 27) (rs := []) (own0 := own109) (K := [])
        (bs := [0])
        (ds := [⟨[], [], [], Fct.val 4 (.bool true)⟩]) (by kernel_rfl) hz109 hd109 (fun _ h => nomatch h) ?_ ?_
    · refine steps_cons (fun own a wx hf hsl hE => ?_) ?_
      · exact sg_plain rfl rfl (or_assign rfl)
      exact steps_nil
    intro own122 a122 w122 hd122 hz122 hk122 hf122 hE122
    obtain ⟨(f_4 : a122.eval (.tmp 4) = .bool true), -⟩ := hf122 [0] rfl
    have e122_4 := f_4
    have hX122 := Evo.step hX109 (fun _ => Nat.le_refl 0) hE122 rfl
    refine fl_ret ?_
    obtain rfl := osome hs
    exact hret _ _ _ _ (.inl rfl) hd122 (results1_ rfl (RVal.tmp_ e122_4)) ⟨own122, rfl, hX122⟩

end Go.Proofs.Ythjcpojcpafbjaa
