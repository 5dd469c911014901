import Derived.Test.YtaobbaohelpdgaaWp3
import Derived.Test.YtaobbaohelpdgaaSp5
namespace Go.Proofs.Ytaobbaohelpdgaa
open Go.RowKit
set_option linter.unusedVariables false
set_option maxRecDepth 10000
theorem law01_Of_w (w : World) (p1 : Int × Int) (r : Int × Int) (hs : law01_Of p1 = some r) :
    Calls Try.prog 65 #[.agg #[.int .i64 p1.1, .int .i64 p1.2]] w fun e w' => ∃ own' : Own, e = .returned (.agg #[.int .i64 r.1, .int .i64 r.2]) ∧ Evo [] (fun _ => 0) own' w w' := by
  refine fl_enter (n := 8) rfl rfl rfl (Nat.le_of_ble_eq_true rfl) ?_
  intro a0 Q hd0 hz0 harg hret
  have ha0 := harg 0 _ rfl
  clear harg
  have hE0 : Evo [] (fun _ => 0) (fun _ => 0) w w := Evo.refl _ _ _
  refine rg0_seq 8 (fun _ => 0) [0, 0] [⟨[], [0], [], Fct.blk 19 1 (fun g => .pointer (some ⟨g, 0, none⟩)) 56 #[.int .i64 p1.1, .int .i64 p1.2]⟩, ⟨[], [], [], Fct.blk 21 2 (fun g => .pointer (some ⟨g, 0, none⟩)) 73 #[.int .i64 0, .int .i64 0]⟩] hz0 hd0 (by kernel_rfl) ?_ ?_
  · refine sc (fun _ _ _ _ s _ => px (or_new [(0, .agg #[.int .i64 p1.1, .int .i64 p1.2])] rfl rfl ⟨(s.1.trans ha0), trivial⟩ (by kernel_rfl))) ?_
    refine sc (fun _ _ _ _ _ _ => px (or_new [] rfl rfl trivial (by kernel_rfl))) ?_
    exact steps_nil
  intro own22 a22 w22 hd22 hz22 hk22 hf22 hE22
  obtain ⟨⟨g18, (e22_1 : a22.eval (.tmp 1) = .pointer (some ⟨g18, 0, none⟩)), (b22_g18 : BlkO own22 19 w22 g18 56 #[.int .i64 p1.1, .int .i64 p1.2])⟩, ⟨g20, (e22_2 : a22.eval (.tmp 2) = .pointer (some ⟨g20, 0, none⟩)), (b22_g20 : BlkO own22 21 w22 g20 73 #[.int .i64 0, .int .i64 0])⟩, -⟩ := hf22 [0, 1] rfl
  have hX22 := es_ hE0 hE22
  refine rg_plain_seq (n := 8) (rs := [Fct.at_ 21 g20 73 #[.int .i64 0, .int .i64 0]]) (own0 := own22) (K := [21]) (bs := [0, 1, 0, 4, 15, 31]) (ds := [⟨[], [1], [], Fct.val 3 (.pointer (some ⟨g18, 0, none⟩))⟩, ⟨[0], [], [], Fct.val 4 (.int .i64 p1.1)⟩, ⟨[], [1], [], Fct.val 5 (.pointer (some ⟨g18, 1, none⟩))⟩, ⟨[2], [], [], Fct.val 6 (.int .i64 p1.2)⟩, ⟨[1, 3], [], [], Fct.val 7 (.agg #[.int .i64 p1.1, .int .i64 p1.2])⟩, ⟨[4, 6], [2], [21], Fct.at_ 23 g20 73 #[.int .i64 p1.1, .int .i64 p1.2]⟩]) (by kernel_rfl) hz22 hd22 (by simp only [List.forall_mem_cons]; exact ⟨b22_g20, fun _ h => nomatch h⟩) ?_ ?_
  · refine sc (fun _ _ _ _ s _ => px (or_field fo56_0 (s.1.trans e22_1) (by rfl))) ?_
    refine sc (fun _ _ _ f _ hE => px (or_load1 to3 f.1 (Blk.at_ (be_ hE b22_g18).2 0 rfl))) ?_
    refine sc (fun _ _ _ _ s _ => px (or_field fo56_1 (s.1.trans e22_1) (by rfl))) ?_
    refine sc (fun _ _ _ f _ hE => px (or_load1 to3 f.1 (Blk.at_ (be_ hE b22_g18).2 1 rfl))) ?_
    refine sc (fun _ _ _ f _ _ => px (or_k [(4, .int .i64 p1.1), (6, .int .i64 p1.2)] rfl rfl ⟨f.1, f.2.1, trivial⟩ (by kernel_rfl))) ?_
    refine sc (fun own a wx hf hsl hE => ?_) ?_
    · obtain ⟨f_7, b_g20, -⟩ := hf
      obtain ⟨s_2, -⟩ := hsl
      exact px (or_store (l := #[.int .i64 p1.1, .int .i64 p1.2]) (lab := 21) (lab2 := 23) ts73 (s_2.trans e22_2) f_7 b_g20 (by simp) (by kernel_rfl) (mem_of rfl) (by decide) (by kernel_rfl) (fun own' a' w' ha hb => hb))
    exact steps_nil
  intro own24 a24 w24 hd24 hz24 hk24 hf24 hE24
  have e24_2 := (hk24 2 rfl).trans e22_2
  obtain ⟨(b24_g20 : BlkO own24 23 w24 g20 73 #[.int .i64 p1.1, .int .i64 p1.2]), -⟩ := hf24 [5] rfl
  have hX24 := es_ hX22 hE24
  refine fl_ret ?_
  obtain rfl := (osome hs).symm
  exact hret _ _ _ _ (.inl rfl) hd24 (results1_ rfl (RVal.cell_ e24_2 (run_loadVarAgg (l := [.int .i64 p1.1, .int .i64 p1.2]) ta73 (Blk.cellsFrom b24_g20.2 0 rfl) rfl))) ⟨own24, rfl, hX24⟩
theorem law01_Ofs_w (w : World) (l1 : List (Int × Int)) (Al1 : Option Addr) (cl1 : Nat) (hl1 : RdO (fun _ => 0) [0] w R56 Al1 cl1 l1) (r : List (Int × Int)) (hs : law01_Ofs l1 = some r) :
    Calls Try.prog 55 #[.slice Al1 l1.length cl1] w fun e w' => ∃ (own' : Own) (x : Option Addr × Nat), e = .returned (.slice x.1 r.length x.2) ∧ Evo [] (fun _ => 0) own' w w' ∧ RwO own' 1 [] w' 73 R73 x.1 x.2 r := by
  refine fl_enter (n := 20) rfl rfl rfl (Nat.le_of_ble_eq_true rfl) ?_
  intro a0 Q hd0 hz0 harg hret
  have ha0 := harg 0 _ rfl
  clear harg
  have hE0 : Evo [] (fun _ => 0) (fun _ => 0) w w := Evo.refl _ _ _
  refine rg0_seq 20 (fun _ => 0) (bz 1) [⟨[], [], [], Fct.val 2 (.slice none 0 0)⟩] hz0 hd0 (by kernel_rfl) ?_ ?_
  · refine sc (fun _ _ _ _ _ _ => px (or_assign rfl)) ?_
    exact steps_nil
  intro own77 a77 w77 hd77 hz77 hk77 hf77 hE77
  have e77_0 := (hk77 0 rfl).trans ha0
  have hX77 := es_ hE0 hE77
  have b77_Al1 := RdO.evo rfl hE77 hl1
  refine rg0_seq 20 own77 (bz 1) [⟨[], [], [], Fct.val 3 (.slice none 0 0)⟩] hz77 hd77 (by kernel_rfl) ?_ ?_
  · refine sc (fun _ _ _ _ _ _ => px (or_assign rfl)) ?_
    exact steps_nil
  intro own78 a78 w78 hd78 hz78 hk78 hf78 hE78
  have e78_0 := (hk78 0 rfl).trans e77_0
  obtain ⟨(e78_3 : a78.eval (.tmp 3) = .slice none 0 0), -⟩ := hf78 [0] rfl
  have hX78 := es_ hX77 hE78
  have b78_Al1 := RdO.evo rfl hE78 b77_Al1
  refine fl_seq (fun Q79 hn79 hp79 => ?_)
  refine rg0_seq 20 own78 (bz 1) [⟨[], [], [], Fct.val 4 (.int .i64 0)⟩] hz78 hd78 (by kernel_rfl) ?_ ?_
  · refine sc (fun _ _ _ _ _ _ => px (or_assign rfl)) ?_
    exact steps_nil
  intro own80 a80 w80 hd80 hz80 hk80 hf80 hE80
  have e80_0 := (hk80 0 rfl).trans e78_0
  have e80_3 := (hk80 3 rfl).trans e78_3
  obtain ⟨(e80_4 : a80.eval (.tmp 4) = .int .i64 0), -⟩ := hf80 [0] rfl
  have hX80 := es_ hX78 hE80
  have b80_Al1 := RdO.evo rfl hE80 b78_Al1
  refine fl_block (fun Q81 hn81 hx81 hp81 => ?_)
  refine fl_loop (body := (fun s => law01_Ofs_b1 l1 s.1 s.2)) (z := r) (show loopO _ _ = _ from hs) (fun (s : (List (Int × Int)) × Int) a wx => match s with | (out100, i102) => ∃ (ox : Own) (A98 : Option Addr) (c99 : Nat), a.defers = [] ∧ a.tmps.size = 20 ∧ a.eval (.tmp 0) = .slice Al1 l1.length cl1 ∧ a.eval (.tmp 3) = .slice A98 out100.length c99 ∧ a.eval (.tmp 4) = .int .i64 i102 ∧ Evo [] (fun _ => 0) ox w wx ∧ RdO ox [0] wx R56 Al1 cl1 l1 ∧ RwO ox 101 [] wx 73 R73 A98 c99 out100) ?_ ?_
  · exact ⟨own80, none, 0, hd80, hz80, e80_0, e80_3, e80_4, hX80, b80_Al1, RwO.nil_⟩
  · rintro ⟨out100, i102⟩ zz122 a122 w122 ⟨own122, A98, c99, hd123, hz123, e123_0, e123_3, e123_4, hE123, b123_Al1, b123_A98⟩ hs Q122 hn122 hp122 hz122
    have hs : law01_Ofs_b1 l1 out100 i102 = some zz122 := hs
    refine fl_seq (fun Q124 hn124 hp124 => ?_)
    refine rg0_seq 20 own122 [0, 0, 2, 7] [⟨[], [4], [], Fct.val 5 (.int .i64 i102)⟩, ⟨[], [0], [], Fct.val 6 (.slice Al1 l1.length cl1)⟩, ⟨[1], [], [], Fct.val 7 (.int .i64 (l1.length : Int))⟩, ⟨[0, 2], [], [], Fct.val 8 (.bool (decide (i102 < (l1.length : Int))))⟩] hz123 hd123 (by kernel_rfl) ?_ ?_
    · refine sc (fun _ _ _ _ s _ => px (or_move (s.1.trans e123_4))) ?_
      refine sc (fun _ _ _ _ s _ => px (or_move (s.1.trans e123_0))) ?_
      refine sc (fun _ _ _ f _ _ => px (or_len tu57 f.1 rfl)) ?_
      refine sc (fun _ _ _ f _ _ => px (or_lss f.1 f.2.1 rfl)) ?_
      exact steps_nil
    intro own125 a125 w125 hd125 hz125 hk125 hf125 hE125
    have e125_0 := (hk125 0 rfl).trans e123_0
    have e125_3 := (hk125 3 rfl).trans e123_3
    have e125_4 := (hk125 4 rfl).trans e123_4
    obtain ⟨(e125_8 : a125.eval (.tmp 8) = .bool (decide (i102 < (l1.length : Int)))), -⟩ := hf125 [3] rfl
    have hX125 := es_ hE123 hE125
    have b125_Al1 := RdO.evo rfl hE125 b123_Al1
    have b125_A98 := re_ hE125 b123_A98
    refine fl_cond e125_8 hs (fun c126 hs => ?_) (fun c126 hs => ?_)
    · refine fl_skip ?_
      refine hn124 _ _ ?_
      refine fl_seq (fun Q127 hn127 hp127 => ?_)
      refine fl_block (fun Q128 hn128 hx128 hp128 => ?_)
      obtain ⟨x133, hx133, hs⟩ := obind hs
      obtain ⟨r134, hr134, hs⟩ := obind hs
      obtain ⟨x137, hx137, hs⟩ := obind hs
      refine rg_plain (n := 20) (rs := [Fct.rowAt 101 [] 73 R73 A98 c99 out100]) (own0 := own125) (K := [101]) (bs := [0, 0, 0, 6, 14, 30, 62, 127, 255]) (ds := [⟨[], [3], [], Fct.val 11 (.slice A98 out100.length c99)⟩, ⟨[], [0], [], Fct.val 12 (.slice Al1 l1.length cl1)⟩, ⟨[], [4], [], Fct.val 13 (.int .i64 i102)⟩, ⟨[1, 2], [], [], Fct.val 14 (.pointer (some ((adr Al1).add ((i102 : Int).toNat * R56.s))))⟩, ⟨[3], [], [], Fct.val 15 (.agg #[.int .i64 x133.1, .int .i64 x133.2])⟩, ⟨[4], [], [], Fct.val 16 (.agg #[.int .i64 r134.1, .int .i64 r134.2])⟩, ⟨[5], [], [], Fct.row 136 [] 17 73 R73 [r134]⟩, ⟨[0, 6, 9], [], [101], Fct.row 138 [] 18 73 R73 x137⟩, ⟨[7], [], [], Fct.rel [3, 18] (fun l => ∀ (A139 : Option Addr) (cA139 : Nat), l.getD 1 undef = .slice A139 x137.length cA139 → l.getD 0 undef = .slice A139 x137.length cA139)⟩]) (by kernel_rfl) hz125 hd125 (by simp only [List.forall_mem_cons]; exact ⟨b125_A98, fun _ h => nomatch h⟩) ?_ ?_
      · refine sc (fun _ _ _ _ s _ => px (or_move (s.1.trans e125_3))) ?_
        refine sc (fun _ _ _ _ s _ => px (or_move (s.1.trans e125_0))) ?_
        refine sc (fun _ _ _ _ s _ => px (or_move (s.1.trans e125_4))) ?_
        refine sc (fun _ _ _ f _ _ => px (or_index (R := R56) (l := l1) tl57 f.1 f.2.1 (RdO.some_ b125_Al1 hx133) hx133)) ?_
        refine sc (fun _ _ _ f _ hE => px (or_load (l := E56.f x133) ta56 f.1 (RdO.cells (F := E56) (RdO.evo rfl hE b125_Al1) hx133) rfl)) ?_
        refine sc (fun _ _ _ f _ _ => px (or_call cf65 (args1 f.1) (law01_Of_w _ x133  r134 hr134) post_val)) ?_
        refine sc (fun _ _ _ f _ _ => px (or_lit (lab := 136) (e := 73) (cs := #[.int .i64 r134.1, .int .i64 r134.2]) (F := E73) (or_new [(16, .agg #[.int .i64 r134.1, .int .i64 r134.2])] rfl rfl ⟨f.1, trivial⟩ (by kernel_rfl)) rfl rfl (show 1 ≤ maxLen by decide))) ?_
        refine sc (fun own a wx hf hsl hE => ?_) ?_
        · obtain ⟨f_11, ⟨⟨A135, cA135⟩, f_17, b_A135⟩, b_A98, -⟩ := hf
          exact px (or_append (R := R73) (lab := 101) (lab2 := 138) (L := []) (L3 := []) tp76 f_11 b_A98 (by decide) f_17 (RwO.rd b_A135) hx137 (by decide) (by decide) (mem_of rfl) (.inl (Rep.fl_flat _)))
        refine sc (fun own a wx hf hsl hE => ?_) ?_
        · obtain ⟨⟨⟨A139, cA139⟩, (f_18 : a.eval (.tmp 18) = .slice A139 x137.length cA139), b_A139⟩, -⟩ := hf
          exact px (or_mono (f := Fct.val 3 (.slice A139 x137.length cA139)) (or_assign f_18) (fun own' a' w' v' hp h => fun _ _ h0' => by cases (f_18.symm.trans ((hp.2 18 (by decide)).symm.trans h0')); exact h))
        exact steps_nil
      intro own140 a140 w140 hd140 hz140 hk140 hf140 hE140
      have e140_0 := (hk140 0 rfl).trans e125_0
      have e140_4 := (hk140 4 rfl).trans e125_4
      obtain ⟨⟨⟨A139, cA139⟩, (f_18 : a140.eval (.tmp 18) = .slice A139 x137.length cA139), (b140_A139 : RwO own140 138 [] w140 73 R73 A139 cA139 x137)⟩, (q_3 : ∀ (A139 : Option Addr) (cA139 : Nat), a140.eval (.tmp 18) = .slice A139 x137.length cA139 → a140.eval (.tmp 3) = .slice A139 x137.length cA139), -⟩ := hf140 [7, 8] rfl
      have e140_3 := q_3 _ _ f_18
      have hX140 := es_ hX125 hE140
      have b140_Al1 := RdO.evo rfl hE140 b125_Al1
      refine hn128 _ _ ?_
      refine hn127 _ _ ?_
      refine rg0 20 own140 (bz 3) [⟨[], [4], [], Fct.val 9 (.int .i64 i102)⟩, ⟨[0], [], [], Fct.val 10 (.int .i64 (ad i102 1))⟩, ⟨[1], [], [], Fct.val 4 (.int .i64 (ad i102 1))⟩] hz140 hd140 (by kernel_rfl) ?_ ?_
      · refine sc (fun _ _ _ _ s _ => px (or_move (s.1.trans e140_4))) ?_
        refine sc (fun _ _ _ f _ _ => px (or_add f.1 rfl rfl)) ?_
        refine sc (fun _ _ _ f _ _ => px (or_assign f.1)) ?_
        exact steps_nil
      intro own141 a141 w141 hd141 hz141 hk141 hf141 hE141
      have e141_0 := (hk141 0 rfl).trans e140_0
      have e141_3 := (hk141 3 rfl).trans e140_3
      obtain ⟨(e141_4 : a141.eval (.tmp 4) = .int .i64 (ad i102 1)), -⟩ := hf141 [2] rfl
      have hX141 := es_ hX140 hE141
      have b141_Al1 := RdO.evo rfl hE141 b140_Al1
      have b141_A139 := re_ hE141 b140_A139
      exact hn122 _ _ _ hs ⟨(rl [(138, 101)] own141), A139, cA139, hd141, hz141, e141_0, e141_3, e141_4, (Evo.rl_ hX141 (fun _ => Nat.le_refl 0) rfl), (RdO.rl_ (mm := [(138, 101)]) b141_Al1), (RwO.rl_ (mm := [(138, 101)]) b141_A139)⟩
    refine fl_exit ?_
    refine hp124 _ _ _ rfl ?_
    replace hs := hz122 _ hs
    refine hp122 _ _ _ rfl ?_
    refine hx81 _ _ ?_
    refine hn79 _ _ ?_
    refine rg0_seq 20 own125 (bz 2) [⟨[], [3], [], Fct.val 19 (.slice A98 out100.length c99)⟩, ⟨[0], [], [], Fct.val 2 (.slice A98 out100.length c99)⟩] hz125 hd125 (by kernel_rfl) ?_ ?_
    · refine sc (fun _ _ _ _ s _ => px (or_move (s.1.trans e125_3))) ?_
      refine sc (fun _ _ _ f _ _ => px (or_assign f.1)) ?_
      exact steps_nil
    intro own142 a142 w142 hd142 hz142 hk142 hf142 hE142
    obtain ⟨(e142_2 : a142.eval (.tmp 2) = .slice A98 out100.length c99), -⟩ := hf142 [1] rfl
    have hX142 := es_ hX125 hE142
    have b142_A98 := re_ hE142 b125_A98
    refine fl_ret ?_
    obtain rfl := (osome hs).symm
    exact hret _ _ _ _ (.inl rfl) hd142 (results1_ rfl (RVal.tmp_ e142_2)) ⟨(rl [(101, 1)] own142), (A98, c99), rfl, (Evo.rl_ hX142 (fun _ => Nat.le_refl 0) rfl), (RwO.rl_ (mm := [(101, 1)]) b142_A98)⟩
theorem law14_Ofs_w (w : World) (l1 : List ((List (Int × Int)) × Int × Int)) (Al1 : Option Addr) (cl1 : Nat) (hl1 : RdO (fun _ => 0) [0] w R59 Al1 cl1 l1) (r : List ((List (Int × Int)) × Int × Int)) (hs : law14_Ofs l1 = some r) :
    Calls Try.prog 35 #[.slice Al1 l1.length cl1] w fun e w' => ∃ (own' : Own) (x : Option Addr × Nat), e = .returned (.slice x.1 r.length x.2) ∧ Evo [] (fun _ => 0) own' w w' ∧ RwO own' 1 [2] w' 78 R78 x.1 x.2 r := by
  refine fl_enter (n := 32) rfl rfl rfl (Nat.le_of_ble_eq_true rfl) ?_
  intro a0 Q hd0 hz0 harg hret
  have ha0 := harg 0 _ rfl
  clear harg
  have hE0 : Evo [] (fun _ => 0) (fun _ => 0) w w := Evo.refl _ _ _
  refine rg0_seq 32 (fun _ => 0) (bz 1) [⟨[], [], [], Fct.val 2 (.slice none 0 0)⟩] hz0 hd0 (by kernel_rfl) ?_ ?_
  · refine sc (fun _ _ _ _ _ _ => px (or_assign rfl)) ?_
    exact steps_nil
  intro own103 a103 w103 hd103 hz103 hk103 hf103 hE103
  have e103_0 := (hk103 0 rfl).trans ha0
  have hX103 := es_ hE0 hE103
  have b103_Al1 := RdO.evo rfl hE103 hl1
  refine rg0_seq 32 own103 (bz 1) [⟨[], [], [], Fct.val 3 (.slice none 0 0)⟩] hz103 hd103 (by kernel_rfl) ?_ ?_
  · refine sc (fun _ _ _ _ _ _ => px (or_assign rfl)) ?_
    exact steps_nil
  intro own104 a104 w104 hd104 hz104 hk104 hf104 hE104
  have e104_0 := (hk104 0 rfl).trans e103_0
  obtain ⟨(e104_3 : a104.eval (.tmp 3) = .slice none 0 0), -⟩ := hf104 [0] rfl
  have hX104 := es_ hX103 hE104
  have b104_Al1 := RdO.evo rfl hE104 b103_Al1
  refine fl_seq (fun Q105 hn105 hp105 => ?_)
  refine rg0_seq 32 own104 (bz 1) [⟨[], [], [], Fct.val 4 (.int .i64 0)⟩] hz104 hd104 (by kernel_rfl) ?_ ?_
  · refine sc (fun _ _ _ _ _ _ => px (or_assign rfl)) ?_
    exact steps_nil
  intro own106 a106 w106 hd106 hz106 hk106 hf106 hE106
  have e106_0 := (hk106 0 rfl).trans e104_0
  have e106_3 := (hk106 3 rfl).trans e104_3
  obtain ⟨(e106_4 : a106.eval (.tmp 4) = .int .i64 0), -⟩ := hf106 [0] rfl
  have hX106 := es_ hX104 hE106
  have b106_Al1 := RdO.evo rfl hE106 b104_Al1
  refine fl_block (fun Q107 hn107 hx107 hp107 => ?_)
  refine fl_loop (body := (fun s => law14_Ofs_b1 l1 s.1 s.2)) (z := r) (show loopO _ _ = _ from hs) (fun (s : (List ((List (Int × Int)) × Int × Int)) × Int) a wx => match s with | (out131, i134) => ∃ (ox : Own) (A129 : Option Addr) (c130 : Nat), a.defers = [] ∧ a.tmps.size = 32 ∧ a.eval (.tmp 0) = .slice Al1 l1.length cl1 ∧ a.eval (.tmp 3) = .slice A129 out131.length c130 ∧ a.eval (.tmp 4) = .int .i64 i134 ∧ Evo [] (fun _ => 0) ox w wx ∧ RdO ox [0] wx R59 Al1 cl1 l1 ∧ RwO ox 132 [133] wx 78 R78 A129 c130 out131) ?_ ?_
  · exact ⟨own106, none, 0, hd106, hz106, e106_0, e106_3, e106_4, hX106, b106_Al1, RwO.nil_⟩
  · rintro ⟨out131, i134⟩ zz164 a164 w164 ⟨own164, A129, c130, hd165, hz165, e165_0, e165_3, e165_4, hE165, b165_Al1, b165_A129⟩ hs Q164 hn164 hp164 hz164
    have hs : law14_Ofs_b1 l1 out131 i134 = some zz164 := hs
    refine fl_seq (fun Q166 hn166 hp166 => ?_)
    refine rg0_seq 32 own164 [0, 0, 2, 7] [⟨[], [4], [], Fct.val 5 (.int .i64 i134)⟩, ⟨[], [0], [], Fct.val 6 (.slice Al1 l1.length cl1)⟩, ⟨[1], [], [], Fct.val 7 (.int .i64 (l1.length : Int))⟩, ⟨[0, 2], [], [], Fct.val 8 (.bool (decide (i134 < (l1.length : Int))))⟩] hz165 hd165 (by kernel_rfl) ?_ ?_
    · refine sc (fun _ _ _ _ s _ => px (or_move (s.1.trans e165_4))) ?_
      refine sc (fun _ _ _ _ s _ => px (or_move (s.1.trans e165_0))) ?_
      refine sc (fun _ _ _ f _ _ => px (or_len tu22 f.1 rfl)) ?_
      refine sc (fun _ _ _ f _ _ => px (or_lss f.1 f.2.1 rfl)) ?_
      exact steps_nil
    intro own167 a167 w167 hd167 hz167 hk167 hf167 hE167
    have e167_0 := (hk167 0 rfl).trans e165_0
    have e167_3 := (hk167 3 rfl).trans e165_3
    have e167_4 := (hk167 4 rfl).trans e165_4
    obtain ⟨(e167_8 : a167.eval (.tmp 8) = .bool (decide (i134 < (l1.length : Int)))), -⟩ := hf167 [3] rfl
    have hX167 := es_ hE165 hE167
    have b167_Al1 := RdO.evo rfl hE167 b165_Al1
    have b167_A129 := re_ hE167 b165_A129
    refine fl_cond e167_8 hs (fun c168 hs => ?_) (fun c168 hs => ?_)
    · refine fl_skip ?_
      refine hn166 _ _ ?_
      refine fl_seq (fun Q169 hn169 hp169 => ?_)
      refine fl_block (fun Q170 hn170 hx170 hp170 => ?_)
      obtain ⟨x180, hx180, hs⟩ := obind hs
      obtain ⟨r182, hr182, hs⟩ := obind hs
      obtain ⟨x185, hx185, hs⟩ := obind hs
      obtain ⟨x186, hx186, hs⟩ := obind hs
      obtain ⟨x189, hx189, hs⟩ := obind hs
      refine rg_draw g_mixed (n := 32) (rs := [Fct.rowAt 132 [133] 78 R78 A129 c130 out131]) (own0 := own167) (K := [132]) (bs := [0, 0, 0, 6, 14, 30, 62, 0, 0, 384, 896, 1920, 0, 0, 12288, 28672, 61440, 131070, 262142, 524287, 1048575]) (ds := [⟨[], [3], [], Fct.val 11 (.slice A129 out131.length c130)⟩, ⟨[], [0], [], Fct.val 12 (.slice Al1 l1.length cl1)⟩, ⟨[], [4], [], Fct.val 13 (.int .i64 i134)⟩, ⟨[1, 2], [], [], Fct.val 14 (.pointer (some ((adr Al1).add ((i134 : Int).toNat * R59.s))))⟩, ⟨[3], [], [], Fct.val 15 (.pointer (some ((adr Al1).add ((i134 : Int).toNat * R59.s))))⟩, ⟨[4], [], [], Fct.nest X59 [0] 16 (fun (y : ((Option Addr × Nat) × Unit × Unit)) => .slice y.1.1 x180.1.length y.1.2) x180⟩, ⟨[5], [], [], Fct.row 184 [] 17 73 R73 r182⟩, ⟨[], [0], [], Fct.val 18 (.slice Al1 l1.length cl1)⟩, ⟨[], [4], [], Fct.val 19 (.int .i64 i134)⟩, ⟨[7, 8], [], [], Fct.val 20 (.pointer (some ((adr Al1).add ((i134 : Int).toNat * R59.s))))⟩, ⟨[9], [], [], Fct.val 21 (.pointer (some (((adr Al1).add ((i134 : Int).toNat * R59.s)).add 1)))⟩, ⟨[10], [], [], Fct.nest X59 [0] 22 (fun (y : ((Option Addr × Nat) × Unit × Unit)) => .int .i64 x185.2.1) x185⟩, ⟨[], [0], [], Fct.val 23 (.slice Al1 l1.length cl1)⟩, ⟨[], [4], [], Fct.val 24 (.int .i64 i134)⟩, ⟨[12, 13], [], [], Fct.val 25 (.pointer (some ((adr Al1).add ((i134 : Int).toNat * R59.s))))⟩, ⟨[14], [], [], Fct.val 26 (.pointer (some (((adr Al1).add ((i134 : Int).toNat * R59.s)).add 2)))⟩, ⟨[15], [], [], Fct.nest X59 [0] 27 (fun (y : ((Option Addr × Nat) × Unit × Unit)) => .int .i64 x186.2.2) x186⟩, ⟨[6, 11, 16], [], [], Fct.rel [28, 17] (fun l => ∀ (A183 : Option Addr) (cA183 : Nat), l.getD 1 undef = .slice A183 r182.length cA183 → l.getD 0 undef = .agg #[.slice A183 r182.length cA183, .int .i64 x185.2.1, .int .i64 x186.2.2])⟩, ⟨[17, 6], [], [], Fct.row 188 [184] 29 78 R78 [(r182, x185.2.1, x186.2.2)]⟩, ⟨[0, 18, 21], [], [132], Fct.row 190 [133, 184, 188] 30 78 R78 x189⟩, ⟨[19], [], [], Fct.rel [3, 30] (fun l => ∀ (A191 : Option Addr) (cA191 : Nat), l.getD 1 undef = .slice A191 x189.length cA191 → l.getD 0 undef = .slice A191 x189.length cA191)⟩]) (by kernel_rfl) hz167 hd167 (by simp only [List.forall_mem_cons]; exact ⟨b167_A129, fun _ h => nomatch h⟩) ?_ ?_
      · refine sc (fun _ _ _ _ s _ => px (or_move (s.1.trans e167_3))) ?_
        refine sc (fun _ _ _ _ s _ => px (or_move (s.1.trans e167_0))) ?_
        refine sc (fun _ _ _ _ s _ => px (or_move (s.1.trans e167_4))) ?_
        refine sc (fun _ _ _ f _ _ => px (or_index (R := R59) (l := l1) tl22 f.1 f.2.1 (RdO.some_ b167_Al1 hx180) hx180)) ?_
        refine sc (fun _ _ _ f _ _ => px (or_field fo59_0 f.1 (Addr.add_zero' _))) ?_
        refine sc (fun _ _ _ f _ hE => px (or_loadN1 X59 0 to57 f.1 (Addr.add_zero' _).symm (RdO.evo rfl hE b167_Al1) hx180 (fun _ => rfl))) ?_
        refine sc (fun own a wx hf hsl hE => ?_) ?_
        · obtain ⟨⟨⟨⟨A181, cA181⟩, _, _⟩, f_16, ⟨b_A181, -, -⟩⟩, -⟩ := hf
          exact px (or_call cf55 (args1 f_16) (law01_Ofs_w _ x180.1 A181 cA181 (RdO.zero b_A181) r182 hr182) (post_row (m' := (look0 [(1, 184)])) (.inl (Rep.fl_flat _)) rfl rfl (fun _ => rfl)))
        refine sc (fun _ _ _ _ s _ => px (or_move (s.1.trans e167_0))) ?_
        refine sc (fun _ _ _ _ s _ => px (or_move (s.1.trans e167_4))) ?_
        refine sc (fun _ _ _ f _ _ => px (or_index (R := R59) (l := l1) tl22 f.1 f.2.1 (RdO.some_ b167_Al1 hx185) hx185)) ?_
        refine sc (fun _ _ _ f _ _ => px (or_field fo59_1 f.1 rfl)) ?_
        refine sc (fun _ _ _ f _ hE => px (or_loadN1 X59 1 to3 f.1 rfl (RdO.evo rfl hE b167_Al1) hx185 (fun _ => rfl))) ?_
        refine sc (fun _ _ _ _ s _ => px (or_move (s.1.trans e167_0))) ?_
        refine sc (fun _ _ _ _ s _ => px (or_move (s.1.trans e167_4))) ?_
        refine sc (fun _ _ _ f _ _ => px (or_index (R := R59) (l := l1) tl22 f.1 f.2.1 (RdO.some_ b167_Al1 hx186) hx186)) ?_
        refine sc (fun _ _ _ f _ _ => px (or_field fo59_2 f.1 rfl)) ?_
        refine sc (fun _ _ _ f _ hE => px (or_loadN1 X59 2 to3 f.1 rfl (RdO.evo rfl hE b167_Al1) hx186 (fun _ => rfl))) ?_
        refine sc (fun own a wx hf hsl hE => ?_) ?_
        · obtain ⟨⟨⟨A183, cA183⟩, (f_17 : a.eval (.tmp 17) = .slice A183 r182.length cA183), b_A183⟩, ⟨⟨_, _, _⟩, f_22, ⟨-, -, -⟩⟩, ⟨⟨_, _, _⟩, f_27, ⟨-, -, -⟩⟩, -⟩ := hf
          exact px (or_mono (f := Fct.val 28 (.agg #[.slice A183 r182.length cA183, .int .i64 x185.2.1, .int .i64 x186.2.2])) (or_k [(17, .slice A183 r182.length cA183), (22, .int .i64 x185.2.1), (27, .int .i64 x186.2.2)] rfl rfl ⟨f_17, f_22, f_27, trivial⟩ (by kernel_rfl)) (fun own' a' w' v' hp h => fun _ _ h0' => by cases (f_17.symm.trans ((hp.2 17 (by decide)).symm.trans h0')); exact h))
        refine sc (fun own a wx hf hsl hE => ?_) ?_
        · obtain ⟨(q_28 : ∀ (A183 : Option Addr) (cA183 : Nat), a.eval (.tmp 17) = .slice A183 r182.length cA183 → a.eval (.tmp 28) = .agg #[.slice A183 r182.length cA183, .int .i64 x185.2.1, .int .i64 x186.2.2]), ⟨⟨A183, cA183⟩, f_17, b_A183⟩, -⟩ := hf
          have f_28 := q_28 _ _ f_17
          exact px (or_litN (R := R78) (lab := 188) (L := [184]) (e := 78) (cs := #[.slice A183 r182.length cA183, .int .i64 x185.2.1, .int .i64 x186.2.2]) (l := [(r182, x185.2.1, x186.2.2)]) (n := 1) [(28, .agg #[.slice A183 r182.length cA183, .int .i64 x185.2.1, .int .i64 x186.2.2])] rfl rfl ⟨f_28, trivial⟩ (by kernel_rfl) rfl (by decide) ⟨(Ex.iff X78).2 ⟨((A183, cA183), (), ()), rfl, ⟨(RwO.rd b_A183), trivial, trivial⟩⟩, rfl⟩ rfl)
        refine sc (fun own a wx hf hsl hE => ?_) ?_
        · obtain ⟨f_11, ⟨⟨A187, cA187⟩, f_29, b_A187⟩, b_A129, -⟩ := hf
          exact px (or_append (R := R78) (lab := 132) (lab2 := 190) (L := [133]) (L3 := [133, 184, 188]) tp36 f_11 b_A129 (by decide) f_29 (RwO.rd b_A187) hx189 (by decide) (by decide) (mem_of rfl) (.inr ⟨rfl, rfl, by decide, by decide⟩))
        refine sc (fun own a wx hf hsl hE => ?_) ?_
        · obtain ⟨⟨⟨A191, cA191⟩, (f_30 : a.eval (.tmp 30) = .slice A191 x189.length cA191), b_A191⟩, -⟩ := hf
          exact px (or_mono (f := Fct.val 3 (.slice A191 x189.length cA191)) (or_assign f_30) (fun own' a' w' v' hp h => fun _ _ h0' => by cases (f_30.symm.trans ((hp.2 30 (by decide)).symm.trans h0')); exact h))
        exact steps_nil
      intro own192 a192 w192 hd192 hz192 hk192 hf192 hE192
      have e192_0 := (hk192 0 rfl).trans e167_0
      have e192_4 := (hk192 4 rfl).trans e167_4
      obtain ⟨⟨⟨A191, cA191⟩, (f_30 : a192.eval (.tmp 30) = .slice A191 x189.length cA191), (b192_A191 : RwO own192 190 [133, 184, 188] w192 78 R78 A191 cA191 x189)⟩, (q_3 : ∀ (A191 : Option Addr) (cA191 : Nat), a192.eval (.tmp 30) = .slice A191 x189.length cA191 → a192.eval (.tmp 3) = .slice A191 x189.length cA191), -⟩ := hf192 [19, 20] rfl
      have e192_3 := q_3 _ _ f_30
      have hX192 := es_ hX167 hE192
      have b192_Al1 := RdO.evo rfl hE192 b167_Al1
      refine hn170 _ _ ?_
      refine hn169 _ _ ?_
      refine rg0 32 own192 (bz 3) [⟨[], [4], [], Fct.val 9 (.int .i64 i134)⟩, ⟨[0], [], [], Fct.val 10 (.int .i64 (ad i134 1))⟩, ⟨[1], [], [], Fct.val 4 (.int .i64 (ad i134 1))⟩] hz192 hd192 (by kernel_rfl) ?_ ?_
      · refine sc (fun _ _ _ _ s _ => px (or_move (s.1.trans e192_4))) ?_
        refine sc (fun _ _ _ f _ _ => px (or_add f.1 rfl rfl)) ?_
        refine sc (fun _ _ _ f _ _ => px (or_assign f.1)) ?_
        exact steps_nil
      intro own193 a193 w193 hd193 hz193 hk193 hf193 hE193
      have e193_0 := (hk193 0 rfl).trans e192_0
      have e193_3 := (hk193 3 rfl).trans e192_3
      obtain ⟨(e193_4 : a193.eval (.tmp 4) = .int .i64 (ad i134 1)), -⟩ := hf193 [2] rfl
      have hX193 := es_ hX192 hE193
      have b193_Al1 := RdO.evo rfl hE193 b192_Al1
      have b193_A191 := re_ hE193 b192_A191
      exact hn164 _ _ _ hs ⟨(rl [(184, 133), (188, 133), (190, 132)] own193), A191, cA191, hd193, hz193, e193_0, e193_3, e193_4, (Evo.rl_ hX193 (fun _ => Nat.le_refl 0) rfl), (RdO.rl_ (mm := [(184, 133), (188, 133), (190, 132)]) b193_Al1), (RwO.more (RwO.rl_ (mm := [(184, 133), (188, 133), (190, 132)]) b193_A191) (by decide))⟩
    refine fl_exit ?_
    refine hp166 _ _ _ rfl ?_
    replace hs := hz164 _ hs
    refine hp164 _ _ _ rfl ?_
    refine hx107 _ _ ?_
    refine hn105 _ _ ?_
    refine rg0_seq 32 own167 (bz 2) [⟨[], [3], [], Fct.val 31 (.slice A129 out131.length c130)⟩, ⟨[0], [], [], Fct.val 2 (.slice A129 out131.length c130)⟩] hz167 hd167 (by kernel_rfl) ?_ ?_
    · refine sc (fun _ _ _ _ s _ => px (or_move (s.1.trans e167_3))) ?_
      refine sc (fun _ _ _ f _ _ => px (or_assign f.1)) ?_
      exact steps_nil
    intro own194 a194 w194 hd194 hz194 hk194 hf194 hE194
    obtain ⟨(e194_2 : a194.eval (.tmp 2) = .slice A129 out131.length c130), -⟩ := hf194 [1] rfl
    have hX194 := es_ hX167 hE194
    have b194_A129 := re_ hE194 b167_A129
    refine fl_ret ?_
    obtain rfl := (osome hs).symm
    exact hret _ _ _ _ (.inl rfl) hd194 (results1_ rfl (RVal.tmp_ e194_2)) ⟨(rl [(132, 1), (133, 2)] own194), (A129, c130), rfl, (Evo.rl_ hX194 (fun _ => Nat.le_refl 0) rfl), (RwO.rl_ (mm := [(132, 1), (133, 2)]) b194_A129)⟩
theorem law15_Of_w (w : World) (own : Own) (n1 : (List ((List (Int × Int)) × Int × Int)) × (List (List (List Int)))) (An1_0 : Option Addr) (cn1_0 : Nat) (An1_1 : Option Addr) (cn1_1 : Nat) (hown : ∀ b, own b ≤ 1) (hAn1_0 : RdO own [1] w R59 An1_0 cn1_0 n1.1) (hAn1_1 : RdO own [1] w R27 An1_1 cn1_1 n1.2) (r : (List ((List (Int × Int)) × Int × Int)) × (List (List (List Int)))) (hs : law15_Of n1 = some r) :
    Calls Try.prog 17 #[.agg #[.slice An1_0 n1.1.length cn1_0, .slice An1_1 n1.2.length cn1_1]] w fun e w' => ∃ (own' : Own) (x : (Option Addr × Nat) × (Option Addr × Nat)), e = .returned (.agg #[.slice x.1.1 r.1.length x.1.2, .slice x.2.1 r.2.length x.2.2]) ∧ Evo [] own own' w w' ∧ RwO own' 2 [1, 3] w' 78 R78 x.1.1 x.1.2 r.1 ∧ RdO own' [1, 4] w' R27 x.2.1 x.2.2 r.2 := by
  refine fl_enter (n := 9) rfl rfl rfl (Nat.le_of_ble_eq_true rfl) ?_
  intro a0 Q hd0 hz0 harg hret
  have ha0 := harg 0 _ rfl
  clear harg
  have hE0 : Evo [] own own w w := Evo.refl _ _ _
  refine rg0_seq 9 own [0, 0] [⟨[], [0], [], Fct.blk 28 1 (fun g => .pointer (some ⟨g, 0, none⟩)) 25 #[.slice An1_0 n1.1.length cn1_0, .slice An1_1 n1.2.length cn1_1]⟩, ⟨[], [], [], Fct.blk 30 2 (fun g => .pointer (some ⟨g, 0, none⟩)) 38 #[.slice none 0 0, .slice none 0 0]⟩] hz0 hd0 (by kernel_rfl) ?_ ?_
  · refine sc (fun _ _ _ _ s _ => px (or_new [(0, .agg #[.slice An1_0 n1.1.length cn1_0, .slice An1_1 n1.2.length cn1_1])] rfl rfl ⟨(s.1.trans ha0), trivial⟩ (by kernel_rfl))) ?_
    refine sc (fun _ _ _ _ _ _ => px (or_new [] rfl rfl trivial (by kernel_rfl))) ?_
    exact steps_nil
  intro own31 a31 w31 hd31 hz31 hk31 hf31 hE31
  obtain ⟨⟨g27, (e31_1 : a31.eval (.tmp 1) = .pointer (some ⟨g27, 0, none⟩)), (b31_g27 : BlkO own31 28 w31 g27 25 #[.slice An1_0 n1.1.length cn1_0, .slice An1_1 n1.2.length cn1_1])⟩, ⟨g29, (e31_2 : a31.eval (.tmp 2) = .pointer (some ⟨g29, 0, none⟩)), (b31_g29 : BlkO own31 30 w31 g29 38 #[.slice none 0 0, .slice none 0 0])⟩, -⟩ := hf31 [0, 1] rfl
  have hX31 := Evo.step hE0 hown hE31 rfl
  have b31_An1_0 := RdO.evo rfl hE31 hAn1_0
  have b31_An1_1 := RdO.evo rfl hE31 hAn1_1
  obtain ⟨r36, hr36, hs⟩ := obind hs
  refine rg_draw_seq g_mixed (n := 9) (rs := [Fct.at_ 30 g29 38 #[.slice none 0 0, .slice none 0 0]]) (own0 := own31) (K := [30]) (bs := [0, 1, 3, 0, 8, 31, 63]) (ds := [⟨[], [1], [], Fct.val 3 (.pointer (some ⟨g27, 0, none⟩))⟩, ⟨[0], [], [], Fct.val 4 (.slice An1_0 n1.1.length cn1_0)⟩, ⟨[1], [], [], Fct.row 38 [39] 5 78 R78 r36⟩, ⟨[], [1], [], Fct.val 6 (.pointer (some ⟨g27, 1, none⟩))⟩, ⟨[3], [], [], Fct.val 7 (.slice An1_1 n1.2.length cn1_1)⟩, ⟨[2, 4], [], [], Fct.rel [8, 5] (fun l => ∀ (A37 : Option Addr) (cA37 : Nat), l.getD 1 undef = .slice A37 r36.length cA37 → l.getD 0 undef = .agg #[.slice A37 r36.length cA37, .slice An1_1 n1.2.length cn1_1])⟩, ⟨[5, 2, 7], [2], [30], Fct.by_ [40] [5] (fun l own w => ∀ (A37 : Option Addr) (cA37 : Nat), l.getD 0 undef = .slice A37 r36.length cA37 → BlkO own 40 w g29 38 #[.slice A37 r36.length cA37, .slice An1_1 n1.2.length cn1_1]) (fun hk he h _ _ h0' => BlkO.evo (not_hit hk (by decide)) he (h _ _ h0'))⟩]) (by kernel_rfl) hz31 hd31 (by simp only [List.forall_mem_cons]; exact ⟨b31_g29, fun _ h => nomatch h⟩) ?_ ?_
  · refine sc (fun _ _ _ _ s _ => px (or_field fo25_0 (s.1.trans e31_1) (by rfl))) ?_
    refine sc (fun _ _ _ f _ hE => px (or_load1 to22 f.1 (Blk.at_ (be_ hE b31_g27).2 0 rfl))) ?_
    refine sc (fun _ _ _ f _ hE => px (or_call cf35 (args1 f.1) (law14_Ofs_w _ n1.1 An1_0 cn1_0 (RdO.zero (RdO.evo rfl hE b31_An1_0)) r36 hr36) (post_row (m' := (look0 [(1, 38), (2, 39)])) (.inr (by decide)) rfl rfl (fun _ => rfl)))) ?_
    refine sc (fun _ _ _ _ s _ => px (or_field fo25_1 (s.1.trans e31_1) (by rfl))) ?_
    refine sc (fun _ _ _ f _ hE => px (or_load1 to23 f.1 (Blk.at_ (be_ hE b31_g27).2 1 rfl))) ?_
    refine sc (fun own a wx hf hsl hE => ?_) ?_
    · obtain ⟨⟨⟨A37, cA37⟩, (f_5 : a.eval (.tmp 5) = .slice A37 r36.length cA37), b_A37⟩, f_7, -⟩ := hf
      exact px (or_mono (f := Fct.val 8 (.agg #[.slice A37 r36.length cA37, .slice An1_1 n1.2.length cn1_1])) (or_k [(5, .slice A37 r36.length cA37), (7, .slice An1_1 n1.2.length cn1_1)] rfl rfl ⟨f_5, f_7, trivial⟩ (by kernel_rfl)) (fun own' a' w' v' hp h => fun _ _ h0' => by cases (f_5.symm.trans ((hp.2 5 (by decide)).symm.trans h0')); exact h))
    refine sc (fun own a wx hf hsl hE => ?_) ?_
    · obtain ⟨(q_8 : ∀ (A37 : Option Addr) (cA37 : Nat), a.eval (.tmp 5) = .slice A37 r36.length cA37 → a.eval (.tmp 8) = .agg #[.slice A37 r36.length cA37, .slice An1_1 n1.2.length cn1_1]), ⟨⟨A37, cA37⟩, (f_5 : a.eval (.tmp 5) = .slice A37 r36.length cA37), b_A37⟩, b_g29, -⟩ := hf
      have f_8 := q_8 _ _ f_5
      obtain ⟨s_2, -⟩ := hsl
      exact px (or_store (l := #[.slice A37 r36.length cA37, .slice An1_1 n1.2.length cn1_1]) (lab := 30) (lab2 := 40) ts38 (s_2.trans e31_2) f_8 b_g29 (by simp) (by kernel_rfl) (mem_of rfl) (by decide) (by kernel_rfl) (fun own' a' w' ha hb => fun _ _ h0' => by cases (f_5.symm.trans ((ha 5).symm.trans h0')); exact hb))
    exact steps_nil
  intro own41 a41 w41 hd41 hz41 hk41 hf41 hE41
  have e41_2 := (hk41 2 rfl).trans e31_2
  obtain ⟨⟨⟨A37, cA37⟩, (f_5 : a41.eval (.tmp 5) = .slice A37 r36.length cA37), (b41_A37 : RwO own41 38 [39] w41 78 R78 A37 cA37 r36)⟩, (bq_g29 : ∀ (A37 : Option Addr) (cA37 : Nat), a41.eval (.tmp 5) = .slice A37 r36.length cA37 → BlkO own41 40 w41 g29 38 #[.slice A37 r36.length cA37, .slice An1_1 n1.2.length cn1_1]), -⟩ := hf41 [2, 6] rfl
  have b41_g29 := bq_g29 _ _ f_5
  have hX41 := Evo.step hX31 hown hE41 rfl
  have b41_An1_1 := RdO.evo rfl hE41 b31_An1_1
  refine fl_ret ?_
  obtain rfl := osome hs
  exact hret _ _ _ _ (.inl rfl) hd41 (results1_ rfl (RVal.cell_ e41_2 (run_loadVarAgg (l := [.slice A37 r36.length cA37, .slice An1_1 n1.2.length cn1_1]) ta38 (Blk.cellsFrom b41_g29.2 0 rfl) rfl))) ⟨(rl [(38, 2), (39, 3)] own41), ((A37, cA37), (An1_1, cn1_1)), rfl, (Evo.rl_ hX41 hown rfl), (RwO.more (RwO.rl_ (mm := [(38, 2), (39, 3)]) b41_A37) (by decide)), (RdO.more (RdO.rl_ (mm := [(38, 2), (39, 3)]) b41_An1_1) (by decide))⟩
end Go.Proofs.Ytaobbaohelpdgaa
