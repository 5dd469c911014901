import Derived.Test.YtopnbammdeimcaaWp2
import Derived.Test.YtopnbammdeimcaaSp3
namespace Go.Proofs.Ytopnbammdeimcaa
open Go.RowKit
set_option linter.unusedVariables false
set_option maxRecDepth 10000
theorem law01_Of_w (w : World) (p1 : Int × Int) (r : Int × Int) (hs : law01_Of p1 = some r) :
    Calls Try.prog 20 #[.agg #[.int .i64 p1.1, .int .i64 p1.2]] w fun e w' => ∃ own' : Own, e = .returned (.agg #[.int .i64 r.1, .int .i64 r.2]) ∧ Evo [] (fun _ => 0) own' w w' := by
  refine fl_enter (n := 8) rfl rfl rfl (Nat.le_of_ble_eq_true rfl) ?_
  intro a0 Q hd0 hz0 harg hret
  have ha0 := harg 0 _ rfl
  clear harg
  have hE0 : Evo [] (fun _ => 0) (fun _ => 0) w w := Evo.refl _ _ _
  refine rg0_seq 8 (fun _ => 0) [0, 0] [⟨[], [0], [], Fct.blk 19 1 (fun g => .pointer (some ⟨g, 0, none⟩)) 25 #[.int .i64 p1.1, .int .i64 p1.2]⟩, ⟨[], [], [], Fct.blk 21 2 (fun g => .pointer (some ⟨g, 0, none⟩)) 43 #[.int .i64 0, .int .i64 0]⟩] hz0 hd0 (by kernel_rfl) ?_ ?_
  · refine sc (fun _ _ _ _ s _ => px (or_new [(0, .agg #[.int .i64 p1.1, .int .i64 p1.2])] rfl rfl ⟨(s.1.trans ha0), trivial⟩ (by kernel_rfl))) ?_
    refine sc (fun _ _ _ _ _ _ => px (or_new [] rfl rfl trivial (by kernel_rfl))) ?_
    exact steps_nil
  intro own22 a22 w22 hd22 hz22 hk22 hf22 hE22
  obtain ⟨⟨g18, (e22_1 : a22.eval (.tmp 1) = .pointer (some ⟨g18, 0, none⟩)), (b22_g18 : BlkO own22 19 w22 g18 25 #[.int .i64 p1.1, .int .i64 p1.2])⟩, ⟨g20, (e22_2 : a22.eval (.tmp 2) = .pointer (some ⟨g20, 0, none⟩)), (b22_g20 : BlkO own22 21 w22 g20 43 #[.int .i64 0, .int .i64 0])⟩, -⟩ := hf22 [0, 1] rfl
  have hX22 := es_ hE0 hE22
  refine rg_plain_seq (n := 8) (rs := [Fct.at_ 21 g20 43 #[.int .i64 0, .int .i64 0]]) (own0 := own22) (K := [21]) (bs := [0, 1, 0, 4, 15, 31]) (ds := [⟨[], [1], [], Fct.val 3 (.pointer (some ⟨g18, 0, none⟩))⟩, ⟨[0], [], [], Fct.val 4 (.int .i64 p1.1)⟩, ⟨[], [1], [], Fct.val 5 (.pointer (some ⟨g18, 1, none⟩))⟩, ⟨[2], [], [], Fct.val 6 (.int .i64 p1.2)⟩, ⟨[1, 3], [], [], Fct.val 7 (.agg #[.int .i64 p1.1, .int .i64 p1.2])⟩, ⟨[4, 6], [2], [21], Fct.at_ 23 g20 43 #[.int .i64 p1.1, .int .i64 p1.2]⟩]) (by kernel_rfl) hz22 hd22 (by simp only [List.forall_mem_cons]; exact ⟨b22_g20, fun _ h => nomatch h⟩) ?_ ?_
  · refine sc (fun _ _ _ _ s _ => px (or_field fo25_0 (s.1.trans e22_1) (by rfl))) ?_
    refine sc (fun _ _ _ f _ hE => px (or_load1 to3 f.1 (Blk.at_ (be_ hE b22_g18).2 0 rfl))) ?_
    refine sc (fun _ _ _ _ s _ => px (or_field fo25_1 (s.1.trans e22_1) (by rfl))) ?_
    refine sc (fun _ _ _ f _ hE => px (or_load1 to3 f.1 (Blk.at_ (be_ hE b22_g18).2 1 rfl))) ?_
    refine sc (fun _ _ _ f _ _ => px (or_k [(4, .int .i64 p1.1), (6, .int .i64 p1.2)] rfl rfl ⟨f.1, f.2.1, trivial⟩ (by kernel_rfl))) ?_
    refine sc (fun own a wx hf hsl hE => ?_) ?_
    · obtain ⟨f_7, b_g20, -⟩ := hf
      obtain ⟨s_2, -⟩ := hsl
      exact px (or_store (l := #[.int .i64 p1.1, .int .i64 p1.2]) (lab := 21) (lab2 := 23) ts43 (s_2.trans e22_2) f_7 b_g20 (by simp) (by kernel_rfl) (mem_of rfl) (by decide) (by kernel_rfl) (fun own' a' w' ha hb => hb))
    exact steps_nil
  intro own24 a24 w24 hd24 hz24 hk24 hf24 hE24
  have e24_2 := (hk24 2 rfl).trans e22_2
  obtain ⟨(b24_g20 : BlkO own24 23 w24 g20 43 #[.int .i64 p1.1, .int .i64 p1.2]), -⟩ := hf24 [5] rfl
  have hX24 := es_ hX22 hE24
  refine fl_ret ?_
  obtain rfl := (osome hs).symm
  exact hret _ _ _ _ (.inl rfl) hd24 (results1_ rfl (RVal.cell_ e24_2 (run_loadVarAgg (l := [.int .i64 p1.1, .int .i64 p1.2]) ta43 (Blk.cellsFrom b24_g20.2 0 rfl) rfl))) ⟨own24, rfl, hX24⟩
theorem law01_Ofs_w (w : World) (l1 : List (Int × Int)) (Al1 : Option Addr) (cl1 : Nat) (hl1 : RdO (fun _ => 0) [0] w R25 Al1 cl1 l1) (r : List (Int × Int)) (hs : law01_Ofs l1 = some r) :
    Calls Try.prog 12 #[.slice Al1 l1.length cl1] w fun e w' => ∃ (own' : Own) (x : Option Addr × Nat), e = .returned (.slice x.1 r.length x.2) ∧ Evo [] (fun _ => 0) own' w w' ∧ RwO own' 1 [] w' 43 R43 x.1 x.2 r := by
  refine fl_enter (n := 20) rfl rfl rfl (Nat.le_of_ble_eq_true rfl) ?_
  intro a0 Q hd0 hz0 harg hret
  have ha0 := harg 0 _ rfl
  clear harg
  have hE0 : Evo [] (fun _ => 0) (fun _ => 0) w w := Evo.refl _ _ _
  refine rg0_seq 20 (fun _ => 0) (bz 1) [⟨[], [], [], Fct.val 2 (.slice none 0 0)⟩] hz0 hd0 (by kernel_rfl) ?_ ?_
  · refine sc (fun _ _ _ _ _ _ => px (or_assign rfl)) ?_
    exact steps_nil
  intro own77 a77 w77 hd77 hz77 hk77 hf77 hE77
  have e77_0 := (hk77 0 rfl).trans ha0
  have hX77 := es_ hE0 hE77
  have b77_Al1 := RdO.evo rfl hE77 hl1
  refine rg0_seq 20 own77 (bz 1) [⟨[], [], [], Fct.val 3 (.slice none 0 0)⟩] hz77 hd77 (by kernel_rfl) ?_ ?_
  · refine sc (fun _ _ _ _ _ _ => px (or_assign rfl)) ?_
    exact steps_nil
  intro own78 a78 w78 hd78 hz78 hk78 hf78 hE78
  have e78_0 := (hk78 0 rfl).trans e77_0
  obtain ⟨(e78_3 : a78.eval (.tmp 3) = .slice none 0 0), -⟩ := hf78 [0] rfl
  have hX78 := es_ hX77 hE78
  have b78_Al1 := RdO.evo rfl hE78 b77_Al1
  refine fl_seq (fun Q79 hn79 hp79 => ?_)
  refine rg0_seq 20 own78 (bz 1) [⟨[], [], [], Fct.val 4 (.int .i64 0)⟩] hz78 hd78 (by kernel_rfl) ?_ ?_
  · refine sc (fun _ _ _ _ _ _ => px (or_assign rfl)) ?_
    exact steps_nil
  intro own80 a80 w80 hd80 hz80 hk80 hf80 hE80
  have e80_0 := (hk80 0 rfl).trans e78_0
  have e80_3 := (hk80 3 rfl).trans e78_3
  obtain ⟨(e80_4 : a80.eval (.tmp 4) = .int .i64 0), -⟩ := hf80 [0] rfl
  have hX80 := es_ hX78 hE80
  have b80_Al1 := RdO.evo rfl hE80 b78_Al1
  refine fl_block (fun Q81 hn81 hx81 hp81 => ?_)
  refine fl_loop (body := (fun s => law01_Ofs_b1 l1 s.1 s.2)) (z := r) (show loopO _ _ = _ from hs) (fun (s : (List (Int × Int)) × Int) a wx => match s with | (out100, i102) => ∃ (ox : Own) (A98 : Option Addr) (c99 : Nat), a.defers = [] ∧ a.tmps.size = 20 ∧ a.eval (.tmp 0) = .slice Al1 l1.length cl1 ∧ a.eval (.tmp 3) = .slice A98 out100.length c99 ∧ a.eval (.tmp 4) = .int .i64 i102 ∧ Evo [] (fun _ => 0) ox w wx ∧ RdO ox [0] wx R25 Al1 cl1 l1 ∧ RwO ox 101 [] wx 43 R43 A98 c99 out100) ?_ ?_
  · exact ⟨own80, none, 0, hd80, hz80, e80_0, e80_3, e80_4, hX80, b80_Al1, RwO.nil_⟩
  · rintro ⟨out100, i102⟩ zz122 a122 w122 ⟨own122, A98, c99, hd123, hz123, e123_0, e123_3, e123_4, hE123, b123_Al1, b123_A98⟩ hs Q122 hn122 hp122 hz122
    have hs : law01_Ofs_b1 l1 out100 i102 = some zz122 := hs
    refine fl_seq (fun Q124 hn124 hp124 => ?_)
    refine rg0_seq 20 own122 [0, 0, 2, 7] [⟨[], [4], [], Fct.val 5 (.int .i64 i102)⟩, ⟨[], [0], [], Fct.val 6 (.slice Al1 l1.length cl1)⟩, ⟨[1], [], [], Fct.val 7 (.int .i64 (l1.length : Int))⟩, ⟨[0, 2], [], [], Fct.val 8 (.bool (decide (i102 < (l1.length : Int))))⟩] hz123 hd123 (by kernel_rfl) ?_ ?_
    · refine sc (fun _ _ _ _ s _ => px (or_move (s.1.trans e123_4))) ?_
      refine sc (fun _ _ _ _ s _ => px (or_move (s.1.trans e123_0))) ?_
      refine sc (fun _ _ _ f _ _ => px (or_len tu22 f.1 rfl)) ?_
      refine sc (fun _ _ _ f _ _ => px (or_lss f.1 f.2.1 rfl)) ?_
      exact steps_nil
    intro own125 a125 w125 hd125 hz125 hk125 hf125 hE125
    have e125_0 := (hk125 0 rfl).trans e123_0
    have e125_3 := (hk125 3 rfl).trans e123_3
    have e125_4 := (hk125 4 rfl).trans e123_4
    obtain ⟨(e125_8 : a125.eval (.tmp 8) = .bool (decide (i102 < (l1.length : Int)))), -⟩ := hf125 [3] rfl
    have hX125 := es_ hE123 hE125
    have b125_Al1 := RdO.evo rfl hE125 b123_Al1
    have b125_A98 := re_ hE125 b123_A98
    refine fl_cond e125_8 hs (fun c126 hs => ?_) (fun c126 hs => ?_)
    · refine fl_skip ?_
      refine hn124 _ _ ?_
      refine fl_seq (fun Q127 hn127 hp127 => ?_)
      refine fl_block (fun Q128 hn128 hx128 hp128 => ?_)
      obtain ⟨x133, hx133, hs⟩ := obind hs
      obtain ⟨r134, hr134, hs⟩ := obind hs
      obtain ⟨x137, hx137, hs⟩ := obind hs
      refine rg_plain (n := 20) (rs := [Fct.rowAt 101 [] 43 R43 A98 c99 out100]) (own0 := own125) (K := [101]) (bs := [0, 0, 0, 6, 14, 30, 62, 127, 255]) (ds := [⟨[], [3], [], Fct.val 11 (.slice A98 out100.length c99)⟩, ⟨[], [0], [], Fct.val 12 (.slice Al1 l1.length cl1)⟩, ⟨[], [4], [], Fct.val 13 (.int .i64 i102)⟩, ⟨[1, 2], [], [], Fct.val 14 (.pointer (some ((adr Al1).add ((i102 : Int).toNat * R25.s))))⟩, ⟨[3], [], [], Fct.val 15 (.agg #[.int .i64 x133.1, .int .i64 x133.2])⟩, ⟨[4], [], [], Fct.val 16 (.agg #[.int .i64 r134.1, .int .i64 r134.2])⟩, ⟨[5], [], [], Fct.row 136 [] 17 43 R43 [r134]⟩, ⟨[0, 6, 9], [], [101], Fct.row 138 [] 18 43 R43 x137⟩, ⟨[7], [], [], Fct.rel [3, 18] (fun l => ∀ (A139 : Option Addr) (cA139 : Nat), l.getD 1 undef = .slice A139 x137.length cA139 → l.getD 0 undef = .slice A139 x137.length cA139)⟩]) (by kernel_rfl) hz125 hd125 (by simp only [List.forall_mem_cons]; exact ⟨b125_A98, fun _ h => nomatch h⟩) ?_ ?_
      · refine sc (fun _ _ _ _ s _ => px (or_move (s.1.trans e125_3))) ?_
        refine sc (fun _ _ _ _ s _ => px (or_move (s.1.trans e125_0))) ?_
        refine sc (fun _ _ _ _ s _ => px (or_move (s.1.trans e125_4))) ?_
        refine sc (fun _ _ _ f _ _ => px (or_index (R := R25) (l := l1) tl22 f.1 f.2.1 (RdO.some_ b125_Al1 hx133) hx133)) ?_
        refine sc (fun _ _ _ f _ hE => px (or_load (l := E25.f x133) ta25 f.1 (RdO.cells (F := E25) (RdO.evo rfl hE b125_Al1) hx133) rfl)) ?_
        refine sc (fun _ _ _ f _ _ => px (or_call cf20 (args1 f.1) (law01_Of_w _ x133  r134 hr134) post_val)) ?_
        refine sc (fun _ _ _ f _ _ => px (or_lit (lab := 136) (e := 43) (cs := #[.int .i64 r134.1, .int .i64 r134.2]) (F := E43) (or_new [(16, .agg #[.int .i64 r134.1, .int .i64 r134.2])] rfl rfl ⟨f.1, trivial⟩ (by kernel_rfl)) rfl rfl (show 1 ≤ maxLen by decide))) ?_
        refine sc (fun own a wx hf hsl hE => ?_) ?_
        · obtain ⟨f_11, ⟨⟨A135, cA135⟩, f_17, b_A135⟩, b_A98, -⟩ := hf
          exact px (or_append (R := R43) (lab := 101) (lab2 := 138) (L := []) (L3 := []) tp34 f_11 b_A98 (by decide) f_17 (RwO.rd b_A135) hx137 (by decide) (by decide) (mem_of rfl) (.inl (Rep.fl_flat _)))
        refine sc (fun own a wx hf hsl hE => ?_) ?_
        · obtain ⟨⟨⟨A139, cA139⟩, (f_18 : a.eval (.tmp 18) = .slice A139 x137.length cA139), b_A139⟩, -⟩ := hf
          exact px (or_mono (f := Fct.val 3 (.slice A139 x137.length cA139)) (or_assign f_18) (fun own' a' w' v' hp h => fun _ _ h0' => by cases (f_18.symm.trans ((hp.2 18 (by decide)).symm.trans h0')); exact h))
        exact steps_nil
      intro own140 a140 w140 hd140 hz140 hk140 hf140 hE140
      have e140_0 := (hk140 0 rfl).trans e125_0
      have e140_4 := (hk140 4 rfl).trans e125_4
      obtain ⟨⟨⟨A139, cA139⟩, (f_18 : a140.eval (.tmp 18) = .slice A139 x137.length cA139), (b140_A139 : RwO own140 138 [] w140 43 R43 A139 cA139 x137)⟩, (q_3 : ∀ (A139 : Option Addr) (cA139 : Nat), a140.eval (.tmp 18) = .slice A139 x137.length cA139 → a140.eval (.tmp 3) = .slice A139 x137.length cA139), -⟩ := hf140 [7, 8] rfl
      have e140_3 := q_3 _ _ f_18
      have hX140 := es_ hX125 hE140
      have b140_Al1 := RdO.evo rfl hE140 b125_Al1
      refine hn128 _ _ ?_
      refine hn127 _ _ ?_
      refine rg0 20 own140 (bz 3) [⟨[], [4], [], Fct.val 9 (.int .i64 i102)⟩, ⟨[0], [], [], Fct.val 10 (.int .i64 (ad i102 1))⟩, ⟨[1], [], [], Fct.val 4 (.int .i64 (ad i102 1))⟩] hz140 hd140 (by kernel_rfl) ?_ ?_
      · refine sc (fun _ _ _ _ s _ => px (or_move (s.1.trans e140_4))) ?_
        refine sc (fun _ _ _ f _ _ => px (or_add f.1 rfl rfl)) ?_
        refine sc (fun _ _ _ f _ _ => px (or_assign f.1)) ?_
        exact steps_nil
      intro own141 a141 w141 hd141 hz141 hk141 hf141 hE141
      have e141_0 := (hk141 0 rfl).trans e140_0
      have e141_3 := (hk141 3 rfl).trans e140_3
      obtain ⟨(e141_4 : a141.eval (.tmp 4) = .int .i64 (ad i102 1)), -⟩ := hf141 [2] rfl
      have hX141 := es_ hX140 hE141
      have b141_Al1 := RdO.evo rfl hE141 b140_Al1
      have b141_A139 := re_ hE141 b140_A139
      exact hn122 _ _ _ hs ⟨(rl [(138, 101)] own141), A139, cA139, hd141, hz141, e141_0, e141_3, e141_4, (Evo.rl_ hX141 (fun _ => Nat.le_refl 0) rfl), (RdO.rl_ (mm := [(138, 101)]) b141_Al1), (RwO.rl_ (mm := [(138, 101)]) b141_A139)⟩
    refine fl_exit ?_
    refine hp124 _ _ _ rfl ?_
    replace hs := hz122 _ hs
    refine hp122 _ _ _ rfl ?_
    refine hx81 _ _ ?_
    refine hn79 _ _ ?_
    refine rg0_seq 20 own125 (bz 2) [⟨[], [3], [], Fct.val 19 (.slice A98 out100.length c99)⟩, ⟨[0], [], [], Fct.val 2 (.slice A98 out100.length c99)⟩] hz125 hd125 (by kernel_rfl) ?_ ?_
    · refine sc (fun _ _ _ _ s _ => px (or_move (s.1.trans e125_3))) ?_
      refine sc (fun _ _ _ f _ _ => px (or_assign f.1)) ?_
      exact steps_nil
    intro own142 a142 w142 hd142 hz142 hk142 hf142 hE142
    obtain ⟨(e142_2 : a142.eval (.tmp 2) = .slice A98 out100.length c99), -⟩ := hf142 [1] rfl
    have hX142 := es_ hX125 hE142
    have b142_A98 := re_ hE142 b125_A98
    refine fl_ret ?_
    obtain rfl := (osome hs).symm
    exact hret _ _ _ _ (.inl rfl) hd142 (results1_ rfl (RVal.tmp_ e142_2)) ⟨(rl [(101, 1)] own142), (A98, c99), rfl, (Evo.rl_ hX142 (fun _ => Nat.le_refl 0) rfl), (RwO.rl_ (mm := [(101, 1)]) b142_A98)⟩
theorem ref03_Same_w (w : World) (x1 : List (Int × Int)) (Ax1 : Option Addr) (cx1 : Nat) (b2 : List (Int × Int)) (Ab2 : Option Addr) (cb2 : Nat) (hx1 : RdO (fun _ => 0) [0] w R43 Ax1 cx1 x1) (hb2 : RdO (fun _ => 0) [0] w R43 Ab2 cb2 b2) (r : Bool) (hs : ref03_Same x1 b2 = some r) :
    Calls Try.prog 28 #[.slice Ax1 x1.length cx1, .slice Ab2 b2.length cb2] w fun e w' => ∃ own' : Own, e = .returned (.bool r) ∧ Evo [] (fun _ => 0) own' w w' := by
  refine fl_enter (n := 26) rfl rfl rfl (Nat.le_of_ble_eq_true rfl) ?_
  intro a0 Q hd0 hz0 harg hret
  have ha0 := harg 0 _ rfl
  have ha1 := harg 1 _ rfl
  clear harg
  have hE0 : Evo [] (fun _ => 0) (fun _ => 0) w w := Evo.refl _ _ _
  refine rg0_seq 26 (fun _ => 0) (bz 1) [⟨[], [], [], Fct.val 4 (.bool false)⟩] hz0 hd0 (by kernel_rfl) ?_ ?_
  · refine sc (fun _ _ _ _ _ _ => px (or_assign rfl)) ?_
    exact steps_nil
  intro own58 a58 w58 hd58 hz58 hk58 hf58 hE58
  have e58_0 := (hk58 0 rfl).trans ha0
  have e58_1 := (hk58 1 rfl).trans ha1
  have hX58 := es_ hE0 hE58
  have b58_Ax1 := RdO.evo rfl hE58 hx1
  have b58_Ab2 := RdO.evo rfl hE58 hb2
  refine fl_seq (fun Q59 hn59 hp59 => ?_)
  refine rg0_seq 26 own58 [0, 1, 0, 4, 15] [⟨[], [0], [], Fct.val 6 (.slice Ax1 x1.length cx1)⟩, ⟨[0], [], [], Fct.val 7 (.int .i64 (x1.length : Int))⟩, ⟨[], [1], [], Fct.val 8 (.slice Ab2 b2.length cb2)⟩, ⟨[2], [], [], Fct.val 9 (.int .i64 (b2.length : Int))⟩, ⟨[1, 3], [], [], Fct.val 10 (.bool (!decide ((x1.length : Int) = (b2.length : Int))))⟩] hz58 hd58 (by kernel_rfl) ?_ ?_
  · refine sc (fun _ _ _ _ s _ => px (or_move (s.1.trans e58_0))) ?_
    refine sc (fun _ _ _ f _ _ => px (or_len tu34 f.1 rfl)) ?_
    refine sc (fun _ _ _ _ s _ => px (or_move (s.1.trans e58_1))) ?_
    refine sc (fun _ _ _ f _ _ => px (or_len tu34 f.1 rfl)) ?_
    refine sc (fun _ _ _ f _ _ => px (or_neq f.1 f.2.1 rfl)) ?_
    exact steps_nil
  intro own60 a60 w60 hd60 hz60 hk60 hf60 hE60
  have e60_0 := (hk60 0 rfl).trans e58_0
  have e60_1 := (hk60 1 rfl).trans e58_1
  obtain ⟨(e60_10 : a60.eval (.tmp 10) = .bool (!decide ((x1.length : Int) = (b2.length : Int)))), -⟩ := hf60 [4] rfl
  have hX60 := es_ hX58 hE60
  have b60_Ax1 := RdO.evo rfl hE60 b58_Ax1
  have b60_Ab2 := RdO.evo rfl hE60 b58_Ab2
  refine fl_cond e60_10 hs (fun c61 hs => ?_) (fun c61 hs => ?_)
  · refine rg0_seq 26 own60 (bz 1) [⟨[], [], [], Fct.val 4 (.bool false)⟩] hz60 hd60 (by kernel_rfl) ?_ ?_
    · refine sc (fun _ _ _ _ _ _ => px (or_assign rfl)) ?_
      exact steps_nil
    intro own62 a62 w62 hd62 hz62 hk62 hf62 hE62
    obtain ⟨(e62_4 : a62.eval (.tmp 4) = .bool false), -⟩ := hf62 [0] rfl
    have hX62 := es_ hX60 hE62
    refine fl_ret ?_
    refine hp59 _ _ _ rfl ?_
    obtain rfl := osome hs
    exact hret _ _ _ _ (.inl rfl) hd62 (results1_ rfl (RVal.tmp_ e62_4)) ⟨own62, rfl, hX62⟩
  refine fl_skip ?_
  refine hn59 _ _ ?_
  refine fl_seq (fun Q63 hn63 hp63 => ?_)
  refine rg0_seq 26 own60 (bz 1) [⟨[], [], [], Fct.val 5 (.int .i64 0)⟩] hz60 hd60 (by kernel_rfl) ?_ ?_
  · refine sc (fun _ _ _ _ _ _ => px (or_assign rfl)) ?_
    exact steps_nil
  intro own64 a64 w64 hd64 hz64 hk64 hf64 hE64
  have e64_0 := (hk64 0 rfl).trans e60_0
  have e64_1 := (hk64 1 rfl).trans e60_1
  obtain ⟨(e64_5 : a64.eval (.tmp 5) = .int .i64 0), -⟩ := hf64 [0] rfl
  have hX64 := es_ hX60 hE64
  have b64_Ax1 := RdO.evo rfl hE64 b60_Ax1
  have b64_Ab2 := RdO.evo rfl hE64 b60_Ab2
  refine fl_block (fun Q65 hn65 hx65 hp65 => ?_)
  refine fl_loop (body := (fun s => ref03_Same_b1 x1 b2 s)) (z := r) (show loopO _ _ = _ from hs) (fun (i78 : Int) a wx => ∃ (ox : Own), a.defers = [] ∧ a.tmps.size = 26 ∧ a.eval (.tmp 0) = .slice Ax1 x1.length cx1 ∧ a.eval (.tmp 1) = .slice Ab2 b2.length cb2 ∧ a.eval (.tmp 5) = .int .i64 i78 ∧ Evo [] (fun _ => 0) ox w wx ∧ RdO ox [0] wx R43 Ax1 cx1 x1 ∧ RdO ox [0] wx R43 Ab2 cb2 b2) ?_ ?_
  · exact ⟨own64, hd64, hz64, e64_0, e64_1, e64_5, hX64, b64_Ax1, b64_Ab2⟩
  · rintro i78 zz91 a91 w91 ⟨own91, hd92, hz92, e92_0, e92_1, e92_5, hE92, b92_Ax1, b92_Ab2⟩ hs Q91 hn91 hp91 hz91
    have hs : ref03_Same_b1 x1 b2 i78 = some zz91 := hs
    refine fl_seq (fun Q93 hn93 hp93 => ?_)
    refine rg0_seq 26 own91 [0, 0, 2, 7] [⟨[], [5], [], Fct.val 11 (.int .i64 i78)⟩, ⟨[], [0], [], Fct.val 12 (.slice Ax1 x1.length cx1)⟩, ⟨[1], [], [], Fct.val 13 (.int .i64 (x1.length : Int))⟩, ⟨[0, 2], [], [], Fct.val 14 (.bool (decide (i78 < (x1.length : Int))))⟩] hz92 hd92 (by kernel_rfl) ?_ ?_
    · refine sc (fun _ _ _ _ s _ => px (or_move (s.1.trans e92_5))) ?_
      refine sc (fun _ _ _ _ s _ => px (or_move (s.1.trans e92_0))) ?_
      refine sc (fun _ _ _ f _ _ => px (or_len tu34 f.1 rfl)) ?_
      refine sc (fun _ _ _ f _ _ => px (or_lss f.1 f.2.1 rfl)) ?_
      exact steps_nil
    intro own94 a94 w94 hd94 hz94 hk94 hf94 hE94
    have e94_0 := (hk94 0 rfl).trans e92_0
    have e94_1 := (hk94 1 rfl).trans e92_1
    have e94_5 := (hk94 5 rfl).trans e92_5
    obtain ⟨(e94_14 : a94.eval (.tmp 14) = .bool (decide (i78 < (x1.length : Int)))), -⟩ := hf94 [3] rfl
    have hX94 := es_ hE92 hE94
    have b94_Ax1 := RdO.evo rfl hE94 b92_Ax1
    have b94_Ab2 := RdO.evo rfl hE94 b92_Ab2
    refine fl_cond e94_14 hs (fun c95 hs => ?_) (fun c95 hs => ?_)
    · refine fl_skip ?_
      refine hn93 _ _ ?_
      refine fl_seq (fun Q96 hn96 hp96 => ?_)
      refine fl_block (fun Q97 hn97 hx97 hp97 => ?_)
      obtain ⟨x98, hx98, hs⟩ := obind hs
      obtain ⟨x99, hx99, hs⟩ := obind hs
      refine rg_draw_seq g_mixed (n := 26) (rs := []) (own0 := own94) (K := []) (bs := [0, 0, 3, 7, 0, 0, 48, 112, 255]) (ds := [⟨[], [0], [], Fct.val 17 (.slice Ax1 x1.length cx1)⟩, ⟨[], [5], [], Fct.val 18 (.int .i64 i78)⟩, ⟨[0, 1], [], [], Fct.val 19 (.pointer (some ((adr Ax1).add ((i78 : Int).toNat * R43.s))))⟩, ⟨[2], [], [], Fct.val 20 (.agg #[.int .i64 x98.1, .int .i64 x98.2])⟩, ⟨[], [1], [], Fct.val 21 (.slice Ab2 b2.length cb2)⟩, ⟨[], [5], [], Fct.val 22 (.int .i64 i78)⟩, ⟨[4, 5], [], [], Fct.val 23 (.pointer (some ((adr Ab2).add ((i78 : Int).toNat * R43.s))))⟩, ⟨[6], [], [], Fct.val 24 (.agg #[.int .i64 x99.1, .int .i64 x99.2])⟩, ⟨[3, 7], [], [], Fct.val 25 (.bool (!decide (x98 = x99)))⟩]) (by kernel_rfl) hz94 hd94 nm_ ?_ ?_
      · refine sc (fun _ _ _ _ s _ => px (or_move (s.1.trans e94_0))) ?_
        refine sc (fun _ _ _ _ s _ => px (or_move (s.1.trans e94_5))) ?_
        refine sc (fun _ _ _ f _ _ => px (or_index (R := R43) (l := x1) tl34 f.1 f.2.1 (RdO.some_ b94_Ax1 hx98) hx98)) ?_
        refine sc (fun _ _ _ f _ hE => px (or_load (l := E43.f x98) ta43 f.1 (RdO.cells (F := E43) (RdO.evo rfl hE b94_Ax1) hx98) rfl)) ?_
        refine sc (fun _ _ _ _ s _ => px (or_move (s.1.trans e94_1))) ?_
        refine sc (fun _ _ _ _ s _ => px (or_move (s.1.trans e94_5))) ?_
        refine sc (fun _ _ _ f _ _ => px (or_index (R := R43) (l := b2) tl34 f.1 f.2.1 (RdO.some_ b94_Ab2 hx99) hx99)) ?_
        refine sc (fun _ _ _ f _ hE => px (or_load (l := E43.f x99) ta43 f.1 (RdO.cells (F := E43) (RdO.evo rfl hE b94_Ab2) hx99) rfl)) ?_
        refine sc (fun _ _ _ f _ _ => px (or_neqA sg43 f.1 f.2.1 (sn43 x98.1 x98.2 x99.1 x99.2 _) rfl)) ?_
        exact steps_nil
      intro own100 a100 w100 hd100 hz100 hk100 hf100 hE100
      have e100_0 := (hk100 0 rfl).trans e94_0
      have e100_1 := (hk100 1 rfl).trans e94_1
      have e100_5 := (hk100 5 rfl).trans e94_5
      obtain ⟨(e100_25 : a100.eval (.tmp 25) = .bool (!decide (x98 = x99))), -⟩ := hf100 [8] rfl
      have hX100 := es_ hX94 hE100
      have b100_Ax1 := RdO.evo rfl hE100 b94_Ax1
      have b100_Ab2 := RdO.evo rfl hE100 b94_Ab2
      refine fl_cond e100_25 hs (fun c101 hs => ?_) (fun c101 hs => ?_)
      · refine rg0_seq 26 own100 (bz 1) [⟨[], [], [], Fct.val 4 (.bool false)⟩] hz100 hd100 (by kernel_rfl) ?_ ?_
        · refine sc (fun _ _ _ _ _ _ => px (or_assign rfl)) ?_
          exact steps_nil
        intro own102 a102 w102 hd102 hz102 hk102 hf102 hE102
        obtain ⟨(e102_4 : a102.eval (.tmp 4) = .bool false), -⟩ := hf102 [0] rfl
        have hX102 := es_ hX100 hE102
        refine fl_ret ?_
        refine hp97 _ _ _ rfl ?_
        refine hp96 _ _ _ rfl ?_
        replace hs := hz91 _ hs
        refine hp91 _ _ _ rfl ?_
        refine hp65 _ _ _ rfl ?_
        refine hp63 _ _ _ rfl ?_
        obtain rfl := osome hs
        exact hret _ _ _ _ (.inl rfl) hd102 (results1_ rfl (RVal.tmp_ e102_4)) ⟨own102, rfl, hX102⟩
      refine fl_skip ?_
      refine hn97 _ _ ?_
      refine hn96 _ _ ?_
      refine rg0 26 own100 (bz 3) [⟨[], [5], [], Fct.val 15 (.int .i64 i78)⟩, ⟨[0], [], [], Fct.val 16 (.int .i64 (ad i78 1))⟩, ⟨[1], [], [], Fct.val 5 (.int .i64 (ad i78 1))⟩] hz100 hd100 (by kernel_rfl) ?_ ?_
      · refine sc (fun _ _ _ _ s _ => px (or_move (s.1.trans e100_5))) ?_
        refine sc (fun _ _ _ f _ _ => px (or_add f.1 rfl rfl)) ?_
        refine sc (fun _ _ _ f _ _ => px (or_assign f.1)) ?_
        exact steps_nil
      intro own103 a103 w103 hd103 hz103 hk103 hf103 hE103
      have e103_0 := (hk103 0 rfl).trans e100_0
      have e103_1 := (hk103 1 rfl).trans e100_1
      obtain ⟨(e103_5 : a103.eval (.tmp 5) = .int .i64 (ad i78 1)), -⟩ := hf103 [2] rfl
      have hX103 := es_ hX100 hE103
      have b103_Ax1 := RdO.evo rfl hE103 b100_Ax1
      have b103_Ab2 := RdO.evo rfl hE103 b100_Ab2
      exact hn91 _ _ _ hs ⟨own103, hd103, hz103, e103_0, e103_1, e103_5, hX103, b103_Ax1, b103_Ab2⟩
    refine fl_exit ?_
    refine hp93 _ _ _ rfl ?_
    replace hs := hz91 _ hs
    refine hp91 _ _ _ rfl ?_
    refine hx65 _ _ ?_
    refine hn63 _ _ ?_
    refine rg0_seq 26 own94 (bz 1) [⟨[], [], [], Fct.val 4 (.bool true)⟩] hz94 hd94 (by kernel_rfl) ?_ ?_
    · refine sc (fun _ _ _ _ _ _ => px (or_assign rfl)) ?_
      exact steps_nil
    intro own104 a104 w104 hd104 hz104 hk104 hf104 hE104
    obtain ⟨(e104_4 : a104.eval (.tmp 4) = .bool true), -⟩ := hf104 [0] rfl
    have hX104 := es_ hX94 hE104
    refine fl_ret ?_
    obtain rfl := osome hs
    exact hret _ _ _ _ (.inl rfl) hd104 (results1_ rfl (RVal.tmp_ e104_4)) ⟨own104, rfl, hX104⟩
theorem law03_Same_w (w : World) (l1 : List (Int × Int)) (Al1 : Option Addr) (cl1 : Nat) (x2 : List (Int × Int)) (Ax2 : Option Addr) (cx2 : Nat) (hl1 : RdO (fun _ => 0) [0] w R25 Al1 cl1 l1) (hx2 : RdO (fun _ => 0) [0] w R43 Ax2 cx2 x2) (r : Bool) (hs : law03_Same l1 x2 = some r) :
    Calls Try.prog 11 #[.slice Al1 l1.length cl1, .slice Ax2 x2.length cx2] w fun e w' => ∃ own' : Own, e = .returned (.bool r) ∧ Evo [] (fun _ => 0) own' w w' := by
  refine fl_enter (n := 9) rfl rfl rfl (Nat.le_of_ble_eq_true rfl) ?_
  intro a0 Q hd0 hz0 harg hret
  have ha0 := harg 0 _ rfl
  have ha1 := harg 1 _ rfl
  clear harg
  have hE0 : Evo [] (fun _ => 0) (fun _ => 0) w w := Evo.refl _ _ _
  refine rg0_seq 9 (fun _ => 0) (bz 1) [⟨[], [], [], Fct.val 4 (.bool false)⟩] hz0 hd0 (by kernel_rfl) ?_ ?_
  · refine sc (fun _ _ _ _ _ _ => px (or_assign rfl)) ?_
    exact steps_nil
  intro own17 a17 w17 hd17 hz17 hk17 hf17 hE17
  have e17_0 := (hk17 0 rfl).trans ha0
  have e17_1 := (hk17 1 rfl).trans ha1
  have hX17 := es_ hE0 hE17
  have b17_Al1 := RdO.evo rfl hE17 hl1
  have b17_Ax2 := RdO.evo rfl hE17 hx2
  obtain ⟨r18, hr18, hs⟩ := obind hs
  obtain ⟨r21, hr21, hs⟩ := obind hs
  refine rg0_seq 9 own17 [0, 1, 0, 7, 15] [⟨[], [0], [], Fct.val 5 (.slice Al1 l1.length cl1)⟩, ⟨[0], [], [], Fct.row 20 [] 6 43 R43 r18⟩, ⟨[], [1], [], Fct.val 7 (.slice Ax2 x2.length cx2)⟩, ⟨[1, 2], [], [], Fct.val 8 (.bool r21)⟩, ⟨[3], [], [], Fct.val 4 (.bool r21)⟩] hz17 hd17 (by kernel_rfl) ?_ ?_
  · refine sc (fun _ _ _ _ s _ => px (or_move (s.1.trans e17_0))) ?_
    refine sc (fun _ _ _ f _ hE => px (or_call cf12 (args1 f.1) (law01_Ofs_w _ l1 Al1 cl1 (RdO.zero (RdO.evo rfl hE b17_Al1)) r18 hr18) (post_row (m' := (look0 [(1, 20)])) (.inl (Rep.fl_flat _)) rfl rfl (fun _ => rfl)))) ?_
    refine sc (fun _ _ _ _ s _ => px (or_move (s.1.trans e17_1))) ?_
    refine sc (fun own a wx hf hsl hE => ?_) ?_
    · obtain ⟨⟨⟨A19, cA19⟩, f_6, b_A19⟩, f_7, -⟩ := hf
      exact px (or_call cf28 (args2 f_6 f_7) (ref03_Same_w _ r18 A19 cA19 x2 Ax2 cx2 (RdO.zero (RwO.rd b_A19)) (RdO.zero (RdO.evo rfl hE b17_Ax2)) r21 hr21) post_val)
    refine sc (fun _ _ _ f _ _ => px (or_assign f.1)) ?_
    exact steps_nil
  intro own22 a22 w22 hd22 hz22 hk22 hf22 hE22
  obtain ⟨(e22_4 : a22.eval (.tmp 4) = .bool r21), -⟩ := hf22 [4] rfl
  have hX22 := es_ hX17 hE22
  refine fl_ret ?_
  obtain rfl := (osome hs).symm
  exact hret _ _ _ _ (.inl rfl) hd22 (results1_ rfl (RVal.tmp_ e22_4)) ⟨own22, rfl, hX22⟩
theorem polyclip_Whole_w (w : World) (l1 : List (Int × Int)) (Al1 : Option Addr) (cl1 : Nat) (b2 : (Int × Int) × (Int × Int)) (hl1 : RdO (fun _ => 0) [0] w R25 Al1 cl1 l1) (r : Bool) (hs : polyclip_Whole l1 b2 = some r) :
    Calls Try.prog 13 #[.slice Al1 l1.length cl1, .agg #[.int .i64 b2.1.1, .int .i64 b2.1.2, .int .i64 b2.2.1, .int .i64 b2.2.2]] w fun e w' => ∃ own' : Own, e = .returned (.bool r) ∧ Evo [] (fun _ => 0) own' w w' := by
  refine fl_enter (n := 56) rfl rfl rfl (Nat.le_of_ble_eq_true rfl) ?_
  intro a0 Q hd0 hz0 harg hret
  have ha0 := harg 0 _ rfl
  have ha1 := harg 1 _ rfl
  clear harg
  have hE0 : Evo [] (fun _ => 0) (fun _ => 0) w w := Evo.refl _ _ _
  refine rg0_seq 56 (fun _ => 0) [0, 0] [⟨[], [1], [], Fct.blk 271 3 (fun g => .pointer (some ⟨g, 0, none⟩)) 31 #[.int .i64 b2.1.1, .int .i64 b2.1.2, .int .i64 b2.2.1, .int .i64 b2.2.2]⟩, ⟨[], [], [], Fct.val 4 (.bool false)⟩] hz0 hd0 (by kernel_rfl) ?_ ?_
  · refine sc (fun _ _ _ _ s _ => px (or_new [(1, .agg #[.int .i64 b2.1.1, .int .i64 b2.1.2, .int .i64 b2.2.1, .int .i64 b2.2.2])] rfl rfl ⟨(s.1.trans ha1), trivial⟩ (by kernel_rfl))) ?_
    refine sc (fun _ _ _ _ _ _ => px (or_assign rfl)) ?_
    exact steps_nil
  intro own272 a272 w272 hd272 hz272 hk272 hf272 hE272
  have e272_0 := (hk272 0 rfl).trans ha0
  obtain ⟨⟨g270, (e272_3 : a272.eval (.tmp 3) = .pointer (some ⟨g270, 0, none⟩)), (b272_g270 : BlkO own272 271 w272 g270 31 #[.int .i64 b2.1.1, .int .i64 b2.1.2, .int .i64 b2.2.1, .int .i64 b2.2.2])⟩, -⟩ := hf272 [0] rfl
  have hX272 := es_ hE0 hE272
  have b272_Al1 := RdO.evo rfl hE272 hl1
  refine fl_seq (fun Q273 hn273 hp273 => ?_)
  obtain ⟨r274, hr274, hs⟩ := obind hs
  obtain ⟨x275, hx275, hs⟩ := obind hs
  obtain ⟨r276, hr276, hs⟩ := obind hs
  refine rg0_seq 56 own272 (bz 13) [⟨[], [0], [], Fct.val 11 (.slice Al1 l1.length cl1)⟩, ⟨[0], [], [], Fct.val 12 (.int .i64 (l1.length : Int))⟩, ⟨[1], [], [], Fct.val 13 (.bool (decide ((l1.length : Int) = 0)))⟩, ⟨[2], [], [], Fct.val 14 (.bool (decide ((l1.length : Int) = 0)))⟩, ⟨[3], [0], [], Fct.cond (!(decide ((l1.length : Int) = 0))) (some 15) (Fct.val 15 (.slice Al1 l1.length cl1))⟩, ⟨[3, 4], [], [], Fct.cond (!(decide ((l1.length : Int) = 0))) (some 16) (Fct.val 16 (.bool r274))⟩, ⟨[3, 5], [], [], Fct.cond (!(decide ((l1.length : Int) = 0))) (some 17) (Fct.val 17 (.bool (!r274)))⟩, ⟨[3, 6], [], [], Fct.val 18 (.bool x275)⟩, ⟨[7], [], [], Fct.val 19 (.bool x275)⟩, ⟨[8], [3], [], Fct.cond (!x275) (some 20) (Fct.val 20 (.agg #[.int .i64 b2.1.1, .int .i64 b2.1.2, .int .i64 b2.2.1, .int .i64 b2.2.2]))⟩, ⟨[8, 9], [], [], Fct.cond (!x275) (some 21) (Fct.val 21 (.bool r276))⟩, ⟨[8, 10], [], [], Fct.cond (!x275) (some 22) (Fct.val 22 (.bool (!r276)))⟩, ⟨[8, 11], [], [], Fct.val 23 (.bool (x275 || (!r276)))⟩] hz272 hd272 (by kernel_rfl) ?_ ?_
  · refine sc (fun _ _ _ _ s _ => px (or_move (s.1.trans e272_0))) ?_
    refine sc (fun _ _ _ f _ _ => px (or_len tu22 f.1 rfl)) ?_
    refine sc (fun _ _ _ f _ _ => px (or_eql f.1 rfl rfl)) ?_
    refine sc (fun _ _ _ f _ _ => px (or_move f.1)) ?_
    refine sc (fun _ _ _ f s _ => sg_f rfl rfl rfl f.1 (fun hg => or_move (s.1.trans e272_0))) ?_
    refine sc (fun _ _ _ f _ hE => sg_f rfl rfl rfl f.1 (fun hg => or_call cf24 (args1 (f.2.1.1 hg)) (exact_Right_w _ l1 Al1 cl1 (RdO.zero (RdO.evo rfl hE b272_Al1)) r274 (gd_t hr274 hg)) post_val)) ?_
    refine sc (fun _ _ _ f _ _ => sg_f rfl rfl rfl f.1 (fun hg => or_not (f.2.1.1 hg) rfl)) ?_
    refine sc (fun _ _ _ f _ _ => px (or_or f.1 rfl (fun hx => f.2.1.1 hx) (osome hx275).symm)) ?_
    refine sc (fun _ _ _ f _ _ => px (or_move f.1)) ?_
    refine sc (fun _ _ _ f s hE => sg_f rfl rfl rfl f.1 (fun hg => or_load (l := [.int .i64 b2.1.1, .int .i64 b2.1.2, .int .i64 b2.2.1, .int .i64 b2.2.2]) ta31 (s.1.trans e272_3) (Blk.cellsFrom (be_ hE b272_g270).2 0 rfl) rfl)) ?_
    refine sc (fun _ _ _ f _ _ => sg_f rfl rfl rfl f.1 (fun hg => or_call cf14 (args1 (f.2.1.1 hg)) (rows_Right_w _ b2  r276 (gd_t hr276 hg)) post_val)) ?_
    refine sc (fun _ _ _ f _ _ => sg_f rfl rfl rfl f.1 (fun hg => or_not (f.2.1.1 hg) rfl)) ?_
    refine sc (fun _ _ _ f _ _ => px (or_or f.1 rfl (fun hx => f.2.1.1 hx) rfl)) ?_
    exact steps_nil
  intro own277 a277 w277 hd277 hz277 hk277 hf277 hE277
  have e277_0 := (hk277 0 rfl).trans e272_0
  have e277_3 := (hk277 3 rfl).trans e272_3
  obtain ⟨(e277_23 : a277.eval (.tmp 23) = .bool (x275 || (!r276))), -⟩ := hf277 [12] rfl
  have hX277 := es_ hX272 hE277
  have b277_Al1 := RdO.evo rfl hE277 b272_Al1
  have b277_g270 := be_ hE277 b272_g270
  refine fl_cond e277_23 hs (fun c278 hs => ?_) (fun c278 hs => ?_)
  · refine rg0_seq 56 own277 (bz 1) [⟨[], [], [], Fct.val 4 (.bool false)⟩] hz277 hd277 (by kernel_rfl) ?_ ?_
    · refine sc (fun _ _ _ _ _ _ => px (or_assign rfl)) ?_
      exact steps_nil
    intro own279 a279 w279 hd279 hz279 hk279 hf279 hE279
    obtain ⟨(e279_4 : a279.eval (.tmp 4) = .bool false), -⟩ := hf279 [0] rfl
    have hX279 := es_ hX277 hE279
    refine fl_ret ?_
    refine hp273 _ _ _ rfl ?_
    obtain rfl := osome hs
    exact hret _ _ _ _ (.inl rfl) hd279 (results1_ rfl (RVal.tmp_ e279_4)) ⟨own279, rfl, hX279⟩
  refine fl_skip ?_
  refine hn273 _ _ ?_
  refine fl_seq (fun Q280 hn280 hp280 => ?_)
  refine rg0_seq 56 own277 [0, 1, 0] [⟨[], [0], [], Fct.val 24 (.slice Al1 l1.length cl1)⟩, ⟨[0], [], [], Fct.val 25 (.int .i64 (l1.length : Int))⟩, ⟨[], [], [], Fct.val 26 (.int .i64 0)⟩] hz277 hd277 (by kernel_rfl) ?_ ?_
  · refine sc (fun _ _ _ _ s _ => px (or_move (s.1.trans e277_0))) ?_
    refine sc (fun _ _ _ f _ _ => px (or_len tu22 f.1 rfl)) ?_
    refine sc (fun _ _ _ _ _ _ => px (or_move rfl)) ?_
    exact steps_nil
  intro own281 a281 w281 hd281 hz281 hk281 hf281 hE281
  have e281_0 := (hk281 0 rfl).trans e277_0
  have e281_3 := (hk281 3 rfl).trans e277_3
  obtain ⟨(e281_24 : a281.eval (.tmp 24) = .slice Al1 l1.length cl1), (e281_25 : a281.eval (.tmp 25) = .int .i64 (l1.length : Int)), (e281_26 : a281.eval (.tmp 26) = .int .i64 0), -⟩ := hf281 [0, 1, 2] rfl
  have hX281 := es_ hX277 hE281
  have b281_Al1 := RdO.evo rfl hE281 b277_Al1
  have b281_g270 := be_ hE281 b277_g270
  refine fl_block (fun Q282 hn282 hx282 hp282 => ?_)
  refine fl_loop (body := (fun s => polyclip_Whole_b1 l1 b2 s)) (z := r) (show loopO _ _ = _ from hs) (fun (x364 : Int) a wx => ∃ (ox : Own), a.defers = [] ∧ a.tmps.size = 56 ∧ a.eval (.tmp 0) = .slice Al1 l1.length cl1 ∧ a.eval (.tmp 3) = .pointer (some ⟨g270, 0, none⟩) ∧ a.eval (.tmp 24) = .slice Al1 l1.length cl1 ∧ a.eval (.tmp 25) = .int .i64 (l1.length : Int) ∧ a.eval (.tmp 26) = .int .i64 x364 ∧ Evo [] (fun _ => 0) ox w wx ∧ RdO ox [0] wx R25 Al1 cl1 l1 ∧ BlkO ox 271 wx g270 31 #[.int .i64 b2.1.1, .int .i64 b2.1.2, .int .i64 b2.2.1, .int .i64 b2.2.2]) ?_ ?_
  · exact ⟨own281, hd281, hz281, e281_0, e281_3, e281_24, e281_25, e281_26, hX281, b281_Al1, b281_g270⟩
  · rintro x364 zz446 a446 w446 ⟨own446, hd447, hz447, e447_0, e447_3, e447_24, e447_25, e447_26, hE447, b447_Al1, b447_g270⟩ hs Q446 hn446 hp446 hz446
    have hs : polyclip_Whole_b1 l1 b2 x364 = some zz446 := hs
    refine rg0_seq 56 own446 (bz 1) [⟨[], [26, 25], [], Fct.val 27 (.bool (decide (x364 < (l1.length : Int))))⟩] hz447 hd447 (by kernel_rfl) ?_ ?_
    · refine sc (fun _ _ _ _ s _ => px (or_lss (s.1.trans e447_26) (s.2.1.trans e447_25) rfl)) ?_
      exact steps_nil
    intro own448 a448 w448 hd448 hz448 hk448 hf448 hE448
    have e448_0 := (hk448 0 rfl).trans e447_0
    have e448_3 := (hk448 3 rfl).trans e447_3
    have e448_24 := (hk448 24 rfl).trans e447_24
    have e448_25 := (hk448 25 rfl).trans e447_25
    have e448_26 := (hk448 26 rfl).trans e447_26
    obtain ⟨(e448_27 : a448.eval (.tmp 27) = .bool (decide (x364 < (l1.length : Int)))), -⟩ := hf448 [0] rfl
    have hX448 := es_ hE447 hE448
    have b448_Al1 := RdO.evo rfl hE448 b447_Al1
    have b448_g270 := be_ hE448 b447_g270
    refine fl_seq (fun Q449 hn449 hp449 => ?_)
    refine fl_cond e448_27 hs (fun c450 hs => ?_) (fun c450 hs => ?_)
    · refine fl_skip ?_
      refine hn449 _ _ ?_
      refine fl_seq (fun Q451 hn451 hp451 => ?_)
      refine fl_block (fun Q452 hn452 hx452 hp452 => ?_)
      obtain ⟨x453, hx453, hs⟩ := obind hs
      refine rg_plain_seq (n := 56) (rs := []) (own0 := own448) (K := [455]) (bs := [0, 0, 2, 0, 15, 31]) (ds := [⟨[], [26], [], Fct.val 28 (.int .i64 x364)⟩, ⟨[], [24, 26], [], Fct.val 29 (.pointer (some ((adr Al1).add ((x364 : Int).toNat * R25.s))))⟩, ⟨[1], [], [], Fct.val 30 (.agg #[.int .i64 x453.1, .int .i64 x453.2])⟩, ⟨[], [], [], Fct.blk 455 6 (fun g => .pointer (some ⟨g, 0, none⟩)) 25 #[.int .i64 0, .int .i64 0]⟩, ⟨[0], [], [], Fct.val 5 (.int .i64 x364)⟩, ⟨[3, 2], [], [455], Fct.blk 456 6 (fun g => .pointer (some ⟨g, 0, none⟩)) 25 #[.int .i64 x453.1, .int .i64 x453.2]⟩]) (by kernel_rfl) hz448 hd448 nm_ ?_ ?_
      · refine sc (fun _ _ _ _ s _ => px (or_move (s.1.trans e448_26))) ?_
        refine sc (fun _ _ _ _ s _ => px (or_index (R := R25) (l := l1) tl22 (s.1.trans e448_24) (s.2.1.trans e448_26) (RdO.some_ b448_Al1 hx453) hx453)) ?_
        refine sc (fun _ _ _ f _ hE => px (or_load (l := E25.f x453) ta25 f.1 (RdO.cells (F := E25) (RdO.evo rfl hE b448_Al1) hx453) rfl)) ?_
        refine sc (fun _ _ _ _ _ _ => px (or_new [] rfl rfl trivial (by kernel_rfl))) ?_
        refine sc (fun _ _ _ f _ _ => px (or_assign f.1)) ?_
        refine sc (fun own a wx hf hsl hE => ?_) ?_
        · obtain ⟨⟨g454, f_6, b_g454⟩, f_30, -⟩ := hf
          exact px (or_store (l := #[.int .i64 x453.1, .int .i64 x453.2]) (lab := 455) (lab2 := 456) ts25 f_6 f_30 b_g454 (by simp) (by kernel_rfl) (mem_of rfl) (by decide) (by kernel_rfl) (fun own' a' w' ha hb => ⟨_, (ha 6).trans f_6, hb⟩))
        exact steps_nil
      intro own457 a457 w457 hd457 hz457 hk457 hf457 hE457
      have e457_0 := (hk457 0 rfl).trans e448_0
      have e457_3 := (hk457 3 rfl).trans e448_3
      have e457_24 := (hk457 24 rfl).trans e448_24
      have e457_25 := (hk457 25 rfl).trans e448_25
      have e457_26 := (hk457 26 rfl).trans e448_26
      obtain ⟨⟨g454, (e457_6 : a457.eval (.tmp 6) = .pointer (some ⟨g454, 0, none⟩)), (b457_g454 : BlkO own457 456 w457 g454 25 #[.int .i64 x453.1, .int .i64 x453.2])⟩, (e457_5 : a457.eval (.tmp 5) = .int .i64 x364), -⟩ := hf457 [5, 4] rfl
      have hX457 := es_ hX448 hE457
      have b457_Al1 := RdO.evo rfl hE457 b448_Al1
      have b457_g270 := be_ hE457 b448_g270
      obtain ⟨r458, hr458, hs⟩ := obind hs
      refine rg0_seq 56 own457 [0, 1, 0] [⟨[], [3], [], Fct.val 31 (.agg #[.int .i64 b2.1.1, .int .i64 b2.1.2, .int .i64 b2.2.1, .int .i64 b2.2.2])⟩, ⟨[0], [], [], Fct.val 32 (.agg #[.int .i64 r458.1.1, .bool r458.1.2.1, .bool r458.1.2.2, .int .i64 r458.2.1.1, .bool r458.2.1.2.1, .bool r458.2.1.2.2, .int .i64 r458.2.2.1.1, .bool r458.2.2.1.2.1, .bool r458.2.2.1.2.2, .int .i64 r458.2.2.2.1, .bool r458.2.2.2.2.1, .bool r458.2.2.2.2.2])⟩, ⟨[], [], [], Fct.val 33 (.int .i64 0)⟩] hz457 hd457 (by kernel_rfl) ?_ ?_
      · refine sc (fun _ _ _ _ s hE => px (or_load (l := [.int .i64 b2.1.1, .int .i64 b2.1.2, .int .i64 b2.2.1, .int .i64 b2.2.2]) ta31 (s.1.trans e457_3) (Blk.cellsFrom (be_ hE b457_g270).2 0 rfl) rfl)) ?_
        refine sc (fun _ _ _ f _ _ => px (or_call cf27 (args1 f.1) (polyclip_sides_w _ b2  r458 hr458) post_val)) ?_
        refine sc (fun _ _ _ _ _ _ => px (or_move rfl)) ?_
        exact steps_nil
      intro own459 a459 w459 hd459 hz459 hk459 hf459 hE459
      have e459_0 := (hk459 0 rfl).trans e457_0
      have e459_3 := (hk459 3 rfl).trans e457_3
      have e459_5 := (hk459 5 rfl).trans e457_5
      have e459_6 := (hk459 6 rfl).trans e457_6
      have e459_24 := (hk459 24 rfl).trans e457_24
      have e459_25 := (hk459 25 rfl).trans e457_25
      have e459_26 := (hk459 26 rfl).trans e457_26
      obtain ⟨(e459_32 : a459.eval (.tmp 32) = .agg #[.int .i64 r458.1.1, .bool r458.1.2.1, .bool r458.1.2.2, .int .i64 r458.2.1.1, .bool r458.2.1.2.1, .bool r458.2.1.2.2, .int .i64 r458.2.2.1.1, .bool r458.2.2.1.2.1, .bool r458.2.2.1.2.2, .int .i64 r458.2.2.2.1, .bool r458.2.2.2.2.1, .bool r458.2.2.2.2.2]), (e459_33 : a459.eval (.tmp 33) = .int .i64 0), -⟩ := hf459 [1, 2] rfl
      have hX459 := es_ hX457 hE459
      have b459_Al1 := RdO.evo rfl hE459 b457_Al1
      have b459_g270 := be_ hE459 b457_g270
      have b459_g454 := be_ hE459 b457_g454
      refine fl_block (fun Q460 hn460 hx460 hp460 => ?_)
      refine fl_loop (body := (fun s => polyclip_Whole_b2 l1 x364 x453 r458 s)) (z := zz446) (show loopO _ _ = _ from hs) (fun (x481 : Int) a wx => ∃ (ox : Own), a.defers = [] ∧ a.tmps.size = 56 ∧ a.eval (.tmp 0) = .slice Al1 l1.length cl1 ∧ a.eval (.tmp 3) = .pointer (some ⟨g270, 0, none⟩) ∧ a.eval (.tmp 5) = .int .i64 x364 ∧ a.eval (.tmp 6) = .pointer (some ⟨g454, 0, none⟩) ∧ a.eval (.tmp 24) = .slice Al1 l1.length cl1 ∧ a.eval (.tmp 25) = .int .i64 (l1.length : Int) ∧ a.eval (.tmp 26) = .int .i64 x364 ∧ a.eval (.tmp 32) = .agg #[.int .i64 r458.1.1, .bool r458.1.2.1, .bool r458.1.2.2, .int .i64 r458.2.1.1, .bool r458.2.1.2.1, .bool r458.2.1.2.2, .int .i64 r458.2.2.1.1, .bool r458.2.2.1.2.1, .bool r458.2.2.1.2.2, .int .i64 r458.2.2.2.1, .bool r458.2.2.2.2.1, .bool r458.2.2.2.2.2] ∧ a.eval (.tmp 33) = .int .i64 x481 ∧ Evo [] (fun _ => 0) ox w wx ∧ RdO ox [0] wx R25 Al1 cl1 l1 ∧ BlkO ox 271 wx g270 31 #[.int .i64 b2.1.1, .int .i64 b2.1.2, .int .i64 b2.2.1, .int .i64 b2.2.2] ∧ BlkO ox 456 wx g454 25 #[.int .i64 x453.1, .int .i64 x453.2]) ?_ ?_
      · exact ⟨own459, hd459, hz459, e459_0, e459_3, e459_5, e459_6, e459_24, e459_25, e459_26, e459_32, e459_33, hX459, b459_Al1, b459_g270, b459_g454⟩
      · rintro x481 zz504 a504 w504 ⟨own504, hd505, hz505, e505_0, e505_3, e505_5, e505_6, e505_24, e505_25, e505_26, e505_32, e505_33, hE505, b505_Al1, b505_g270, b505_g454⟩ hs Q504 hn504 hp504 hz504
        have hs : polyclip_Whole_b2 l1 x364 x453 r458 x481 = some zz504 := hs
        refine rg0_seq 56 own504 (bz 1) [⟨[], [33], [], Fct.val 34 (.bool (decide (x481 < 4)))⟩] hz505 hd505 (by kernel_rfl) ?_ ?_
        · refine sc (fun _ _ _ _ s _ => px (or_lss (s.1.trans e505_33) rfl rfl)) ?_
          exact steps_nil
        intro own506 a506 w506 hd506 hz506 hk506 hf506 hE506
        have e506_0 := (hk506 0 rfl).trans e505_0
        have e506_3 := (hk506 3 rfl).trans e505_3
        have e506_5 := (hk506 5 rfl).trans e505_5
        have e506_6 := (hk506 6 rfl).trans e505_6
        have e506_24 := (hk506 24 rfl).trans e505_24
        have e506_25 := (hk506 25 rfl).trans e505_25
        have e506_26 := (hk506 26 rfl).trans e505_26
        have e506_32 := (hk506 32 rfl).trans e505_32
        have e506_33 := (hk506 33 rfl).trans e505_33
        obtain ⟨(e506_34 : a506.eval (.tmp 34) = .bool (decide (x481 < 4))), -⟩ := hf506 [0] rfl
        have hX506 := es_ hE505 hE506
        have b506_Al1 := RdO.evo rfl hE506 b505_Al1
        have b506_g270 := be_ hE506 b505_g270
        have b506_g454 := be_ hE506 b505_g454
        refine fl_seq (fun Q507 hn507 hp507 => ?_)
        refine fl_cond e506_34 hs (fun c508 hs => ?_) (fun c508 hs => ?_)
        · refine fl_skip ?_
          refine hn507 _ _ ?_
          refine fl_seq (fun Q509 hn509 hp509 => ?_)
          refine fl_block (fun Q510 hn510 hx510 hp510 => ?_)
          obtain ⟨x511, hx511, hs⟩ := obind hs
          refine rg_plain_seq (n := 56) (rs := []) (own0 := own506) (K := [513]) (bs := [0, 0, 3]) (ds := [⟨[], [32, 33], [], Fct.val 35 (.agg #[.int .i64 x511.1, .bool x511.2.1, .bool x511.2.2])⟩, ⟨[], [], [], Fct.blk 513 8 (fun g => .pointer (some ⟨g, 0, none⟩)) 56 #[.int .i64 0, .bool false, .bool false]⟩, ⟨[1, 0], [], [513], Fct.blk 514 8 (fun g => .pointer (some ⟨g, 0, none⟩)) 56 #[.int .i64 x511.1, .bool x511.2.1, .bool x511.2.2]⟩]) (by kernel_rfl) hz506 hd506 nm_ ?_ ?_
          · refine sc (fun _ _ _ _ s _ => px (or_indexA (F := E56) (l := [r458.1, r458.2.1, r458.2.2.1, r458.2.2.2]) (v := x511) tr57 ta56 rfl (s.1.trans e506_32) rfl (s.2.1.trans e506_33) hx511)) ?_
            refine sc (fun _ _ _ _ _ _ => px (or_new [] rfl rfl trivial (by kernel_rfl))) ?_
            refine sc (fun own a wx hf hsl hE => ?_) ?_
            · obtain ⟨⟨g512, f_8, b_g512⟩, f_35, -⟩ := hf
              exact px (or_store (l := #[.int .i64 x511.1, .bool x511.2.1, .bool x511.2.2]) (lab := 513) (lab2 := 514) ts56 f_8 f_35 b_g512 (by simp) (by kernel_rfl) (mem_of rfl) (by decide) (by kernel_rfl) (fun own' a' w' ha hb => ⟨_, (ha 8).trans f_8, hb⟩))
            exact steps_nil
          intro own515 a515 w515 hd515 hz515 hk515 hf515 hE515
          have e515_0 := (hk515 0 rfl).trans e506_0
          have e515_3 := (hk515 3 rfl).trans e506_3
          have e515_5 := (hk515 5 rfl).trans e506_5
          have e515_6 := (hk515 6 rfl).trans e506_6
          have e515_24 := (hk515 24 rfl).trans e506_24
          have e515_25 := (hk515 25 rfl).trans e506_25
          have e515_26 := (hk515 26 rfl).trans e506_26
          have e515_32 := (hk515 32 rfl).trans e506_32
          have e515_33 := (hk515 33 rfl).trans e506_33
          obtain ⟨⟨g512, (e515_8 : a515.eval (.tmp 8) = .pointer (some ⟨g512, 0, none⟩)), (b515_g512 : BlkO own515 514 w515 g512 56 #[.int .i64 x511.1, .bool x511.2.1, .bool x511.2.2])⟩, -⟩ := hf515 [2] rfl
          have hX515 := es_ hX506 hE515
          have b515_Al1 := RdO.evo rfl hE515 b506_Al1
          have b515_g270 := be_ hE515 b506_g270
          have b515_g454 := be_ hE515 b506_g454
          obtain ⟨x516, hx516, hs⟩ := obind hs
          obtain ⟨x517, hx517, hs⟩ := obind hs
          obtain ⟨r518, hr518, hs⟩ := obind hs
          refine rg_draw_seq g_mixed (n := 56) (rs := []) (own0 := own515) (K := [520]) (bs := [0, 0, 0, 4, 0, 16, 60, 126, 254, 0, 512, 0, 2048, 8191, 16383, 32767, 32767, 0, 196607, 524287]) (ds := [⟨[], [6], [], Fct.val 37 (.agg #[.int .i64 x453.1, .int .i64 x453.2])⟩, ⟨[], [0], [], Fct.val 38 (.slice Al1 l1.length cl1)⟩, ⟨[], [5], [], Fct.val 39 (.int .i64 x364)⟩, ⟨[2], [], [], Fct.val 40 (.int .i64 (ad x364 1))⟩, ⟨[], [0], [], Fct.val 41 (.slice Al1 l1.length cl1)⟩, ⟨[4], [], [], Fct.val 42 (.int .i64 (l1.length : Int))⟩, ⟨[3, 5], [], [], Fct.val 43 (.int .i64 x516)⟩, ⟨[1, 6], [], [], Fct.val 44 (.pointer (some ((adr Al1).add ((x516 : Int).toNat * R25.s))))⟩, ⟨[7], [], [], Fct.val 45 (.agg #[.int .i64 x517.1, .int .i64 x517.2])⟩, ⟨[], [8], [], Fct.val 46 (.pointer (some ⟨g512, 0, none⟩))⟩, ⟨[9], [], [], Fct.val 47 (.int .i64 x511.1)⟩, ⟨[], [8], [], Fct.val 48 (.pointer (some ⟨g512, 2, none⟩))⟩, ⟨[11], [], [], Fct.val 49 (.bool x511.2.2)⟩, ⟨[0, 8, 10, 12], [], [], Fct.val 50 (.tuple #[.agg #[.int .i64 r518.1.1, .int .i64 r518.1.2], .bool r518.2])⟩, ⟨[13], [], [], Fct.val 36 (.tuple #[.agg #[.int .i64 r518.1.1, .int .i64 r518.1.2], .bool r518.2])⟩, ⟨[14], [], [], Fct.val 51 (.agg #[.int .i64 r518.1.1, .int .i64 r518.1.2])⟩, ⟨[14], [], [], Fct.val 52 (.bool r518.2)⟩, ⟨[], [], [], Fct.blk 520 9 (fun g => .pointer (some ⟨g, 0, none⟩)) 25 #[.int .i64 0, .int .i64 0]⟩, ⟨[17, 15], [], [520], Fct.blk 521 9 (fun g => .pointer (some ⟨g, 0, none⟩)) 25 #[.int .i64 r518.1.1, .int .i64 r518.1.2]⟩, ⟨[16], [], [], Fct.val 10 (.bool r518.2)⟩]) (by kernel_rfl) hz515 hd515 nm_ ?_ ?_
          · refine sc (fun _ _ _ _ s hE => px (or_load (l := [.int .i64 x453.1, .int .i64 x453.2]) ta25 (s.1.trans e515_6) (Blk.cellsFrom (be_ hE b515_g454).2 0 rfl) rfl)) ?_
            refine sc (fun _ _ _ _ s _ => px (or_move (s.1.trans e515_0))) ?_
            refine sc (fun _ _ _ _ s _ => px (or_move (s.1.trans e515_5))) ?_
            refine sc (fun _ _ _ f _ _ => px (or_add f.1 rfl rfl)) ?_
            refine sc (fun _ _ _ _ s _ => px (or_move (s.1.trans e515_0))) ?_
            refine sc (fun _ _ _ f _ _ => px (or_len tu22 f.1 rfl)) ?_
            refine sc (fun _ _ _ f _ _ => px (or_rem f.1 f.2.1 hx516)) ?_
            refine sc (fun _ _ _ f _ _ => px (or_index (R := R25) (l := l1) tl22 f.1 f.2.1 (RdO.some_ b515_Al1 hx517) hx517)) ?_
            refine sc (fun _ _ _ f _ hE => px (or_load (l := E25.f x517) ta25 f.1 (RdO.cells (F := E25) (RdO.evo rfl hE b515_Al1) hx517) rfl)) ?_
            refine sc (fun _ _ _ _ s _ => px (or_field fo56_0 (s.1.trans e515_8) (by rfl))) ?_
            refine sc (fun _ _ _ f _ hE => px (or_load1 to3 f.1 (Blk.at_ (be_ hE b515_g512).2 0 rfl))) ?_
            refine sc (fun _ _ _ _ s _ => px (or_field fo56_2 (s.1.trans e515_8) (by rfl))) ?_
            refine sc (fun _ _ _ f _ hE => px (or_load1 to4 f.1 (Blk.at_ (be_ hE b515_g512).2 2 rfl))) ?_
            refine sc (fun _ _ _ f _ _ => px (or_call cf23 (args4 f.1 f.2.1 f.2.2.1 f.2.2.2.1) (polyclip_cut_w _ x453 x517 x511.1 x511.2.2  r518 hr518) post_val)) ?_
            refine sc (fun _ _ _ f _ _ => px (or_move f.1)) ?_
            refine sc (fun _ _ _ f _ _ => px (or_k [(36, .tuple #[.agg #[.int .i64 r518.1.1, .int .i64 r518.1.2], .bool r518.2])] rfl rfl ⟨f.1, trivial⟩ (by kernel_rfl))) ?_
            refine sc (fun _ _ _ f _ _ => px (or_k [(36, .tuple #[.agg #[.int .i64 r518.1.1, .int .i64 r518.1.2], .bool r518.2])] rfl rfl ⟨f.1, trivial⟩ (by kernel_rfl))) ?_
            refine sc (fun _ _ _ _ _ _ => px (or_new [] rfl rfl trivial (by kernel_rfl))) ?_
            refine sc (fun own a wx hf hsl hE => ?_) ?_
            · obtain ⟨⟨g519, f_9, b_g519⟩, f_51, -⟩ := hf
              exact px (or_store (l := #[.int .i64 r518.1.1, .int .i64 r518.1.2]) (lab := 520) (lab2 := 521) ts25 f_9 f_51 b_g519 (by simp) (by kernel_rfl) (mem_of rfl) (by decide) (by kernel_rfl) (fun own' a' w' ha hb => ⟨_, (ha 9).trans f_9, hb⟩))
            refine sc (fun _ _ _ f _ _ => px (or_assign f.1)) ?_
            exact steps_nil
          intro own522 a522 w522 hd522 hz522 hk522 hf522 hE522
          have e522_0 := (hk522 0 rfl).trans e515_0
          have e522_3 := (hk522 3 rfl).trans e515_3
          have e522_5 := (hk522 5 rfl).trans e515_5
          have e522_6 := (hk522 6 rfl).trans e515_6
          have e522_24 := (hk522 24 rfl).trans e515_24
          have e522_25 := (hk522 25 rfl).trans e515_25
          have e522_26 := (hk522 26 rfl).trans e515_26
          have e522_32 := (hk522 32 rfl).trans e515_32
          have e522_33 := (hk522 33 rfl).trans e515_33
          obtain ⟨(e522_10 : a522.eval (.tmp 10) = .bool r518.2), -⟩ := hf522 [19] rfl
          have hX522 := es_ hX515 hE522
          have b522_Al1 := RdO.evo rfl hE522 b515_Al1
          have b522_g270 := be_ hE522 b515_g270
          have b522_g454 := be_ hE522 b515_g454
          refine rg0_seq 56 own522 (bz 1) [⟨[], [10], [], Fct.val 53 (.bool r518.2)⟩] hz522 hd522 (by kernel_rfl) ?_ ?_
          · refine sc (fun _ _ _ _ s _ => px (or_move (s.1.trans e522_10))) ?_
            exact steps_nil
          intro own523 a523 w523 hd523 hz523 hk523 hf523 hE523
          have e523_0 := (hk523 0 rfl).trans e522_0
          have e523_3 := (hk523 3 rfl).trans e522_3
          have e523_5 := (hk523 5 rfl).trans e522_5
          have e523_6 := (hk523 6 rfl).trans e522_6
          have e523_24 := (hk523 24 rfl).trans e522_24
          have e523_25 := (hk523 25 rfl).trans e522_25
          have e523_26 := (hk523 26 rfl).trans e522_26
          have e523_32 := (hk523 32 rfl).trans e522_32
          have e523_33 := (hk523 33 rfl).trans e522_33
          obtain ⟨(e523_53 : a523.eval (.tmp 53) = .bool r518.2), -⟩ := hf523 [0] rfl
          have hX523 := es_ hX522 hE523
          have b523_Al1 := RdO.evo rfl hE523 b522_Al1
          have b523_g270 := be_ hE523 b522_g270
          have b523_g454 := be_ hE523 b522_g454
          refine fl_cond e523_53 hs (fun c524 hs => ?_) (fun c524 hs => ?_)
          · refine rg0_seq 56 own523 (bz 1) [⟨[], [], [], Fct.val 4 (.bool false)⟩] hz523 hd523 (by kernel_rfl) ?_ ?_
            · refine sc (fun _ _ _ _ _ _ => px (or_assign rfl)) ?_
              exact steps_nil
            intro own525 a525 w525 hd525 hz525 hk525 hf525 hE525
            obtain ⟨(e525_4 : a525.eval (.tmp 4) = .bool false), -⟩ := hf525 [0] rfl
            have hX525 := es_ hX523 hE525
            refine fl_ret ?_
            refine hp510 _ _ _ rfl ?_
            refine hp509 _ _ _ rfl ?_
            replace hs := hz504 _ hs
            refine hp504 _ _ _ rfl ?_
            refine hp460 _ _ _ rfl ?_
            refine hp452 _ _ _ rfl ?_
            refine hp451 _ _ _ rfl ?_
            replace hs := hz446 _ hs
            refine hp446 _ _ _ rfl ?_
            refine hp282 _ _ _ rfl ?_
            refine hp280 _ _ _ rfl ?_
            obtain rfl := osome hs
            exact hret _ _ _ _ (.inl rfl) hd525 (results1_ rfl (RVal.tmp_ e525_4)) ⟨own525, rfl, hX525⟩
          refine fl_skip ?_
          refine hn510 _ _ ?_
          refine hn509 _ _ ?_
          refine rg0 56 own523 (bz 2) [⟨[], [33], [], Fct.val 54 (.int .i64 (ad x481 1))⟩, ⟨[0], [], [], Fct.val 33 (.int .i64 (ad x481 1))⟩] hz523 hd523 (by kernel_rfl) ?_ ?_
          · refine sc (fun _ _ _ _ s _ => px (or_add (s.1.trans e523_33) rfl rfl)) ?_
            refine sc (fun _ _ _ f _ _ => px (or_move f.1)) ?_
            exact steps_nil
          intro own526 a526 w526 hd526 hz526 hk526 hf526 hE526
          have e526_0 := (hk526 0 rfl).trans e523_0
          have e526_3 := (hk526 3 rfl).trans e523_3
          have e526_5 := (hk526 5 rfl).trans e523_5
          have e526_6 := (hk526 6 rfl).trans e523_6
          have e526_24 := (hk526 24 rfl).trans e523_24
          have e526_25 := (hk526 25 rfl).trans e523_25
          have e526_26 := (hk526 26 rfl).trans e523_26
          have e526_32 := (hk526 32 rfl).trans e523_32
          obtain ⟨(e526_33 : a526.eval (.tmp 33) = .int .i64 (ad x481 1)), -⟩ := hf526 [1] rfl
          have hX526 := es_ hX523 hE526
          have b526_Al1 := RdO.evo rfl hE526 b523_Al1
          have b526_g270 := be_ hE526 b523_g270
          have b526_g454 := be_ hE526 b523_g454
          exact hn504 _ _ _ hs ⟨own526, hd526, hz526, e526_0, e526_3, e526_5, e526_6, e526_24, e526_25, e526_26, e526_32, e526_33, hX526, b526_Al1, b526_g270, b526_g454⟩
        refine fl_exit ?_
        refine hp507 _ _ _ rfl ?_
        replace hs := hz504 _ hs
        refine hp504 _ _ _ rfl ?_
        refine hx460 _ _ ?_
        refine hn452 _ _ ?_
        refine hn451 _ _ ?_
        refine rg0 56 own506 (bz 2) [⟨[], [26], [], Fct.val 55 (.int .i64 (ad x364 1))⟩, ⟨[0], [], [], Fct.val 26 (.int .i64 (ad x364 1))⟩] hz506 hd506 (by kernel_rfl) ?_ ?_
        · refine sc (fun _ _ _ _ s _ => px (or_add (s.1.trans e506_26) rfl rfl)) ?_
          refine sc (fun _ _ _ f _ _ => px (or_move f.1)) ?_
          exact steps_nil
        intro own527 a527 w527 hd527 hz527 hk527 hf527 hE527
        have e527_0 := (hk527 0 rfl).trans e506_0
        have e527_3 := (hk527 3 rfl).trans e506_3
        have e527_24 := (hk527 24 rfl).trans e506_24
        have e527_25 := (hk527 25 rfl).trans e506_25
        obtain ⟨(e527_26 : a527.eval (.tmp 26) = .int .i64 (ad x364 1)), -⟩ := hf527 [1] rfl
        have hX527 := es_ hX506 hE527
        have b527_Al1 := RdO.evo rfl hE527 b506_Al1
        have b527_g270 := be_ hE527 b506_g270
        exact hn446 _ _ _ hs ⟨own527, hd527, hz527, e527_0, e527_3, e527_24, e527_25, e527_26, hX527, b527_Al1, b527_g270⟩
    refine fl_exit ?_
    refine hp449 _ _ _ rfl ?_
    replace hs := hz446 _ hs
    refine hp446 _ _ _ rfl ?_
    refine hx282 _ _ ?_
    refine hn280 _ _ ?_
    refine rg0_seq 56 own448 (bz 1) [⟨[], [], [], Fct.val 4 (.bool true)⟩] hz448 hd448 (by kernel_rfl) ?_ ?_
    · refine sc (fun _ _ _ _ _ _ => px (or_assign rfl)) ?_
      exact steps_nil
    intro own528 a528 w528 hd528 hz528 hk528 hf528 hE528
    obtain ⟨(e528_4 : a528.eval (.tmp 4) = .bool true), -⟩ := hf528 [0] rfl
    have hX528 := es_ hX448 hE528
    refine fl_ret ?_
    obtain rfl := osome hs
    exact hret _ _ _ _ (.inl rfl) hd528 (results1_ rfl (RVal.tmp_ e528_4)) ⟨own528, rfl, hX528⟩
end Go.Proofs.Ytopnbammdeimcaa
