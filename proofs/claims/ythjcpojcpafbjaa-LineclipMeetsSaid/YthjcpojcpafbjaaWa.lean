/-
  Chapter 22. The walks.
-/
import Derived.Test.YthjcpojcpafbjaaOwn
import Derived.Test.YthjcpojcpafbjaaTy
import Derived.Test.YthjcpojcpafbjaaSa
namespace Go.Proofs.Ythjcpojcpafbjaa
open Go.RowKit
set_option linter.unusedVariables false
theorem law03_Cut_w (w : World) (own : Own) (l1 : List (Int × Int)) (Al1 : Option Addr) (cl1 : Nat) (hown : ∀ b, own b ≤ 1) (hl1 : RdO own [1] w R34 Al1 cl1 l1) (r : List (Int × Int)) (hs : law03_Cut l1 = some r) :
    Calls Try.prog 7 #[.slice Al1 l1.length cl1] w fun e w' => ∃ (own' : Own) (x : Option Addr × Nat), e = .returned (.slice x.1 r.length x.2) ∧ Evo [] own own' w w' ∧ RdO own' [1, 2] w' R34 x.1 x.2 r := by
  refine fl_enter (n := 8) rfl rfl rfl (Nat.le_of_ble_eq_true rfl) ?_
  intro a0 Q hd0 hz0 harg hret
  have ha0 := harg 0 _ rfl
  clear harg
  have hE0 : Evo [] own own w w := Evo.refl _ _ _
  refine rg_plain_seq (n := 8) (rs := []) (own0 := own) (K := [])
      (bs := [0])
      (ds := [⟨[], [], [], Fct.val 2 (.slice none 0 0)⟩]) (by kernel_rfl) hz0 hd0 (fun _ h => nomatch h) ?_ ?_
  · refine steps_cons (fun own a wx hf hsl hE => ?_) ?_
    · exact sg_plain rfl rfl (or_assign rfl)
    exact steps_nil
  intro own16 a16 w16 hd16 hz16 hk16 hf16 hE16
  have e16_0 : a16.eval (.tmp 0) = .slice Al1 l1.length cl1 := (hk16 0 rfl).trans ha0
  have hX16 := Evo.step hE0 hown hE16 rfl
  have b16_Al1 := RdO.evo rfl hE16 hl1
  obtain ⟨x17, hx17, hs⟩ := obind hs
  refine rg_plain_seq (n := 8) (rs := []) (own0 := own16) (K := [])
      (bs := [0, 0, 2, 6, 15, 31])
      (ds := [⟨[], [0], [], Fct.val 3 (.slice Al1 l1.length cl1)⟩,
      ⟨[], [0], [], Fct.val 4 (.slice Al1 l1.length cl1)⟩,
      ⟨[1], [], [], Fct.val 5 (.int .i64 (l1.length : Int))⟩,
      ⟨[2], [], [], Fct.val 6 (.int .i64 (mn (l1.length : Int) 40))⟩,
      ⟨[0, 3], [], [], Fct.view [1] 7 R34 x17⟩,
      ⟨[4], [], [], Fct.rel [2, 7] (fun l => ∀ (A18 : Option Addr) (cA18 : Nat), l.getD 1 undef = .slice A18 x17.length cA18 → l.getD 0 undef = .slice A18 x17.length cA18)⟩]) (by kernel_rfl) hz16 hd16 (fun _ h => nomatch h) ?_ ?_
  · refine steps_cons (fun own a wx hf hsl hE => ?_) ?_
    · obtain ⟨s_0, -⟩ := hsl
      exact sg_plain rfl rfl (or_move (s_0.trans e16_0))
    refine steps_cons (fun own a wx hf hsl hE => ?_) ?_
    · obtain ⟨s_0, -⟩ := hsl
      exact sg_plain rfl rfl (or_move (s_0.trans e16_0))
    refine steps_cons (fun own a wx hf hsl hE => ?_) ?_
    · obtain ⟨(f_4 : a.eval (.tmp 4) = .slice Al1 l1.length cl1), -⟩ := hf
      exact sg_plain rfl rfl (or_len tu24 f_4 rfl)
    refine steps_cons (fun own a wx hf hsl hE => ?_) ?_
    · obtain ⟨(f_5 : a.eval (.tmp 5) = .int .i64 (l1.length : Int)), -⟩ := hf
      exact sg_plain rfl rfl (or_min f_5 rfl)
    refine steps_cons (fun own a wx hf hsl hE => ?_) ?_
    · obtain ⟨(f_3 : a.eval (.tmp 3) = .slice Al1 l1.length cl1), (f_6 : a.eval (.tmp 6) = .int .i64 (mn (l1.length : Int) 40)), -⟩ := hf
      exact sg_plain rfl rfl (or_view (R := R34) (l := l1) (L := [1]) tu24 ts34 f_3 Bnd.none_ (Bnd.some_ f_6) Bnd.none_ (RdO.evo rfl hE b16_Al1) hx17 (.inl rfl) (by simp))
    refine steps_cons (fun own a wx hf hsl hE => ?_) ?_
    · obtain ⟨⟨⟨A18, cA18⟩, (f_7 : a.eval (.tmp 7) = .slice A18 x17.length cA18), (b_A18 : RdO own [1] wx R34 A18 cA18 x17)⟩, -⟩ := hf
      exact sg_plain rfl rfl (or_mono (f := Fct.val 2 (.slice A18 x17.length cA18)) (or_assign f_7) (fun own' a' w' v' hp h => fun _ _ h0' => by cases (f_7.symm.trans ((hp.2 7 (by decide)).symm.trans h0')); exact h))
    exact steps_nil
  intro own19 a19 w19 hd19 hz19 hk19 hf19 hE19
  obtain ⟨⟨⟨A18, cA18⟩, (f_7 : a19.eval (.tmp 7) = .slice A18 x17.length cA18), (b_A18 : RdO own19 [1] w19 R34 A18 cA18 x17)⟩, (q_2 : ∀ (A18 : Option Addr) (cA18 : Nat), a19.eval (.tmp 7) = .slice A18 x17.length cA18 → a19.eval (.tmp 2) = .slice A18 x17.length cA18), -⟩ := hf19 [4, 5] rfl
  have f_2 := q_2 _ _ f_7
  have e19_2 := f_2
  have hX19 := Evo.step hX16 hown hE19 rfl
  have b19_A18 := b_A18
  refine fl_ret ?_
  obtain rfl := (osome hs).symm
  exact hret _ _ _ _ (.inl rfl) hd19 (results1_ rfl (RVal.tmp_ e19_2)) ⟨own19, (A18, cA18), rfl, hX19, (RdO.more b19_A18 (by decide))⟩

theorem law01_Of_w (w : World) (p1 : Int × Int) (r : Int × Int) (hs : law01_Of p1 = some r) :
    Calls Try.prog 26 #[.agg #[.int .i64 p1.1, .int .i64 p1.2]] w fun e w' => ∃ own' : Own, e = .returned (.agg #[.int .i64 r.1, .int .i64 r.2]) ∧ Evo [] (fun _ => 0) own' w w' := by
  refine fl_enter (n := 8) rfl rfl rfl (Nat.le_of_ble_eq_true rfl) ?_
  intro a0 Q hd0 hz0 harg hret
  have ha0 := harg 0 _ rfl
  clear harg
  have hE0 : Evo [] (fun _ => 0) (fun _ => 0) w w := Evo.refl _ _ _
  refine rg_plain_seq (n := 8) (rs := []) (own0 := (fun _ => 0)) (K := [])
      (bs := [0, 0])
      (ds := [⟨[], [0], [], Fct.blk 19 1 (fun g => .pointer (some ⟨g, 0, none⟩)) 34 #[.int .i64 p1.1, .int .i64 p1.2]⟩,
      ⟨[], [], [], Fct.blk 21 2 (fun g => .pointer (some ⟨g, 0, none⟩)) 37 #[.int .i64 0, .int .i64 0]⟩]) (by kernel_rfl) hz0 hd0 (fun _ h => nomatch h) ?_ ?_
  · refine steps_cons (fun own a wx hf hsl hE => ?_) ?_
    · obtain ⟨s_0, -⟩ := hsl
      exact sg_plain rfl rfl (or_new [(0, .agg #[.int .i64 p1.1, .int .i64 p1.2])] rfl rfl ⟨(s_0.trans ha0), trivial⟩ (by kernel_rfl))
    refine steps_cons (fun own a wx hf hsl hE => ?_) ?_
    · exact sg_plain rfl rfl (or_new [] rfl rfl trivial (by kernel_rfl))
    exact steps_nil
  intro own22 a22 w22 hd22 hz22 hk22 hf22 hE22
  obtain ⟨⟨g18, (f_1 : a22.eval (.tmp 1) = .pointer (some ⟨g18, 0, none⟩)), (b_g18 : BlkO own22 19 w22 g18 34 #[.int .i64 p1.1, .int .i64 p1.2])⟩, ⟨g20, (f_2 : a22.eval (.tmp 2) = .pointer (some ⟨g20, 0, none⟩)), (b_g20 : BlkO own22 21 w22 g20 37 #[.int .i64 0, .int .i64 0])⟩, -⟩ := hf22 [0, 1] rfl
  have e22_1 := f_1
  have e22_2 := f_2
  have hX22 := Evo.step hE0 (fun _ => Nat.le_refl 0) hE22 rfl
  have b22_g18 := b_g18
  have b22_g20 := b_g20
  refine rg_plain_seq (n := 8) (rs := [Fct.at_ 21 g20 37 #[.int .i64 0, .int .i64 0]]) (own0 := own22) (K := [21])
      (bs := [0, 1, 0, 4, 15, 31])
      (ds := [⟨[], [1], [], Fct.val 3 (.pointer (some ⟨g18, 0, none⟩))⟩,
      ⟨[0], [], [], Fct.val 4 (.int .i64 p1.1)⟩,
      ⟨[], [1], [], Fct.val 5 (.pointer (some ⟨g18, 1, none⟩))⟩,
      ⟨[2], [], [], Fct.val 6 (.int .i64 p1.2)⟩,
      ⟨[1, 3], [], [], Fct.val 7 (.agg #[.int .i64 p1.1, .int .i64 p1.2])⟩,
      ⟨[4, 6], [2], [21], Fct.at_ 23 g20 37 #[.int .i64 p1.1, .int .i64 p1.2]⟩]) (by kernel_rfl) hz22 hd22 (by simp only [List.forall_mem_cons]; exact ⟨b22_g20, fun _ h => nomatch h⟩) ?_ ?_
  · refine steps_cons (fun own a wx hf hsl hE => ?_) ?_
    · obtain ⟨s_1, -⟩ := hsl
      exact sg_plain rfl rfl (or_field fo34_0 (s_1.trans e22_1) (by rfl))
    refine steps_cons (fun own a wx hf hsl hE => ?_) ?_
    · obtain ⟨(f_3 : a.eval (.tmp 3) = .pointer (some ⟨g18, 0, none⟩)), -⟩ := hf
      exact sg_plain rfl rfl (or_load1 to3 f_3 (Blk.at_ (BlkO.evo (by decide) hE b22_g18).2 0 rfl))
    refine steps_cons (fun own a wx hf hsl hE => ?_) ?_
    · obtain ⟨s_1, -⟩ := hsl
      exact sg_plain rfl rfl (or_field fo34_1 (s_1.trans e22_1) (by rfl))
    refine steps_cons (fun own a wx hf hsl hE => ?_) ?_
    · obtain ⟨(f_5 : a.eval (.tmp 5) = .pointer (some ⟨g18, 1, none⟩)), -⟩ := hf
      exact sg_plain rfl rfl (or_load1 to3 f_5 (Blk.at_ (BlkO.evo (by decide) hE b22_g18).2 1 rfl))
    refine steps_cons (fun own a wx hf hsl hE => ?_) ?_
    · obtain ⟨(f_4 : a.eval (.tmp 4) = .int .i64 p1.1), (f_6 : a.eval (.tmp 6) = .int .i64 p1.2), -⟩ := hf
      exact sg_plain rfl rfl (or_k [(4, .int .i64 p1.1), (6, .int .i64 p1.2)] rfl rfl ⟨f_4, f_6, trivial⟩ (by kernel_rfl))
    refine steps_cons (fun own a wx hf hsl hE => ?_) ?_
    · obtain ⟨(f_7 : a.eval (.tmp 7) = .agg #[.int .i64 p1.1, .int .i64 p1.2]), (b_g20 : BlkO own 21 wx g20 37 #[.int .i64 0, .int .i64 0]), -⟩ := hf
      obtain ⟨s_2, -⟩ := hsl
      exact sg_plain rfl rfl (or_store (l := #[.int .i64 p1.1, .int .i64 p1.2]) (lab := 21) (lab2 := 23) ts37 (s_2.trans e22_2) f_7 b_g20 (by simp) (by kernel_rfl) (mem_of rfl) (by decide) (by kernel_rfl) (fun own' a' w' ha hb => hb))
    exact steps_nil
  intro own24 a24 w24 hd24 hz24 hk24 hf24 hE24
  have e24_2 : a24.eval (.tmp 2) = .pointer (some ⟨g20, 0, none⟩) := (hk24 2 rfl).trans e22_2
  obtain ⟨(b_g20 : BlkO own24 23 w24 g20 37 #[.int .i64 p1.1, .int .i64 p1.2]), -⟩ := hf24 [5] rfl
  have hX24 := Evo.step hX22 (fun _ => Nat.le_refl 0) hE24 rfl
  have b24_g20 := b_g20
  refine fl_ret ?_
  obtain rfl := (osome hs).symm
  exact hret _ _ _ _ (.inl rfl) hd24 (results1_ rfl (RVal.cell_ e24_2 (run_loadVarAgg (l := [.int .i64 p1.1, .int .i64 p1.2]) ta37 (Blk.cellsFrom b24_g20.2 0 rfl) rfl))) ⟨own24, rfl, hX24⟩

theorem law01_Ofs_w (w : World) (l1 : List (Int × Int)) (Al1 : Option Addr) (cl1 : Nat) (hl1 : RdO (fun _ => 0) [0] w R34 Al1 cl1 l1) (r : List (Int × Int)) (hs : law01_Ofs l1 = some r) :
    Calls Try.prog 8 #[.slice Al1 l1.length cl1] w fun e w' => ∃ (own' : Own) (x : Option Addr × Nat), e = .returned (.slice x.1 r.length x.2) ∧ Evo [] (fun _ => 0) own' w w' ∧ RwO own' 1 [] w' 37 R37 x.1 x.2 r := by
  refine fl_enter (n := 20) rfl rfl rfl (Nat.le_of_ble_eq_true rfl) ?_
  intro a0 Q hd0 hz0 harg hret
  have ha0 := harg 0 _ rfl
  clear harg
  have hE0 : Evo [] (fun _ => 0) (fun _ => 0) w w := Evo.refl _ _ _
  refine rg_plain_seq (n := 20) (rs := []) (own0 := (fun _ => 0)) (K := [])
      (bs := [0])
      (ds := [⟨[], [], [], Fct.val 2 (.slice none 0 0)⟩]) (by kernel_rfl) hz0 hd0 (fun _ h => nomatch h) ?_ ?_
  · refine steps_cons (fun own a wx hf hsl hE => ?_) ?_
    · exact sg_plain rfl rfl (or_assign rfl)
    exact steps_nil
  intro own77 a77 w77 hd77 hz77 hk77 hf77 hE77
  have e77_0 : a77.eval (.tmp 0) = .slice Al1 l1.length cl1 := (hk77 0 rfl).trans ha0
  have hX77 := Evo.step hE0 (fun _ => Nat.le_refl 0) hE77 rfl
  have b77_Al1 := RdO.evo rfl hE77 hl1
  refine rg_plain_seq (n := 20) (rs := []) (own0 := own77) (K := [])
      (bs := [0])
      (ds := [⟨[], [], [], Fct.val 3 (.slice none 0 0)⟩]) (by kernel_rfl) hz77 hd77 (fun _ h => nomatch h) ?_ ?_
  · refine steps_cons (fun own a wx hf hsl hE => ?_) ?_
    · exact sg_plain rfl rfl (or_assign rfl)
    exact steps_nil
  intro own78 a78 w78 hd78 hz78 hk78 hf78 hE78
  have e78_0 : a78.eval (.tmp 0) = .slice Al1 l1.length cl1 := (hk78 0 rfl).trans e77_0
  obtain ⟨(f_3 : a78.eval (.tmp 3) = .slice none 0 0), -⟩ := hf78 [0] rfl
  have e78_3 := f_3
  have hX78 := Evo.step hX77 (fun _ => Nat.le_refl 0) hE78 rfl
  have b78_Al1 := RdO.evo rfl hE78 b77_Al1
  refine fl_seq (fun Q79 hn79 hp79 => ?_)
  refine rg_plain_seq (n := 20) (rs := []) (own0 := own78) (K := [])
      (bs := [0])
      (ds := [⟨[], [], [], Fct.val 4 (.int .i64 0)⟩]) (by kernel_rfl) hz78 hd78 (fun _ h => nomatch h) ?_ ?_
  · refine steps_cons (fun own a wx hf hsl hE => ?_) ?_
    · exact sg_plain rfl rfl (or_assign rfl)
    exact steps_nil
  intro own80 a80 w80 hd80 hz80 hk80 hf80 hE80
  have e80_0 : a80.eval (.tmp 0) = .slice Al1 l1.length cl1 := (hk80 0 rfl).trans e78_0
  have e80_3 : a80.eval (.tmp 3) = .slice none 0 0 := (hk80 3 rfl).trans e78_3
  obtain ⟨(f_4 : a80.eval (.tmp 4) = .int .i64 0), -⟩ := hf80 [0] rfl
  have e80_4 := f_4
  have hX80 := Evo.step hX78 (fun _ => Nat.le_refl 0) hE80 rfl
  have b80_Al1 := RdO.evo rfl hE80 b78_Al1
  refine fl_block (fun Q81 hn81 hx81 hp81 => ?_)
  refine fl_loop (body := (fun s => law01_Ofs_b1 l1 s.1 s.2)) (z := r) (show loopO _ _ = _ from hs) (fun (s : (List (Int × Int)) × Int) a wx => match s with | (out100, i102) => ∃ (ox : Own) (A98 : Option Addr) (c99 : Nat), a.defers = [] ∧ a.tmps.size = 20 ∧ a.eval (.tmp 0) = .slice Al1 l1.length cl1 ∧ a.eval (.tmp 3) = .slice A98 out100.length c99 ∧ a.eval (.tmp 4) = .int .i64 i102 ∧ Evo [] (fun _ => 0) ox w wx ∧ RdO ox [0] wx R34 Al1 cl1 l1 ∧ RwO ox 101 [] wx 37 R37 A98 c99 out100) ?_ ?_
  · exact ⟨own80, none, 0, hd80, hz80, e80_0, e80_3, e80_4, hX80, b80_Al1, RwO.nil_⟩
  · rintro ⟨out100, i102⟩ zz122 a122 w122 ⟨own122, A98, c99, hd123, hz123, e123_0, e123_3, e123_4, hE123, b123_Al1, b123_A98⟩ hs Q122 hn122 hp122 hz122
    have hs : law01_Ofs_b1 l1 out100 i102 = some zz122 := hs
    refine fl_seq (fun Q124 hn124 hp124 => ?_)
    refine rg_plain_seq (n := 20) (rs := []) (own0 := own122) (K := [])
        (bs := [0, 0, 2, 7])
        (ds := [⟨[], [4], [], Fct.val 5 (.int .i64 i102)⟩,
        ⟨[], [0], [], Fct.val 6 (.slice Al1 l1.length cl1)⟩,
        ⟨[1], [], [], Fct.val 7 (.int .i64 (l1.length : Int))⟩,
        ⟨[0, 2], [], [], Fct.val 8 (.bool (decide (i102 < (l1.length : Int))))⟩]) (by kernel_rfl) hz123 hd123 (fun _ h => nomatch h) ?_ ?_
    · refine steps_cons (fun own a wx hf hsl hE => ?_) ?_
      · obtain ⟨s_4, -⟩ := hsl
        exact sg_plain rfl rfl (or_move (s_4.trans e123_4))
      refine steps_cons (fun own a wx hf hsl hE => ?_) ?_
      · obtain ⟨s_0, -⟩ := hsl
        exact sg_plain rfl rfl (or_move (s_0.trans e123_0))
      refine steps_cons (fun own a wx hf hsl hE => ?_) ?_
      · obtain ⟨(f_6 : a.eval (.tmp 6) = .slice Al1 l1.length cl1), -⟩ := hf
        exact sg_plain rfl rfl (or_len tu24 f_6 rfl)
      refine steps_cons (fun own a wx hf hsl hE => ?_) ?_
      · obtain ⟨(f_5 : a.eval (.tmp 5) = .int .i64 i102), (f_7 : a.eval (.tmp 7) = .int .i64 (l1.length : Int)), -⟩ := hf
        exact sg_plain rfl rfl (or_lss f_5 f_7 rfl)
      exact steps_nil
    intro own125 a125 w125 hd125 hz125 hk125 hf125 hE125
    have e125_0 : a125.eval (.tmp 0) = .slice Al1 l1.length cl1 := (hk125 0 rfl).trans e123_0
    have e125_3 : a125.eval (.tmp 3) = .slice A98 out100.length c99 := (hk125 3 rfl).trans e123_3
    have e125_4 : a125.eval (.tmp 4) = .int .i64 i102 := (hk125 4 rfl).trans e123_4
    obtain ⟨(f_8 : a125.eval (.tmp 8) = .bool (decide (i102 < (l1.length : Int)))), -⟩ := hf125 [3] rfl
    have e125_8 := f_8
    have hX125 := Evo.step hE123 (fun _ => Nat.le_refl 0) hE125 rfl
    have b125_Al1 := RdO.evo rfl hE125 b123_Al1
    have b125_A98 := RwO.evo rfl hE125 b123_A98
    refine fl_cond e125_8 hs (fun c126 hs => ?_) (fun c126 hs => ?_)
    · refine fl_skip ?_
      refine hn124 _ _ ?_
      refine fl_seq (fun Q127 hn127 hp127 => ?_)
      refine fl_block (fun Q128 hn128 hx128 hp128 => ?_)
      obtain ⟨x133, hx133, hs⟩ := obind hs
      obtain ⟨r134, hr134, hs⟩ := obind hs
      obtain ⟨x137, hx137, hs⟩ := obind hs
      refine rg_plain (n := 20) (rs := [Fct.rowAt 101 [] 37 R37 A98 c99 out100]) (own0 := own125) (K := [101])
          (bs := [0, 0, 0, 6, 14, 30, 62, 127, 255])
          (ds := [⟨[], [3], [], Fct.val 11 (.slice A98 out100.length c99)⟩,
          ⟨[], [0], [], Fct.val 12 (.slice Al1 l1.length cl1)⟩,
          ⟨[], [4], [], Fct.val 13 (.int .i64 i102)⟩,
          ⟨[1, 2], [], [], Fct.val 14 (.pointer (some ((adr Al1).add ((i102 : Int).toNat * R34.s))))⟩,
          ⟨[3], [], [], Fct.val 15 (.agg #[.int .i64 x133.1, .int .i64 x133.2])⟩,
          ⟨[4], [], [], Fct.val 16 (.agg #[.int .i64 r134.1, .int .i64 r134.2])⟩,
          ⟨[5], [], [], Fct.row 136 [] 17 37 R37 [r134]⟩,
          ⟨[0, 6, 9], [], [101], Fct.row 138 [] 18 37 R37 x137⟩,
          ⟨[7], [], [], Fct.rel [3, 18] (fun l => ∀ (A139 : Option Addr) (cA139 : Nat), l.getD 1 undef = .slice A139 x137.length cA139 → l.getD 0 undef = .slice A139 x137.length cA139)⟩]) (by kernel_rfl) hz125 hd125 (by simp only [List.forall_mem_cons]; exact ⟨b125_A98, fun _ h => nomatch h⟩) ?_ ?_
      · refine steps_cons (fun own a wx hf hsl hE => ?_) ?_
        · obtain ⟨s_3, -⟩ := hsl
          exact sg_plain rfl rfl (or_move (s_3.trans e125_3))
        refine steps_cons (fun own a wx hf hsl hE => ?_) ?_
        · obtain ⟨s_0, -⟩ := hsl
          exact sg_plain rfl rfl (or_move (s_0.trans e125_0))
        refine steps_cons (fun own a wx hf hsl hE => ?_) ?_
        · obtain ⟨s_4, -⟩ := hsl
          exact sg_plain rfl rfl (or_move (s_4.trans e125_4))
        refine steps_cons (fun own a wx hf hsl hE => ?_) ?_
        · obtain ⟨(f_12 : a.eval (.tmp 12) = .slice Al1 l1.length cl1), (f_13 : a.eval (.tmp 13) = .int .i64 i102), -⟩ := hf
          exact sg_plain rfl rfl (or_index (R := R34) (l := l1) tl24 f_12 f_13 (RdO.some_ b125_Al1 hx133) hx133)
        refine steps_cons (fun own a wx hf hsl hE => ?_) ?_
        · obtain ⟨(f_14 : a.eval (.tmp 14) = .pointer (some ((adr Al1).add ((i102 : Int).toNat * R34.s)))), -⟩ := hf
          exact sg_plain rfl rfl (or_load (l := E34.f x133) ta34 f_14 (RdO.cells (F := E34) (RdO.evo rfl hE b125_Al1) hx133) rfl)
        refine steps_cons (fun own a wx hf hsl hE => ?_) ?_
        · obtain ⟨(f_15 : a.eval (.tmp 15) = .agg #[.int .i64 x133.1, .int .i64 x133.2]), -⟩ := hf
          exact sg_plain rfl rfl (or_call cf26 (args1 f_15) (law01_Of_w _ x133  r134 hr134) post_val)
        refine steps_cons (fun own a wx hf hsl hE => ?_) ?_
        · obtain ⟨(f_16 : a.eval (.tmp 16) = .agg #[.int .i64 r134.1, .int .i64 r134.2]), -⟩ := hf
          exact sg_plain rfl rfl (or_lit (lab := 136) (e := 37) (cs := #[.int .i64 r134.1, .int .i64 r134.2]) (F := E37) (or_new [(16, .agg #[.int .i64 r134.1, .int .i64 r134.2])] rfl rfl ⟨f_16, trivial⟩ (by kernel_rfl)) rfl rfl (show 1 ≤ maxLen by decide))
        refine steps_cons (fun own a wx hf hsl hE => ?_) ?_
        · obtain ⟨(f_11 : a.eval (.tmp 11) = .slice A98 out100.length c99), ⟨⟨A135, cA135⟩, (f_17 : a.eval (.tmp 17) = .slice A135 [r134].length cA135), (b_A135 : RwO own 136 [] wx 37 R37 A135 cA135 [r134])⟩, (b_A98 : RwO own 101 [] wx 37 R37 A98 c99 out100), -⟩ := hf
          exact sg_plain rfl rfl (or_append (R := R37) (lab := 101) (lab2 := 138) (L := []) (L3 := []) tp26 f_11 b_A98 (by decide) f_17 (RwO.rd b_A135) hx137 (by decide) (by decide) (mem_of rfl) (.inl (Rep.fl_flat _)))
        refine steps_cons (fun own a wx hf hsl hE => ?_) ?_
        · obtain ⟨⟨⟨A139, cA139⟩, (f_18 : a.eval (.tmp 18) = .slice A139 x137.length cA139), (b_A139 : RwO own 138 [] wx 37 R37 A139 cA139 x137)⟩, -⟩ := hf
          exact sg_plain rfl rfl (or_mono (f := Fct.val 3 (.slice A139 x137.length cA139)) (or_assign f_18) (fun own' a' w' v' hp h => fun _ _ h0' => by cases (f_18.symm.trans ((hp.2 18 (by decide)).symm.trans h0')); exact h))
        exact steps_nil
      intro own140 a140 w140 hd140 hz140 hk140 hf140 hE140
      have e140_0 : a140.eval (.tmp 0) = .slice Al1 l1.length cl1 := (hk140 0 rfl).trans e125_0
      have e140_4 : a140.eval (.tmp 4) = .int .i64 i102 := (hk140 4 rfl).trans e125_4
      obtain ⟨⟨⟨A139, cA139⟩, (f_18 : a140.eval (.tmp 18) = .slice A139 x137.length cA139), (b_A139 : RwO own140 138 [] w140 37 R37 A139 cA139 x137)⟩, (q_3 : ∀ (A139 : Option Addr) (cA139 : Nat), a140.eval (.tmp 18) = .slice A139 x137.length cA139 → a140.eval (.tmp 3) = .slice A139 x137.length cA139), -⟩ := hf140 [7, 8] rfl
      have f_3 := q_3 _ _ f_18
      have e140_3 := f_3
      have hX140 := Evo.step hX125 (fun _ => Nat.le_refl 0) hE140 rfl
      have b140_Al1 := RdO.evo rfl hE140 b125_Al1
      have b140_A139 := b_A139
      refine hn128 _ _ ?_
      refine hn127 _ _ ?_
      refine rg_plain (n := 20) (rs := []) (own0 := own140) (K := [])
          (bs := [0, 1, 3])
          (ds := [⟨[], [4], [], Fct.val 9 (.int .i64 i102)⟩,
          ⟨[0], [], [], Fct.val 10 (.int .i64 (ad i102 1))⟩,
          ⟨[1], [], [], Fct.val 4 (.int .i64 (ad i102 1))⟩]) (by kernel_rfl) hz140 hd140 (fun _ h => nomatch h) ?_ ?_
      · refine steps_cons (fun own a wx hf hsl hE => ?_) ?_
        · obtain ⟨s_4, -⟩ := hsl
          exact sg_plain rfl rfl (or_move (s_4.trans e140_4))
        refine steps_cons (fun own a wx hf hsl hE => ?_) ?_
        · obtain ⟨(f_9 : a.eval (.tmp 9) = .int .i64 i102), -⟩ := hf
          exact sg_plain rfl rfl (or_add f_9 rfl rfl)
        refine steps_cons (fun own a wx hf hsl hE => ?_) ?_
        · obtain ⟨(f_10 : a.eval (.tmp 10) = .int .i64 (ad i102 1)), -⟩ := hf
          exact sg_plain rfl rfl (or_assign f_10)
        exact steps_nil
      intro own141 a141 w141 hd141 hz141 hk141 hf141 hE141
      have e141_0 : a141.eval (.tmp 0) = .slice Al1 l1.length cl1 := (hk141 0 rfl).trans e140_0
      have e141_3 : a141.eval (.tmp 3) = .slice A139 x137.length cA139 := (hk141 3 rfl).trans e140_3
      obtain ⟨(f_4 : a141.eval (.tmp 4) = .int .i64 (ad i102 1)), -⟩ := hf141 [2] rfl
      have e141_4 := f_4
      have hX141 := Evo.step hX140 (fun _ => Nat.le_refl 0) hE141 rfl
      have b141_Al1 := RdO.evo rfl hE141 b140_Al1
      have b141_A139 := RwO.evo rfl hE141 b140_A139
      exact hn122 _ _ _ hs ⟨(rl [(138, 101)] own141), A139, cA139, hd141, hz141, e141_0, e141_3, e141_4, (Evo.rl_ hX141 (fun _ => Nat.le_refl 0) rfl), (RdO.rl_ (mm := [(138, 101)]) b141_Al1), (RwO.rl_ (mm := [(138, 101)]) b141_A139)⟩
    refine fl_exit ?_
    refine hp124 _ _ _ rfl ?_
    replace hs := hz122 _ hs
    refine hp122 _ _ _ rfl ?_
    refine hx81 _ _ ?_
    refine hn79 _ _ ?_
    refine rg_plain_seq (n := 20) (rs := []) (own0 := own125) (K := [])
        (bs := [0, 1])
        (ds := [⟨[], [3], [], Fct.val 19 (.slice A98 out100.length c99)⟩,
        ⟨[0], [], [], Fct.val 2 (.slice A98 out100.length c99)⟩]) (by kernel_rfl) hz125 hd125 (fun _ h => nomatch h) ?_ ?_
    · refine steps_cons (fun own a wx hf hsl hE => ?_) ?_
      · obtain ⟨s_3, -⟩ := hsl
        exact sg_plain rfl rfl (or_move (s_3.trans e125_3))
      refine steps_cons (fun own a wx hf hsl hE => ?_) ?_
      · obtain ⟨(f_19 : a.eval (.tmp 19) = .slice A98 out100.length c99), -⟩ := hf
        exact sg_plain rfl rfl (or_assign f_19)
      exact steps_nil
    intro own142 a142 w142 hd142 hz142 hk142 hf142 hE142
    obtain ⟨(f_2 : a142.eval (.tmp 2) = .slice A98 out100.length c99), -⟩ := hf142 [1] rfl
    have e142_2 := f_2
    have hX142 := Evo.step hX125 (fun _ => Nat.le_refl 0) hE142 rfl
    have b142_A98 := RwO.evo rfl hE142 b125_A98
    refine fl_ret ?_
    obtain rfl := (osome hs).symm
    exact hret _ _ _ _ (.inl rfl) hd142 (results1_ rfl (RVal.tmp_ e142_2)) ⟨(rl [(101, 1)] own142), (A98, c99), rfl, (Evo.rl_ hX142 (fun _ => Nat.le_refl 0) rfl), (RwO.rl_ (mm := [(101, 1)]) b142_A98)⟩

theorem lineclip_Join_w (w : World) (parts1 : List (List (Int × Int))) (Aparts1 : Option Addr) (cparts1 : Nat) (hparts1 : RdO (fun _ => 0) [0] w R24 Aparts1 cparts1 parts1) (r : List (List (Int × Int))) (hs : lineclip_Join parts1 = some r) :
    Calls Try.prog 9 #[.slice Aparts1 parts1.length cparts1] w fun e w' => ∃ (own' : Own) (x : Option Addr × Nat), e = .returned (.slice x.1 r.length x.2) ∧ Evo [] (fun _ => 0) own' w w' ∧ RwO own' 1 [2] w' 24 R24 x.1 x.2 r := by
  refine fl_enter (n := 56) rfl rfl rfl (Nat.le_of_ble_eq_true rfl) ?_
  intro a0 Q hd0 hz0 harg hret
  have ha0 := harg 0 _ rfl
  clear harg
  have hE0 : Evo [] (fun _ => 0) (fun _ => 0) w w := Evo.refl _ _ _
  refine rg_plain_seq (n := 56) (rs := []) (own0 := (fun _ => 0)) (K := [])
      (bs := [0])
      (ds := [⟨[], [], [], Fct.val 2 (.slice none 0 0)⟩]) (by kernel_rfl) hz0 hd0 (fun _ h => nomatch h) ?_ ?_
  · refine steps_cons (fun own a wx hf hsl hE => ?_) ?_
    · exact sg_plain rfl rfl (or_assign rfl)
    exact steps_nil
  intro own594 a594 w594 hd594 hz594 hk594 hf594 hE594
  have e594_0 : a594.eval (.tmp 0) = .slice Aparts1 parts1.length cparts1 := (hk594 0 rfl).trans ha0
  have hX594 := Evo.step hE0 (fun _ => Nat.le_refl 0) hE594 rfl
  have b594_Aparts1 := RdO.evo rfl hE594 hparts1
  refine rg_plain_seq (n := 56) (rs := []) (own0 := own594) (K := [])
      (bs := [0])
      (ds := [⟨[], [], [], Fct.val 3 (.slice none 0 0)⟩]) (by kernel_rfl) hz594 hd594 (fun _ h => nomatch h) ?_ ?_
  · refine steps_cons (fun own a wx hf hsl hE => ?_) ?_
    · exact sg_plain rfl rfl (or_assign rfl)
    exact steps_nil
  intro own595 a595 w595 hd595 hz595 hk595 hf595 hE595
  have e595_0 : a595.eval (.tmp 0) = .slice Aparts1 parts1.length cparts1 := (hk595 0 rfl).trans e594_0
  obtain ⟨(f_3 : a595.eval (.tmp 3) = .slice none 0 0), -⟩ := hf595 [0] rfl
  have e595_3 := f_3
  have hX595 := Evo.step hX594 (fun _ => Nat.le_refl 0) hE595 rfl
  have b595_Aparts1 := RdO.evo rfl hE595 b594_Aparts1
  refine fl_seq (fun Q596 hn596 hp596 => ?_)
  refine rg_plain_seq (n := 56) (rs := []) (own0 := own595) (K := [])
      (bs := [0, 1, 0])
      (ds := [⟨[], [0], [], Fct.val 7 (.slice Aparts1 parts1.length cparts1)⟩,
      ⟨[0], [], [], Fct.val 8 (.int .i64 (parts1.length : Int))⟩,
      ⟨[], [], [], Fct.val 9 (.int .i64 0)⟩]) (by kernel_rfl) hz595 hd595 (fun _ h => nomatch h) ?_ ?_
  · refine steps_cons (fun own a wx hf hsl hE => ?_) ?_
    · obtain ⟨s_0, -⟩ := hsl
      exact sg_plain rfl rfl (or_move (s_0.trans e595_0))
    refine steps_cons (fun own a wx hf hsl hE => ?_) ?_
    · obtain ⟨(f_7 : a.eval (.tmp 7) = .slice Aparts1 parts1.length cparts1), -⟩ := hf
      exact sg_plain rfl rfl (or_len tu22 f_7 rfl)
    refine steps_cons (fun own a wx hf hsl hE => ?_) ?_
    · exact sg_plain rfl rfl (or_move rfl)
    exact steps_nil
  intro own597 a597 w597 hd597 hz597 hk597 hf597 hE597
  have e597_3 : a597.eval (.tmp 3) = .slice none 0 0 := (hk597 3 rfl).trans e595_3
  obtain ⟨(f_7 : a597.eval (.tmp 7) = .slice Aparts1 parts1.length cparts1), (f_8 : a597.eval (.tmp 8) = .int .i64 (parts1.length : Int)), (f_9 : a597.eval (.tmp 9) = .int .i64 0), -⟩ := hf597 [0, 1, 2] rfl
  have e597_7 := f_7
  have e597_8 := f_8
  have e597_9 := f_9
  have hX597 := Evo.step hX595 (fun _ => Nat.le_refl 0) hE597 rfl
  have b597_Aparts1 := RdO.evo rfl hE597 b595_Aparts1
  refine fl_block (fun Q598 hn598 hx598 hp598 => ?_)
  refine fl_loop (body := (fun s => lineclip_Join_b1 parts1 s.1 s.2)) (z := r) (show loopO _ _ = _ from hs) (fun (s : (List (List (Int × Int))) × Int) a wx => match s with | (out735, x738) => ∃ (ox : Own) (A733 : Option Addr) (c734 : Nat), a.defers = [] ∧ a.tmps.size = 56 ∧ a.eval (.tmp 3) = .slice A733 out735.length c734 ∧ a.eval (.tmp 7) = .slice Aparts1 parts1.length cparts1 ∧ a.eval (.tmp 8) = .int .i64 (parts1.length : Int) ∧ a.eval (.tmp 9) = .int .i64 x738 ∧ Evo [] (fun _ => 0) ox w wx ∧ RwN ox 736 737 [] wx 24 34 R34 A733 c734 out735 ∧ RdO ox [0] wx R24 Aparts1 cparts1 parts1) ?_ ?_
  · exact ⟨own597, none, 0, hd597, hz597, e597_3, e597_7, e597_8, e597_9, hX597, RwN.nil_, b597_Aparts1⟩
  · rintro ⟨out735, x738⟩ zz957 a957 w957 ⟨own957, A733, c734, hd958, hz958, e958_3, e958_7, e958_8, e958_9, hE958, b958_A733, b958_Aparts1⟩ hs Q957 hn957 hp957 hz957
    have hs : lineclip_Join_b1 parts1 out735 x738 = some zz957 := hs
    refine rg_plain_seq (n := 56) (rs := []) (own0 := own957) (K := [])
        (bs := [0])
        (ds := [⟨[], [9, 8], [], Fct.val 10 (.bool (decide (x738 < (parts1.length : Int))))⟩]) (by kernel_rfl) hz958 hd958 (fun _ h => nomatch h) ?_ ?_
    · refine steps_cons (fun own a wx hf hsl hE => ?_) ?_
      · obtain ⟨s_9, s_8, -⟩ := hsl
        exact sg_plain rfl rfl (or_lss (s_9.trans e958_9) (s_8.trans e958_8) rfl)
      exact steps_nil
    intro own959 a959 w959 hd959 hz959 hk959 hf959 hE959
    have e959_3 : a959.eval (.tmp 3) = .slice A733 out735.length c734 := (hk959 3 rfl).trans e958_3
    have e959_7 : a959.eval (.tmp 7) = .slice Aparts1 parts1.length cparts1 := (hk959 7 rfl).trans e958_7
    have e959_8 : a959.eval (.tmp 8) = .int .i64 (parts1.length : Int) := (hk959 8 rfl).trans e958_8
    have e959_9 : a959.eval (.tmp 9) = .int .i64 x738 := (hk959 9 rfl).trans e958_9
    obtain ⟨(f_10 : a959.eval (.tmp 10) = .bool (decide (x738 < (parts1.length : Int)))), -⟩ := hf959 [0] rfl
    have e959_10 := f_10
    have hX959 := Evo.step hE958 (fun _ => Nat.le_refl 0) hE959 rfl
    have b959_A733 := RwN.evo rfl hE959 b958_A733
    have b959_Aparts1 := RdO.evo rfl hE959 b958_Aparts1
    refine fl_seq (fun Q960 hn960 hp960 => ?_)
    refine fl_cond e959_10 hs (fun c961 hs => ?_) (fun c961 hs => ?_)
    · refine fl_skip ?_
      refine hn960 _ _ ?_
      refine fl_seq (fun Q962 hn962 hp962 => ?_)
      refine fl_block (fun Q1069 hn1069 hx1069 hp1069 => ?_)
      have K1124 : ∀ (a1124 : Act) (w1124 : World) (own1124 : Own) (out1121 : List (List (Int × Int))) (A1119 : Option Addr) (c1120 : Nat), a1124.defers = [] → a1124.tmps.size = 56 → a1124.eval (.tmp 3) = .slice A1119 out1121.length c1120 → a1124.eval (.tmp 7) = .slice Aparts1 parts1.length cparts1 → a1124.eval (.tmp 8) = .int .i64 (parts1.length : Int) → a1124.eval (.tmp 9) = .int .i64 x738 → Evo [] (fun _ => 0) own1124 w w1124 → RwN own1124 1122 1123 [] w1124 24 34 R34 A1119 c1120 out1121 → RdO own1124 [0] w1124 R24 Aparts1 cparts1 parts1 → lineclip_Join_k2 x738 out1121 = some zz957 → (Q1069 .normal a1124 w1124 ∧ Q1069 (.exit 1) a1124 w1124) := by
        intro a1124 w1124 own1124 out1121 A1119 c1120 hd1125 hz1125 e1125_3 e1125_7 e1125_8 e1125_9 hE1125 b1125_A1119 b1125_Aparts1 hs
        refine and_both (hn1069 _ _) (hx1069 _ _) ?_
        refine hn962 _ _ ?_
        refine rg_plain (n := 56) (rs := []) (own0 := own1124) (K := [])
            (bs := [0, 1])
            (ds := [⟨[], [9], [], Fct.val 54 (.int .i64 (ad x738 1))⟩,
            ⟨[0], [], [], Fct.val 9 (.int .i64 (ad x738 1))⟩]) (by kernel_rfl) hz1125 hd1125 (fun _ h => nomatch h) ?_ ?_
        · refine steps_cons (fun own a wx hf hsl hE => ?_) ?_
          · obtain ⟨s_9, -⟩ := hsl
            exact sg_plain rfl rfl (or_add (s_9.trans e1125_9) rfl rfl)
          refine steps_cons (fun own a wx hf hsl hE => ?_) ?_
          · obtain ⟨(f_54 : a.eval (.tmp 54) = .int .i64 (ad x738 1)), -⟩ := hf
            exact sg_plain rfl rfl (or_move f_54)
          exact steps_nil
        intro own1126 a1126 w1126 hd1126 hz1126 hk1126 hf1126 hE1126
        have e1126_3 : a1126.eval (.tmp 3) = .slice A1119 out1121.length c1120 := (hk1126 3 rfl).trans e1125_3
        have e1126_7 : a1126.eval (.tmp 7) = .slice Aparts1 parts1.length cparts1 := (hk1126 7 rfl).trans e1125_7
        have e1126_8 : a1126.eval (.tmp 8) = .int .i64 (parts1.length : Int) := (hk1126 8 rfl).trans e1125_8
        obtain ⟨(f_9 : a1126.eval (.tmp 9) = .int .i64 (ad x738 1)), -⟩ := hf1126 [1] rfl
        have e1126_9 := f_9
        have hX1126 := Evo.step hE1125 (fun _ => Nat.le_refl 0) hE1126 rfl
        have b1126_A1119 := RwN.evo rfl hE1126 b1125_A1119
        have b1126_Aparts1 := RdO.evo rfl hE1126 b1125_Aparts1
        exact hn957 _ _ _ hs ⟨(rl [(1122, 736), (1123, 737)] own1126), A1119, c1120, hd1126, hz1126, e1126_3, e1126_7, e1126_8, e1126_9, (Evo.rl_ hX1126 (fun _ => Nat.le_refl 0) rfl), (RwN.rl_ (mm := [(1122, 736), (1123, 737)]) b1126_A1119), (RdO.rl_ (mm := [(1122, 736), (1123, 737)]) b1126_Aparts1)⟩
      obtain ⟨x1127, hx1127, hs⟩ := obind hs
      refine rg_plain_seq (n := 56) (rs := []) (own0 := own959) (K := [])
          (bs := [0, 1, 3])
          (ds := [⟨[], [7, 9], [], Fct.val 11 (.pointer (some ((adr Aparts1).add ((x738 : Int).toNat * R24.s))))⟩,
          ⟨[0], [], [], Fct.nest X24 [0] 12 (fun (y : (Option Addr × Nat)) => .slice y.1 x1127.length y.2) x1127⟩,
          ⟨[1], [], [], Fct.rel [5, 12] (fun l => ∀ (A1128 : Option Addr) (cA1128 : Nat), l.getD 1 undef = .slice A1128 x1127.length cA1128 → l.getD 0 undef = .slice A1128 x1127.length cA1128)⟩]) (by kernel_rfl) hz959 hd959 (fun _ h => nomatch h) ?_ ?_
      · refine steps_cons (fun own a wx hf hsl hE => ?_) ?_
        · obtain ⟨s_7, s_9, -⟩ := hsl
          exact sg_plain rfl rfl (or_index (R := R24) (l := parts1) tl22 (s_7.trans e959_7) (s_9.trans e959_9) (RdO.some_ b959_Aparts1 hx1127) hx1127)
        refine steps_cons (fun own a wx hf hsl hE => ?_) ?_
        · obtain ⟨(f_11 : a.eval (.tmp 11) = .pointer (some ((adr Aparts1).add ((x738 : Int).toNat * R24.s)))), -⟩ := hf
          exact sg_plain rfl rfl (or_loadN1 X24 0 to24 f_11 (Addr.add_zero' _).symm (RdO.evo rfl hE b959_Aparts1) hx1127 (fun _ => rfl))
        refine steps_cons (fun own a wx hf hsl hE => ?_) ?_
        · obtain ⟨⟨⟨A1128, cA1128⟩, (f_12 : a.eval (.tmp 12) = .slice A1128 x1127.length cA1128), (b_A1128 : RdO own [0] wx R34 A1128 cA1128 x1127)⟩, -⟩ := hf
          exact sg_plain rfl rfl (or_mono (f := Fct.val 5 (.slice A1128 x1127.length cA1128)) (or_assign f_12) (fun own' a' w' v' hp h => fun _ _ h0' => by cases (f_12.symm.trans ((hp.2 12 (by decide)).symm.trans h0')); exact h))
        exact steps_nil
      intro own1129 a1129 w1129 hd1129 hz1129 hk1129 hf1129 hE1129
      have e1129_3 : a1129.eval (.tmp 3) = .slice A733 out735.length c734 := (hk1129 3 rfl).trans e959_3
      have e1129_7 : a1129.eval (.tmp 7) = .slice Aparts1 parts1.length cparts1 := (hk1129 7 rfl).trans e959_7
      have e1129_8 : a1129.eval (.tmp 8) = .int .i64 (parts1.length : Int) := (hk1129 8 rfl).trans e959_8
      have e1129_9 : a1129.eval (.tmp 9) = .int .i64 x738 := (hk1129 9 rfl).trans e959_9
      obtain ⟨⟨⟨A1128, cA1128⟩, (f_12 : a1129.eval (.tmp 12) = .slice A1128 x1127.length cA1128), (b_A1128 : RdO own1129 [0] w1129 R34 A1128 cA1128 x1127)⟩, (q_5 : ∀ (A1128 : Option Addr) (cA1128 : Nat), a1129.eval (.tmp 12) = .slice A1128 x1127.length cA1128 → a1129.eval (.tmp 5) = .slice A1128 x1127.length cA1128), -⟩ := hf1129 [1, 2] rfl
      have f_5 := q_5 _ _ f_12
      have e1129_5 := f_5
      have hX1129 := Evo.step hX959 (fun _ => Nat.le_refl 0) hE1129 rfl
      have b1129_A733 := RwN.evo rfl hE1129 b959_A733
      have b1129_Aparts1 := RdO.evo rfl hE1129 b959_Aparts1
      have b1129_A1128 := b_A1128
      refine fl_seq (fun Q1130 hn1130 hp1130 => ?_)
      refine rg_plain_seq (n := 56) (rs := []) (own0 := own1129) (K := [])
          (bs := [0, 1, 3])
          (ds := [⟨[], [5], [], Fct.val 13 (.slice A1128 x1127.length cA1128)⟩,
          ⟨[0], [], [], Fct.val 14 (.int .i64 (x1127.length : Int))⟩,
          ⟨[1], [], [], Fct.val 15 (.bool (decide ((x1127.length : Int) = 0)))⟩]) (by kernel_rfl) hz1129 hd1129 (fun _ h => nomatch h) ?_ ?_
      · refine steps_cons (fun own a wx hf hsl hE => ?_) ?_
        · obtain ⟨s_5, -⟩ := hsl
          exact sg_plain rfl rfl (or_move (s_5.trans e1129_5))
        refine steps_cons (fun own a wx hf hsl hE => ?_) ?_
        · obtain ⟨(f_13 : a.eval (.tmp 13) = .slice A1128 x1127.length cA1128), -⟩ := hf
          exact sg_plain rfl rfl (or_len tu24 f_13 rfl)
        refine steps_cons (fun own a wx hf hsl hE => ?_) ?_
        · obtain ⟨(f_14 : a.eval (.tmp 14) = .int .i64 (x1127.length : Int)), -⟩ := hf
          exact sg_plain rfl rfl (or_eql f_14 rfl rfl)
        exact steps_nil
      intro own1131 a1131 w1131 hd1131 hz1131 hk1131 hf1131 hE1131
      have e1131_3 : a1131.eval (.tmp 3) = .slice A733 out735.length c734 := (hk1131 3 rfl).trans e1129_3
      have e1131_5 : a1131.eval (.tmp 5) = .slice A1128 x1127.length cA1128 := (hk1131 5 rfl).trans e1129_5
      have e1131_7 : a1131.eval (.tmp 7) = .slice Aparts1 parts1.length cparts1 := (hk1131 7 rfl).trans e1129_7
      have e1131_8 : a1131.eval (.tmp 8) = .int .i64 (parts1.length : Int) := (hk1131 8 rfl).trans e1129_8
      have e1131_9 : a1131.eval (.tmp 9) = .int .i64 x738 := (hk1131 9 rfl).trans e1129_9
      obtain ⟨(f_15 : a1131.eval (.tmp 15) = .bool (decide ((x1127.length : Int) = 0))), -⟩ := hf1131 [2] rfl
      have e1131_15 := f_15
      have hX1131 := Evo.step hX1129 (fun _ => Nat.le_refl 0) hE1131 rfl
      have b1131_A733 := RwN.evo rfl hE1131 b1129_A733
      have b1131_Aparts1 := RdO.evo rfl hE1131 b1129_Aparts1
      have b1131_A1128 := RdO.evo rfl hE1131 b1129_A1128
      refine fl_cond e1131_15 hs (fun c1132 hs => ?_) (fun c1132 hs => ?_)
      · refine fl_exit ?_
        refine hp1130 _ _ _ rfl ?_
        exact (K1124 _ _ (rl [(736, 1122), (737, 1123)] own1131) _ A733 c734 hd1131 hz1131 e1131_3 e1131_7 e1131_8 e1131_9 (Evo.rl_ hX1131 (fun _ => Nat.le_refl 0) rfl) (RwN.rl_ (mm := [(736, 1122), (737, 1123)]) b1131_A733) (RdO.rl_ (mm := [(736, 1122), (737, 1123)]) b1131_Aparts1) hs).2
      refine fl_skip ?_
      refine hn1130 _ _ ?_
      refine rg_plain_seq (n := 56) (rs := []) (own0 := own1131) (K := [])
          (bs := [0, 1, 3, 7])
          (ds := [⟨[], [3], [], Fct.val 16 (.slice A733 out735.length c734)⟩,
          ⟨[0], [], [], Fct.val 17 (.int .i64 (out735.length : Int))⟩,
          ⟨[1], [], [], Fct.val 18 (.int .i64 (sb (out735.length : Int) 1))⟩,
          ⟨[2], [], [], Fct.val 6 (.int .i64 (sb (out735.length : Int) 1))⟩]) (by kernel_rfl) hz1131 hd1131 (fun _ h => nomatch h) ?_ ?_
      · refine steps_cons (fun own a wx hf hsl hE => ?_) ?_
        · obtain ⟨s_3, -⟩ := hsl
          exact sg_plain rfl rfl (or_move (s_3.trans e1131_3))
        refine steps_cons (fun own a wx hf hsl hE => ?_) ?_
        · obtain ⟨(f_16 : a.eval (.tmp 16) = .slice A733 out735.length c734), -⟩ := hf
          exact sg_plain rfl rfl (or_len tu22 f_16 rfl)
        refine steps_cons (fun own a wx hf hsl hE => ?_) ?_
        · obtain ⟨(f_17 : a.eval (.tmp 17) = .int .i64 (out735.length : Int)), -⟩ := hf
          exact sg_plain rfl rfl (or_sub f_17 rfl rfl)
        refine steps_cons (fun own a wx hf hsl hE => ?_) ?_
        · obtain ⟨(f_18 : a.eval (.tmp 18) = .int .i64 (sb (out735.length : Int) 1)), -⟩ := hf
          exact sg_plain rfl rfl (or_assign f_18)
        exact steps_nil
      intro own1133 a1133 w1133 hd1133 hz1133 hk1133 hf1133 hE1133
      have e1133_3 : a1133.eval (.tmp 3) = .slice A733 out735.length c734 := (hk1133 3 rfl).trans e1131_3
      have e1133_5 : a1133.eval (.tmp 5) = .slice A1128 x1127.length cA1128 := (hk1133 5 rfl).trans e1131_5
      have e1133_7 : a1133.eval (.tmp 7) = .slice Aparts1 parts1.length cparts1 := (hk1133 7 rfl).trans e1131_7
      have e1133_8 : a1133.eval (.tmp 8) = .int .i64 (parts1.length : Int) := (hk1133 8 rfl).trans e1131_8
      have e1133_9 : a1133.eval (.tmp 9) = .int .i64 x738 := (hk1133 9 rfl).trans e1131_9
      obtain ⟨(f_6 : a1133.eval (.tmp 6) = .int .i64 (sb (out735.length : Int) 1)), -⟩ := hf1133 [3] rfl
      have e1133_6 := f_6
      have hX1133 := Evo.step hX1131 (fun _ => Nat.le_refl 0) hE1133 rfl
      have b1133_A733 := RwN.evo rfl hE1133 b1131_A733
      have b1133_Aparts1 := RdO.evo rfl hE1133 b1131_Aparts1
      have b1133_A1128 := RdO.evo rfl hE1133 b1131_A1128
      obtain ⟨x1134, hx1134, hs⟩ := obind hs
      obtain ⟨x1136, hx1136, hs⟩ := obind hs
      obtain ⟨x1138, hx1138, hs⟩ := obind hs
      obtain ⟨x1139, hx1139, hs⟩ := obind hs
      obtain ⟨x1140, hx1140, hs⟩ := obind hs
      refine rg_draw_seq g_mixed (n := 56) (rs := []) (own0 := own1133) (K := [])
          (bs := [0, 1, 3, 7, 7, 31, 63, 7, 7, 391, 903, 1927, 3975, 8191, 16383, 7, 32775, 98311, 262143, 524287])
          (ds := [⟨[], [6], [], Fct.val 19 (.int .i64 (sb (out735.length : Int) 1))⟩,
          ⟨[0], [], [], Fct.val 20 (.bool (decide (0 ≤ (sb (out735.length : Int) 1))))⟩,
          ⟨[1], [], [], Fct.val 21 (.bool (decide (0 ≤ (sb (out735.length : Int) 1))))⟩,
          ⟨[2], [3], [], Fct.cond (decide (0 ≤ (sb (out735.length : Int) 1))) (some 22) (Fct.val 22 (.slice A733 out735.length c734))⟩,
          ⟨[2], [6], [], Fct.cond (decide (0 ≤ (sb (out735.length : Int) 1))) (some 23) (Fct.val 23 (.int .i64 (sb (out735.length : Int) 1)))⟩,
          ⟨[2, 3, 4], [], [], Fct.cond (decide (0 ≤ (sb (out735.length : Int) 1))) (some 24) (Fct.val 24 (.pointer (some ((adr A733).add ((sb (out735.length : Int) 1 : Int).toNat * R24.s)))))⟩,
          ⟨[2, 5], [], [], Fct.cond (decide (0 ≤ (sb (out735.length : Int) 1))) (some 25) (Fct.nest X24 [736, 737] 25 (fun (y : (Option Addr × Nat)) => .slice y.1 x1134.length y.2) x1134)⟩,
          ⟨[2], [3], [], Fct.cond (decide (0 ≤ (sb (out735.length : Int) 1))) (some 26) (Fct.val 26 (.slice A733 out735.length c734))⟩,
          ⟨[2], [6], [], Fct.cond (decide (0 ≤ (sb (out735.length : Int) 1))) (some 27) (Fct.val 27 (.int .i64 (sb (out735.length : Int) 1)))⟩,
          ⟨[2, 7, 8], [], [], Fct.cond (decide (0 ≤ (sb (out735.length : Int) 1))) (some 28) (Fct.val 28 (.pointer (some ((adr A733).add ((sb (out735.length : Int) 1 : Int).toNat * R24.s)))))⟩,
          ⟨[2, 9], [], [], Fct.cond (decide (0 ≤ (sb (out735.length : Int) 1))) (some 29) (Fct.nest X24 [736, 737] 29 (fun (y : (Option Addr × Nat)) => .slice y.1 x1136.length y.2) x1136)⟩,
          ⟨[2, 10], [], [], Fct.cond (decide (0 ≤ (sb (out735.length : Int) 1))) (some 30) (Fct.val 30 (.int .i64 (x1136.length : Int)))⟩,
          ⟨[2, 11], [], [], Fct.cond (decide (0 ≤ (sb (out735.length : Int) 1))) (some 31) (Fct.val 31 (.int .i64 (sb (x1136.length : Int) 1)))⟩,
          ⟨[2, 6, 12], [], [], Fct.cond (decide (0 ≤ (sb (out735.length : Int) 1))) (some 32) (Fct.rel [32, 25] (fun l => ∀ (A1135 : Option Addr) (cA1135 : Nat), l.getD 1 undef = .slice A1135 x1134.length cA1135 → l.getD 0 undef = .pointer (some ((adr A1135).add ((sb (x1136.length : Int) 1 : Int).toNat * R34.s)))))⟩,
          ⟨[2, 13, 6], [], [], Fct.cond (decide (0 ≤ (sb (out735.length : Int) 1))) (some 33) (Fct.val 33 (.agg #[.int .i64 x1138.1, .int .i64 x1138.2]))⟩,
          ⟨[2], [5], [], Fct.cond (decide (0 ≤ (sb (out735.length : Int) 1))) (some 34) (Fct.val 34 (.slice A1128 x1127.length cA1128))⟩,
          ⟨[2, 15], [], [], Fct.cond (decide (0 ≤ (sb (out735.length : Int) 1))) (some 35) (Fct.val 35 (.pointer (some ((adr A1128).add ((0 : Int).toNat * R34.s)))))⟩,
          ⟨[2, 16], [], [], Fct.cond (decide (0 ≤ (sb (out735.length : Int) 1))) (some 36) (Fct.val 36 (.agg #[.int .i64 x1139.1, .int .i64 x1139.2]))⟩,
          ⟨[2, 14, 17], [], [], Fct.cond (decide (0 ≤ (sb (out735.length : Int) 1))) (some 37) (Fct.val 37 (.bool (decide (x1138 = x1139))))⟩,
          ⟨[2, 18], [], [], Fct.val 38 (.bool x1140)⟩]) (by kernel_rfl) hz1133 hd1133 (fun _ h => nomatch h) ?_ ?_
      · refine steps_cons (fun own a wx hf hsl hE => ?_) ?_
        · obtain ⟨s_6, -⟩ := hsl
          exact sg_plain rfl rfl (or_move (s_6.trans e1133_6))
        refine steps_cons (fun own a wx hf hsl hE => ?_) ?_
        · obtain ⟨(f_19 : a.eval (.tmp 19) = .int .i64 (sb (out735.length : Int) 1)), -⟩ := hf
          exact sg_plain rfl rfl (or_geq f_19 rfl rfl)
        refine steps_cons (fun own a wx hf hsl hE => ?_) ?_
        · obtain ⟨(f_20 : a.eval (.tmp 20) = .bool (decide (0 ≤ (sb (out735.length : Int) 1)))), -⟩ := hf
          exact sg_plain rfl rfl (or_move f_20)
        refine steps_cons (fun own a wx hf hsl hE => ?_) ?_
        · obtain ⟨(f_21 : a.eval (.tmp 21) = .bool (decide (0 ≤ (sb (out735.length : Int) 1)))), -⟩ := hf
          obtain ⟨s_3, -⟩ := hsl
          refine sg_t rfl rfl rfl f_21 (fun hg => ?_)
          exact or_move (s_3.trans e1133_3)
        refine steps_cons (fun own a wx hf hsl hE => ?_) ?_
        · obtain ⟨(f_21 : a.eval (.tmp 21) = .bool (decide (0 ≤ (sb (out735.length : Int) 1)))), -⟩ := hf
          obtain ⟨s_6, -⟩ := hsl
          refine sg_t rfl rfl rfl f_21 (fun hg => ?_)
          exact or_move (s_6.trans e1133_6)
        refine steps_cons (fun own a wx hf hsl hE => ?_) ?_
        · obtain ⟨(f_21 : a.eval (.tmp 21) = .bool (decide (0 ≤ (sb (out735.length : Int) 1)))), c_22, c_23, -⟩ := hf
          refine sg_t rfl rfl rfl f_21 (fun hg => ?_)
          have f_22 : a.eval (.tmp 22) = .slice A733 out735.length c734 := c_22.1 hg
          have f_23 : a.eval (.tmp 23) = .int .i64 (sb (out735.length : Int) 1) := c_23.1 hg
          exact or_index (R := R24) (l := out735) tl22 f_22 f_23 (RdO.some_ (RwN.rd b1133_A733) (gd_t hx1134 hg)) (gd_t hx1134 hg)
        refine steps_cons (fun own a wx hf hsl hE => ?_) ?_
        · obtain ⟨(f_21 : a.eval (.tmp 21) = .bool (decide (0 ≤ (sb (out735.length : Int) 1)))), c_24, -⟩ := hf
          refine sg_t rfl rfl rfl f_21 (fun hg => ?_)
          have f_24 : a.eval (.tmp 24) = .pointer (some ((adr A733).add ((sb (out735.length : Int) 1 : Int).toNat * R24.s))) := c_24.1 hg
          exact or_loadN1 X24 0 to24 f_24 (Addr.add_zero' _).symm (RwN.rd (RwN.evo rfl hE b1133_A733)) (gd_t hx1134 hg) (fun _ => rfl)
        refine steps_cons (fun own a wx hf hsl hE => ?_) ?_
        · obtain ⟨(f_21 : a.eval (.tmp 21) = .bool (decide (0 ≤ (sb (out735.length : Int) 1)))), -⟩ := hf
          obtain ⟨s_3, -⟩ := hsl
          refine sg_t rfl rfl rfl f_21 (fun hg => ?_)
          exact or_move (s_3.trans e1133_3)
        refine steps_cons (fun own a wx hf hsl hE => ?_) ?_
        · obtain ⟨(f_21 : a.eval (.tmp 21) = .bool (decide (0 ≤ (sb (out735.length : Int) 1)))), -⟩ := hf
          obtain ⟨s_6, -⟩ := hsl
          refine sg_t rfl rfl rfl f_21 (fun hg => ?_)
          exact or_move (s_6.trans e1133_6)
        refine steps_cons (fun own a wx hf hsl hE => ?_) ?_
        · obtain ⟨(f_21 : a.eval (.tmp 21) = .bool (decide (0 ≤ (sb (out735.length : Int) 1)))), c_26, c_27, -⟩ := hf
          refine sg_t rfl rfl rfl f_21 (fun hg => ?_)
          have f_26 : a.eval (.tmp 26) = .slice A733 out735.length c734 := c_26.1 hg
          have f_27 : a.eval (.tmp 27) = .int .i64 (sb (out735.length : Int) 1) := c_27.1 hg
          exact or_index (R := R24) (l := out735) tl22 f_26 f_27 (RdO.some_ (RwN.rd b1133_A733) (gd_t hx1136 hg)) (gd_t hx1136 hg)
        refine steps_cons (fun own a wx hf hsl hE => ?_) ?_
        · obtain ⟨(f_21 : a.eval (.tmp 21) = .bool (decide (0 ≤ (sb (out735.length : Int) 1)))), c_28, -⟩ := hf
          refine sg_t rfl rfl rfl f_21 (fun hg => ?_)
          have f_28 : a.eval (.tmp 28) = .pointer (some ((adr A733).add ((sb (out735.length : Int) 1 : Int).toNat * R24.s))) := c_28.1 hg
          exact or_loadN1 X24 0 to24 f_28 (Addr.add_zero' _).symm (RwN.rd (RwN.evo rfl hE b1133_A733)) (gd_t hx1136 hg) (fun _ => rfl)
        refine steps_cons (fun own a wx hf hsl hE => ?_) ?_
        · obtain ⟨(f_21 : a.eval (.tmp 21) = .bool (decide (0 ≤ (sb (out735.length : Int) 1)))), c_29, -⟩ := hf
          refine sg_t rfl rfl rfl f_21 (fun hg => ?_)
          obtain ⟨⟨A1137, cA1137⟩, (f_29 : a.eval (.tmp 29) = .slice A1137 x1136.length cA1137), (b_A1137 : RdO own [736, 737] wx R34 A1137 cA1137 x1136)⟩ := c_29.1 hg
          exact or_len tu24 f_29 rfl
        refine steps_cons (fun own a wx hf hsl hE => ?_) ?_
        · obtain ⟨(f_21 : a.eval (.tmp 21) = .bool (decide (0 ≤ (sb (out735.length : Int) 1)))), c_30, -⟩ := hf
          refine sg_t rfl rfl rfl f_21 (fun hg => ?_)
          have f_30 : a.eval (.tmp 30) = .int .i64 (x1136.length : Int) := c_30.1 hg
          exact or_sub f_30 rfl rfl
        refine steps_cons (fun own a wx hf hsl hE => ?_) ?_
        · obtain ⟨(f_21 : a.eval (.tmp 21) = .bool (decide (0 ≤ (sb (out735.length : Int) 1)))), c_25, c_31, -⟩ := hf
          refine sg_t rfl rfl rfl f_21 (fun hg => ?_)
          obtain ⟨⟨A1135, cA1135⟩, (f_25 : a.eval (.tmp 25) = .slice A1135 x1134.length cA1135), (b_A1135 : RdO own [736, 737] wx R34 A1135 cA1135 x1134)⟩ := c_25.1 hg
          have f_31 : a.eval (.tmp 31) = .int .i64 (sb (x1136.length : Int) 1) := c_31.1 hg
          exact or_mono (f := Fct.val 32 (.pointer (some ((adr A1135).add ((sb (x1136.length : Int) 1 : Int).toNat * R34.s))))) (or_index (R := R34) (l := x1134) tl24 f_25 f_31 (RdO.some_ b_A1135 (gd_t hx1138 hg)) (gd_t hx1138 hg)) (fun own' a' w' v' hp h => fun _ _ h0' => by cases (f_25.symm.trans ((hp.2 25 (by decide)).symm.trans h0')); exact h)
        refine steps_cons (fun own a wx hf hsl hE => ?_) ?_
        · obtain ⟨(f_21 : a.eval (.tmp 21) = .bool (decide (0 ≤ (sb (out735.length : Int) 1)))), c_32, c_25, -⟩ := hf
          refine sg_t rfl rfl rfl f_21 (fun hg => ?_)
          have q_32 : ∀ (A1135 : Option Addr) (cA1135 : Nat), a.eval (.tmp 25) = .slice A1135 x1134.length cA1135 → a.eval (.tmp 32) = .pointer (some ((adr A1135).add ((sb (x1136.length : Int) 1 : Int).toNat * R34.s))) := c_32.1 hg
          obtain ⟨⟨A1135, cA1135⟩, (f_25 : a.eval (.tmp 25) = .slice A1135 x1134.length cA1135), (b_A1135 : RdO own [736, 737] wx R34 A1135 cA1135 x1134)⟩ := c_25.1 hg
          have f_32 := q_32 _ _ f_25
          exact or_load (l := E34.f x1138) ta34 f_32 (RdO.cells (F := E34) b_A1135 (gd_t hx1138 hg)) rfl
        refine steps_cons (fun own a wx hf hsl hE => ?_) ?_
        · obtain ⟨(f_21 : a.eval (.tmp 21) = .bool (decide (0 ≤ (sb (out735.length : Int) 1)))), -⟩ := hf
          obtain ⟨s_5, -⟩ := hsl
          refine sg_t rfl rfl rfl f_21 (fun hg => ?_)
          exact or_move (s_5.trans e1133_5)
        refine steps_cons (fun own a wx hf hsl hE => ?_) ?_
        · obtain ⟨(f_21 : a.eval (.tmp 21) = .bool (decide (0 ≤ (sb (out735.length : Int) 1)))), c_34, -⟩ := hf
          refine sg_t rfl rfl rfl f_21 (fun hg => ?_)
          have f_34 : a.eval (.tmp 34) = .slice A1128 x1127.length cA1128 := c_34.1 hg
          exact or_index (R := R34) (l := x1127) tl24 f_34 rfl (RdO.some_ b1133_A1128 (gd_t hx1139 hg)) (gd_t hx1139 hg)
        refine steps_cons (fun own a wx hf hsl hE => ?_) ?_
        · obtain ⟨(f_21 : a.eval (.tmp 21) = .bool (decide (0 ≤ (sb (out735.length : Int) 1)))), c_35, -⟩ := hf
          refine sg_t rfl rfl rfl f_21 (fun hg => ?_)
          have f_35 : a.eval (.tmp 35) = .pointer (some ((adr A1128).add ((0 : Int).toNat * R34.s))) := c_35.1 hg
          exact or_load (l := E34.f x1139) ta34 f_35 (RdO.cells (F := E34) (RdO.evo rfl hE b1133_A1128) (gd_t hx1139 hg)) rfl
        refine steps_cons (fun own a wx hf hsl hE => ?_) ?_
        · obtain ⟨(f_21 : a.eval (.tmp 21) = .bool (decide (0 ≤ (sb (out735.length : Int) 1)))), c_33, c_36, -⟩ := hf
          refine sg_t rfl rfl rfl f_21 (fun hg => ?_)
          have f_33 : a.eval (.tmp 33) = .agg #[.int .i64 x1138.1, .int .i64 x1138.2] := c_33.1 hg
          have f_36 : a.eval (.tmp 36) = .agg #[.int .i64 x1139.1, .int .i64 x1139.2] := c_36.1 hg
          exact or_eqlA sg34 f_33 f_36 (se34 x1138.1 x1138.2 x1139.1 x1139.2 _) rfl
        refine steps_cons (fun own a wx hf hsl hE => ?_) ?_
        · obtain ⟨(f_21 : a.eval (.tmp 21) = .bool (decide (0 ≤ (sb (out735.length : Int) 1)))), c_37, -⟩ := hf
          exact sg_plain rfl rfl (or_and f_21 (fun hx => c_37.1 hx) rfl (osome hx1140).symm)
        exact steps_nil
      intro own1141 a1141 w1141 hd1141 hz1141 hk1141 hf1141 hE1141
      have e1141_3 : a1141.eval (.tmp 3) = .slice A733 out735.length c734 := (hk1141 3 rfl).trans e1133_3
      have e1141_5 : a1141.eval (.tmp 5) = .slice A1128 x1127.length cA1128 := (hk1141 5 rfl).trans e1133_5
      have e1141_6 : a1141.eval (.tmp 6) = .int .i64 (sb (out735.length : Int) 1) := (hk1141 6 rfl).trans e1133_6
      have e1141_7 : a1141.eval (.tmp 7) = .slice Aparts1 parts1.length cparts1 := (hk1141 7 rfl).trans e1133_7
      have e1141_8 : a1141.eval (.tmp 8) = .int .i64 (parts1.length : Int) := (hk1141 8 rfl).trans e1133_8
      have e1141_9 : a1141.eval (.tmp 9) = .int .i64 x738 := (hk1141 9 rfl).trans e1133_9
      obtain ⟨(f_38 : a1141.eval (.tmp 38) = .bool x1140), -⟩ := hf1141 [19] rfl
      have e1141_38 := f_38
      have hX1141 := Evo.step hX1133 (fun _ => Nat.le_refl 0) hE1141 rfl
      have b1141_A733 := RwN.evo rfl hE1141 b1133_A733
      have b1141_Aparts1 := RdO.evo rfl hE1141 b1133_Aparts1
      have b1141_A1128 := RdO.evo rfl hE1141 b1133_A1128
      refine fl_cond e1141_38 hs (fun c1142 hs => ?_) (fun c1142 hs => ?_)
      · obtain ⟨x1147, hx1147, hs⟩ := obind hs
        obtain ⟨x1149, hx1149, hs⟩ := obind hs
        obtain ⟨x1151, hx1151, hs⟩ := obind hs
        obtain ⟨x1154, hx1154, hs⟩ := obind hs
        obtain ⟨l1155, hl1155, hs⟩ := obind hs
        refine rg_draw g_mixed (n := 56) (rs := [Fct.rownAt 736 737 [] 24 34 R34 A733 c734 out735]) (own0 := own1141) (K := [737, 736])
            (bs := [0, 0, 0, 0, 12, 28, 0, 64, 252, 511, 1023])
            (ds := [⟨[], [3], [], Fct.val 39 (.slice A733 out735.length c734)⟩,
            ⟨[], [6], [], Fct.val 40 (.int .i64 (sb (out735.length : Int) 1))⟩,
            ⟨[], [3], [], Fct.val 41 (.slice A733 out735.length c734)⟩,
            ⟨[], [6], [], Fct.val 42 (.int .i64 (sb (out735.length : Int) 1))⟩,
            ⟨[2, 3], [], [], Fct.val 43 (.pointer (some ((adr A733).add ((sb (out735.length : Int) 1 : Int).toNat * R24.s))))⟩,
            ⟨[4, 11], [], [], Fct.bor 736 737 [] 44 24 34 R34 A733 c734 out735 (sb (out735.length : Int) 1 : Int).toNat x1147⟩,
            ⟨[], [5], [], Fct.val 45 (.slice A1128 x1127.length cA1128)⟩,
            ⟨[6], [], [], Fct.view [0] 46 R34 x1149⟩,
            ⟨[5, 7], [], [737], Fct.hole 736 1152 [] 47 24 34 R34 A733 c734 out735 (sb (out735.length : Int) 1 : Int).toNat x1151⟩,
            ⟨[0, 1], [], [], Fct.val 48 (.pointer (some ((adr A733).add ((sb (out735.length : Int) 1 : Int).toNat * R24.s))))⟩,
            ⟨[9, 8], [], [736], Fct.rownAt 1156 1152 [] 24 34 R34 A733 c734 l1155⟩]) (by kernel_rfl) hz1141 hd1141 (by simp only [List.forall_mem_cons]; exact ⟨b1141_A733, fun _ h => nomatch h⟩) ?_ ?_
        · refine steps_cons (fun own a wx hf hsl hE => ?_) ?_
          · obtain ⟨s_3, -⟩ := hsl
            exact sg_plain rfl rfl (or_move (s_3.trans e1141_3))
          refine steps_cons (fun own a wx hf hsl hE => ?_) ?_
          · obtain ⟨s_6, -⟩ := hsl
            exact sg_plain rfl rfl (or_move (s_6.trans e1141_6))
          refine steps_cons (fun own a wx hf hsl hE => ?_) ?_
          · obtain ⟨s_3, -⟩ := hsl
            exact sg_plain rfl rfl (or_move (s_3.trans e1141_3))
          refine steps_cons (fun own a wx hf hsl hE => ?_) ?_
          · obtain ⟨s_6, -⟩ := hsl
            exact sg_plain rfl rfl (or_move (s_6.trans e1141_6))
          refine steps_cons (fun own a wx hf hsl hE => ?_) ?_
          · obtain ⟨(f_41 : a.eval (.tmp 41) = .slice A733 out735.length c734), (f_42 : a.eval (.tmp 42) = .int .i64 (sb (out735.length : Int) 1)), -⟩ := hf
            exact sg_plain rfl rfl (or_index (R := R24) (l := out735) tl22 f_41 f_42 (RdO.some_ (RwN.rd b1141_A733) hx1147) hx1147)
          refine steps_cons (fun own a wx hf hsl hE => ?_) ?_
          · obtain ⟨(f_43 : a.eval (.tmp 43) = .pointer (some ((adr A733).add ((sb (out735.length : Int) 1 : Int).toNat * R24.s)))), (b_A733 : RwN own 736 737 [] wx 24 34 R34 A733 c734 out735), -⟩ := hf
            exact sg_plain rfl rfl (or_borrow to24 f_43 b_A733 hx1147)
          refine steps_cons (fun own a wx hf hsl hE => ?_) ?_
          · obtain ⟨s_5, -⟩ := hsl
            exact sg_plain rfl rfl (or_move (s_5.trans e1141_5))
          refine steps_cons (fun own a wx hf hsl hE => ?_) ?_
          · obtain ⟨(f_45 : a.eval (.tmp 45) = .slice A1128 x1127.length cA1128), -⟩ := hf
            exact sg_plain rfl rfl (or_view (R := R34) (l := x1127) (L := [0]) tu24 ts34 f_45 (Bnd.some_ rfl) Bnd.none_ Bnd.none_ (RdO.evo rfl hE b1141_A1128) hx1149 (.inl rfl) (by simp))
          refine steps_cons (fun own a wx hf hsl hE => ?_) ?_
          · obtain ⟨⟨⟨A1148, cA1148⟩, (f_44 : a.eval (.tmp 44) = .slice A1148 x1147.length cA1148), (b_A1148 : RwNa own 736 737 [] wx 24 34 R34 A733 c734 out735 (sb (out735.length : Int) 1 : Int).toNat (A1148, cA1148))⟩, ⟨⟨A1150, cA1150⟩, (f_46 : a.eval (.tmp 46) = .slice A1150 x1149.length cA1150), (b_A1150 : RdO own [0] wx R34 A1150 cA1150 x1149)⟩, -⟩ := hf
            exact sg_plain rfl rfl (or_grow (R := R34) (lab := 736) (lab2 := 1152) (L := []) (L3 := []) tp24 f_44 b_A1148 (ix_some hx1147).2.2 f_46 b_A1150 hx1151 (by decide) (by decide) (by decide) (mem_of rfl) rfl rfl rfl (by decide) (.inl (Rep.fl_flat _)))
          refine steps_cons (fun own a wx hf hsl hE => ?_) ?_
          · obtain ⟨(f_39 : a.eval (.tmp 39) = .slice A733 out735.length c734), (f_40 : a.eval (.tmp 40) = .int .i64 (sb (out735.length : Int) 1)), -⟩ := hf
            exact sg_plain rfl rfl (or_index (R := R24) (l := out735) tl22 f_39 f_40 (RdO.some_ (RwN.rd b1141_A733) hx1154) hx1154)
          refine steps_cons (fun own a wx hf hsl hE => ?_) ?_
          · obtain ⟨(f_48 : a.eval (.tmp 48) = .pointer (some ((adr A733).add ((sb (out735.length : Int) 1 : Int).toNat * R24.s)))), ⟨⟨A1153, cA1153⟩, (f_47 : a.eval (.tmp 47) = .slice A1153 x1151.length cA1153), (b_A1153 : RwNh own 736 1152 [] wx 24 34 R34 A733 c734 out735 (sb (out735.length : Int) 1 : Int).toNat (A1153, cA1153) x1151)⟩, -⟩ := hf
            exact sg_plain rfl rfl (or_putB (R := R34) (lab := 736) (lab2 := 1156) (labE := 1152) (L := []) ts24 f_48 f_47 b_A1153 hl1155 (mem_of rfl) (by decide) rfl (fun own' a' w' ha hb => hb))
          exact steps_nil
        intro own1157 a1157 w1157 hd1157 hz1157 hk1157 hf1157 hE1157
        have e1157_3 : a1157.eval (.tmp 3) = .slice A733 out735.length c734 := (hk1157 3 rfl).trans e1141_3
        have e1157_7 : a1157.eval (.tmp 7) = .slice Aparts1 parts1.length cparts1 := (hk1157 7 rfl).trans e1141_7
        have e1157_8 : a1157.eval (.tmp 8) = .int .i64 (parts1.length : Int) := (hk1157 8 rfl).trans e1141_8
        have e1157_9 : a1157.eval (.tmp 9) = .int .i64 x738 := (hk1157 9 rfl).trans e1141_9
        obtain ⟨(b_A733 : RwN own1157 1156 1152 [] w1157 24 34 R34 A733 c734 l1155), -⟩ := hf1157 [10] rfl
        have hX1157 := Evo.step hX1141 (fun _ => Nat.le_refl 0) hE1157 rfl
        have b1157_Aparts1 := RdO.evo rfl hE1157 b1141_Aparts1
        have b1157_A733 := b_A733
        have m1158_3 : a1157.eval (.tmp 3) = .slice A733 l1155.length c734 := e1157_3.trans (by rw [put_len hl1155])
        exact (K1124 _ _ (rl [(1152, 1123), (1156, 1122)] own1157) _ A733 c734 hd1157 hz1157 m1158_3 e1157_7 e1157_8 e1157_9 (Evo.rl_ hX1157 (fun _ => Nat.le_refl 0) rfl) (RwN.rl_ (mm := [(1152, 1123), (1156, 1122)]) b1157_A733) (RdO.rl_ (mm := [(1152, 1123), (1156, 1122)]) b1157_Aparts1) hs).1
      obtain ⟨x1166, hx1166, hs⟩ := obind hs
      obtain ⟨x1171, hx1171, hs⟩ := obind hs
      refine rg_plain (n := 56) (rs := [Fct.rownAt 736 737 [] 24 34 R34 A733 c734 out735]) (own0 := own1141) (K := [1165, 736, 737, 1167])
          (bs := [0, 0, 2, 6, 15, 31])
          (ds := [⟨[], [3], [], Fct.val 49 (.slice A733 out735.length c734)⟩,
          ⟨[], [5], [], Fct.val 50 (.slice A1128 x1127.length cA1128)⟩,
          ⟨[1], [], [1165], Fct.row 1167 [] 51 34 R34 x1166⟩,
          ⟨[2], [], [], Fct.rown 1170 1167 [] 52 24 34 R34 [x1166]⟩,
          ⟨[0, 3, 6], [], [736, 737, 1167], Fct.rown 1172 1173 [] 53 24 34 R34 x1171⟩,
          ⟨[4], [], [], Fct.rel [3, 53] (fun l => ∀ (A1174 : Option Addr) (cA1174 : Nat), l.getD 1 undef = .slice A1174 x1171.length cA1174 → l.getD 0 undef = .slice A1174 x1171.length cA1174)⟩]) (by kernel_rfl) hz1141 hd1141 (by simp only [List.forall_mem_cons]; exact ⟨b1141_A733, fun _ h => nomatch h⟩) ?_ ?_
      · refine steps_cons (fun own a wx hf hsl hE => ?_) ?_
        · obtain ⟨s_3, -⟩ := hsl
          exact sg_plain rfl rfl (or_move (s_3.trans e1141_3))
        refine steps_cons (fun own a wx hf hsl hE => ?_) ?_
        · obtain ⟨s_5, -⟩ := hsl
          exact sg_plain rfl rfl (or_move (s_5.trans e1141_5))
        refine steps_cons (fun own a wx hf hsl hE => ?_) ?_
        · obtain ⟨(f_50 : a.eval (.tmp 50) = .slice A1128 x1127.length cA1128), -⟩ := hf
          exact sg_plain rfl rfl (or_append (R := R34) (lab := 1165) (lab2 := 1167) (L := []) (L3 := []) tp24 rfl RwO.nil_ (by decide) f_50 (RdO.evo rfl hE b1141_A1128) hx1166 (by decide) (by decide) (mem_of rfl) (.inl (Rep.fl_flat _)))
        refine steps_cons (fun own a wx hf hsl hE => ?_) ?_
        · obtain ⟨⟨⟨A1168, cA1168⟩, (f_51 : a.eval (.tmp 51) = .slice A1168 x1166.length cA1168), (b_A1168 : RwO own 1167 [] wx 34 R34 A1168 cA1168 x1166)⟩, -⟩ := hf
          exact sg_plain rfl rfl (or_litO (R := R34) (lab := 1170) (labE := 1167) (L := []) (e := 24) (e2 := 34) (xl := x1166) [(51, .slice A1168 x1166.length cA1168)] rfl rfl ⟨f_51, trivial⟩ (by kernel_rfl) rfl b_A1168 rfl)
        refine steps_cons (fun own a wx hf hsl hE => ?_) ?_
        · obtain ⟨(f_49 : a.eval (.tmp 49) = .slice A733 out735.length c734), ⟨⟨A1169, cA1169⟩, (f_52 : a.eval (.tmp 52) = .slice A1169 [x1166].length cA1169), (b_A1169 : RwN own 1170 1167 [] wx 24 34 R34 A1169 cA1169 [x1166])⟩, (b_A733 : RwN own 736 737 [] wx 24 34 R34 A733 c734 out735), -⟩ := hf
          exact sg_plain rfl rfl (or_appendO (R := R34) (lab := 736) (labE := 737) (lab2 := 1172) (lab3 := 1173) (L := []) (L3 := []) tp22 f_49 b_A733 f_52 b_A1169 hx1171 (by decide) (by decide) (mem_of rfl) (mem_of rfl) (mem_of rfl) (by decide) (by decide) (by decide) (by decide) (by decide) (by decide) (by decide) rfl (by decide) (by decide))
        refine steps_cons (fun own a wx hf hsl hE => ?_) ?_
        · obtain ⟨⟨⟨A1174, cA1174⟩, (f_53 : a.eval (.tmp 53) = .slice A1174 x1171.length cA1174), (b_A1174 : RwN own 1172 1173 [] wx 24 34 R34 A1174 cA1174 x1171)⟩, -⟩ := hf
          exact sg_plain rfl rfl (or_mono (f := Fct.val 3 (.slice A1174 x1171.length cA1174)) (or_assign f_53) (fun own' a' w' v' hp h => fun _ _ h0' => by cases (f_53.symm.trans ((hp.2 53 (by decide)).symm.trans h0')); exact h))
        exact steps_nil
      intro own1175 a1175 w1175 hd1175 hz1175 hk1175 hf1175 hE1175
      have e1175_7 : a1175.eval (.tmp 7) = .slice Aparts1 parts1.length cparts1 := (hk1175 7 rfl).trans e1141_7
      have e1175_8 : a1175.eval (.tmp 8) = .int .i64 (parts1.length : Int) := (hk1175 8 rfl).trans e1141_8
      have e1175_9 : a1175.eval (.tmp 9) = .int .i64 x738 := (hk1175 9 rfl).trans e1141_9
      obtain ⟨⟨⟨A1174, cA1174⟩, (f_53 : a1175.eval (.tmp 53) = .slice A1174 x1171.length cA1174), (b_A1174 : RwN own1175 1172 1173 [] w1175 24 34 R34 A1174 cA1174 x1171)⟩, (q_3 : ∀ (A1174 : Option Addr) (cA1174 : Nat), a1175.eval (.tmp 53) = .slice A1174 x1171.length cA1174 → a1175.eval (.tmp 3) = .slice A1174 x1171.length cA1174), -⟩ := hf1175 [4, 5] rfl
      have f_3 := q_3 _ _ f_53
      have e1175_3 := f_3
      have hX1175 := Evo.step hX1141 (fun _ => Nat.le_refl 0) hE1175 rfl
      have b1175_Aparts1 := RdO.evo rfl hE1175 b1141_Aparts1
      have b1175_A1174 := b_A1174
      exact (K1124 _ _ (rl [(1172, 1122), (1173, 1123)] own1175) _ A1174 cA1174 hd1175 hz1175 e1175_3 e1175_7 e1175_8 e1175_9 (Evo.rl_ hX1175 (fun _ => Nat.le_refl 0) rfl) (RwN.rl_ (mm := [(1172, 1122), (1173, 1123)]) b1175_A1174) (RdO.rl_ (mm := [(1172, 1122), (1173, 1123)]) b1175_Aparts1) hs).1
    refine fl_exit ?_
    refine hp960 _ _ _ rfl ?_
    replace hs := hz957 _ hs
    refine hp957 _ _ _ rfl ?_
    refine hx598 _ _ ?_
    refine hn596 _ _ ?_
    refine rg_plain_seq (n := 56) (rs := []) (own0 := own959) (K := [])
        (bs := [0, 1])
        (ds := [⟨[], [3], [], Fct.val 55 (.slice A733 out735.length c734)⟩,
        ⟨[0], [], [], Fct.val 2 (.slice A733 out735.length c734)⟩]) (by kernel_rfl) hz959 hd959 (fun _ h => nomatch h) ?_ ?_
    · refine steps_cons (fun own a wx hf hsl hE => ?_) ?_
      · obtain ⟨s_3, -⟩ := hsl
        exact sg_plain rfl rfl (or_move (s_3.trans e959_3))
      refine steps_cons (fun own a wx hf hsl hE => ?_) ?_
      · obtain ⟨(f_55 : a.eval (.tmp 55) = .slice A733 out735.length c734), -⟩ := hf
        exact sg_plain rfl rfl (or_assign f_55)
      exact steps_nil
    intro own1176 a1176 w1176 hd1176 hz1176 hk1176 hf1176 hE1176
    obtain ⟨(f_2 : a1176.eval (.tmp 2) = .slice A733 out735.length c734), -⟩ := hf1176 [1] rfl
    have e1176_2 := f_2
    have hX1176 := Evo.step hX959 (fun _ => Nat.le_refl 0) hE1176 rfl
    have b1176_A733 := RwN.evo rfl hE1176 b959_A733
    refine fl_ret ?_
    obtain rfl := (osome hs).symm
    exact hret _ _ _ _ (.inl rfl) hd1176 (results1_ rfl (RVal.tmp_ e1176_2)) ⟨(rl [(736, 1), (737, 2)] own1176), (A733, c734), rfl, (Evo.rl_ hX1176 (fun _ => Nat.le_refl 0) rfl), (RwO.rl_ (mm := [(736, 1), (737, 2)]) (RwN.rw_ b1176_A733 (by decide)))⟩

theorem exact_within_w (w : World) (n1 : Int) (least2 : Int) (greatest3 : Int) (r : Bool) (hs : exact_within n1 least2 greatest3 = some r) :
    Calls Try.prog 38 #[.int .i64 n1, .int .i64 least2, .int .i64 greatest3] w fun e w' => ∃ own' : Own, e = .returned (.bool r) ∧ Evo [] (fun _ => 0) own' w w' := by
  refine fl_enter (n := 15) rfl rfl rfl (Nat.le_of_ble_eq_true rfl) ?_
  intro a0 Q hd0 hz0 harg hret
  have ha0 := harg 0 _ rfl
  have ha1 := harg 1 _ rfl
  have ha2 := harg 2 _ rfl
  clear harg
  have hE0 : Evo [] (fun _ => 0) (fun _ => 0) w w := Evo.refl _ _ _
  refine rg_plain_seq (n := 15) (rs := []) (own0 := (fun _ => 0)) (K := [])
      (bs := [0])
      (ds := [⟨[], [], [], Fct.val 6 (.bool false)⟩]) (by kernel_rfl) hz0 hd0 (fun _ h => nomatch h) ?_ ?_
  · refine steps_cons (fun own a wx hf hsl hE => ?_) ?_
    · exact sg_plain rfl rfl (or_assign rfl)
    exact steps_nil
  intro own14 a14 w14 hd14 hz14 hk14 hf14 hE14
  have e14_0 : a14.eval (.tmp 0) = .int .i64 n1 := (hk14 0 rfl).trans ha0
  have e14_1 : a14.eval (.tmp 1) = .int .i64 least2 := (hk14 1 rfl).trans ha1
  have e14_2 : a14.eval (.tmp 2) = .int .i64 greatest3 := (hk14 2 rfl).trans ha2
  have hX14 := Evo.step hE0 (fun _ => Nat.le_refl 0) hE14 rfl
  obtain ⟨x15, hx15, hs⟩ := obind hs
  refine rg_plain_seq (n := 15) (rs := []) (own0 := own14) (K := [])
      (bs := [0, 0, 3, 7, 15, 15, 63, 127, 255])
      (ds := [⟨[], [1], [], Fct.val 7 (.int .i64 least2)⟩,
      ⟨[], [0], [], Fct.val 8 (.int .i64 n1)⟩,
      ⟨[0, 1], [], [], Fct.val 9 (.bool (decide (least2 ≤ n1)))⟩,
      ⟨[2], [], [], Fct.val 10 (.bool (decide (least2 ≤ n1)))⟩,
      ⟨[3], [0], [], Fct.cond (decide (least2 ≤ n1)) (some 11) (Fct.val 11 (.int .i64 n1))⟩,
      ⟨[3], [2], [], Fct.cond (decide (least2 ≤ n1)) (some 12) (Fct.val 12 (.int .i64 greatest3))⟩,
      ⟨[3, 4, 5], [], [], Fct.cond (decide (least2 ≤ n1)) (some 13) (Fct.val 13 (.bool (decide (n1 ≤ greatest3))))⟩,
      ⟨[3, 6], [], [], Fct.val 14 (.bool x15)⟩,
      ⟨[7], [], [], Fct.val 6 (.bool x15)⟩]) (by kernel_rfl) hz14 hd14 (fun _ h => nomatch h) ?_ ?_
  · refine steps_cons (fun own a wx hf hsl hE => ?_) ?_
    · obtain ⟨s_1, -⟩ := hsl
      exact sg_plain rfl rfl (or_move (s_1.trans e14_1))
    refine steps_cons (fun own a wx hf hsl hE => ?_) ?_
    · obtain ⟨s_0, -⟩ := hsl
      exact sg_plain rfl rfl (or_move (s_0.trans e14_0))
    refine steps_cons (fun own a wx hf hsl hE => ?_) ?_
    · obtain ⟨(f_7 : a.eval (.tmp 7) = .int .i64 least2), (f_8 : a.eval (.tmp 8) = .int .i64 n1), -⟩ := hf
      exact sg_plain rfl rfl (or_leq f_7 f_8 rfl)
    refine steps_cons (fun own a wx hf hsl hE => ?_) ?_
    · obtain ⟨(f_9 : a.eval (.tmp 9) = .bool (decide (least2 ≤ n1))), -⟩ := hf
      exact sg_plain rfl rfl (or_move f_9)
    refine steps_cons (fun own a wx hf hsl hE => ?_) ?_
    · obtain ⟨(f_10 : a.eval (.tmp 10) = .bool (decide (least2 ≤ n1))), -⟩ := hf
      obtain ⟨s_0, -⟩ := hsl
      refine sg_t rfl rfl rfl f_10 (fun hg => ?_)
      exact or_move (s_0.trans e14_0)
    refine steps_cons (fun own a wx hf hsl hE => ?_) ?_
    · obtain ⟨(f_10 : a.eval (.tmp 10) = .bool (decide (least2 ≤ n1))), -⟩ := hf
      obtain ⟨s_2, -⟩ := hsl
      refine sg_t rfl rfl rfl f_10 (fun hg => ?_)
      exact or_move (s_2.trans e14_2)
    refine steps_cons (fun own a wx hf hsl hE => ?_) ?_
    · obtain ⟨(f_10 : a.eval (.tmp 10) = .bool (decide (least2 ≤ n1))), c_11, c_12, -⟩ := hf
      refine sg_t rfl rfl rfl f_10 (fun hg => ?_)
      have f_11 : a.eval (.tmp 11) = .int .i64 n1 := c_11.1 hg
      have f_12 : a.eval (.tmp 12) = .int .i64 greatest3 := c_12.1 hg
      exact or_leq f_11 f_12 rfl
    refine steps_cons (fun own a wx hf hsl hE => ?_) ?_
    · obtain ⟨(f_10 : a.eval (.tmp 10) = .bool (decide (least2 ≤ n1))), c_13, -⟩ := hf
      exact sg_plain rfl rfl (or_and f_10 (fun hx => c_13.1 hx) rfl (osome hx15).symm)
    refine steps_cons (fun own a wx hf hsl hE => ?_) ?_
    · obtain ⟨(f_14 : a.eval (.tmp 14) = .bool x15), -⟩ := hf
      exact sg_plain rfl rfl (or_assign f_14)
    exact steps_nil
  intro own16 a16 w16 hd16 hz16 hk16 hf16 hE16
  obtain ⟨(f_6 : a16.eval (.tmp 6) = .bool x15), -⟩ := hf16 [8] rfl
  have e16_6 := f_6
  have hX16 := Evo.step hX14 (fun _ => Nat.le_refl 0) hE16 rfl
  refine fl_ret ?_
  obtain rfl := (osome hs).symm
  exact hret _ _ _ _ (.inl rfl) hd16 (results1_ rfl (RVal.tmp_ e16_6)) ⟨own16, rfl, hX16⟩

theorem exact_Right_w (w : World) (l1 : List (Int × Int)) (Al1 : Option Addr) (cl1 : Nat) (hl1 : RdO (fun _ => 0) [0] w R34 Al1 cl1 l1) (r : Bool) (hs : exact_Right l1 = some r) :
    Calls Try.prog 29 #[.slice Al1 l1.length cl1] w fun e w' => ∃ own' : Own, e = .returned (.bool r) ∧ Evo [] (fun _ => 0) own' w w' := by
  refine fl_enter (n := 22) rfl rfl rfl (Nat.le_of_ble_eq_true rfl) ?_
  intro a0 Q hd0 hz0 harg hret
  have ha0 := harg 0 _ rfl
  clear harg
  have hE0 : Evo [] (fun _ => 0) (fun _ => 0) w w := Evo.refl _ _ _
  refine rg_plain_seq (n := 22) (rs := []) (own0 := (fun _ => 0)) (K := [])
      (bs := [0])
      (ds := [⟨[], [], [], Fct.val 2 (.bool false)⟩]) (by kernel_rfl) hz0 hd0 (fun _ h => nomatch h) ?_ ?_
  · refine steps_cons (fun own a wx hf hsl hE => ?_) ?_
    · exact sg_plain rfl rfl (or_assign rfl)
    exact steps_nil
  intro own69 a69 w69 hd69 hz69 hk69 hf69 hE69
  have e69_0 : a69.eval (.tmp 0) = .slice Al1 l1.length cl1 := (hk69 0 rfl).trans ha0
  have hX69 := Evo.step hE0 (fun _ => Nat.le_refl 0) hE69 rfl
  have b69_Al1 := RdO.evo rfl hE69 hl1
  refine fl_seq (fun Q70 hn70 hp70 => ?_)
  refine rg_plain_seq (n := 22) (rs := []) (own0 := own69) (K := [])
      (bs := [0, 1, 0])
      (ds := [⟨[], [0], [], Fct.val 5 (.slice Al1 l1.length cl1)⟩,
      ⟨[0], [], [], Fct.val 6 (.int .i64 (l1.length : Int))⟩,
      ⟨[], [], [], Fct.val 7 (.int .i64 0)⟩]) (by kernel_rfl) hz69 hd69 (fun _ h => nomatch h) ?_ ?_
  · refine steps_cons (fun own a wx hf hsl hE => ?_) ?_
    · obtain ⟨s_0, -⟩ := hsl
      exact sg_plain rfl rfl (or_move (s_0.trans e69_0))
    refine steps_cons (fun own a wx hf hsl hE => ?_) ?_
    · obtain ⟨(f_5 : a.eval (.tmp 5) = .slice Al1 l1.length cl1), -⟩ := hf
      exact sg_plain rfl rfl (or_len tu24 f_5 rfl)
    refine steps_cons (fun own a wx hf hsl hE => ?_) ?_
    · exact sg_plain rfl rfl (or_move rfl)
    exact steps_nil
  intro own71 a71 w71 hd71 hz71 hk71 hf71 hE71
  obtain ⟨(f_5 : a71.eval (.tmp 5) = .slice Al1 l1.length cl1), (f_6 : a71.eval (.tmp 6) = .int .i64 (l1.length : Int)), (f_7 : a71.eval (.tmp 7) = .int .i64 0), -⟩ := hf71 [0, 1, 2] rfl
  have e71_5 := f_5
  have e71_6 := f_6
  have e71_7 := f_7
  have hX71 := Evo.step hX69 (fun _ => Nat.le_refl 0) hE71 rfl
  have b71_Al1 := RdO.evo rfl hE71 b69_Al1
  refine fl_block (fun Q72 hn72 hx72 hp72 => ?_)
  refine fl_loop (body := (fun s => exact_Right_b1 l1 s)) (z := r) (show loopO _ _ = _ from hs) (fun (x90 : Int) a wx => ∃ (ox : Own), a.defers = [] ∧ a.tmps.size = 22 ∧ a.eval (.tmp 5) = .slice Al1 l1.length cl1 ∧ a.eval (.tmp 6) = .int .i64 (l1.length : Int) ∧ a.eval (.tmp 7) = .int .i64 x90 ∧ Evo [] (fun _ => 0) ox w wx ∧ RdO ox [0] wx R34 Al1 cl1 l1) ?_ ?_
  · exact ⟨own71, hd71, hz71, e71_5, e71_6, e71_7, hX71, b71_Al1⟩
  · rintro x90 zz108 a108 w108 ⟨own108, hd109, hz109, e109_5, e109_6, e109_7, hE109, b109_Al1⟩ hs Q108 hn108 hp108 hz108
    have hs : exact_Right_b1 l1 x90 = some zz108 := hs
    refine rg_plain_seq (n := 22) (rs := []) (own0 := own108) (K := [])
        (bs := [0])
        (ds := [⟨[], [7, 6], [], Fct.val 8 (.bool (decide (x90 < (l1.length : Int))))⟩]) (by kernel_rfl) hz109 hd109 (fun _ h => nomatch h) ?_ ?_
    · refine steps_cons (fun own a wx hf hsl hE => ?_) ?_
      · obtain ⟨s_7, s_6, -⟩ := hsl
        exact sg_plain rfl rfl (or_lss (s_7.trans e109_7) (s_6.trans e109_6) rfl)
      exact steps_nil
    intro own110 a110 w110 hd110 hz110 hk110 hf110 hE110
    have e110_5 : a110.eval (.tmp 5) = .slice Al1 l1.length cl1 := (hk110 5 rfl).trans e109_5
    have e110_6 : a110.eval (.tmp 6) = .int .i64 (l1.length : Int) := (hk110 6 rfl).trans e109_6
    have e110_7 : a110.eval (.tmp 7) = .int .i64 x90 := (hk110 7 rfl).trans e109_7
    obtain ⟨(f_8 : a110.eval (.tmp 8) = .bool (decide (x90 < (l1.length : Int)))), -⟩ := hf110 [0] rfl
    have e110_8 := f_8
    have hX110 := Evo.step hE109 (fun _ => Nat.le_refl 0) hE110 rfl
    have b110_Al1 := RdO.evo rfl hE110 b109_Al1
    refine fl_seq (fun Q111 hn111 hp111 => ?_)
    refine fl_cond e110_8 hs (fun c112 hs => ?_) (fun c112 hs => ?_)
    · refine fl_skip ?_
      refine hn111 _ _ ?_
      refine fl_seq (fun Q113 hn113 hp113 => ?_)
      refine fl_block (fun Q114 hn114 hx114 hp114 => ?_)
      obtain ⟨x115, hx115, hs⟩ := obind hs
      refine rg_plain_seq (n := 22) (rs := []) (own0 := own110) (K := [117])
          (bs := [0, 1, 0, 7])
          (ds := [⟨[], [5, 7], [], Fct.val 9 (.pointer (some ((adr Al1).add ((x90 : Int).toNat * R34.s))))⟩,
          ⟨[0], [], [], Fct.val 10 (.agg #[.int .i64 x115.1, .int .i64 x115.2])⟩,
          ⟨[], [], [], Fct.blk 117 4 (fun g => .pointer (some ⟨g, 0, none⟩)) 34 #[.int .i64 0, .int .i64 0]⟩,
          ⟨[2, 1], [], [117], Fct.blk 118 4 (fun g => .pointer (some ⟨g, 0, none⟩)) 34 #[.int .i64 x115.1, .int .i64 x115.2]⟩]) (by kernel_rfl) hz110 hd110 (fun _ h => nomatch h) ?_ ?_
      · refine steps_cons (fun own a wx hf hsl hE => ?_) ?_
        · obtain ⟨s_5, s_7, -⟩ := hsl
          exact sg_plain rfl rfl (or_index (R := R34) (l := l1) tl24 (s_5.trans e110_5) (s_7.trans e110_7) (RdO.some_ b110_Al1 hx115) hx115)
        refine steps_cons (fun own a wx hf hsl hE => ?_) ?_
        · obtain ⟨(f_9 : a.eval (.tmp 9) = .pointer (some ((adr Al1).add ((x90 : Int).toNat * R34.s)))), -⟩ := hf
          exact sg_plain rfl rfl (or_load (l := E34.f x115) ta34 f_9 (RdO.cells (F := E34) (RdO.evo rfl hE b110_Al1) hx115) rfl)
        refine steps_cons (fun own a wx hf hsl hE => ?_) ?_
        · exact sg_plain rfl rfl (or_new [] rfl rfl trivial (by kernel_rfl))
        refine steps_cons (fun own a wx hf hsl hE => ?_) ?_
        · obtain ⟨⟨g116, (f_4 : a.eval (.tmp 4) = .pointer (some ⟨g116, 0, none⟩)), (b_g116 : BlkO own 117 wx g116 34 #[.int .i64 0, .int .i64 0])⟩, (f_10 : a.eval (.tmp 10) = .agg #[.int .i64 x115.1, .int .i64 x115.2]), -⟩ := hf
          exact sg_plain rfl rfl (or_store (l := #[.int .i64 x115.1, .int .i64 x115.2]) (lab := 117) (lab2 := 118) ts34 f_4 f_10 b_g116 (by simp) (by kernel_rfl) (mem_of rfl) (by decide) (by kernel_rfl) (fun own' a' w' ha hb => ⟨_, (ha 4).trans f_4, hb⟩))
        exact steps_nil
      intro own119 a119 w119 hd119 hz119 hk119 hf119 hE119
      have e119_5 : a119.eval (.tmp 5) = .slice Al1 l1.length cl1 := (hk119 5 rfl).trans e110_5
      have e119_6 : a119.eval (.tmp 6) = .int .i64 (l1.length : Int) := (hk119 6 rfl).trans e110_6
      have e119_7 : a119.eval (.tmp 7) = .int .i64 x90 := (hk119 7 rfl).trans e110_7
      obtain ⟨⟨g116, (f_4 : a119.eval (.tmp 4) = .pointer (some ⟨g116, 0, none⟩)), (b_g116 : BlkO own119 118 w119 g116 34 #[.int .i64 x115.1, .int .i64 x115.2])⟩, -⟩ := hf119 [3] rfl
      have e119_4 := f_4
      have hX119 := Evo.step hX110 (fun _ => Nat.le_refl 0) hE119 rfl
      have b119_Al1 := RdO.evo rfl hE119 b110_Al1
      have b119_g116 := b_g116
      obtain ⟨r120, hr120, hs⟩ := obind hs
      obtain ⟨r121, hr121, hs⟩ := obind hs
      refine rg_plain_seq (n := 22) (rs := []) (own0 := own119) (K := [])
          (bs := [0, 1, 3, 7, 15, 31, 63, 127, 255, 511])
          (ds := [⟨[], [4], [], Fct.val 11 (.pointer (some ⟨g116, 0, none⟩))⟩,
          ⟨[0], [], [], Fct.val 12 (.int .i64 x115.1)⟩,
          ⟨[1], [], [], Fct.val 13 (.bool r120)⟩,
          ⟨[2], [], [], Fct.val 14 (.bool (!r120))⟩,
          ⟨[3], [], [], Fct.val 15 (.bool (!r120))⟩,
          ⟨[4], [4], [], Fct.cond (!(!r120)) (some 16) (Fct.val 16 (.pointer (some ⟨g116, 1, none⟩)))⟩,
          ⟨[4, 5], [], [], Fct.cond (!(!r120)) (some 17) (Fct.val 17 (.int .i64 x115.2))⟩,
          ⟨[4, 6], [], [], Fct.cond (!(!r120)) (some 18) (Fct.val 18 (.bool r121))⟩,
          ⟨[4, 7], [], [], Fct.cond (!(!r120)) (some 19) (Fct.val 19 (.bool (!r121)))⟩,
          ⟨[4, 8], [], [], Fct.val 20 (.bool ((!r120) || (!r121)))⟩]) (by kernel_rfl) hz119 hd119 (fun _ h => nomatch h) ?_ ?_
      · refine steps_cons (fun own a wx hf hsl hE => ?_) ?_
        · obtain ⟨s_4, -⟩ := hsl
          exact sg_plain rfl rfl (or_field fo34_0 (s_4.trans e119_4) (by rfl))
        refine steps_cons (fun own a wx hf hsl hE => ?_) ?_
        · obtain ⟨(f_11 : a.eval (.tmp 11) = .pointer (some ⟨g116, 0, none⟩)), -⟩ := hf
          exact sg_plain rfl rfl (or_load1 to3 f_11 (Blk.at_ (BlkO.evo (by decide) hE b119_g116).2 0 rfl))
        refine steps_cons (fun own a wx hf hsl hE => ?_) ?_
        · obtain ⟨(f_12 : a.eval (.tmp 12) = .int .i64 x115.1), -⟩ := hf
          exact sg_plain rfl rfl (or_call cf38 (args3 f_12 rfl rfl) (exact_within_w _ x115.1 (-16777216) 16777216  r120 hr120) post_val)
        refine steps_cons (fun own a wx hf hsl hE => ?_) ?_
        · obtain ⟨(f_13 : a.eval (.tmp 13) = .bool r120), -⟩ := hf
          exact sg_plain rfl rfl (or_not f_13 rfl)
        refine steps_cons (fun own a wx hf hsl hE => ?_) ?_
        · obtain ⟨(f_14 : a.eval (.tmp 14) = .bool (!r120)), -⟩ := hf
          exact sg_plain rfl rfl (or_move f_14)
        refine steps_cons (fun own a wx hf hsl hE => ?_) ?_
        · obtain ⟨(f_15 : a.eval (.tmp 15) = .bool (!r120)), -⟩ := hf
          obtain ⟨s_4, -⟩ := hsl
          refine sg_f rfl rfl rfl f_15 (fun hg => ?_)
          exact or_field fo34_1 (s_4.trans e119_4) (by rfl)
        refine steps_cons (fun own a wx hf hsl hE => ?_) ?_
        · obtain ⟨(f_15 : a.eval (.tmp 15) = .bool (!r120)), c_16, -⟩ := hf
          refine sg_f rfl rfl rfl f_15 (fun hg => ?_)
          have f_16 : a.eval (.tmp 16) = .pointer (some ⟨g116, 1, none⟩) := c_16.1 hg
          exact or_load1 to3 f_16 (Blk.at_ (BlkO.evo (by decide) hE b119_g116).2 1 rfl)
        refine steps_cons (fun own a wx hf hsl hE => ?_) ?_
        · obtain ⟨(f_15 : a.eval (.tmp 15) = .bool (!r120)), c_17, -⟩ := hf
          refine sg_f rfl rfl rfl f_15 (fun hg => ?_)
          have f_17 : a.eval (.tmp 17) = .int .i64 x115.2 := c_17.1 hg
          exact or_call cf38 (args3 f_17 rfl rfl) (exact_within_w _ x115.2 (-16777216) 16777216  r121 (gd_t hr121 hg)) post_val
        refine steps_cons (fun own a wx hf hsl hE => ?_) ?_
        · obtain ⟨(f_15 : a.eval (.tmp 15) = .bool (!r120)), c_18, -⟩ := hf
          refine sg_f rfl rfl rfl f_15 (fun hg => ?_)
          have f_18 : a.eval (.tmp 18) = .bool r121 := c_18.1 hg
          exact or_not f_18 rfl
        refine steps_cons (fun own a wx hf hsl hE => ?_) ?_
        · obtain ⟨(f_15 : a.eval (.tmp 15) = .bool (!r120)), c_19, -⟩ := hf
          exact sg_plain rfl rfl (or_or f_15 rfl (fun hx => c_19.1 hx) rfl)
        exact steps_nil
      intro own122 a122 w122 hd122 hz122 hk122 hf122 hE122
      have e122_5 : a122.eval (.tmp 5) = .slice Al1 l1.length cl1 := (hk122 5 rfl).trans e119_5
      have e122_6 : a122.eval (.tmp 6) = .int .i64 (l1.length : Int) := (hk122 6 rfl).trans e119_6
      have e122_7 : a122.eval (.tmp 7) = .int .i64 x90 := (hk122 7 rfl).trans e119_7
      obtain ⟨(f_20 : a122.eval (.tmp 20) = .bool ((!r120) || (!r121))), -⟩ := hf122 [9] rfl
      have e122_20 := f_20
      have hX122 := Evo.step hX119 (fun _ => Nat.le_refl 0) hE122 rfl
      have b122_Al1 := RdO.evo rfl hE122 b119_Al1
      refine fl_cond e122_20 hs (fun c123 hs => ?_) (fun c123 hs => ?_)
      · refine rg_plain_seq (n := 22) (rs := []) (own0 := own122) (K := [])
            (bs := [0])
            (ds := [⟨[], [], [], Fct.val 2 (.bool false)⟩]) (by kernel_rfl) hz122 hd122 (fun _ h => nomatch h) ?_ ?_
        · refine steps_cons (fun own a wx hf hsl hE => ?_) ?_
          · exact sg_plain rfl rfl (or_assign rfl)
          exact steps_nil
        intro own124 a124 w124 hd124 hz124 hk124 hf124 hE124
        obtain ⟨(f_2 : a124.eval (.tmp 2) = .bool false), -⟩ := hf124 [0] rfl
        have e124_2 := f_2
        have hX124 := Evo.step hX122 (fun _ => Nat.le_refl 0) hE124 rfl
        refine fl_ret ?_
        refine hp114 _ _ _ rfl ?_
        refine hp113 _ _ _ rfl ?_
        replace hs := hz108 _ hs
        refine hp108 _ _ _ rfl ?_
        refine hp72 _ _ _ rfl ?_
        refine hp70 _ _ _ rfl ?_
        obtain rfl := osome hs
        exact hret _ _ _ _ (.inl rfl) hd124 (results1_ rfl (RVal.tmp_ e124_2)) ⟨own124, rfl, hX124⟩
      refine fl_skip ?_
      refine hn114 _ _ ?_
      refine hn113 _ _ ?_
      refine rg_plain (n := 22) (rs := []) (own0 := own122) (K := [])
          (bs := [0, 1])
          (ds := [⟨[], [7], [], Fct.val 21 (.int .i64 (ad x90 1))⟩,
          ⟨[0], [], [], Fct.val 7 (.int .i64 (ad x90 1))⟩]) (by kernel_rfl) hz122 hd122 (fun _ h => nomatch h) ?_ ?_
      · refine steps_cons (fun own a wx hf hsl hE => ?_) ?_
        · obtain ⟨s_7, -⟩ := hsl
          exact sg_plain rfl rfl (or_add (s_7.trans e122_7) rfl rfl)
        refine steps_cons (fun own a wx hf hsl hE => ?_) ?_
        · obtain ⟨(f_21 : a.eval (.tmp 21) = .int .i64 (ad x90 1)), -⟩ := hf
          exact sg_plain rfl rfl (or_move f_21)
        exact steps_nil
      intro own125 a125 w125 hd125 hz125 hk125 hf125 hE125
      have e125_5 : a125.eval (.tmp 5) = .slice Al1 l1.length cl1 := (hk125 5 rfl).trans e122_5
      have e125_6 : a125.eval (.tmp 6) = .int .i64 (l1.length : Int) := (hk125 6 rfl).trans e122_6
      obtain ⟨(f_7 : a125.eval (.tmp 7) = .int .i64 (ad x90 1)), -⟩ := hf125 [1] rfl
      have e125_7 := f_7
      have hX125 := Evo.step hX122 (fun _ => Nat.le_refl 0) hE125 rfl
      have b125_Al1 := RdO.evo rfl hE125 b122_Al1
      exact hn108 _ _ _ hs ⟨own125, hd125, hz125, e125_5, e125_6, e125_7, hX125, b125_Al1⟩
    refine fl_exit ?_
    refine hp111 _ _ _ rfl ?_
    replace hs := hz108 _ hs
    refine hp108 _ _ _ rfl ?_
    refine hx72 _ _ ?_
    refine hn70 _ _ ?_
    refine rg_plain_seq (n := 22) (rs := []) (own0 := own110) (K := [])
        (bs := [0])
        (ds := [⟨[], [], [], Fct.val 2 (.bool true)⟩]) (by kernel_rfl) hz110 hd110 (fun _ h => nomatch h) ?_ ?_
    · refine steps_cons (fun own a wx hf hsl hE => ?_) ?_
      · exact sg_plain rfl rfl (or_assign rfl)
      exact steps_nil
    intro own126 a126 w126 hd126 hz126 hk126 hf126 hE126
    obtain ⟨(f_2 : a126.eval (.tmp 2) = .bool true), -⟩ := hf126 [0] rfl
    have e126_2 := f_2
    have hX126 := Evo.step hX110 (fun _ => Nat.le_refl 0) hE126 rfl
    refine fl_ret ?_
    obtain rfl := osome hs
    exact hret _ _ _ _ (.inl rfl) hd126 (results1_ rfl (RVal.tmp_ e126_2)) ⟨own126, rfl, hX126⟩

theorem rows_Right_w (w : World) (b1 : (Int × Int) × (Int × Int)) (r : Bool) (hs : rows_Right b1 = some r) :
    Calls Try.prog 22 #[.agg #[.int .i64 b1.1.1, .int .i64 b1.1.2, .int .i64 b1.2.1, .int .i64 b1.2.2]] w fun e w' => ∃ own' : Own, e = .returned (.bool r) ∧ Evo [] (fun _ => 0) own' w w' := by
  refine fl_enter (n := 27) rfl rfl rfl (Nat.le_of_ble_eq_true rfl) ?_
  intro a0 Q hd0 hz0 harg hret
  have ha0 := harg 0 _ rfl
  clear harg
  have hE0 : Evo [] (fun _ => 0) (fun _ => 0) w w := Evo.refl _ _ _
  refine rg_plain_seq (n := 27) (rs := []) (own0 := (fun _ => 0)) (K := [])
      (bs := [0, 0])
      (ds := [⟨[], [0], [], Fct.blk 20 1 (fun g => .pointer (some ⟨g, 0, none⟩)) 36 #[.int .i64 b1.1.1, .int .i64 b1.1.2, .int .i64 b1.2.1, .int .i64 b1.2.2]⟩,
      ⟨[], [], [], Fct.val 2 (.bool false)⟩]) (by kernel_rfl) hz0 hd0 (fun _ h => nomatch h) ?_ ?_
  · refine steps_cons (fun own a wx hf hsl hE => ?_) ?_
    · obtain ⟨s_0, -⟩ := hsl
      exact sg_plain rfl rfl (or_new [(0, .agg #[.int .i64 b1.1.1, .int .i64 b1.1.2, .int .i64 b1.2.1, .int .i64 b1.2.2])] rfl rfl ⟨(s_0.trans ha0), trivial⟩ (by kernel_rfl))
    refine steps_cons (fun own a wx hf hsl hE => ?_) ?_
    · exact sg_plain rfl rfl (or_assign rfl)
    exact steps_nil
  intro own21 a21 w21 hd21 hz21 hk21 hf21 hE21
  obtain ⟨⟨g19, (f_1 : a21.eval (.tmp 1) = .pointer (some ⟨g19, 0, none⟩)), (b_g19 : BlkO own21 20 w21 g19 36 #[.int .i64 b1.1.1, .int .i64 b1.1.2, .int .i64 b1.2.1, .int .i64 b1.2.2])⟩, -⟩ := hf21 [0] rfl
  have e21_1 := f_1
  have hX21 := Evo.step hE0 (fun _ => Nat.le_refl 0) hE21 rfl
  have b21_g19 := b_g19
  obtain ⟨r24, hr24, hs⟩ := obind hs
  obtain ⟨x25, hx25, hs⟩ := obind hs
  refine rg_plain_seq (n := 27) (rs := []) (own0 := own21) (K := [])
      (bs := [0, 1, 0, 4, 15, 31, 63, 127, 255, 511, 127, 1151, 3199, 8191, 16383, 32767, 65535, 131071, 262143, 65535, 589823, 1638399, 4194303, 8388607, 16777215])
      (ds := [⟨[], [1], [], Fct.val 3 (.pointer (some ⟨g19, 0, none⟩))⟩,
      ⟨[0], [], [], Fct.val 4 (.agg #[.int .i64 b1.1.1, .int .i64 b1.1.2])⟩,
      ⟨[], [1], [], Fct.val 5 (.pointer (some ⟨g19, 2, none⟩))⟩,
      ⟨[2], [], [], Fct.val 6 (.agg #[.int .i64 b1.2.1, .int .i64 b1.2.2])⟩,
      ⟨[1, 3], [], [], Fct.row 23 [] 7 34 R34 [b1.1, b1.2]⟩,
      ⟨[4], [], [], Fct.val 8 (.bool r24)⟩,
      ⟨[5], [], [], Fct.val 9 (.bool r24)⟩,
      ⟨[6], [1], [], Fct.cond r24 (some 10) (Fct.val 10 (.pointer (some ⟨g19, 0, none⟩)))⟩,
      ⟨[6, 7], [], [], Fct.cond r24 (some 11) (Fct.val 11 (.pointer (some ⟨g19, 0, none⟩)))⟩,
      ⟨[6, 8], [], [], Fct.cond r24 (some 12) (Fct.val 12 (.int .i64 b1.1.1))⟩,
      ⟨[6], [1], [], Fct.cond r24 (some 13) (Fct.val 13 (.pointer (some ⟨g19, 2, none⟩)))⟩,
      ⟨[6, 10], [], [], Fct.cond r24 (some 14) (Fct.val 14 (.pointer (some ⟨g19, 2, none⟩)))⟩,
      ⟨[6, 11], [], [], Fct.cond r24 (some 15) (Fct.val 15 (.int .i64 b1.2.1))⟩,
      ⟨[6, 9, 12], [], [], Fct.cond r24 (some 16) (Fct.val 16 (.bool (decide (b1.1.1 ≤ b1.2.1))))⟩,
      ⟨[6, 13], [], [], Fct.val 17 (.bool (r24 && (decide (b1.1.1 ≤ b1.2.1))))⟩,
      ⟨[14], [], [], Fct.val 18 (.bool (r24 && (decide (b1.1.1 ≤ b1.2.1))))⟩,
      ⟨[15], [1], [], Fct.cond (r24 && (decide (b1.1.1 ≤ b1.2.1))) (some 19) (Fct.val 19 (.pointer (some ⟨g19, 0, none⟩)))⟩,
      ⟨[15, 16], [], [], Fct.cond (r24 && (decide (b1.1.1 ≤ b1.2.1))) (some 20) (Fct.val 20 (.pointer (some ⟨g19, 1, none⟩)))⟩,
      ⟨[15, 17], [], [], Fct.cond (r24 && (decide (b1.1.1 ≤ b1.2.1))) (some 21) (Fct.val 21 (.int .i64 b1.1.2))⟩,
      ⟨[15], [1], [], Fct.cond (r24 && (decide (b1.1.1 ≤ b1.2.1))) (some 22) (Fct.val 22 (.pointer (some ⟨g19, 2, none⟩)))⟩,
      ⟨[15, 19], [], [], Fct.cond (r24 && (decide (b1.1.1 ≤ b1.2.1))) (some 23) (Fct.val 23 (.pointer (some ⟨g19, 3, none⟩)))⟩,
      ⟨[15, 20], [], [], Fct.cond (r24 && (decide (b1.1.1 ≤ b1.2.1))) (some 24) (Fct.val 24 (.int .i64 b1.2.2))⟩,
      ⟨[15, 18, 21], [], [], Fct.cond (r24 && (decide (b1.1.1 ≤ b1.2.1))) (some 25) (Fct.val 25 (.bool (decide (b1.1.2 ≤ b1.2.2))))⟩,
      ⟨[15, 22], [], [], Fct.val 26 (.bool x25)⟩,
      ⟨[23], [], [], Fct.val 2 (.bool x25)⟩]) (by kernel_rfl) hz21 hd21 (fun _ h => nomatch h) ?_ ?_
  · refine steps_cons (fun own a wx hf hsl hE => ?_) ?_
    · obtain ⟨s_1, -⟩ := hsl
      exact sg_plain rfl rfl (or_field fo36_0 (s_1.trans e21_1) (by rfl))
    refine steps_cons (fun own a wx hf hsl hE => ?_) ?_
    · obtain ⟨(f_3 : a.eval (.tmp 3) = .pointer (some ⟨g19, 0, none⟩)), -⟩ := hf
      exact sg_plain rfl rfl (or_load (l := [.int .i64 b1.1.1, .int .i64 b1.1.2]) ta34 f_3 (Blk.cellsFrom (BlkO.evo (by decide) hE b21_g19).2 0 rfl) rfl)
    refine steps_cons (fun own a wx hf hsl hE => ?_) ?_
    · obtain ⟨s_1, -⟩ := hsl
      exact sg_plain rfl rfl (or_field fo36_1 (s_1.trans e21_1) (by rfl))
    refine steps_cons (fun own a wx hf hsl hE => ?_) ?_
    · obtain ⟨(f_5 : a.eval (.tmp 5) = .pointer (some ⟨g19, 2, none⟩)), -⟩ := hf
      exact sg_plain rfl rfl (or_load (l := [.int .i64 b1.2.1, .int .i64 b1.2.2]) ta34 f_5 (Blk.cellsFrom (BlkO.evo (by decide) hE b21_g19).2 2 rfl) rfl)
    refine steps_cons (fun own a wx hf hsl hE => ?_) ?_
    · obtain ⟨(f_4 : a.eval (.tmp 4) = .agg #[.int .i64 b1.1.1, .int .i64 b1.1.2]), (f_6 : a.eval (.tmp 6) = .agg #[.int .i64 b1.2.1, .int .i64 b1.2.2]), -⟩ := hf
      exact sg_plain rfl rfl (or_lit (lab := 23) (e := 34) (cs := #[.int .i64 b1.1.1, .int .i64 b1.1.2, .int .i64 b1.2.1, .int .i64 b1.2.2]) (F := E34) (or_new [(4, .agg #[.int .i64 b1.1.1, .int .i64 b1.1.2]), (6, .agg #[.int .i64 b1.2.1, .int .i64 b1.2.2])] rfl rfl ⟨f_4, f_6, trivial⟩ (by kernel_rfl)) rfl rfl (show 2 ≤ maxLen by decide))
    refine steps_cons (fun own a wx hf hsl hE => ?_) ?_
    · obtain ⟨⟨⟨A22, cA22⟩, (f_7 : a.eval (.tmp 7) = .slice A22 [b1.1, b1.2].length cA22), (b_A22 : RwO own 23 [] wx 34 R34 A22 cA22 [b1.1, b1.2])⟩, -⟩ := hf
      exact sg_plain rfl rfl (or_call cf29 (args1 f_7) (exact_Right_w _ [b1.1, b1.2] A22 cA22 (RdO.zero (RwO.rd b_A22)) r24 hr24) post_val)
    refine steps_cons (fun own a wx hf hsl hE => ?_) ?_
    · obtain ⟨(f_8 : a.eval (.tmp 8) = .bool r24), -⟩ := hf
      exact sg_plain rfl rfl (or_move f_8)
    refine steps_cons (fun own a wx hf hsl hE => ?_) ?_
    · obtain ⟨(f_9 : a.eval (.tmp 9) = .bool r24), -⟩ := hf
      obtain ⟨s_1, -⟩ := hsl
      refine sg_t rfl rfl rfl f_9 (fun hg => ?_)
      exact or_field fo36_0 (s_1.trans e21_1) (by rfl)
    refine steps_cons (fun own a wx hf hsl hE => ?_) ?_
    · obtain ⟨(f_9 : a.eval (.tmp 9) = .bool r24), c_10, -⟩ := hf
      refine sg_t rfl rfl rfl f_9 (fun hg => ?_)
      have f_10 : a.eval (.tmp 10) = .pointer (some ⟨g19, 0, none⟩) := c_10.1 hg
      exact or_field fo34_0 f_10 (by rfl)
    refine steps_cons (fun own a wx hf hsl hE => ?_) ?_
    · obtain ⟨(f_9 : a.eval (.tmp 9) = .bool r24), c_11, -⟩ := hf
      refine sg_t rfl rfl rfl f_9 (fun hg => ?_)
      have f_11 : a.eval (.tmp 11) = .pointer (some ⟨g19, 0, none⟩) := c_11.1 hg
      exact or_load1 to3 f_11 (Blk.at_ (BlkO.evo (by decide) hE b21_g19).2 0 rfl)
    refine steps_cons (fun own a wx hf hsl hE => ?_) ?_
    · obtain ⟨(f_9 : a.eval (.tmp 9) = .bool r24), -⟩ := hf
      obtain ⟨s_1, -⟩ := hsl
      refine sg_t rfl rfl rfl f_9 (fun hg => ?_)
      exact or_field fo36_1 (s_1.trans e21_1) (by rfl)
    refine steps_cons (fun own a wx hf hsl hE => ?_) ?_
    · obtain ⟨(f_9 : a.eval (.tmp 9) = .bool r24), c_13, -⟩ := hf
      refine sg_t rfl rfl rfl f_9 (fun hg => ?_)
      have f_13 : a.eval (.tmp 13) = .pointer (some ⟨g19, 2, none⟩) := c_13.1 hg
      exact or_field fo34_0 f_13 (by rfl)
    refine steps_cons (fun own a wx hf hsl hE => ?_) ?_
    · obtain ⟨(f_9 : a.eval (.tmp 9) = .bool r24), c_14, -⟩ := hf
      refine sg_t rfl rfl rfl f_9 (fun hg => ?_)
      have f_14 : a.eval (.tmp 14) = .pointer (some ⟨g19, 2, none⟩) := c_14.1 hg
      exact or_load1 to3 f_14 (Blk.at_ (BlkO.evo (by decide) hE b21_g19).2 2 rfl)
    refine steps_cons (fun own a wx hf hsl hE => ?_) ?_
    · obtain ⟨(f_9 : a.eval (.tmp 9) = .bool r24), c_12, c_15, -⟩ := hf
      refine sg_t rfl rfl rfl f_9 (fun hg => ?_)
      have f_12 : a.eval (.tmp 12) = .int .i64 b1.1.1 := c_12.1 hg
      have f_15 : a.eval (.tmp 15) = .int .i64 b1.2.1 := c_15.1 hg
      exact or_leq f_12 f_15 rfl
    refine steps_cons (fun own a wx hf hsl hE => ?_) ?_
    · obtain ⟨(f_9 : a.eval (.tmp 9) = .bool r24), c_16, -⟩ := hf
      exact sg_plain rfl rfl (or_and f_9 (fun hx => c_16.1 hx) rfl rfl)
    refine steps_cons (fun own a wx hf hsl hE => ?_) ?_
    · obtain ⟨(f_17 : a.eval (.tmp 17) = .bool (r24 && (decide (b1.1.1 ≤ b1.2.1)))), -⟩ := hf
      exact sg_plain rfl rfl (or_move f_17)
    refine steps_cons (fun own a wx hf hsl hE => ?_) ?_
    · obtain ⟨(f_18 : a.eval (.tmp 18) = .bool (r24 && (decide (b1.1.1 ≤ b1.2.1)))), -⟩ := hf
      obtain ⟨s_1, -⟩ := hsl
      refine sg_t rfl rfl rfl f_18 (fun hg => ?_)
      exact or_field fo36_0 (s_1.trans e21_1) (by rfl)
    refine steps_cons (fun own a wx hf hsl hE => ?_) ?_
    · obtain ⟨(f_18 : a.eval (.tmp 18) = .bool (r24 && (decide (b1.1.1 ≤ b1.2.1)))), c_19, -⟩ := hf
      refine sg_t rfl rfl rfl f_18 (fun hg => ?_)
      have f_19 : a.eval (.tmp 19) = .pointer (some ⟨g19, 0, none⟩) := c_19.1 hg
      exact or_field fo34_1 f_19 (by rfl)
    refine steps_cons (fun own a wx hf hsl hE => ?_) ?_
    · obtain ⟨(f_18 : a.eval (.tmp 18) = .bool (r24 && (decide (b1.1.1 ≤ b1.2.1)))), c_20, -⟩ := hf
      refine sg_t rfl rfl rfl f_18 (fun hg => ?_)
      have f_20 : a.eval (.tmp 20) = .pointer (some ⟨g19, 1, none⟩) := c_20.1 hg
      exact or_load1 to3 f_20 (Blk.at_ (BlkO.evo (by decide) hE b21_g19).2 1 rfl)
    refine steps_cons (fun own a wx hf hsl hE => ?_) ?_
    · obtain ⟨(f_18 : a.eval (.tmp 18) = .bool (r24 && (decide (b1.1.1 ≤ b1.2.1)))), -⟩ := hf
      obtain ⟨s_1, -⟩ := hsl
      refine sg_t rfl rfl rfl f_18 (fun hg => ?_)
      exact or_field fo36_1 (s_1.trans e21_1) (by rfl)
    refine steps_cons (fun own a wx hf hsl hE => ?_) ?_
    · obtain ⟨(f_18 : a.eval (.tmp 18) = .bool (r24 && (decide (b1.1.1 ≤ b1.2.1)))), c_22, -⟩ := hf
      refine sg_t rfl rfl rfl f_18 (fun hg => ?_)
      have f_22 : a.eval (.tmp 22) = .pointer (some ⟨g19, 2, none⟩) := c_22.1 hg
      exact or_field fo34_1 f_22 (by rfl)
    refine steps_cons (fun own a wx hf hsl hE => ?_) ?_
    · obtain ⟨(f_18 : a.eval (.tmp 18) = .bool (r24 && (decide (b1.1.1 ≤ b1.2.1)))), c_23, -⟩ := hf
      refine sg_t rfl rfl rfl f_18 (fun hg => ?_)
      have f_23 : a.eval (.tmp 23) = .pointer (some ⟨g19, 3, none⟩) := c_23.1 hg
      exact or_load1 to3 f_23 (Blk.at_ (BlkO.evo (by decide) hE b21_g19).2 3 rfl)
    refine steps_cons (fun own a wx hf hsl hE => ?_) ?_
    · obtain ⟨(f_18 : a.eval (.tmp 18) = .bool (r24 && (decide (b1.1.1 ≤ b1.2.1)))), c_21, c_24, -⟩ := hf
      refine sg_t rfl rfl rfl f_18 (fun hg => ?_)
      have f_21 : a.eval (.tmp 21) = .int .i64 b1.1.2 := c_21.1 hg
      have f_24 : a.eval (.tmp 24) = .int .i64 b1.2.2 := c_24.1 hg
      exact or_leq f_21 f_24 rfl
    refine steps_cons (fun own a wx hf hsl hE => ?_) ?_
    · obtain ⟨(f_18 : a.eval (.tmp 18) = .bool (r24 && (decide (b1.1.1 ≤ b1.2.1)))), c_25, -⟩ := hf
      exact sg_plain rfl rfl (or_and f_18 (fun hx => c_25.1 hx) rfl (osome hx25).symm)
    refine steps_cons (fun own a wx hf hsl hE => ?_) ?_
    · obtain ⟨(f_26 : a.eval (.tmp 26) = .bool x25), -⟩ := hf
      exact sg_plain rfl rfl (or_assign f_26)
    exact steps_nil
  intro own26 a26 w26 hd26 hz26 hk26 hf26 hE26
  obtain ⟨(f_2 : a26.eval (.tmp 2) = .bool x25), -⟩ := hf26 [24] rfl
  have e26_2 := f_2
  have hX26 := Evo.step hX21 (fun _ => Nat.le_refl 0) hE26 rfl
  refine fl_ret ?_
  obtain rfl := (osome hs).symm
  exact hret _ _ _ _ (.inl rfl) hd26 (results1_ rfl (RVal.tmp_ e26_2)) ⟨own26, rfl, hX26⟩

theorem lineclip_within_w (w : World) (p1 : Int × Int) (b2 : (Int × Int) × (Int × Int)) (r : Bool) (hs : lineclip_within p1 b2 = some r) :
    Calls Try.prog 30 #[.agg #[.int .i64 p1.1, .int .i64 p1.2], .agg #[.int .i64 b2.1.1, .int .i64 b2.1.2, .int .i64 b2.2.1, .int .i64 b2.2.2]] w fun e w' => ∃ own' : Own, e = .returned (.bool r) ∧ Evo [] (fun _ => 0) own' w w' := by
  refine fl_enter (n := 35) rfl rfl rfl (Nat.le_of_ble_eq_true rfl) ?_
  intro a0 Q hd0 hz0 harg hret
  have ha0 := harg 0 _ rfl
  have ha1 := harg 1 _ rfl
  clear harg
  have hE0 : Evo [] (fun _ => 0) (fun _ => 0) w w := Evo.refl _ _ _
  refine rg_plain_seq (n := 35) (rs := []) (own0 := (fun _ => 0)) (K := [])
      (bs := [0, 0, 0])
      (ds := [⟨[], [0], [], Fct.blk 20 2 (fun g => .pointer (some ⟨g, 0, none⟩)) 34 #[.int .i64 p1.1, .int .i64 p1.2]⟩,
      ⟨[], [1], [], Fct.blk 22 3 (fun g => .pointer (some ⟨g, 0, none⟩)) 36 #[.int .i64 b2.1.1, .int .i64 b2.1.2, .int .i64 b2.2.1, .int .i64 b2.2.2]⟩,
      ⟨[], [], [], Fct.val 4 (.bool false)⟩]) (by kernel_rfl) hz0 hd0 (fun _ h => nomatch h) ?_ ?_
  · refine steps_cons (fun own a wx hf hsl hE => ?_) ?_
    · obtain ⟨s_0, -⟩ := hsl
      exact sg_plain rfl rfl (or_new [(0, .agg #[.int .i64 p1.1, .int .i64 p1.2])] rfl rfl ⟨(s_0.trans ha0), trivial⟩ (by kernel_rfl))
    refine steps_cons (fun own a wx hf hsl hE => ?_) ?_
    · obtain ⟨s_1, -⟩ := hsl
      exact sg_plain rfl rfl (or_new [(1, .agg #[.int .i64 b2.1.1, .int .i64 b2.1.2, .int .i64 b2.2.1, .int .i64 b2.2.2])] rfl rfl ⟨(s_1.trans ha1), trivial⟩ (by kernel_rfl))
    refine steps_cons (fun own a wx hf hsl hE => ?_) ?_
    · exact sg_plain rfl rfl (or_assign rfl)
    exact steps_nil
  intro own23 a23 w23 hd23 hz23 hk23 hf23 hE23
  obtain ⟨⟨g19, (f_2 : a23.eval (.tmp 2) = .pointer (some ⟨g19, 0, none⟩)), (b_g19 : BlkO own23 20 w23 g19 34 #[.int .i64 p1.1, .int .i64 p1.2])⟩, ⟨g21, (f_3 : a23.eval (.tmp 3) = .pointer (some ⟨g21, 0, none⟩)), (b_g21 : BlkO own23 22 w23 g21 36 #[.int .i64 b2.1.1, .int .i64 b2.1.2, .int .i64 b2.2.1, .int .i64 b2.2.2])⟩, -⟩ := hf23 [0, 1] rfl
  have e23_2 := f_2
  have e23_3 := f_3
  have hX23 := Evo.step hE0 (fun _ => Nat.le_refl 0) hE23 rfl
  have b23_g19 := b_g19
  have b23_g21 := b_g21
  obtain ⟨x24, hx24, hs⟩ := obind hs
  obtain ⟨x25, hx25, hs⟩ := obind hs
  refine rg_plain_seq (n := 35) (rs := []) (own0 := own23) (K := [])
      (bs := [0, 1, 0, 4, 12, 31, 63, 127, 255, 127, 639, 1663, 4095, 8191, 16383, 32767, 65535, 32767, 163839, 425983, 1048575, 2097151, 4194303, 8388607, 16777215, 8388607, 41943039, 109051903, 268435455, 536870911, 1073741823])
      (ds := [⟨[], [2], [], Fct.val 5 (.pointer (some ⟨g19, 0, none⟩))⟩,
      ⟨[0], [], [], Fct.val 6 (.int .i64 p1.1)⟩,
      ⟨[], [3], [], Fct.val 7 (.pointer (some ⟨g21, 0, none⟩))⟩,
      ⟨[2], [], [], Fct.val 8 (.pointer (some ⟨g21, 0, none⟩))⟩,
      ⟨[3], [], [], Fct.val 9 (.int .i64 b2.1.1)⟩,
      ⟨[1, 4], [], [], Fct.val 10 (.bool (decide (b2.1.1 ≤ p1.1)))⟩,
      ⟨[5], [], [], Fct.val 11 (.bool (decide (b2.1.1 ≤ p1.1)))⟩,
      ⟨[6], [2], [], Fct.cond (decide (b2.1.1 ≤ p1.1)) (some 12) (Fct.val 12 (.pointer (some ⟨g19, 0, none⟩)))⟩,
      ⟨[6, 7], [], [], Fct.cond (decide (b2.1.1 ≤ p1.1)) (some 13) (Fct.val 13 (.int .i64 p1.1))⟩,
      ⟨[6], [3], [], Fct.cond (decide (b2.1.1 ≤ p1.1)) (some 14) (Fct.val 14 (.pointer (some ⟨g21, 2, none⟩)))⟩,
      ⟨[6, 9], [], [], Fct.cond (decide (b2.1.1 ≤ p1.1)) (some 15) (Fct.val 15 (.pointer (some ⟨g21, 2, none⟩)))⟩,
      ⟨[6, 10], [], [], Fct.cond (decide (b2.1.1 ≤ p1.1)) (some 16) (Fct.val 16 (.int .i64 b2.2.1))⟩,
      ⟨[6, 8, 11], [], [], Fct.cond (decide (b2.1.1 ≤ p1.1)) (some 17) (Fct.val 17 (.bool (decide (p1.1 ≤ b2.2.1))))⟩,
      ⟨[6, 12], [], [], Fct.val 18 (.bool x24)⟩,
      ⟨[13], [], [], Fct.val 19 (.bool x24)⟩,
      ⟨[14], [2], [], Fct.cond x24 (some 20) (Fct.val 20 (.pointer (some ⟨g19, 1, none⟩)))⟩,
      ⟨[14, 15], [], [], Fct.cond x24 (some 21) (Fct.val 21 (.int .i64 p1.2))⟩,
      ⟨[14], [3], [], Fct.cond x24 (some 22) (Fct.val 22 (.pointer (some ⟨g21, 0, none⟩)))⟩,
      ⟨[14, 17], [], [], Fct.cond x24 (some 23) (Fct.val 23 (.pointer (some ⟨g21, 1, none⟩)))⟩,
      ⟨[14, 18], [], [], Fct.cond x24 (some 24) (Fct.val 24 (.int .i64 b2.1.2))⟩,
      ⟨[14, 16, 19], [], [], Fct.cond x24 (some 25) (Fct.val 25 (.bool (decide (b2.1.2 ≤ p1.2))))⟩,
      ⟨[14, 20], [], [], Fct.val 26 (.bool (x24 && (decide (b2.1.2 ≤ p1.2))))⟩,
      ⟨[21], [], [], Fct.val 27 (.bool (x24 && (decide (b2.1.2 ≤ p1.2))))⟩,
      ⟨[22], [2], [], Fct.cond (x24 && (decide (b2.1.2 ≤ p1.2))) (some 28) (Fct.val 28 (.pointer (some ⟨g19, 1, none⟩)))⟩,
      ⟨[22, 23], [], [], Fct.cond (x24 && (decide (b2.1.2 ≤ p1.2))) (some 29) (Fct.val 29 (.int .i64 p1.2))⟩,
      ⟨[22], [3], [], Fct.cond (x24 && (decide (b2.1.2 ≤ p1.2))) (some 30) (Fct.val 30 (.pointer (some ⟨g21, 2, none⟩)))⟩,
      ⟨[22, 25], [], [], Fct.cond (x24 && (decide (b2.1.2 ≤ p1.2))) (some 31) (Fct.val 31 (.pointer (some ⟨g21, 3, none⟩)))⟩,
      ⟨[22, 26], [], [], Fct.cond (x24 && (decide (b2.1.2 ≤ p1.2))) (some 32) (Fct.val 32 (.int .i64 b2.2.2))⟩,
      ⟨[22, 24, 27], [], [], Fct.cond (x24 && (decide (b2.1.2 ≤ p1.2))) (some 33) (Fct.val 33 (.bool (decide (p1.2 ≤ b2.2.2))))⟩,
      ⟨[22, 28], [], [], Fct.val 34 (.bool x25)⟩,
      ⟨[29], [], [], Fct.val 4 (.bool x25)⟩]) (by kernel_rfl) hz23 hd23 (fun _ h => nomatch h) ?_ ?_
  · refine steps_cons (fun own a wx hf hsl hE => ?_) ?_
    · obtain ⟨s_2, -⟩ := hsl
      exact sg_plain rfl rfl (or_field fo34_0 (s_2.trans e23_2) (by rfl))
    refine steps_cons (fun own a wx hf hsl hE => ?_) ?_
    · obtain ⟨(f_5 : a.eval (.tmp 5) = .pointer (some ⟨g19, 0, none⟩)), -⟩ := hf
      exact sg_plain rfl rfl (or_load1 to3 f_5 (Blk.at_ (BlkO.evo (by decide) hE b23_g19).2 0 rfl))
    refine steps_cons (fun own a wx hf hsl hE => ?_) ?_
    · obtain ⟨s_3, -⟩ := hsl
      exact sg_plain rfl rfl (or_field fo36_0 (s_3.trans e23_3) (by rfl))
    refine steps_cons (fun own a wx hf hsl hE => ?_) ?_
    · obtain ⟨(f_7 : a.eval (.tmp 7) = .pointer (some ⟨g21, 0, none⟩)), -⟩ := hf
      exact sg_plain rfl rfl (or_field fo34_0 f_7 (by rfl))
    refine steps_cons (fun own a wx hf hsl hE => ?_) ?_
    · obtain ⟨(f_8 : a.eval (.tmp 8) = .pointer (some ⟨g21, 0, none⟩)), -⟩ := hf
      exact sg_plain rfl rfl (or_load1 to3 f_8 (Blk.at_ (BlkO.evo (by decide) hE b23_g21).2 0 rfl))
    refine steps_cons (fun own a wx hf hsl hE => ?_) ?_
    · obtain ⟨(f_6 : a.eval (.tmp 6) = .int .i64 p1.1), (f_9 : a.eval (.tmp 9) = .int .i64 b2.1.1), -⟩ := hf
      exact sg_plain rfl rfl (or_geq f_6 f_9 rfl)
    refine steps_cons (fun own a wx hf hsl hE => ?_) ?_
    · obtain ⟨(f_10 : a.eval (.tmp 10) = .bool (decide (b2.1.1 ≤ p1.1))), -⟩ := hf
      exact sg_plain rfl rfl (or_move f_10)
    refine steps_cons (fun own a wx hf hsl hE => ?_) ?_
    · obtain ⟨(f_11 : a.eval (.tmp 11) = .bool (decide (b2.1.1 ≤ p1.1))), -⟩ := hf
      obtain ⟨s_2, -⟩ := hsl
      refine sg_t rfl rfl rfl f_11 (fun hg => ?_)
      exact or_field fo34_0 (s_2.trans e23_2) (by rfl)
    refine steps_cons (fun own a wx hf hsl hE => ?_) ?_
    · obtain ⟨(f_11 : a.eval (.tmp 11) = .bool (decide (b2.1.1 ≤ p1.1))), c_12, -⟩ := hf
      refine sg_t rfl rfl rfl f_11 (fun hg => ?_)
      have f_12 : a.eval (.tmp 12) = .pointer (some ⟨g19, 0, none⟩) := c_12.1 hg
      exact or_load1 to3 f_12 (Blk.at_ (BlkO.evo (by decide) hE b23_g19).2 0 rfl)
    refine steps_cons (fun own a wx hf hsl hE => ?_) ?_
    · obtain ⟨(f_11 : a.eval (.tmp 11) = .bool (decide (b2.1.1 ≤ p1.1))), -⟩ := hf
      obtain ⟨s_3, -⟩ := hsl
      refine sg_t rfl rfl rfl f_11 (fun hg => ?_)
      exact or_field fo36_1 (s_3.trans e23_3) (by rfl)
    refine steps_cons (fun own a wx hf hsl hE => ?_) ?_
    · obtain ⟨(f_11 : a.eval (.tmp 11) = .bool (decide (b2.1.1 ≤ p1.1))), c_14, -⟩ := hf
      refine sg_t rfl rfl rfl f_11 (fun hg => ?_)
      have f_14 : a.eval (.tmp 14) = .pointer (some ⟨g21, 2, none⟩) := c_14.1 hg
      exact or_field fo34_0 f_14 (by rfl)
    refine steps_cons (fun own a wx hf hsl hE => ?_) ?_
    · obtain ⟨(f_11 : a.eval (.tmp 11) = .bool (decide (b2.1.1 ≤ p1.1))), c_15, -⟩ := hf
      refine sg_t rfl rfl rfl f_11 (fun hg => ?_)
      have f_15 : a.eval (.tmp 15) = .pointer (some ⟨g21, 2, none⟩) := c_15.1 hg
      exact or_load1 to3 f_15 (Blk.at_ (BlkO.evo (by decide) hE b23_g21).2 2 rfl)
    refine steps_cons (fun own a wx hf hsl hE => ?_) ?_
    · obtain ⟨(f_11 : a.eval (.tmp 11) = .bool (decide (b2.1.1 ≤ p1.1))), c_13, c_16, -⟩ := hf
      refine sg_t rfl rfl rfl f_11 (fun hg => ?_)
      have f_13 : a.eval (.tmp 13) = .int .i64 p1.1 := c_13.1 hg
      have f_16 : a.eval (.tmp 16) = .int .i64 b2.2.1 := c_16.1 hg
      exact or_leq f_13 f_16 rfl
    refine steps_cons (fun own a wx hf hsl hE => ?_) ?_
    · obtain ⟨(f_11 : a.eval (.tmp 11) = .bool (decide (b2.1.1 ≤ p1.1))), c_17, -⟩ := hf
      exact sg_plain rfl rfl (or_and f_11 (fun hx => c_17.1 hx) rfl (osome hx24).symm)
    refine steps_cons (fun own a wx hf hsl hE => ?_) ?_
    · obtain ⟨(f_18 : a.eval (.tmp 18) = .bool x24), -⟩ := hf
      exact sg_plain rfl rfl (or_move f_18)
    refine steps_cons (fun own a wx hf hsl hE => ?_) ?_
    · obtain ⟨(f_19 : a.eval (.tmp 19) = .bool x24), -⟩ := hf
      obtain ⟨s_2, -⟩ := hsl
      refine sg_t rfl rfl rfl f_19 (fun hg => ?_)
      exact or_field fo34_1 (s_2.trans e23_2) (by rfl)
    refine steps_cons (fun own a wx hf hsl hE => ?_) ?_
    · obtain ⟨(f_19 : a.eval (.tmp 19) = .bool x24), c_20, -⟩ := hf
      refine sg_t rfl rfl rfl f_19 (fun hg => ?_)
      have f_20 : a.eval (.tmp 20) = .pointer (some ⟨g19, 1, none⟩) := c_20.1 hg
      exact or_load1 to3 f_20 (Blk.at_ (BlkO.evo (by decide) hE b23_g19).2 1 rfl)
    refine steps_cons (fun own a wx hf hsl hE => ?_) ?_
    · obtain ⟨(f_19 : a.eval (.tmp 19) = .bool x24), -⟩ := hf
      obtain ⟨s_3, -⟩ := hsl
      refine sg_t rfl rfl rfl f_19 (fun hg => ?_)
      exact or_field fo36_0 (s_3.trans e23_3) (by rfl)
    refine steps_cons (fun own a wx hf hsl hE => ?_) ?_
    · obtain ⟨(f_19 : a.eval (.tmp 19) = .bool x24), c_22, -⟩ := hf
      refine sg_t rfl rfl rfl f_19 (fun hg => ?_)
      have f_22 : a.eval (.tmp 22) = .pointer (some ⟨g21, 0, none⟩) := c_22.1 hg
      exact or_field fo34_1 f_22 (by rfl)
    refine steps_cons (fun own a wx hf hsl hE => ?_) ?_
    · obtain ⟨(f_19 : a.eval (.tmp 19) = .bool x24), c_23, -⟩ := hf
      refine sg_t rfl rfl rfl f_19 (fun hg => ?_)
      have f_23 : a.eval (.tmp 23) = .pointer (some ⟨g21, 1, none⟩) := c_23.1 hg
      exact or_load1 to3 f_23 (Blk.at_ (BlkO.evo (by decide) hE b23_g21).2 1 rfl)
    refine steps_cons (fun own a wx hf hsl hE => ?_) ?_
    · obtain ⟨(f_19 : a.eval (.tmp 19) = .bool x24), c_21, c_24, -⟩ := hf
      refine sg_t rfl rfl rfl f_19 (fun hg => ?_)
      have f_21 : a.eval (.tmp 21) = .int .i64 p1.2 := c_21.1 hg
      have f_24 : a.eval (.tmp 24) = .int .i64 b2.1.2 := c_24.1 hg
      exact or_geq f_21 f_24 rfl
    refine steps_cons (fun own a wx hf hsl hE => ?_) ?_
    · obtain ⟨(f_19 : a.eval (.tmp 19) = .bool x24), c_25, -⟩ := hf
      exact sg_plain rfl rfl (or_and f_19 (fun hx => c_25.1 hx) rfl rfl)
    refine steps_cons (fun own a wx hf hsl hE => ?_) ?_
    · obtain ⟨(f_26 : a.eval (.tmp 26) = .bool (x24 && (decide (b2.1.2 ≤ p1.2)))), -⟩ := hf
      exact sg_plain rfl rfl (or_move f_26)
    refine steps_cons (fun own a wx hf hsl hE => ?_) ?_
    · obtain ⟨(f_27 : a.eval (.tmp 27) = .bool (x24 && (decide (b2.1.2 ≤ p1.2)))), -⟩ := hf
      obtain ⟨s_2, -⟩ := hsl
      refine sg_t rfl rfl rfl f_27 (fun hg => ?_)
      exact or_field fo34_1 (s_2.trans e23_2) (by rfl)
    refine steps_cons (fun own a wx hf hsl hE => ?_) ?_
    · obtain ⟨(f_27 : a.eval (.tmp 27) = .bool (x24 && (decide (b2.1.2 ≤ p1.2)))), c_28, -⟩ := hf
      refine sg_t rfl rfl rfl f_27 (fun hg => ?_)
      have f_28 : a.eval (.tmp 28) = .pointer (some ⟨g19, 1, none⟩) := c_28.1 hg
      exact or_load1 to3 f_28 (Blk.at_ (BlkO.evo (by decide) hE b23_g19).2 1 rfl)
    refine steps_cons (fun own a wx hf hsl hE => ?_) ?_
    · obtain ⟨(f_27 : a.eval (.tmp 27) = .bool (x24 && (decide (b2.1.2 ≤ p1.2)))), -⟩ := hf
      obtain ⟨s_3, -⟩ := hsl
      refine sg_t rfl rfl rfl f_27 (fun hg => ?_)
      exact or_field fo36_1 (s_3.trans e23_3) (by rfl)
    refine steps_cons (fun own a wx hf hsl hE => ?_) ?_
    · obtain ⟨(f_27 : a.eval (.tmp 27) = .bool (x24 && (decide (b2.1.2 ≤ p1.2)))), c_30, -⟩ := hf
      refine sg_t rfl rfl rfl f_27 (fun hg => ?_)
      have f_30 : a.eval (.tmp 30) = .pointer (some ⟨g21, 2, none⟩) := c_30.1 hg
      exact or_field fo34_1 f_30 (by rfl)
    refine steps_cons (fun own a wx hf hsl hE => ?_) ?_
    · obtain ⟨(f_27 : a.eval (.tmp 27) = .bool (x24 && (decide (b2.1.2 ≤ p1.2)))), c_31, -⟩ := hf
      refine sg_t rfl rfl rfl f_27 (fun hg => ?_)
      have f_31 : a.eval (.tmp 31) = .pointer (some ⟨g21, 3, none⟩) := c_31.1 hg
      exact or_load1 to3 f_31 (Blk.at_ (BlkO.evo (by decide) hE b23_g21).2 3 rfl)
    refine steps_cons (fun own a wx hf hsl hE => ?_) ?_
    · obtain ⟨(f_27 : a.eval (.tmp 27) = .bool (x24 && (decide (b2.1.2 ≤ p1.2)))), c_29, c_32, -⟩ := hf
      refine sg_t rfl rfl rfl f_27 (fun hg => ?_)
      have f_29 : a.eval (.tmp 29) = .int .i64 p1.2 := c_29.1 hg
      have f_32 : a.eval (.tmp 32) = .int .i64 b2.2.2 := c_32.1 hg
      exact or_leq f_29 f_32 rfl
    refine steps_cons (fun own a wx hf hsl hE => ?_) ?_
    · obtain ⟨(f_27 : a.eval (.tmp 27) = .bool (x24 && (decide (b2.1.2 ≤ p1.2)))), c_33, -⟩ := hf
      exact sg_plain rfl rfl (or_and f_27 (fun hx => c_33.1 hx) rfl (osome hx25).symm)
    refine steps_cons (fun own a wx hf hsl hE => ?_) ?_
    · obtain ⟨(f_34 : a.eval (.tmp 34) = .bool x25), -⟩ := hf
      exact sg_plain rfl rfl (or_assign f_34)
    exact steps_nil
  intro own26 a26 w26 hd26 hz26 hk26 hf26 hE26
  obtain ⟨(f_4 : a26.eval (.tmp 4) = .bool x25), -⟩ := hf26 [30] rfl
  have e26_4 := f_4
  have hX26 := Evo.step hX23 (fun _ => Nat.le_refl 0) hE26 rfl
  refine fl_ret ?_
  obtain rfl := (osome hs).symm
  exact hret _ _ _ _ (.inl rfl) hd26 (results1_ rfl (RVal.tmp_ e26_4)) ⟨own26, rfl, hX26⟩

theorem lineclip_side_w (w : World) (p1 : Int) (q2 : Int) (low3 : Int) (high4 : Int) (r : Bool) (hs : lineclip_side p1 q2 low3 high4 = some r) :
    Calls Try.prog 31 #[.int .i64 p1, .int .i64 q2, .int .i64 low3, .int .i64 high4] w fun e w' => ∃ own' : Own, e = .returned (.bool r) ∧ Evo [] (fun _ => 0) own' w w' := by
  refine fl_enter (n := 22) rfl rfl rfl (Nat.le_of_ble_eq_true rfl) ?_
  intro a0 Q hd0 hz0 harg hret
  have ha0 := harg 0 _ rfl
  have ha1 := harg 1 _ rfl
  have ha2 := harg 2 _ rfl
  have ha3 := harg 3 _ rfl
  clear harg
  have hE0 : Evo [] (fun _ => 0) (fun _ => 0) w w := Evo.refl _ _ _
  refine rg_plain_seq (n := 22) (rs := []) (own0 := (fun _ => 0)) (K := [])
      (bs := [0])
      (ds := [⟨[], [], [], Fct.val 8 (.bool false)⟩]) (by kernel_rfl) hz0 hd0 (fun _ h => nomatch h) ?_ ?_
  · refine steps_cons (fun own a wx hf hsl hE => ?_) ?_
    · exact sg_plain rfl rfl (or_assign rfl)
    exact steps_nil
  intro own14 a14 w14 hd14 hz14 hk14 hf14 hE14
  have e14_0 : a14.eval (.tmp 0) = .int .i64 p1 := (hk14 0 rfl).trans ha0
  have e14_1 : a14.eval (.tmp 1) = .int .i64 q2 := (hk14 1 rfl).trans ha1
  have e14_2 : a14.eval (.tmp 2) = .int .i64 low3 := (hk14 2 rfl).trans ha2
  have e14_3 : a14.eval (.tmp 3) = .int .i64 high4 := (hk14 3 rfl).trans ha3
  have hX14 := Evo.step hE0 (fun _ => Nat.le_refl 0) hE14 rfl
  obtain ⟨x15, hx15, hs⟩ := obind hs
  refine rg_plain_seq (n := 22) (rs := []) (own0 := own14) (K := [])
      (bs := [0, 0, 3, 7, 15, 15, 63, 127, 255, 255, 1023, 2047, 4095, 8191])
      (ds := [⟨[], [0], [], Fct.val 9 (.int .i64 p1)⟩,
      ⟨[], [1], [], Fct.val 10 (.int .i64 q2)⟩,
      ⟨[0, 1], [], [], Fct.val 11 (.bool (decide (p1 = q2)))⟩,
      ⟨[2], [], [], Fct.val 12 (.bool (decide (p1 = q2)))⟩,
      ⟨[3], [0], [], Fct.cond (decide (p1 = q2)) (some 13) (Fct.val 13 (.int .i64 p1))⟩,
      ⟨[3], [2], [], Fct.cond (decide (p1 = q2)) (some 14) (Fct.val 14 (.int .i64 low3))⟩,
      ⟨[3, 4, 5], [], [], Fct.cond (decide (p1 = q2)) (some 15) (Fct.val 15 (.bool (decide (p1 = low3))))⟩,
      ⟨[3, 6], [], [], Fct.cond (decide (p1 = q2)) (some 16) (Fct.val 16 (.bool (decide (p1 = low3))))⟩,
      ⟨[7], [0], [], Fct.cond ((decide (p1 = q2)) && (!(decide (p1 = low3)))) (some 17) (Fct.val 17 (.int .i64 p1))⟩,
      ⟨[7], [3], [], Fct.cond ((decide (p1 = q2)) && (!(decide (p1 = low3)))) (some 18) (Fct.val 18 (.int .i64 high4))⟩,
      ⟨[7, 8, 9], [], [], Fct.cond ((decide (p1 = q2)) && (!(decide (p1 = low3)))) (some 19) (Fct.val 19 (.bool (decide (p1 = high4))))⟩,
      ⟨[3, 7, 10], [], [], Fct.cond (decide (p1 = q2)) (some 20) (Fct.val 20 (.bool x15))⟩,
      ⟨[3, 11], [], [], Fct.val 21 (.bool ((decide (p1 = q2)) && x15))⟩,
      ⟨[12], [], [], Fct.val 8 (.bool ((decide (p1 = q2)) && x15))⟩]) (by kernel_rfl) hz14 hd14 (fun _ h => nomatch h) ?_ ?_
  · refine steps_cons (fun own a wx hf hsl hE => ?_) ?_
    · obtain ⟨s_0, -⟩ := hsl
      exact sg_plain rfl rfl (or_move (s_0.trans e14_0))
    refine steps_cons (fun own a wx hf hsl hE => ?_) ?_
    · obtain ⟨s_1, -⟩ := hsl
      exact sg_plain rfl rfl (or_move (s_1.trans e14_1))
    refine steps_cons (fun own a wx hf hsl hE => ?_) ?_
    · obtain ⟨(f_9 : a.eval (.tmp 9) = .int .i64 p1), (f_10 : a.eval (.tmp 10) = .int .i64 q2), -⟩ := hf
      exact sg_plain rfl rfl (or_eql f_9 f_10 rfl)
    refine steps_cons (fun own a wx hf hsl hE => ?_) ?_
    · obtain ⟨(f_11 : a.eval (.tmp 11) = .bool (decide (p1 = q2))), -⟩ := hf
      exact sg_plain rfl rfl (or_move f_11)
    refine steps_cons (fun own a wx hf hsl hE => ?_) ?_
    · obtain ⟨(f_12 : a.eval (.tmp 12) = .bool (decide (p1 = q2))), -⟩ := hf
      obtain ⟨s_0, -⟩ := hsl
      refine sg_t rfl rfl rfl f_12 (fun hg => ?_)
      exact or_move (s_0.trans e14_0)
    refine steps_cons (fun own a wx hf hsl hE => ?_) ?_
    · obtain ⟨(f_12 : a.eval (.tmp 12) = .bool (decide (p1 = q2))), -⟩ := hf
      obtain ⟨s_2, -⟩ := hsl
      refine sg_t rfl rfl rfl f_12 (fun hg => ?_)
      exact or_move (s_2.trans e14_2)
    refine steps_cons (fun own a wx hf hsl hE => ?_) ?_
    · obtain ⟨(f_12 : a.eval (.tmp 12) = .bool (decide (p1 = q2))), c_13, c_14, -⟩ := hf
      refine sg_t rfl rfl rfl f_12 (fun hg => ?_)
      have f_13 : a.eval (.tmp 13) = .int .i64 p1 := c_13.1 hg
      have f_14 : a.eval (.tmp 14) = .int .i64 low3 := c_14.1 hg
      exact or_eql f_13 f_14 rfl
    refine steps_cons (fun own a wx hf hsl hE => ?_) ?_
    · obtain ⟨(f_12 : a.eval (.tmp 12) = .bool (decide (p1 = q2))), c_15, -⟩ := hf
      refine sg_t rfl rfl rfl f_12 (fun hg => ?_)
      have f_15 : a.eval (.tmp 15) = .bool (decide (p1 = low3)) := c_15.1 hg
      exact or_move f_15
    refine steps_cons (fun own a wx hf hsl hE => ?_) ?_
    · obtain ⟨c_16, -⟩ := hf
      obtain ⟨s_0, -⟩ := hsl
      refine sg_fc rfl rfl rfl c_16 (fun hg => ?_)
      have f_16 : a.eval (.tmp 16) = .bool (decide (p1 = low3)) := c_16.1 (gL hg)
      exact or_move (s_0.trans e14_0)
    refine steps_cons (fun own a wx hf hsl hE => ?_) ?_
    · obtain ⟨c_16, -⟩ := hf
      obtain ⟨s_3, -⟩ := hsl
      refine sg_fc rfl rfl rfl c_16 (fun hg => ?_)
      have f_16 : a.eval (.tmp 16) = .bool (decide (p1 = low3)) := c_16.1 (gL hg)
      exact or_move (s_3.trans e14_3)
    refine steps_cons (fun own a wx hf hsl hE => ?_) ?_
    · obtain ⟨c_16, c_17, c_18, -⟩ := hf
      refine sg_fc rfl rfl rfl c_16 (fun hg => ?_)
      have f_16 : a.eval (.tmp 16) = .bool (decide (p1 = low3)) := c_16.1 (gL hg)
      have f_17 : a.eval (.tmp 17) = .int .i64 p1 := c_17.1 hg
      have f_18 : a.eval (.tmp 18) = .int .i64 high4 := c_18.1 hg
      exact or_eql f_17 f_18 rfl
    refine steps_cons (fun own a wx hf hsl hE => ?_) ?_
    · obtain ⟨(f_12 : a.eval (.tmp 12) = .bool (decide (p1 = q2))), c_16, c_19, -⟩ := hf
      refine sg_t rfl rfl rfl f_12 (fun hg => ?_)
      have f_16 : a.eval (.tmp 16) = .bool (decide (p1 = low3)) := c_16.1 hg
      exact or_or f_16 rfl (fun hx => c_19.1 (gI hg hx)) (osome hx15).symm
    refine steps_cons (fun own a wx hf hsl hE => ?_) ?_
    · obtain ⟨(f_12 : a.eval (.tmp 12) = .bool (decide (p1 = q2))), c_20, -⟩ := hf
      exact sg_plain rfl rfl (or_and f_12 (fun hx => c_20.1 hx) rfl rfl)
    refine steps_cons (fun own a wx hf hsl hE => ?_) ?_
    · obtain ⟨(f_21 : a.eval (.tmp 21) = .bool ((decide (p1 = q2)) && x15)), -⟩ := hf
      exact sg_plain rfl rfl (or_assign f_21)
    exact steps_nil
  intro own16 a16 w16 hd16 hz16 hk16 hf16 hE16
  obtain ⟨(f_8 : a16.eval (.tmp 8) = .bool ((decide (p1 = q2)) && x15)), -⟩ := hf16 [13] rfl
  have e16_8 := f_8
  have hX16 := Evo.step hX14 (fun _ => Nat.le_refl 0) hE16 rfl
  refine fl_ret ?_
  obtain rfl := osome hs
  exact hret _ _ _ _ (.inl rfl) hd16 (results1_ rfl (RVal.tmp_ e16_8)) ⟨own16, rfl, hX16⟩

end Go.Proofs.Ythjcpojcpafbjaa
