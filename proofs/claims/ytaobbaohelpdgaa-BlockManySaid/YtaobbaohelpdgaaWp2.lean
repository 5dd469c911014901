/-
  Chapter 26. The walks.
-/
import Derived.Test.YtaobbaohelpdgaaWp1
import Derived.Test.YtaobbaohelpdgaaSp2
namespace Go.Proofs.Ytaobbaohelpdgaa
open Go.RowKit
set_option linter.unusedVariables false
set_option maxRecDepth 10000
theorem varint_Bytes_w (w : World) (l1 : List Int) (Al1 : Option Addr) (cl1 : Nat) (hl1 : RdO (fun _ => 0) [0] w R26 Al1 cl1 l1) (r : List Int) (hs : varint_Bytes l1 = some r) :
    Calls Try.prog 30 #[.slice Al1 l1.length cl1] w fun e w' => ∃ (own' : Own) (x : Option Addr × Nat), e = .returned (.slice x.1 r.length x.2) ∧ Evo [] (fun _ => 0) own' w w' ∧ RwO own' 1 [] w' 5 R5 x.1 x.2 r := by
  refine fl_enter (n := 29) rfl rfl rfl (Nat.le_of_ble_eq_true rfl) ?_
  intro a0 Q hd0 hz0 harg hret
  have ha0 := harg 0 _ rfl
  clear harg
  have hE0 : Evo [] (fun _ => 0) (fun _ => 0) w w := Evo.refl _ _ _
  refine rg_plain_seq (n := 29) (rs := []) (own0 := (fun _ => 0)) (K := [])
      (bs := [0])
      (ds := [⟨[], [], [], Fct.val 2 (.slice none 0 0)⟩]) (by kernel_rfl) hz0 hd0 (fun _ h => nomatch h) ?_ ?_
  · refine steps_cons (fun own a wx hf hsl hE => ?_) ?_
    · exact sg_plain rfl rfl (or_assign rfl)
    exact steps_nil
  intro own939 a939 w939 hd939 hz939 hk939 hf939 hE939
  have e939_0 : a939.eval (.tmp 0) = .slice Al1 l1.length cl1 := (hk939 0 rfl).trans ha0
  have hX939 := Evo.step hE0 (fun _ => Nat.le_refl 0) hE939 rfl
  have b939_Al1 := RdO.evo rfl hE939 hl1
  refine rg_plain_seq (n := 29) (rs := []) (own0 := own939) (K := [])
      (bs := [0])
      (ds := [⟨[], [], [], Fct.val 3 (.slice none 0 0)⟩]) (by kernel_rfl) hz939 hd939 (fun _ h => nomatch h) ?_ ?_
  · refine steps_cons (fun own a wx hf hsl hE => ?_) ?_
    · exact sg_plain rfl rfl (or_assign rfl)
    exact steps_nil
  intro own940 a940 w940 hd940 hz940 hk940 hf940 hE940
  have e940_0 : a940.eval (.tmp 0) = .slice Al1 l1.length cl1 := (hk940 0 rfl).trans e939_0
  obtain ⟨(f_3 : a940.eval (.tmp 3) = .slice none 0 0), -⟩ := hf940 [0] rfl
  have e940_3 := f_3
  have hX940 := Evo.step hX939 (fun _ => Nat.le_refl 0) hE940 rfl
  have b940_Al1 := RdO.evo rfl hE940 b939_Al1
  refine fl_seq (fun Q941 hn941 hp941 => ?_)
  refine rg_plain_seq (n := 29) (rs := []) (own0 := own940) (K := [])
      (bs := [0, 1, 0])
      (ds := [⟨[], [0], [], Fct.val 6 (.slice Al1 l1.length cl1)⟩,
      ⟨[0], [], [], Fct.val 7 (.int .i64 (l1.length : Int))⟩,
      ⟨[], [], [], Fct.val 8 (.int .i64 0)⟩]) (by kernel_rfl) hz940 hd940 (fun _ h => nomatch h) ?_ ?_
  · refine steps_cons (fun own a wx hf hsl hE => ?_) ?_
    · obtain ⟨s_0, -⟩ := hsl
      exact sg_plain rfl rfl (or_move (s_0.trans e940_0))
    refine steps_cons (fun own a wx hf hsl hE => ?_) ?_
    · obtain ⟨(f_6 : a.eval (.tmp 6) = .slice Al1 l1.length cl1), -⟩ := hf
      exact sg_plain rfl rfl (or_len tu87 f_6 rfl)
    refine steps_cons (fun own a wx hf hsl hE => ?_) ?_
    · exact sg_plain rfl rfl (or_move rfl)
    exact steps_nil
  intro own942 a942 w942 hd942 hz942 hk942 hf942 hE942
  have e942_3 : a942.eval (.tmp 3) = .slice none 0 0 := (hk942 3 rfl).trans e940_3
  obtain ⟨(f_6 : a942.eval (.tmp 6) = .slice Al1 l1.length cl1), (f_7 : a942.eval (.tmp 7) = .int .i64 (l1.length : Int)), (f_8 : a942.eval (.tmp 8) = .int .i64 0), -⟩ := hf942 [0, 1, 2] rfl
  have e942_6 := f_6
  have e942_7 := f_7
  have e942_8 := f_8
  have hX942 := Evo.step hX940 (fun _ => Nat.le_refl 0) hE942 rfl
  have b942_Al1 := RdO.evo rfl hE942 b940_Al1
  refine fl_block (fun Q943 hn943 hx943 hp943 => ?_)
  refine fl_loop (body := (fun s => varint_Bytes_b1 l1 s.1 s.2)) (z := r) (show loopO _ _ = _ from hs) (fun (s : (List Int) × Int) a wx => match s with | (out1246, x1248) => ∃ (ox : Own) (A1244 : Option Addr) (c1245 : Nat), a.defers = [] ∧ a.tmps.size = 29 ∧ a.eval (.tmp 3) = .slice A1244 out1246.length c1245 ∧ a.eval (.tmp 6) = .slice Al1 l1.length cl1 ∧ a.eval (.tmp 7) = .int .i64 (l1.length : Int) ∧ a.eval (.tmp 8) = .int .i64 x1248 ∧ Evo [] (fun _ => 0) ox w wx ∧ RwO ox 1247 [] wx 5 R5 A1244 c1245 out1246 ∧ RdO ox [0] wx R26 Al1 cl1 l1) ?_ ?_
  · exact ⟨own942, none, 0, hd942, hz942, e942_3, e942_6, e942_7, e942_8, hX942, RwO.nil_, b942_Al1⟩
  · rintro ⟨out1246, x1248⟩ zz1557 a1557 w1557 ⟨own1557, A1244, c1245, hd1558, hz1558, e1558_3, e1558_6, e1558_7, e1558_8, hE1558, b1558_A1244, b1558_Al1⟩ hs Q1557 hn1557 hp1557 hz1557
    have hs : varint_Bytes_b1 l1 out1246 x1248 = some zz1557 := hs
    refine rg_plain_seq (n := 29) (rs := []) (own0 := own1557) (K := [])
        (bs := [0])
        (ds := [⟨[], [8, 7], [], Fct.val 9 (.bool (decide (x1248 < (l1.length : Int))))⟩]) (by kernel_rfl) hz1558 hd1558 (fun _ h => nomatch h) ?_ ?_
    · refine steps_cons (fun own a wx hf hsl hE => ?_) ?_
      · obtain ⟨s_8, s_7, -⟩ := hsl
        exact sg_plain rfl rfl (or_lss (s_8.trans e1558_8) (s_7.trans e1558_7) rfl)
      exact steps_nil
    intro own1559 a1559 w1559 hd1559 hz1559 hk1559 hf1559 hE1559
    have e1559_3 : a1559.eval (.tmp 3) = .slice A1244 out1246.length c1245 := (hk1559 3 rfl).trans e1558_3
    have e1559_6 : a1559.eval (.tmp 6) = .slice Al1 l1.length cl1 := (hk1559 6 rfl).trans e1558_6
    have e1559_7 : a1559.eval (.tmp 7) = .int .i64 (l1.length : Int) := (hk1559 7 rfl).trans e1558_7
    have e1559_8 : a1559.eval (.tmp 8) = .int .i64 x1248 := (hk1559 8 rfl).trans e1558_8
    obtain ⟨(f_9 : a1559.eval (.tmp 9) = .bool (decide (x1248 < (l1.length : Int)))), -⟩ := hf1559 [0] rfl
    have e1559_9 := f_9
    have hX1559 := Evo.step hE1558 (fun _ => Nat.le_refl 0) hE1559 rfl
    have b1559_A1244 := RwO.evo rfl hE1559 b1558_A1244
    have b1559_Al1 := RdO.evo rfl hE1559 b1558_Al1
    refine fl_seq (fun Q1560 hn1560 hp1560 => ?_)
    refine fl_cond e1559_9 hs (fun c1561 hs => ?_) (fun c1561 hs => ?_)
    · refine fl_skip ?_
      refine hn1560 _ _ ?_
      refine fl_seq (fun Q1562 hn1562 hp1562 => ?_)
      refine fl_block (fun Q1714 hn1714 hx1714 hp1714 => ?_)
      obtain ⟨x1790, hx1790, hs⟩ := obind hs
      refine rg_plain_seq (n := 29) (rs := []) (own0 := own1559) (K := [])
          (bs := [0, 1, 3])
          (ds := [⟨[], [6, 8], [], Fct.val 10 (.pointer (some ((adr Al1).add ((x1248 : Int).toNat * R26.s))))⟩,
          ⟨[0], [], [], Fct.val 11 (.int .u64 x1790)⟩,
          ⟨[1], [], [], Fct.val 5 (.int .u64 x1790)⟩]) (by kernel_rfl) hz1559 hd1559 (fun _ h => nomatch h) ?_ ?_
      · refine steps_cons (fun own a wx hf hsl hE => ?_) ?_
        · obtain ⟨s_6, s_8, -⟩ := hsl
          exact sg_plain rfl rfl (or_index (R := R26) (l := l1) tl87 (s_6.trans e1559_6) (s_8.trans e1559_8) (RdO.some_ b1559_Al1 hx1790) hx1790)
        refine steps_cons (fun own a wx hf hsl hE => ?_) ?_
        · obtain ⟨(f_10 : a.eval (.tmp 10) = .pointer (some ((adr Al1).add ((x1248 : Int).toNat * R26.s)))), -⟩ := hf
          exact sg_plain rfl rfl (or_load1 to26 f_10 (CellsAt.zero (RdO.cells (F := E26) (RdO.evo rfl hE b1559_Al1) hx1790) rfl))
        refine steps_cons (fun own a wx hf hsl hE => ?_) ?_
        · obtain ⟨(f_11 : a.eval (.tmp 11) = .int .u64 x1790), -⟩ := hf
          exact sg_plain rfl rfl (or_assign f_11)
        exact steps_nil
      intro own1791 a1791 w1791 hd1791 hz1791 hk1791 hf1791 hE1791
      have e1791_3 : a1791.eval (.tmp 3) = .slice A1244 out1246.length c1245 := (hk1791 3 rfl).trans e1559_3
      have e1791_6 : a1791.eval (.tmp 6) = .slice Al1 l1.length cl1 := (hk1791 6 rfl).trans e1559_6
      have e1791_7 : a1791.eval (.tmp 7) = .int .i64 (l1.length : Int) := (hk1791 7 rfl).trans e1559_7
      have e1791_8 : a1791.eval (.tmp 8) = .int .i64 x1248 := (hk1791 8 rfl).trans e1559_8
      obtain ⟨(f_5 : a1791.eval (.tmp 5) = .int .u64 x1790), -⟩ := hf1791 [2] rfl
      have e1791_5 := f_5
      have hX1791 := Evo.step hX1559 (fun _ => Nat.le_refl 0) hE1791 rfl
      have b1791_A1244 := RwO.evo rfl hE1791 b1559_A1244
      have b1791_Al1 := RdO.evo rfl hE1791 b1559_Al1
      refine fl_scope_head (body := (fun s => varint_Bytes_b2_0 x1248 s.1 s.2)) (z := zz1557) (show loopO _ _ = _ from hs) (fun (s : (List Int) × Int) a wx => match s with | (out1816, n1817) => ∃ (ox : Own) (A1814 : Option Addr) (c1815 : Nat), a.defers = [] ∧ a.tmps.size = 29 ∧ a.eval (.tmp 3) = .slice A1814 out1816.length c1815 ∧ a.eval (.tmp 5) = .int .u64 n1817 ∧ a.eval (.tmp 6) = .slice Al1 l1.length cl1 ∧ a.eval (.tmp 7) = .int .i64 (l1.length : Int) ∧ a.eval (.tmp 8) = .int .i64 x1248 ∧ Evo [] (fun _ => 0) ox w wx ∧ RwO ox 1809 [] wx 5 R5 A1814 c1815 out1816 ∧ RdO ox [0] wx R26 Al1 cl1 l1) ?_ ?_
      · exact ⟨(rl [(1247, 1809)] own1791), A1244, c1245, hd1791, hz1791, e1791_3, e1791_5, e1791_6, e1791_7, e1791_8, (Evo.rl_ hX1791 (fun _ => Nat.le_refl 0) rfl), (RwO.rl_ (mm := [(1247, 1809)]) b1791_A1244), (RdO.rl_ (mm := [(1247, 1809)]) b1791_Al1)⟩
      · rintro ⟨out1816, n1817⟩
        rintro zz1841 a1842 w1842 ⟨own1842, A1814, c1815, hd1843, hz1843, e1843_3, e1843_5, e1843_6, e1843_7, e1843_8, hE1843, b1843_A1814, b1843_Al1⟩ hs Q1842 hj1842 hp1842 hz1842
        have hs : varint_Bytes_b2_0 x1248 out1816 n1817 = some zz1841 := hs
        refine fl_seq (fun Q1844 hn1844 hp1844 => ?_)
        refine rg_plain_seq (n := 29) (rs := []) (own0 := own1842) (K := [])
            (bs := [0, 1])
            (ds := [⟨[], [5], [], Fct.val 12 (.int .u64 n1817)⟩,
            ⟨[0], [], [], Fct.val 13 (.bool (decide (n1817 < 128)))⟩]) (by kernel_rfl) hz1843 hd1843 (fun _ h => nomatch h) ?_ ?_
        · refine steps_cons (fun own a wx hf hsl hE => ?_) ?_
          · obtain ⟨s_5, -⟩ := hsl
            exact sg_plain rfl rfl (or_move (s_5.trans e1843_5))
          refine steps_cons (fun own a wx hf hsl hE => ?_) ?_
          · obtain ⟨(f_12 : a.eval (.tmp 12) = .int .u64 n1817), -⟩ := hf
            exact sg_plain rfl rfl (or_lss f_12 rfl rfl)
          exact steps_nil
        intro own1845 a1845 w1845 hd1845 hz1845 hk1845 hf1845 hE1845
        have e1845_3 : a1845.eval (.tmp 3) = .slice A1814 out1816.length c1815 := (hk1845 3 rfl).trans e1843_3
        have e1845_5 : a1845.eval (.tmp 5) = .int .u64 n1817 := (hk1845 5 rfl).trans e1843_5
        have e1845_6 : a1845.eval (.tmp 6) = .slice Al1 l1.length cl1 := (hk1845 6 rfl).trans e1843_6
        have e1845_7 : a1845.eval (.tmp 7) = .int .i64 (l1.length : Int) := (hk1845 7 rfl).trans e1843_7
        have e1845_8 : a1845.eval (.tmp 8) = .int .i64 x1248 := (hk1845 8 rfl).trans e1843_8
        obtain ⟨(f_13 : a1845.eval (.tmp 13) = .bool (decide (n1817 < 128))), -⟩ := hf1845 [1] rfl
        have e1845_13 := f_13
        have hX1845 := Evo.step hE1843 (fun _ => Nat.le_refl 0) hE1845 rfl
        have b1845_A1814 := RwO.evo rfl hE1845 b1843_A1814
        have b1845_Al1 := RdO.evo rfl hE1845 b1843_Al1
        refine fl_cond e1845_13 hs (fun c1846 hs => ?_) (fun c1846 hs => ?_)
        · obtain ⟨x1851, hx1851, hs⟩ := obind hs
          refine rg_plain_seq (n := 29) (rs := [Fct.rowAt 1809 [] 5 R5 A1814 c1815 out1816]) (own0 := own1845) (K := [1809])
              (bs := [0, 0, 2, 6, 15, 31])
              (ds := [⟨[], [3], [], Fct.val 14 (.slice A1814 out1816.length c1815)⟩,
              ⟨[], [5], [], Fct.val 15 (.int .u64 n1817)⟩,
              ⟨[1], [], [], Fct.val 16 (.int .u8 (IntKind.u8.wrap n1817))⟩,
              ⟨[2], [], [], Fct.row 1850 [] 17 5 R5 [IntKind.u8.wrap n1817]⟩,
              ⟨[0, 3, 6], [], [1809], Fct.row 1852 [] 18 5 R5 x1851⟩,
              ⟨[4], [], [], Fct.rel [3, 18] (fun l => ∀ (A1853 : Option Addr) (cA1853 : Nat), l.getD 1 undef = .slice A1853 x1851.length cA1853 → l.getD 0 undef = .slice A1853 x1851.length cA1853)⟩]) (by kernel_rfl) hz1845 hd1845 (by simp only [List.forall_mem_cons]; exact ⟨b1845_A1814, fun _ h => nomatch h⟩) ?_ ?_
          · refine steps_cons (fun own a wx hf hsl hE => ?_) ?_
            · obtain ⟨s_3, -⟩ := hsl
              exact sg_plain rfl rfl (or_move (s_3.trans e1845_3))
            refine steps_cons (fun own a wx hf hsl hE => ?_) ?_
            · obtain ⟨s_5, -⟩ := hsl
              exact sg_plain rfl rfl (or_move (s_5.trans e1845_5))
            refine steps_cons (fun own a wx hf hsl hE => ?_) ?_
            · obtain ⟨(f_15 : a.eval (.tmp 15) = .int .u64 n1817), -⟩ := hf
              exact sg_plain rfl rfl (or_conv f_15 tn26 tn5 rfl)
            refine steps_cons (fun own a wx hf hsl hE => ?_) ?_
            · obtain ⟨(f_16 : a.eval (.tmp 16) = .int .u8 (IntKind.u8.wrap n1817)), -⟩ := hf
              exact sg_plain rfl rfl (or_lit (lab := 1850) (e := 5) (cs := #[.int .u8 (IntKind.u8.wrap n1817)]) (F := E5) (or_new [(16, .int .u8 (IntKind.u8.wrap n1817))] rfl rfl ⟨f_16, trivial⟩ (by kernel_rfl)) rfl rfl (show 1 ≤ maxLen by decide))
            refine steps_cons (fun own a wx hf hsl hE => ?_) ?_
            · obtain ⟨(f_14 : a.eval (.tmp 14) = .slice A1814 out1816.length c1815), ⟨⟨A1849, cA1849⟩, (f_17 : a.eval (.tmp 17) = .slice A1849 [IntKind.u8.wrap n1817].length cA1849), (b_A1849 : RwO own 1850 [] wx 5 R5 A1849 cA1849 [IntKind.u8.wrap n1817])⟩, (b_A1814 : RwO own 1809 [] wx 5 R5 A1814 c1815 out1816), -⟩ := hf
              exact sg_plain rfl rfl (or_append (R := R5) (lab := 1809) (lab2 := 1852) (L := []) (L3 := []) tp33 f_14 b_A1814 (by decide) f_17 (RwO.rd b_A1849) hx1851 (by decide) (by decide) (mem_of rfl) (.inl (Rep.fl_flat _)))
            refine steps_cons (fun own a wx hf hsl hE => ?_) ?_
            · obtain ⟨⟨⟨A1853, cA1853⟩, (f_18 : a.eval (.tmp 18) = .slice A1853 x1851.length cA1853), (b_A1853 : RwO own 1852 [] wx 5 R5 A1853 cA1853 x1851)⟩, -⟩ := hf
              exact sg_plain rfl rfl (or_mono (f := Fct.val 3 (.slice A1853 x1851.length cA1853)) (or_assign f_18) (fun own' a' w' v' hp h => fun _ _ h0' => by cases (f_18.symm.trans ((hp.2 18 (by decide)).symm.trans h0')); exact h))
            exact steps_nil
          intro own1854 a1854 w1854 hd1854 hz1854 hk1854 hf1854 hE1854
          have e1854_6 : a1854.eval (.tmp 6) = .slice Al1 l1.length cl1 := (hk1854 6 rfl).trans e1845_6
          have e1854_7 : a1854.eval (.tmp 7) = .int .i64 (l1.length : Int) := (hk1854 7 rfl).trans e1845_7
          have e1854_8 : a1854.eval (.tmp 8) = .int .i64 x1248 := (hk1854 8 rfl).trans e1845_8
          obtain ⟨⟨⟨A1853, cA1853⟩, (f_18 : a1854.eval (.tmp 18) = .slice A1853 x1851.length cA1853), (b_A1853 : RwO own1854 1852 [] w1854 5 R5 A1853 cA1853 x1851)⟩, (q_3 : ∀ (A1853 : Option Addr) (cA1853 : Nat), a1854.eval (.tmp 18) = .slice A1853 x1851.length cA1853 → a1854.eval (.tmp 3) = .slice A1853 x1851.length cA1853), -⟩ := hf1854 [4, 5] rfl
          have f_3 := q_3 _ _ f_18
          have e1854_3 := f_3
          have hX1854 := Evo.step hX1845 (fun _ => Nat.le_refl 0) hE1854 rfl
          have b1854_Al1 := RdO.evo rfl hE1854 b1845_Al1
          have b1854_A1853 := b_A1853
          refine fl_exit ?_
          refine hp1844 _ _ _ rfl ?_
          replace hs := hz1842 _ hs
          refine hp1842.leaves _ _ _ rfl ?_
          refine hx1714 _ _ ?_
          refine hn1562 _ _ ?_
          refine rg_plain (n := 29) (rs := []) (own0 := own1854) (K := [])
              (bs := [0, 1])
              (ds := [⟨[], [8], [], Fct.val 27 (.int .i64 (ad x1248 1))⟩,
              ⟨[0], [], [], Fct.val 8 (.int .i64 (ad x1248 1))⟩]) (by kernel_rfl) hz1854 hd1854 (fun _ h => nomatch h) ?_ ?_
          · refine steps_cons (fun own a wx hf hsl hE => ?_) ?_
            · obtain ⟨s_8, -⟩ := hsl
              exact sg_plain rfl rfl (or_add (s_8.trans e1854_8) rfl rfl)
            refine steps_cons (fun own a wx hf hsl hE => ?_) ?_
            · obtain ⟨(f_27 : a.eval (.tmp 27) = .int .i64 (ad x1248 1)), -⟩ := hf
              exact sg_plain rfl rfl (or_move f_27)
            exact steps_nil
          intro own1855 a1855 w1855 hd1855 hz1855 hk1855 hf1855 hE1855
          have e1855_3 : a1855.eval (.tmp 3) = .slice A1853 x1851.length cA1853 := (hk1855 3 rfl).trans e1854_3
          have e1855_6 : a1855.eval (.tmp 6) = .slice Al1 l1.length cl1 := (hk1855 6 rfl).trans e1854_6
          have e1855_7 : a1855.eval (.tmp 7) = .int .i64 (l1.length : Int) := (hk1855 7 rfl).trans e1854_7
          obtain ⟨(f_8 : a1855.eval (.tmp 8) = .int .i64 (ad x1248 1)), -⟩ := hf1855 [1] rfl
          have e1855_8 := f_8
          have hX1855 := Evo.step hX1854 (fun _ => Nat.le_refl 0) hE1855 rfl
          have b1855_Al1 := RdO.evo rfl hE1855 b1854_Al1
          have b1855_A1853 := RwO.evo rfl hE1855 b1854_A1853
          exact hn1557 _ _ _ hs ⟨(rl [(1852, 1247)] own1855), A1853, cA1853, hd1855, hz1855, e1855_3, e1855_6, e1855_7, e1855_8, (Evo.rl_ hX1855 (fun _ => Nat.le_refl 0) rfl), (RwO.rl_ (mm := [(1852, 1247)]) b1855_A1853), (RdO.rl_ (mm := [(1852, 1247)]) b1855_Al1)⟩
        refine fl_skip ?_
        refine hn1844 _ _ ?_
        obtain ⟨x1860, hx1860, hs⟩ := obind hs
        refine rg_plain_seq (n := 29) (rs := [Fct.rowAt 1809 [] 5 R5 A1814 c1815 out1816]) (own0 := own1845) (K := [1809])
            (bs := [0, 0, 2, 6, 14, 31, 63])
            (ds := [⟨[], [3], [], Fct.val 19 (.slice A1814 out1816.length c1815)⟩,
            ⟨[], [5], [], Fct.val 20 (.int .u64 n1817)⟩,
            ⟨[1], [], [], Fct.val 21 (.int .u8 (IntKind.u8.wrap n1817))⟩,
            ⟨[2], [], [], Fct.val 22 (.int .u8 (orK .u8 (IntKind.u8.wrap n1817) 128))⟩,
            ⟨[3], [], [], Fct.row 1859 [] 23 5 R5 [orK .u8 (IntKind.u8.wrap n1817) 128]⟩,
            ⟨[0, 4, 7], [], [1809], Fct.row 1861 [] 24 5 R5 x1860⟩,
            ⟨[5], [], [], Fct.rel [3, 24] (fun l => ∀ (A1862 : Option Addr) (cA1862 : Nat), l.getD 1 undef = .slice A1862 x1860.length cA1862 → l.getD 0 undef = .slice A1862 x1860.length cA1862)⟩]) (by kernel_rfl) hz1845 hd1845 (by simp only [List.forall_mem_cons]; exact ⟨b1845_A1814, fun _ h => nomatch h⟩) ?_ ?_
        · refine steps_cons (fun own a wx hf hsl hE => ?_) ?_
          · obtain ⟨s_3, -⟩ := hsl
            exact sg_plain rfl rfl (or_move (s_3.trans e1845_3))
          refine steps_cons (fun own a wx hf hsl hE => ?_) ?_
          · obtain ⟨s_5, -⟩ := hsl
            exact sg_plain rfl rfl (or_move (s_5.trans e1845_5))
          refine steps_cons (fun own a wx hf hsl hE => ?_) ?_
          · obtain ⟨(f_20 : a.eval (.tmp 20) = .int .u64 n1817), -⟩ := hf
            exact sg_plain rfl rfl (or_conv f_20 tn26 tn5 rfl)
          refine steps_cons (fun own a wx hf hsl hE => ?_) ?_
          · obtain ⟨(f_21 : a.eval (.tmp 21) = .int .u8 (IntKind.u8.wrap n1817)), -⟩ := hf
            exact sg_plain rfl rfl (or_bor f_21 rfl rfl)
          refine steps_cons (fun own a wx hf hsl hE => ?_) ?_
          · obtain ⟨(f_22 : a.eval (.tmp 22) = .int .u8 (orK .u8 (IntKind.u8.wrap n1817) 128)), -⟩ := hf
            exact sg_plain rfl rfl (or_lit (lab := 1859) (e := 5) (cs := #[.int .u8 (orK .u8 (IntKind.u8.wrap n1817) 128)]) (F := E5) (or_new [(22, .int .u8 (orK .u8 (IntKind.u8.wrap n1817) 128))] rfl rfl ⟨f_22, trivial⟩ (by kernel_rfl)) rfl rfl (show 1 ≤ maxLen by decide))
          refine steps_cons (fun own a wx hf hsl hE => ?_) ?_
          · obtain ⟨(f_19 : a.eval (.tmp 19) = .slice A1814 out1816.length c1815), ⟨⟨A1858, cA1858⟩, (f_23 : a.eval (.tmp 23) = .slice A1858 [orK .u8 (IntKind.u8.wrap n1817) 128].length cA1858), (b_A1858 : RwO own 1859 [] wx 5 R5 A1858 cA1858 [orK .u8 (IntKind.u8.wrap n1817) 128])⟩, (b_A1814 : RwO own 1809 [] wx 5 R5 A1814 c1815 out1816), -⟩ := hf
            exact sg_plain rfl rfl (or_append (R := R5) (lab := 1809) (lab2 := 1861) (L := []) (L3 := []) tp33 f_19 b_A1814 (by decide) f_23 (RwO.rd b_A1858) hx1860 (by decide) (by decide) (mem_of rfl) (.inl (Rep.fl_flat _)))
          refine steps_cons (fun own a wx hf hsl hE => ?_) ?_
          · obtain ⟨⟨⟨A1862, cA1862⟩, (f_24 : a.eval (.tmp 24) = .slice A1862 x1860.length cA1862), (b_A1862 : RwO own 1861 [] wx 5 R5 A1862 cA1862 x1860)⟩, -⟩ := hf
            exact sg_plain rfl rfl (or_mono (f := Fct.val 3 (.slice A1862 x1860.length cA1862)) (or_assign f_24) (fun own' a' w' v' hp h => fun _ _ h0' => by cases (f_24.symm.trans ((hp.2 24 (by decide)).symm.trans h0')); exact h))
          exact steps_nil
        intro own1863 a1863 w1863 hd1863 hz1863 hk1863 hf1863 hE1863
        have e1863_5 : a1863.eval (.tmp 5) = .int .u64 n1817 := (hk1863 5 rfl).trans e1845_5
        have e1863_6 : a1863.eval (.tmp 6) = .slice Al1 l1.length cl1 := (hk1863 6 rfl).trans e1845_6
        have e1863_7 : a1863.eval (.tmp 7) = .int .i64 (l1.length : Int) := (hk1863 7 rfl).trans e1845_7
        have e1863_8 : a1863.eval (.tmp 8) = .int .i64 x1248 := (hk1863 8 rfl).trans e1845_8
        obtain ⟨⟨⟨A1862, cA1862⟩, (f_24 : a1863.eval (.tmp 24) = .slice A1862 x1860.length cA1862), (b_A1862 : RwO own1863 1861 [] w1863 5 R5 A1862 cA1862 x1860)⟩, (q_3 : ∀ (A1862 : Option Addr) (cA1862 : Nat), a1863.eval (.tmp 24) = .slice A1862 x1860.length cA1862 → a1863.eval (.tmp 3) = .slice A1862 x1860.length cA1862), -⟩ := hf1863 [5, 6] rfl
        have f_3 := q_3 _ _ f_24
        have e1863_3 := f_3
        have hX1863 := Evo.step hX1845 (fun _ => Nat.le_refl 0) hE1863 rfl
        have b1863_Al1 := RdO.evo rfl hE1863 b1845_Al1
        have b1863_A1862 := b_A1862
        obtain ⟨x1864, hx1864, hs⟩ := obind hs
        refine rg_plain_seq (n := 29) (rs := []) (own0 := own1863) (K := [])
            (bs := [0, 1, 3])
            (ds := [⟨[], [5], [], Fct.val 25 (.int .u64 n1817)⟩,
            ⟨[0], [], [], Fct.val 26 (.int .u64 x1864)⟩,
            ⟨[1], [], [], Fct.val 5 (.int .u64 x1864)⟩]) (by kernel_rfl) hz1863 hd1863 (fun _ h => nomatch h) ?_ ?_
        · refine steps_cons (fun own a wx hf hsl hE => ?_) ?_
          · obtain ⟨s_5, -⟩ := hsl
            exact sg_plain rfl rfl (or_move (s_5.trans e1863_5))
          refine steps_cons (fun own a wx hf hsl hE => ?_) ?_
          · obtain ⟨(f_25 : a.eval (.tmp 25) = .int .u64 n1817), -⟩ := hf
            exact sg_plain rfl rfl (or_shr f_25 rfl hx1864)
          refine steps_cons (fun own a wx hf hsl hE => ?_) ?_
          · obtain ⟨(f_26 : a.eval (.tmp 26) = .int .u64 x1864), -⟩ := hf
            exact sg_plain rfl rfl (or_assign f_26)
          exact steps_nil
        intro own1865 a1865 w1865 hd1865 hz1865 hk1865 hf1865 hE1865
        have e1865_3 : a1865.eval (.tmp 3) = .slice A1862 x1860.length cA1862 := (hk1865 3 rfl).trans e1863_3
        have e1865_6 : a1865.eval (.tmp 6) = .slice Al1 l1.length cl1 := (hk1865 6 rfl).trans e1863_6
        have e1865_7 : a1865.eval (.tmp 7) = .int .i64 (l1.length : Int) := (hk1865 7 rfl).trans e1863_7
        have e1865_8 : a1865.eval (.tmp 8) = .int .i64 x1248 := (hk1865 8 rfl).trans e1863_8
        obtain ⟨(f_5 : a1865.eval (.tmp 5) = .int .u64 x1864), -⟩ := hf1865 [2] rfl
        have e1865_5 := f_5
        have hX1865 := Evo.step hX1863 (fun _ => Nat.le_refl 0) hE1865 rfl
        have b1865_Al1 := RdO.evo rfl hE1865 b1863_Al1
        have b1865_A1862 := RwO.evo rfl hE1865 b1863_A1862
        refine fl_goto ?_
        exact hj1842 (x1860, x1864) _ _ hs ⟨(rl [(1861, 1809)] own1865), A1862, cA1862, hd1865, hz1865, e1865_3, e1865_5, e1865_6, e1865_7, e1865_8, (Evo.rl_ hX1865 (fun _ => Nat.le_refl 0) rfl), (RwO.rl_ (mm := [(1861, 1809)]) b1865_A1862), (RdO.rl_ (mm := [(1861, 1809)]) b1865_Al1)⟩
    refine fl_exit ?_
    refine hp1560 _ _ _ rfl ?_
    replace hs := hz1557 _ hs
    refine hp1557 _ _ _ rfl ?_
    refine hx943 _ _ ?_
    refine hn941 _ _ ?_
    refine rg_plain_seq (n := 29) (rs := []) (own0 := own1559) (K := [])
        (bs := [0, 1])
        (ds := [⟨[], [3], [], Fct.val 28 (.slice A1244 out1246.length c1245)⟩,
        ⟨[0], [], [], Fct.val 2 (.slice A1244 out1246.length c1245)⟩]) (by kernel_rfl) hz1559 hd1559 (fun _ h => nomatch h) ?_ ?_
    · refine steps_cons (fun own a wx hf hsl hE => ?_) ?_
      · obtain ⟨s_3, -⟩ := hsl
        exact sg_plain rfl rfl (or_move (s_3.trans e1559_3))
      refine steps_cons (fun own a wx hf hsl hE => ?_) ?_
      · obtain ⟨(f_28 : a.eval (.tmp 28) = .slice A1244 out1246.length c1245), -⟩ := hf
        exact sg_plain rfl rfl (or_assign f_28)
      exact steps_nil
    intro own1866 a1866 w1866 hd1866 hz1866 hk1866 hf1866 hE1866
    obtain ⟨(f_2 : a1866.eval (.tmp 2) = .slice A1244 out1246.length c1245), -⟩ := hf1866 [1] rfl
    have e1866_2 := f_2
    have hX1866 := Evo.step hX1559 (fun _ => Nat.le_refl 0) hE1866 rfl
    have b1866_A1244 := RwO.evo rfl hE1866 b1559_A1244
    refine fl_ret ?_
    obtain rfl := (osome hs).symm
    exact hret _ _ _ _ (.inl rfl) hd1866 (results1_ rfl (RVal.tmp_ e1866_2)) ⟨(rl [(1247, 1)] own1866), (A1244, c1245), rfl, (Evo.rl_ hX1866 (fun _ => Nat.le_refl 0) rfl), (RwO.rl_ (mm := [(1247, 1)]) b1866_A1244)⟩

theorem varint_Zig_w (w : World) (n1 : Int) (r : Int) (hs : varint_Zig n1 = some r) :
    Calls Try.prog 32 #[.int .i64 n1] w fun e w' => ∃ own' : Own, e = .returned (.int .u64 r) ∧ Evo [] (fun _ => 0) own' w w' := by
  refine fl_enter (n := 10) rfl rfl rfl (Nat.le_of_ble_eq_true rfl) ?_
  intro a0 Q hd0 hz0 harg hret
  have ha0 := harg 0 _ rfl
  clear harg
  have hE0 : Evo [] (fun _ => 0) (fun _ => 0) w w := Evo.refl _ _ _
  refine rg_plain_seq (n := 10) (rs := []) (own0 := (fun _ => 0)) (K := [])
      (bs := [0])
      (ds := [⟨[], [], [], Fct.val 2 (.int .u64 0)⟩]) (by kernel_rfl) hz0 hd0 (fun _ h => nomatch h) ?_ ?_
  · refine steps_cons (fun own a wx hf hsl hE => ?_) ?_
    · exact sg_plain rfl rfl (or_assign rfl)
    exact steps_nil
  intro own15 a15 w15 hd15 hz15 hk15 hf15 hE15
  have e15_0 : a15.eval (.tmp 0) = .int .i64 n1 := (hk15 0 rfl).trans ha0
  have hX15 := Evo.step hE0 (fun _ => Nat.le_refl 0) hE15 rfl
  obtain ⟨x16, hx16, hs⟩ := obind hs
  obtain ⟨x17, hx17, hs⟩ := obind hs
  refine rg_plain_seq (n := 10) (rs := []) (own0 := own15) (K := [])
      (bs := [0, 1, 3, 0, 8, 24, 63, 127])
      (ds := [⟨[], [0], [], Fct.val 3 (.int .i64 n1)⟩,
      ⟨[0], [], [], Fct.val 4 (.int .u64 (IntKind.u64.wrap n1))⟩,
      ⟨[1], [], [], Fct.val 5 (.int .u64 x16)⟩,
      ⟨[], [0], [], Fct.val 6 (.int .i64 n1)⟩,
      ⟨[3], [], [], Fct.val 7 (.int .i64 x17)⟩,
      ⟨[4], [], [], Fct.val 8 (.int .u64 (IntKind.u64.wrap x17))⟩,
      ⟨[2, 5], [], [], Fct.val 9 (.int .u64 (xoK .u64 x16 (IntKind.u64.wrap x17)))⟩,
      ⟨[6], [], [], Fct.val 2 (.int .u64 (xoK .u64 x16 (IntKind.u64.wrap x17)))⟩]) (by kernel_rfl) hz15 hd15 (fun _ h => nomatch h) ?_ ?_
  · refine steps_cons (fun own a wx hf hsl hE => ?_) ?_
    · obtain ⟨s_0, -⟩ := hsl
      exact sg_plain rfl rfl (or_move (s_0.trans e15_0))
    refine steps_cons (fun own a wx hf hsl hE => ?_) ?_
    · obtain ⟨(f_3 : a.eval (.tmp 3) = .int .i64 n1), -⟩ := hf
      exact sg_plain rfl rfl (or_conv f_3 tn3 tn26 rfl)
    refine steps_cons (fun own a wx hf hsl hE => ?_) ?_
    · obtain ⟨(f_4 : a.eval (.tmp 4) = .int .u64 (IntKind.u64.wrap n1)), -⟩ := hf
      exact sg_plain rfl rfl (or_shl f_4 rfl hx16)
    refine steps_cons (fun own a wx hf hsl hE => ?_) ?_
    · obtain ⟨s_0, -⟩ := hsl
      exact sg_plain rfl rfl (or_move (s_0.trans e15_0))
    refine steps_cons (fun own a wx hf hsl hE => ?_) ?_
    · obtain ⟨(f_6 : a.eval (.tmp 6) = .int .i64 n1), -⟩ := hf
      exact sg_plain rfl rfl (or_shr f_6 rfl hx17)
    refine steps_cons (fun own a wx hf hsl hE => ?_) ?_
    · obtain ⟨(f_7 : a.eval (.tmp 7) = .int .i64 x17), -⟩ := hf
      exact sg_plain rfl rfl (or_conv f_7 tn3 tn26 rfl)
    refine steps_cons (fun own a wx hf hsl hE => ?_) ?_
    · obtain ⟨(f_5 : a.eval (.tmp 5) = .int .u64 x16), (f_8 : a.eval (.tmp 8) = .int .u64 (IntKind.u64.wrap x17)), -⟩ := hf
      exact sg_plain rfl rfl (or_bxor f_5 f_8 rfl)
    refine steps_cons (fun own a wx hf hsl hE => ?_) ?_
    · obtain ⟨(f_9 : a.eval (.tmp 9) = .int .u64 (xoK .u64 x16 (IntKind.u64.wrap x17))), -⟩ := hf
      exact sg_plain rfl rfl (or_assign f_9)
    exact steps_nil
  intro own18 a18 w18 hd18 hz18 hk18 hf18 hE18
  obtain ⟨(f_2 : a18.eval (.tmp 2) = .int .u64 (xoK .u64 x16 (IntKind.u64.wrap x17))), -⟩ := hf18 [7] rfl
  have e18_2 := f_2
  have hX18 := Evo.step hX15 (fun _ => Nat.le_refl 0) hE18 rfl
  refine fl_ret ?_
  obtain rfl := osome hs
  exact hret _ _ _ _ (.inl rfl) hd18 (results1_ rfl (RVal.tmp_ e18_2)) ⟨own18, rfl, hX18⟩

theorem block_Bytes_1_w (w : World) (own : Own) (k1 : Int) (f1 : List Int) (gf1 : Nat) (tf1 : TypeId) (Af1_0 : Option Addr) (cf1_0 : Nat) (hown : ∀ b, own b ≤ 2) (hgf1 : BlkO own 1 w gf1 tf1 #[.slice Af1_0 f1.length cf1_0]) (hAf1_0 : RwO own 2 [] w 5 R5 Af1_0 cf1_0 f1) (r : List Int) (hs : block_Bytes_1 k1 f1 = some r) :
    Calls Try.prog 29 #[.int .i64 k1, .pointer (some ⟨gf1, 0, none⟩)] w fun e w' => ∃ (own' : Own) (x : Option Addr × Nat), e = .returned (.tuple #[]) ∧ Evo [1, 2] own own' w w' ∧ RwO own' 2 [] w' 5 R5 x.1 x.2 r ∧ BlkO own' 1 w' gf1 tf1 #[.slice x.1 r.length x.2] := by
  refine fl_enter (n := 9) rfl rfl rfl (Nat.le_of_ble_eq_true rfl) ?_
  intro a0 Q hd0 hz0 harg hret
  have ha0 := harg 0 _ rfl
  have ha1 := harg 1 _ rfl
  clear harg
  have hE0 : Evo [1, 2] own own w w := Evo.refl _ _ _
  obtain ⟨r51, hr51, hs⟩ := obind hs
  obtain ⟨x54, hx54, hs⟩ := obind hs
  refine rg_draw g_mixed (n := 9) (rs := [Fct.rowAt 2 [] 5 R5 Af1_0 cf1_0 f1, Fct.at_ 1 gf1 tf1 #[.slice Af1_0 f1.length cf1_0]]) (own0 := own) (K := [2, 1])
      (bs := [0, 0, 2, 6, 14, 31, 63])
      (ds := [⟨[8], [1], [], Fct.val 3 (.slice Af1_0 f1.length cf1_0)⟩,
      ⟨[], [0], [], Fct.val 4 (.int .i64 k1)⟩,
      ⟨[1], [], [], Fct.val 5 (.int .u64 (IntKind.u64.wrap k1))⟩,
      ⟨[2], [], [], Fct.row 50 [] 6 26 R26 [IntKind.u64.wrap k1]⟩,
      ⟨[3], [], [], Fct.row 53 [] 7 5 R5 r51⟩,
      ⟨[0, 4, 7], [], [2], Fct.row 55 [] 8 5 R5 x54⟩,
      ⟨[5, 8], [1], [1], Fct.by_ [57] [8] (fun l own w => ∀ (A56 : Option Addr) (cA56 : Nat), l.getD 0 undef = .slice A56 x54.length cA56 → BlkO own 57 w gf1 tf1 #[.slice A56 x54.length cA56]) (fun hk he h _ _ h0' => BlkO.evo (not_hit hk (by decide)) he (h _ _ h0'))⟩]) (by kernel_rfl) hz0 hd0 (by simp only [List.forall_mem_cons]; exact ⟨hAf1_0, hgf1, fun _ h => nomatch h⟩) ?_ ?_
  · refine steps_cons (fun own a wx hf hsl hE => ?_) ?_
    · obtain ⟨(b_gf1 : BlkO own 1 wx gf1 tf1 #[.slice Af1_0 f1.length cf1_0]), -⟩ := hf
      obtain ⟨s_1, -⟩ := hsl
      exact sg_plain rfl rfl (or_load1 to33 (s_1.trans ha1) (Blk.at_ b_gf1.2 0 rfl))
    refine steps_cons (fun own a wx hf hsl hE => ?_) ?_
    · obtain ⟨s_0, -⟩ := hsl
      exact sg_plain rfl rfl (or_move (s_0.trans ha0))
    refine steps_cons (fun own a wx hf hsl hE => ?_) ?_
    · obtain ⟨(f_4 : a.eval (.tmp 4) = .int .i64 k1), -⟩ := hf
      exact sg_plain rfl rfl (or_conv f_4 tn3 tn26 rfl)
    refine steps_cons (fun own a wx hf hsl hE => ?_) ?_
    · obtain ⟨(f_5 : a.eval (.tmp 5) = .int .u64 (IntKind.u64.wrap k1)), -⟩ := hf
      exact sg_plain rfl rfl (or_lit (lab := 50) (e := 26) (cs := #[.int .u64 (IntKind.u64.wrap k1)]) (F := E26) (or_new [(5, .int .u64 (IntKind.u64.wrap k1))] rfl rfl ⟨f_5, trivial⟩ (by kernel_rfl)) rfl rfl (show 1 ≤ maxLen by decide))
    refine steps_cons (fun own a wx hf hsl hE => ?_) ?_
    · obtain ⟨⟨⟨A49, cA49⟩, (f_6 : a.eval (.tmp 6) = .slice A49 [IntKind.u64.wrap k1].length cA49), (b_A49 : RwO own 50 [] wx 26 R26 A49 cA49 [IntKind.u64.wrap k1])⟩, -⟩ := hf
      exact sg_plain rfl rfl (or_call cf30 (args1 f_6) (varint_Bytes_w _ [IntKind.u64.wrap k1] A49 cA49 (RdO.zero (RwO.rd b_A49)) r51 hr51) (post_row (m' := (look0 [(1, 53)])) (.inl (Rep.fl_flat _)) rfl rfl (fun _ => rfl)))
    refine steps_cons (fun own a wx hf hsl hE => ?_) ?_
    · obtain ⟨(f_3 : a.eval (.tmp 3) = .slice Af1_0 f1.length cf1_0), ⟨⟨A52, cA52⟩, (f_7 : a.eval (.tmp 7) = .slice A52 r51.length cA52), (b_A52 : RwO own 53 [] wx 5 R5 A52 cA52 r51)⟩, (b_Af1_0 : RwO own 2 [] wx 5 R5 Af1_0 cf1_0 f1), -⟩ := hf
      exact sg_plain rfl rfl (or_append (R := R5) (lab := 2) (lab2 := 55) (L := []) (L3 := []) tp33 f_3 b_Af1_0 (by decide) f_7 (RwO.rd b_A52) hx54 (by decide) (by decide) (mem_of rfl) (.inl (Rep.fl_flat _)))
    refine steps_cons (fun own a wx hf hsl hE => ?_) ?_
    · obtain ⟨⟨⟨A56, cA56⟩, (f_8 : a.eval (.tmp 8) = .slice A56 x54.length cA56), (b_A56 : RwO own 55 [] wx 5 R5 A56 cA56 x54)⟩, (b_gf1 : BlkO own 1 wx gf1 tf1 #[.slice Af1_0 f1.length cf1_0]), -⟩ := hf
      obtain ⟨s_1, -⟩ := hsl
      exact sg_plain rfl rfl (or_store1 (lab := 1) (lab2 := 57) ts33 (s_1.trans ha1) f_8 b_gf1 (by simp) rfl (mem_of rfl) (by decide) rfl (fun own' a' w' ha hb => fun _ _ h0' => by cases (f_8.symm.trans ((ha 8).symm.trans h0')); exact hb))
    exact steps_nil
  intro own58 a58 w58 hd58 hz58 hk58 hf58 hE58
  have e58_1 : a58.eval (.tmp 1) = .pointer (some ⟨gf1, 0, none⟩) := (hk58 1 rfl).trans ha1
  obtain ⟨⟨⟨A56, cA56⟩, (f_8 : a58.eval (.tmp 8) = .slice A56 x54.length cA56), (b_A56 : RwO own58 55 [] w58 5 R5 A56 cA56 x54)⟩, (bq_gf1 : ∀ (A56 : Option Addr) (cA56 : Nat), a58.eval (.tmp 8) = .slice A56 x54.length cA56 → BlkO own58 57 w58 gf1 tf1 #[.slice A56 x54.length cA56]), -⟩ := hf58 [5, 6] rfl
  have b_gf1 := bq_gf1 _ _ f_8
  have hX58 := Evo.step hE0 hown hE58 rfl
  have b58_gf1 := b_gf1
  have b58_A56 := b_A56
  obtain rfl := (osome hs).symm
  exact hret _ _ _ _ (.inr rfl) hd58 (results0_ rfl ) ⟨(rl [(55, 2), (57, 1)] own58), (A56, cA56), rfl, (Evo.rl_ hX58 hown rfl), (RwO.rl_ (mm := [(55, 2), (57, 1)]) b58_A56), (BlkO.rl_ (mm := [(55, 2), (57, 1)]) b58_gf1)⟩

theorem block_Bytes_2_w (w : World) (own : Own) (k1 : Int) (f1 : List Int) (gf1 : Nat) (tf1 : TypeId) (Af1_0 : Option Addr) (cf1_0 : Nat) (hown : ∀ b, own b ≤ 2) (hgf1 : BlkO own 1 w gf1 tf1 #[.slice Af1_0 f1.length cf1_0]) (hAf1_0 : RwO own 2 [] w 5 R5 Af1_0 cf1_0 f1) (r : List Int) (hs : block_Bytes_2 k1 f1 = some r) :
    Calls Try.prog 31 #[.int .i64 k1, .pointer (some ⟨gf1, 0, none⟩)] w fun e w' => ∃ (own' : Own) (x : Option Addr × Nat), e = .returned (.tuple #[]) ∧ Evo [1, 2] own own' w w' ∧ RwO own' 2 [] w' 5 R5 x.1 x.2 r ∧ BlkO own' 1 w' gf1 tf1 #[.slice x.1 r.length x.2] := by
  refine fl_enter (n := 9) rfl rfl rfl (Nat.le_of_ble_eq_true rfl) ?_
  intro a0 Q hd0 hz0 harg hret
  have ha0 := harg 0 _ rfl
  have ha1 := harg 1 _ rfl
  clear harg
  have hE0 : Evo [1, 2] own own w w := Evo.refl _ _ _
  obtain ⟨r54, hr54, hs⟩ := obind hs
  obtain ⟨r57, hr57, hs⟩ := obind hs
  obtain ⟨x60, hx60, hs⟩ := obind hs
  refine rg_draw g_mixed (n := 9) (rs := [Fct.rowAt 2 [] 5 R5 Af1_0 cf1_0 f1, Fct.at_ 1 gf1 tf1 #[.slice Af1_0 f1.length cf1_0]]) (own0 := own) (K := [2, 1])
      (bs := [0, 0, 2, 6, 14, 31, 63])
      (ds := [⟨[8], [1], [], Fct.val 3 (.slice Af1_0 f1.length cf1_0)⟩,
      ⟨[], [0], [], Fct.val 4 (.int .i64 k1)⟩,
      ⟨[1], [], [], Fct.val 5 (.int .u64 r54)⟩,
      ⟨[2], [], [], Fct.row 56 [] 6 26 R26 [r54]⟩,
      ⟨[3], [], [], Fct.row 59 [] 7 5 R5 r57⟩,
      ⟨[0, 4, 7], [], [2], Fct.row 61 [] 8 5 R5 x60⟩,
      ⟨[5, 8], [1], [1], Fct.by_ [63] [8] (fun l own w => ∀ (A62 : Option Addr) (cA62 : Nat), l.getD 0 undef = .slice A62 x60.length cA62 → BlkO own 63 w gf1 tf1 #[.slice A62 x60.length cA62]) (fun hk he h _ _ h0' => BlkO.evo (not_hit hk (by decide)) he (h _ _ h0'))⟩]) (by kernel_rfl) hz0 hd0 (by simp only [List.forall_mem_cons]; exact ⟨hAf1_0, hgf1, fun _ h => nomatch h⟩) ?_ ?_
  · refine steps_cons (fun own a wx hf hsl hE => ?_) ?_
    · obtain ⟨(b_gf1 : BlkO own 1 wx gf1 tf1 #[.slice Af1_0 f1.length cf1_0]), -⟩ := hf
      obtain ⟨s_1, -⟩ := hsl
      exact sg_plain rfl rfl (or_load1 to33 (s_1.trans ha1) (Blk.at_ b_gf1.2 0 rfl))
    refine steps_cons (fun own a wx hf hsl hE => ?_) ?_
    · obtain ⟨s_0, -⟩ := hsl
      exact sg_plain rfl rfl (or_move (s_0.trans ha0))
    refine steps_cons (fun own a wx hf hsl hE => ?_) ?_
    · obtain ⟨(f_4 : a.eval (.tmp 4) = .int .i64 k1), -⟩ := hf
      exact sg_plain rfl rfl (or_call cf32 (args1 f_4) (varint_Zig_w _ k1  r54 hr54) post_val)
    refine steps_cons (fun own a wx hf hsl hE => ?_) ?_
    · obtain ⟨(f_5 : a.eval (.tmp 5) = .int .u64 r54), -⟩ := hf
      exact sg_plain rfl rfl (or_lit (lab := 56) (e := 26) (cs := #[.int .u64 r54]) (F := E26) (or_new [(5, .int .u64 r54)] rfl rfl ⟨f_5, trivial⟩ (by kernel_rfl)) rfl rfl (show 1 ≤ maxLen by decide))
    refine steps_cons (fun own a wx hf hsl hE => ?_) ?_
    · obtain ⟨⟨⟨A55, cA55⟩, (f_6 : a.eval (.tmp 6) = .slice A55 [r54].length cA55), (b_A55 : RwO own 56 [] wx 26 R26 A55 cA55 [r54])⟩, -⟩ := hf
      exact sg_plain rfl rfl (or_call cf30 (args1 f_6) (varint_Bytes_w _ [r54] A55 cA55 (RdO.zero (RwO.rd b_A55)) r57 hr57) (post_row (m' := (look0 [(1, 59)])) (.inl (Rep.fl_flat _)) rfl rfl (fun _ => rfl)))
    refine steps_cons (fun own a wx hf hsl hE => ?_) ?_
    · obtain ⟨(f_3 : a.eval (.tmp 3) = .slice Af1_0 f1.length cf1_0), ⟨⟨A58, cA58⟩, (f_7 : a.eval (.tmp 7) = .slice A58 r57.length cA58), (b_A58 : RwO own 59 [] wx 5 R5 A58 cA58 r57)⟩, (b_Af1_0 : RwO own 2 [] wx 5 R5 Af1_0 cf1_0 f1), -⟩ := hf
      exact sg_plain rfl rfl (or_append (R := R5) (lab := 2) (lab2 := 61) (L := []) (L3 := []) tp33 f_3 b_Af1_0 (by decide) f_7 (RwO.rd b_A58) hx60 (by decide) (by decide) (mem_of rfl) (.inl (Rep.fl_flat _)))
    refine steps_cons (fun own a wx hf hsl hE => ?_) ?_
    · obtain ⟨⟨⟨A62, cA62⟩, (f_8 : a.eval (.tmp 8) = .slice A62 x60.length cA62), (b_A62 : RwO own 61 [] wx 5 R5 A62 cA62 x60)⟩, (b_gf1 : BlkO own 1 wx gf1 tf1 #[.slice Af1_0 f1.length cf1_0]), -⟩ := hf
      obtain ⟨s_1, -⟩ := hsl
      exact sg_plain rfl rfl (or_store1 (lab := 1) (lab2 := 63) ts33 (s_1.trans ha1) f_8 b_gf1 (by simp) rfl (mem_of rfl) (by decide) rfl (fun own' a' w' ha hb => fun _ _ h0' => by cases (f_8.symm.trans ((ha 8).symm.trans h0')); exact hb))
    exact steps_nil
  intro own64 a64 w64 hd64 hz64 hk64 hf64 hE64
  have e64_1 : a64.eval (.tmp 1) = .pointer (some ⟨gf1, 0, none⟩) := (hk64 1 rfl).trans ha1
  obtain ⟨⟨⟨A62, cA62⟩, (f_8 : a64.eval (.tmp 8) = .slice A62 x60.length cA62), (b_A62 : RwO own64 61 [] w64 5 R5 A62 cA62 x60)⟩, (bq_gf1 : ∀ (A62 : Option Addr) (cA62 : Nat), a64.eval (.tmp 8) = .slice A62 x60.length cA62 → BlkO own64 63 w64 gf1 tf1 #[.slice A62 x60.length cA62]), -⟩ := hf64 [5, 6] rfl
  have b_gf1 := bq_gf1 _ _ f_8
  have hX64 := Evo.step hE0 hown hE64 rfl
  have b64_gf1 := b_gf1
  have b64_A62 := b_A62
  obtain rfl := (osome hs).symm
  exact hret _ _ _ _ (.inr rfl) hd64 (results0_ rfl ) ⟨(rl [(61, 2), (63, 1)] own64), (A62, cA62), rfl, (Evo.rl_ hX64 hown rfl), (RwO.rl_ (mm := [(61, 2), (63, 1)]) b64_A62), (BlkO.rl_ (mm := [(61, 2), (63, 1)]) b64_gf1)⟩

set_option maxHeartbeats 2000000 in
theorem block_Bytes_w (w : World) (n1 : (List ((List (Int × Int)) × Int × Int)) × (List (List (List Int)))) (An1_0 : Option Addr) (cn1_0 : Nat) (An1_1 : Option Addr) (cn1_1 : Nat) (hAn1_0 : RdO (fun _ => 0) [0] w R59 An1_0 cn1_0 n1.1) (hAn1_1 : RdO (fun _ => 0) [0] w R27 An1_1 cn1_1 n1.2) (r : (List Int) × Int) (hs : block_Bytes n1 = some r) :
    Calls Try.prog 13 #[.agg #[.slice An1_0 n1.1.length cn1_0, .slice An1_1 n1.2.length cn1_1]] w fun e w' => ∃ (own' : Own) (x : Option Addr × Nat), e = .returned (.tuple #[.slice x.1 r.1.length x.2, .int .i64 r.2]) ∧ Evo [] (fun _ => 0) own' w w' ∧ RwO own' 1 [] w' 5 R5 x.1 x.2 r.1 := by
  refine fl_enter (n := 115) rfl rfl rfl (Nat.le_of_ble_eq_true rfl) ?_
  intro a0 Q hd0 hz0 harg hret
  have ha0 := harg 0 _ rfl
  clear harg
  have hE0 : Evo [] (fun _ => 0) (fun _ => 0) w w := Evo.refl _ _ _
  refine rg_plain_seq (n := 115) (rs := []) (own0 := (fun _ => 0)) (K := [])
      (bs := [0, 0, 2])
      (ds := [⟨[], [0], [], Fct.blk 1062 1 (fun g => .pointer (some ⟨g, 0, none⟩)) 25 #[.slice An1_0 n1.1.length cn1_0, .slice An1_1 n1.2.length cn1_1]⟩,
      ⟨[], [], [], Fct.val 2 (.slice none 0 0)⟩,
      ⟨[], [], [], Fct.val 3 (.int .i64 0)⟩]) (by kernel_rfl) hz0 hd0 (fun _ h => nomatch h) ?_ ?_
  · refine steps_cons (fun own a wx hf hsl hE => ?_) ?_
    · obtain ⟨s_0, -⟩ := hsl
      exact sg_plain rfl rfl (or_new [(0, .agg #[.slice An1_0 n1.1.length cn1_0, .slice An1_1 n1.2.length cn1_1])] rfl rfl ⟨(s_0.trans ha0), trivial⟩ (by kernel_rfl))
    refine steps_cons (fun own a wx hf hsl hE => ?_) ?_
    · exact sg_plain rfl rfl (or_assign rfl)
    refine steps_cons (fun own a wx hf hsl hE => ?_) ?_
    · exact sg_plain rfl rfl (or_assign rfl)
    exact steps_nil
  intro own1063 a1063 w1063 hd1063 hz1063 hk1063 hf1063 hE1063
  obtain ⟨⟨g1061, (f_1 : a1063.eval (.tmp 1) = .pointer (some ⟨g1061, 0, none⟩)), (b_g1061 : BlkO own1063 1062 w1063 g1061 25 #[.slice An1_0 n1.1.length cn1_0, .slice An1_1 n1.2.length cn1_1])⟩, -⟩ := hf1063 [0] rfl
  have e1063_1 := f_1
  have hX1063 := Evo.step hE0 (fun _ => Nat.le_refl 0) hE1063 rfl
  have b1063_An1_0 := RdO.evo rfl hE1063 hAn1_0
  have b1063_An1_1 := RdO.evo rfl hE1063 hAn1_1
  have b1063_g1061 := b_g1061
  refine fl_seq (fun Q1064 hn1064 hp1064 => ?_)
  obtain ⟨r1065, hr1065, hs⟩ := obind hs
  refine rg_plain_seq (n := 115) (rs := []) (own0 := own1063) (K := [])
      (bs := [0, 1, 3])
      (ds := [⟨[], [1], [], Fct.val 19 (.agg #[.slice An1_0 n1.1.length cn1_0, .slice An1_1 n1.2.length cn1_1])⟩,
      ⟨[0], [], [], Fct.val 20 (.int .i64 r1065)⟩,
      ⟨[1], [], [], Fct.val 4 (.int .i64 r1065)⟩]) (by kernel_rfl) hz1063 hd1063 (fun _ h => nomatch h) ?_ ?_
  · refine steps_cons (fun own a wx hf hsl hE => ?_) ?_
    · obtain ⟨s_1, -⟩ := hsl
      exact sg_plain rfl rfl (or_load (l := [.slice An1_0 n1.1.length cn1_0, .slice An1_1 n1.2.length cn1_1]) ta25 (s_1.trans e1063_1) (Blk.cellsFrom (BlkO.evo (by decide) hE b1063_g1061).2 0 rfl) rfl)
    refine steps_cons (fun own a wx hf hsl hE => ?_) ?_
    · obtain ⟨(f_19 : a.eval (.tmp 19) = .agg #[.slice An1_0 n1.1.length cn1_0, .slice An1_1 n1.2.length cn1_1]), -⟩ := hf
      exact sg_plain rfl rfl (or_call cf8 (args1 f_19) (block_Check_w _ n1 An1_0 cn1_0 An1_1 cn1_1 (RdO.zero (RdO.evo rfl hE b1063_An1_0)) (RdO.zero (RdO.evo rfl hE b1063_An1_1)) r1065 hr1065) post_val)
    refine steps_cons (fun own a wx hf hsl hE => ?_) ?_
    · obtain ⟨(f_20 : a.eval (.tmp 20) = .int .i64 r1065), -⟩ := hf
      exact sg_plain rfl rfl (or_assign f_20)
    exact steps_nil
  intro own1066 a1066 w1066 hd1066 hz1066 hk1066 hf1066 hE1066
  have e1066_1 : a1066.eval (.tmp 1) = .pointer (some ⟨g1061, 0, none⟩) := (hk1066 1 rfl).trans e1063_1
  obtain ⟨(f_4 : a1066.eval (.tmp 4) = .int .i64 r1065), -⟩ := hf1066 [2] rfl
  have e1066_4 := f_4
  have hX1066 := Evo.step hX1063 (fun _ => Nat.le_refl 0) hE1066 rfl
  have b1066_An1_0 := RdO.evo rfl hE1066 b1063_An1_0
  have b1066_An1_1 := RdO.evo rfl hE1066 b1063_An1_1
  have b1066_g1061 := BlkO.evo (by decide) hE1066 b1063_g1061
  refine rg_plain_seq (n := 115) (rs := []) (own0 := own1066) (K := [])
      (bs := [0, 1])
      (ds := [⟨[], [4], [], Fct.val 21 (.int .i64 r1065)⟩,
      ⟨[0], [], [], Fct.val 22 (.bool (!decide (r1065 = 0)))⟩]) (by kernel_rfl) hz1066 hd1066 (fun _ h => nomatch h) ?_ ?_
  · refine steps_cons (fun own a wx hf hsl hE => ?_) ?_
    · obtain ⟨s_4, -⟩ := hsl
      exact sg_plain rfl rfl (or_move (s_4.trans e1066_4))
    refine steps_cons (fun own a wx hf hsl hE => ?_) ?_
    · obtain ⟨(f_21 : a.eval (.tmp 21) = .int .i64 r1065), -⟩ := hf
      exact sg_plain rfl rfl (or_neq f_21 rfl rfl)
    exact steps_nil
  intro own1067 a1067 w1067 hd1067 hz1067 hk1067 hf1067 hE1067
  have e1067_1 : a1067.eval (.tmp 1) = .pointer (some ⟨g1061, 0, none⟩) := (hk1067 1 rfl).trans e1066_1
  have e1067_4 : a1067.eval (.tmp 4) = .int .i64 r1065 := (hk1067 4 rfl).trans e1066_4
  obtain ⟨(f_22 : a1067.eval (.tmp 22) = .bool (!decide (r1065 = 0))), -⟩ := hf1067 [1] rfl
  have e1067_22 := f_22
  have hX1067 := Evo.step hX1066 (fun _ => Nat.le_refl 0) hE1067 rfl
  have b1067_An1_0 := RdO.evo rfl hE1067 b1066_An1_0
  have b1067_An1_1 := RdO.evo rfl hE1067 b1066_An1_1
  have b1067_g1061 := BlkO.evo (by decide) hE1067 b1066_g1061
  refine fl_cond e1067_22 hs (fun c1068 hs => ?_) (fun c1068 hs => ?_)
  · refine rg_plain_seq (n := 115) (rs := []) (own0 := own1067) (K := [])
        (bs := [0, 0, 3])
        (ds := [⟨[], [4], [], Fct.val 23 (.int .i64 r1065)⟩,
        ⟨[], [], [], Fct.val 2 (.slice none 0 0)⟩,
        ⟨[0], [], [], Fct.val 3 (.int .i64 r1065)⟩]) (by kernel_rfl) hz1067 hd1067 (fun _ h => nomatch h) ?_ ?_
    · refine steps_cons (fun own a wx hf hsl hE => ?_) ?_
      · obtain ⟨s_4, -⟩ := hsl
        exact sg_plain rfl rfl (or_move (s_4.trans e1067_4))
      refine steps_cons (fun own a wx hf hsl hE => ?_) ?_
      · exact sg_plain rfl rfl (or_assign rfl)
      refine steps_cons (fun own a wx hf hsl hE => ?_) ?_
      · obtain ⟨(f_23 : a.eval (.tmp 23) = .int .i64 r1065), -⟩ := hf
        exact sg_plain rfl rfl (or_assign f_23)
      exact steps_nil
    intro own1069 a1069 w1069 hd1069 hz1069 hk1069 hf1069 hE1069
    obtain ⟨(f_2 : a1069.eval (.tmp 2) = .slice none 0 0), (f_3 : a1069.eval (.tmp 3) = .int .i64 r1065), -⟩ := hf1069 [1, 2] rfl
    have e1069_2 := f_2
    have e1069_3 := f_3
    have hX1069 := Evo.step hX1067 (fun _ => Nat.le_refl 0) hE1069 rfl
    refine fl_ret ?_
    refine hp1064 _ _ _ rfl ?_
    obtain rfl := osome hs
    exact hret _ _ _ _ (.inl rfl) hd1069 (results2_ rfl (RVal.tmp_ e1069_2) (RVal.tmp_ e1069_3)) ⟨own1069, (none, 0), rfl, hX1069, RwO.nil_⟩
  refine fl_skip ?_
  refine hn1064 _ _ ?_
  refine rg_plain_seq (n := 115) (rs := []) (own0 := own1067) (K := [])
      (bs := [0])
      (ds := [⟨[], [], [], Fct.blk 1071 5 (fun g => .pointer (some ⟨g, 0, none⟩)) 33 #[.slice none 0 0]⟩]) (by kernel_rfl) hz1067 hd1067 (fun _ h => nomatch h) ?_ ?_
  · refine steps_cons (fun own a wx hf hsl hE => ?_) ?_
    · exact sg_plain rfl rfl (or_new [] rfl rfl trivial (by kernel_rfl))
    exact steps_nil
  intro own1072 a1072 w1072 hd1072 hz1072 hk1072 hf1072 hE1072
  have e1072_1 : a1072.eval (.tmp 1) = .pointer (some ⟨g1061, 0, none⟩) := (hk1072 1 rfl).trans e1067_1
  obtain ⟨⟨g1070, (f_5 : a1072.eval (.tmp 5) = .pointer (some ⟨g1070, 0, none⟩)), (b_g1070 : BlkO own1072 1071 w1072 g1070 33 #[.slice none 0 0])⟩, -⟩ := hf1072 [0] rfl
  have e1072_5 := f_5
  have hX1072 := Evo.step hX1067 (fun _ => Nat.le_refl 0) hE1072 rfl
  have b1072_An1_0 := RdO.evo rfl hE1072 b1067_An1_0
  have b1072_An1_1 := RdO.evo rfl hE1072 b1067_An1_1
  have b1072_g1061 := BlkO.evo (by decide) hE1072 b1067_g1061
  have b1072_g1070 := b_g1070
  refine rg_plain_seq (n := 115) (rs := []) (own0 := own1072) (K := [])
      (bs := [0, 1])
      (ds := [⟨[], [5], [], Fct.val 24 (.func (.func 29) #[] #[.pointer (some ⟨g1070, 0, none⟩)])⟩,
      ⟨[0], [], [], Fct.val 6 (.func (.func 29) #[] #[.pointer (some ⟨g1070, 0, none⟩)])⟩]) (by kernel_rfl) hz1072 hd1072 (fun _ h => nomatch h) ?_ ?_
  · refine steps_cons (fun own a wx hf hsl hE => ?_) ?_
    · obtain ⟨s_5, -⟩ := hsl
      exact sg_plain rfl rfl (or_k [(5, .pointer (some ⟨g1070, 0, none⟩))] rfl rfl ⟨(s_5.trans e1072_5), trivial⟩ (by kernel_rfl))
    refine steps_cons (fun own a wx hf hsl hE => ?_) ?_
    · obtain ⟨(f_24 : a.eval (.tmp 24) = .func (.func 29) #[] #[.pointer (some ⟨g1070, 0, none⟩)]), -⟩ := hf
      exact sg_plain rfl rfl (or_assign f_24)
    exact steps_nil
  intro own1073 a1073 w1073 hd1073 hz1073 hk1073 hf1073 hE1073
  have e1073_1 : a1073.eval (.tmp 1) = .pointer (some ⟨g1061, 0, none⟩) := (hk1073 1 rfl).trans e1072_1
  have e1073_5 : a1073.eval (.tmp 5) = .pointer (some ⟨g1070, 0, none⟩) := (hk1073 5 rfl).trans e1072_5
  obtain ⟨(f_6 : a1073.eval (.tmp 6) = .func (.func 29) #[] #[.pointer (some ⟨g1070, 0, none⟩)]), -⟩ := hf1073 [1] rfl
  have e1073_6 := f_6
  have hX1073 := Evo.step hX1072 (fun _ => Nat.le_refl 0) hE1073 rfl
  have b1073_An1_0 := RdO.evo rfl hE1073 b1072_An1_0
  have b1073_An1_1 := RdO.evo rfl hE1073 b1072_An1_1
  have b1073_g1061 := BlkO.evo (by decide) hE1073 b1072_g1061
  have b1073_g1070 := BlkO.evo (by decide) hE1073 b1072_g1070
  refine rg_plain_seq (n := 115) (rs := []) (own0 := own1073) (K := [])
      (bs := [0, 1])
      (ds := [⟨[], [5], [], Fct.val 25 (.func (.func 31) #[] #[.pointer (some ⟨g1070, 0, none⟩)])⟩,
      ⟨[0], [], [], Fct.val 7 (.func (.func 31) #[] #[.pointer (some ⟨g1070, 0, none⟩)])⟩]) (by kernel_rfl) hz1073 hd1073 (fun _ h => nomatch h) ?_ ?_
  · refine steps_cons (fun own a wx hf hsl hE => ?_) ?_
    · obtain ⟨s_5, -⟩ := hsl
      exact sg_plain rfl rfl (or_k [(5, .pointer (some ⟨g1070, 0, none⟩))] rfl rfl ⟨(s_5.trans e1073_5), trivial⟩ (by kernel_rfl))
    refine steps_cons (fun own a wx hf hsl hE => ?_) ?_
    · obtain ⟨(f_25 : a.eval (.tmp 25) = .func (.func 31) #[] #[.pointer (some ⟨g1070, 0, none⟩)]), -⟩ := hf
      exact sg_plain rfl rfl (or_assign f_25)
    exact steps_nil
  intro own1074 a1074 w1074 hd1074 hz1074 hk1074 hf1074 hE1074
  have e1074_1 : a1074.eval (.tmp 1) = .pointer (some ⟨g1061, 0, none⟩) := (hk1074 1 rfl).trans e1073_1
  have e1074_5 : a1074.eval (.tmp 5) = .pointer (some ⟨g1070, 0, none⟩) := (hk1074 5 rfl).trans e1073_5
  have e1074_6 : a1074.eval (.tmp 6) = .func (.func 29) #[] #[.pointer (some ⟨g1070, 0, none⟩)] := (hk1074 6 rfl).trans e1073_6
  obtain ⟨(f_7 : a1074.eval (.tmp 7) = .func (.func 31) #[] #[.pointer (some ⟨g1070, 0, none⟩)]), -⟩ := hf1074 [1] rfl
  have e1074_7 := f_7
  have hX1074 := Evo.step hX1073 (fun _ => Nat.le_refl 0) hE1074 rfl
  have b1074_An1_0 := RdO.evo rfl hE1074 b1073_An1_0
  have b1074_An1_1 := RdO.evo rfl hE1074 b1073_An1_1
  have b1074_g1061 := BlkO.evo (by decide) hE1074 b1073_g1061
  have b1074_g1070 := BlkO.evo (by decide) hE1074 b1073_g1070
  refine rg_plain_seq (n := 115) (rs := []) (own0 := own1074) (K := [1076])
      (bs := [0, 0, 3])
      (ds := [⟨[], [], [], Fct.val 26 (.agg #[.int .i64 0, .int .i64 0])⟩,
      ⟨[], [], [], Fct.blk 1076 8 (fun g => .pointer (some ⟨g, 0, none⟩)) 56 #[.int .i64 0, .int .i64 0]⟩,
      ⟨[1, 0], [], [1076], Fct.blk 1077 8 (fun g => .pointer (some ⟨g, 0, none⟩)) 56 #[.int .i64 0, .int .i64 0]⟩]) (by kernel_rfl) hz1074 hd1074 (fun _ h => nomatch h) ?_ ?_
  · refine steps_cons (fun own a wx hf hsl hE => ?_) ?_
    · exact sg_plain rfl rfl (or_k [] rfl rfl trivial (by kernel_rfl))
    refine steps_cons (fun own a wx hf hsl hE => ?_) ?_
    · exact sg_plain rfl rfl (or_new [] rfl rfl trivial (by kernel_rfl))
    refine steps_cons (fun own a wx hf hsl hE => ?_) ?_
    · obtain ⟨⟨g1075, (f_8 : a.eval (.tmp 8) = .pointer (some ⟨g1075, 0, none⟩)), (b_g1075 : BlkO own 1076 wx g1075 56 #[.int .i64 0, .int .i64 0])⟩, (f_26 : a.eval (.tmp 26) = .agg #[.int .i64 0, .int .i64 0]), -⟩ := hf
      exact sg_plain rfl rfl (or_store (l := #[.int .i64 0, .int .i64 0]) (lab := 1076) (lab2 := 1077) ts56 f_8 f_26 b_g1075 (by simp) (by kernel_rfl) (mem_of rfl) (by decide) (by kernel_rfl) (fun own' a' w' ha hb => ⟨_, (ha 8).trans f_8, hb⟩))
    exact steps_nil
  intro own1078 a1078 w1078 hd1078 hz1078 hk1078 hf1078 hE1078
  have e1078_1 : a1078.eval (.tmp 1) = .pointer (some ⟨g1061, 0, none⟩) := (hk1078 1 rfl).trans e1074_1
  have e1078_5 : a1078.eval (.tmp 5) = .pointer (some ⟨g1070, 0, none⟩) := (hk1078 5 rfl).trans e1074_5
  have e1078_6 : a1078.eval (.tmp 6) = .func (.func 29) #[] #[.pointer (some ⟨g1070, 0, none⟩)] := (hk1078 6 rfl).trans e1074_6
  have e1078_7 : a1078.eval (.tmp 7) = .func (.func 31) #[] #[.pointer (some ⟨g1070, 0, none⟩)] := (hk1078 7 rfl).trans e1074_7
  obtain ⟨⟨g1075, (f_8 : a1078.eval (.tmp 8) = .pointer (some ⟨g1075, 0, none⟩)), (b_g1075 : BlkO own1078 1077 w1078 g1075 56 #[.int .i64 0, .int .i64 0])⟩, -⟩ := hf1078 [2] rfl
  have e1078_8 := f_8
  have hX1078 := Evo.step hX1074 (fun _ => Nat.le_refl 0) hE1078 rfl
  have b1078_An1_0 := RdO.evo rfl hE1078 b1074_An1_0
  have b1078_An1_1 := RdO.evo rfl hE1078 b1074_An1_1
  have b1078_g1061 := BlkO.evo (by decide) hE1078 b1074_g1061
  have b1078_g1070 := BlkO.evo (by decide) hE1078 b1074_g1070
  have b1078_g1075 := b_g1075
  obtain ⟨r1079, hr1079, hs⟩ := obind hs
  refine rg_plain_seq (n := 115) (rs := [Fct.at_ 1071 g1070 33 #[.slice none 0 0]]) (own0 := own1078) (K := [1071])
      (bs := [0, 0, 2, 6, 15])
      (ds := [⟨[], [6], [], Fct.val 27 (.func (.func 29) #[] #[.pointer (some ⟨g1070, 0, none⟩)])⟩,
      ⟨[], [1], [], Fct.val 28 (.pointer (some ⟨g1061, 0, none⟩))⟩,
      ⟨[1], [], [], Fct.val 29 (.slice An1_0 n1.1.length cn1_0)⟩,
      ⟨[2], [], [], Fct.val 30 (.int .i64 (n1.1.length : Int))⟩,
      ⟨[0, 3, 5], [], [1071], Fct.mems [1081, 1082] 31 (fun (x : Option Addr × Nat) => .tuple #[]) (fun (x : Option Addr × Nat) own w => RwO own 1081 [] w 5 R5 x.1 x.2 r1079 ∧ BlkO own 1082 w g1070 33 #[.slice x.1 r1079.length x.2]) (fun hk he h => ⟨RwO.evo (hits_sub hk (by decide)) he h.1, BlkO.evo (not_hit hk (by decide)) he h.2⟩)⟩]) (by kernel_rfl) hz1078 hd1078 (by simp only [List.forall_mem_cons]; exact ⟨b1078_g1070, fun _ h => nomatch h⟩) ?_ ?_
  · refine steps_cons (fun own a wx hf hsl hE => ?_) ?_
    · obtain ⟨s_6, -⟩ := hsl
      exact sg_plain rfl rfl (or_move (s_6.trans e1078_6))
    refine steps_cons (fun own a wx hf hsl hE => ?_) ?_
    · obtain ⟨s_1, -⟩ := hsl
      exact sg_plain rfl rfl (or_field fo25_0 (s_1.trans e1078_1) (by rfl))
    refine steps_cons (fun own a wx hf hsl hE => ?_) ?_
    · obtain ⟨(f_28 : a.eval (.tmp 28) = .pointer (some ⟨g1061, 0, none⟩)), -⟩ := hf
      exact sg_plain rfl rfl (or_load1 to22 f_28 (Blk.at_ (BlkO.evo (by decide) hE b1078_g1061).2 0 rfl))
    refine steps_cons (fun own a wx hf hsl hE => ?_) ?_
    · obtain ⟨(f_29 : a.eval (.tmp 29) = .slice An1_0 n1.1.length cn1_0), -⟩ := hf
      exact sg_plain rfl rfl (or_len tu22 f_29 rfl)
    refine steps_cons (fun own a wx hf hsl hE => ?_) ?_
    · obtain ⟨(f_27 : a.eval (.tmp 27) = .func (.func 29) #[] #[.pointer (some ⟨g1070, 0, none⟩)]), (f_30 : a.eval (.tmp 30) = .int .i64 (n1.1.length : Int)), (b_g1070 : BlkO own 1071 wx g1070 33 #[.slice none 0 0]), -⟩ := hf
      exact sg_plain rfl rfl (or_callf cf29 f_27 (args1 f_30) rfl (block_Bytes_1_w _ (forth own (look0 [(1071, 1)])) (n1.1.length : Int) ([] : List Int) g1070 33 none 0 (look0_le rfl) (BlkO.forth_ (m := (look0 [(1071, 1)])) b_g1070) RwO.nil_ r1079 hr1079) (post_mems (m := (look0 [(1071, 1)])) (m' := (look0 [(1, 1082), (2, 1081)])) (hm_of rfl) (fun own' w' a' x h1 h => ⟨x, h1, ⟨RwO.back_ h.1 (by decide) (.inl (Rep.fl_flat _)), BlkO.back_ h.2 (by decide)⟩⟩)))
    exact steps_nil
  intro own1083 a1083 w1083 hd1083 hz1083 hk1083 hf1083 hE1083
  have e1083_1 : a1083.eval (.tmp 1) = .pointer (some ⟨g1061, 0, none⟩) := (hk1083 1 rfl).trans e1078_1
  have e1083_5 : a1083.eval (.tmp 5) = .pointer (some ⟨g1070, 0, none⟩) := (hk1083 5 rfl).trans e1078_5
  have e1083_6 : a1083.eval (.tmp 6) = .func (.func 29) #[] #[.pointer (some ⟨g1070, 0, none⟩)] := (hk1083 6 rfl).trans e1078_6
  have e1083_7 : a1083.eval (.tmp 7) = .func (.func 31) #[] #[.pointer (some ⟨g1070, 0, none⟩)] := (hk1083 7 rfl).trans e1078_7
  have e1083_8 : a1083.eval (.tmp 8) = .pointer (some ⟨g1075, 0, none⟩) := (hk1083 8 rfl).trans e1078_8
  obtain ⟨⟨⟨A1080, cA1080⟩, (f_31 : a1083.eval (.tmp 31) = .tuple #[]), (b_A1080 : RwO own1083 1081 [] w1083 5 R5 A1080 cA1080 r1079), (b_g1070 : BlkO own1083 1082 w1083 g1070 33 #[.slice A1080 r1079.length cA1080])⟩, -⟩ := hf1083 [4] rfl
  have hX1083 := Evo.step hX1078 (fun _ => Nat.le_refl 0) hE1083 rfl
  have b1083_An1_0 := RdO.evo rfl hE1083 b1078_An1_0
  have b1083_An1_1 := RdO.evo rfl hE1083 b1078_An1_1
  have b1083_g1061 := BlkO.evo (by decide) hE1083 b1078_g1061
  have b1083_g1075 := BlkO.evo (by decide) hE1083 b1078_g1075
  have b1083_g1070 := b_g1070
  have b1083_A1080 := b_A1080
  refine fl_seq (fun Q1084 hn1084 hp1084 => ?_)
  refine rg_plain_seq (n := 115) (rs := []) (own0 := own1083) (K := [])
      (bs := [0, 1, 3, 0])
      (ds := [⟨[], [1], [], Fct.val 32 (.pointer (some ⟨g1061, 0, none⟩))⟩,
      ⟨[0], [], [], Fct.val 33 (.slice An1_0 n1.1.length cn1_0)⟩,
      ⟨[1], [], [], Fct.val 34 (.int .i64 (n1.1.length : Int))⟩,
      ⟨[], [], [], Fct.val 35 (.int .i64 0)⟩]) (by kernel_rfl) hz1083 hd1083 (fun _ h => nomatch h) ?_ ?_
  · refine steps_cons (fun own a wx hf hsl hE => ?_) ?_
    · obtain ⟨s_1, -⟩ := hsl
      exact sg_plain rfl rfl (or_field fo25_0 (s_1.trans e1083_1) (by rfl))
    refine steps_cons (fun own a wx hf hsl hE => ?_) ?_
    · obtain ⟨(f_32 : a.eval (.tmp 32) = .pointer (some ⟨g1061, 0, none⟩)), -⟩ := hf
      exact sg_plain rfl rfl (or_load1 to22 f_32 (Blk.at_ (BlkO.evo (by decide) hE b1083_g1061).2 0 rfl))
    refine steps_cons (fun own a wx hf hsl hE => ?_) ?_
    · obtain ⟨(f_33 : a.eval (.tmp 33) = .slice An1_0 n1.1.length cn1_0), -⟩ := hf
      exact sg_plain rfl rfl (or_len tu22 f_33 rfl)
    refine steps_cons (fun own a wx hf hsl hE => ?_) ?_
    · exact sg_plain rfl rfl (or_move rfl)
    exact steps_nil
  intro own1085 a1085 w1085 hd1085 hz1085 hk1085 hf1085 hE1085
  have e1085_1 : a1085.eval (.tmp 1) = .pointer (some ⟨g1061, 0, none⟩) := (hk1085 1 rfl).trans e1083_1
  have e1085_5 : a1085.eval (.tmp 5) = .pointer (some ⟨g1070, 0, none⟩) := (hk1085 5 rfl).trans e1083_5
  have e1085_6 : a1085.eval (.tmp 6) = .func (.func 29) #[] #[.pointer (some ⟨g1070, 0, none⟩)] := (hk1085 6 rfl).trans e1083_6
  have e1085_7 : a1085.eval (.tmp 7) = .func (.func 31) #[] #[.pointer (some ⟨g1070, 0, none⟩)] := (hk1085 7 rfl).trans e1083_7
  have e1085_8 : a1085.eval (.tmp 8) = .pointer (some ⟨g1075, 0, none⟩) := (hk1085 8 rfl).trans e1083_8
  obtain ⟨(f_33 : a1085.eval (.tmp 33) = .slice An1_0 n1.1.length cn1_0), (f_34 : a1085.eval (.tmp 34) = .int .i64 (n1.1.length : Int)), (f_35 : a1085.eval (.tmp 35) = .int .i64 0), -⟩ := hf1085 [1, 2, 3] rfl
  have e1085_33 := f_33
  have e1085_34 := f_34
  have e1085_35 := f_35
  have hX1085 := Evo.step hX1083 (fun _ => Nat.le_refl 0) hE1085 rfl
  have b1085_An1_0 := RdO.evo rfl hE1085 b1083_An1_0
  have b1085_An1_1 := RdO.evo rfl hE1085 b1083_An1_1
  have b1085_g1061 := BlkO.evo (by decide) hE1085 b1083_g1061
  have b1085_g1075 := BlkO.evo (by decide) hE1085 b1083_g1075
  have b1085_g1070 := BlkO.evo (by decide) hE1085 b1083_g1070
  have b1085_A1080 := RwO.evo rfl hE1085 b1083_A1080
  refine fl_block (fun Q1086 hn1086 hx1086 hp1086 => ?_)
  refine fl_loop (body := (fun s => block_Bytes_b1 n1 s.1 s.2.1 s.2.2)) (z := r) (show loopO _ _ = _ from hs) (fun (s : (List Int) × (Int × Int) × Int) a wx => match s with | (out1201, x1204, x1205) => ∃ (ox : Own) (A1199 : Option Addr) (c1200 : Nat), a.defers = [] ∧ a.tmps.size = 115 ∧ a.eval (.tmp 1) = .pointer (some ⟨g1061, 0, none⟩) ∧ a.eval (.tmp 5) = .pointer (some ⟨g1070, 0, none⟩) ∧ a.eval (.tmp 6) = .func (.func 29) #[] #[.pointer (some ⟨g1070, 0, none⟩)] ∧ a.eval (.tmp 7) = .func (.func 31) #[] #[.pointer (some ⟨g1070, 0, none⟩)] ∧ a.eval (.tmp 8) = .pointer (some ⟨g1075, 0, none⟩) ∧ a.eval (.tmp 33) = .slice An1_0 n1.1.length cn1_0 ∧ a.eval (.tmp 34) = .int .i64 (n1.1.length : Int) ∧ a.eval (.tmp 35) = .int .i64 x1205 ∧ Evo [] (fun _ => 0) ox w wx ∧ BlkO ox 1062 wx g1061 25 #[.slice An1_0 n1.1.length cn1_0, .slice An1_1 n1.2.length cn1_1] ∧ RdO ox [0] wx R59 An1_0 cn1_0 n1.1 ∧ RdO ox [0] wx R27 An1_1 cn1_1 n1.2 ∧ BlkO ox 1198 wx g1070 33 #[.slice A1199 out1201.length c1200] ∧ RwO ox 1202 [] wx 5 R5 A1199 c1200 out1201 ∧ BlkO ox 1203 wx g1075 56 #[.int .i64 x1204.1, .int .i64 x1204.2]) ?_ ?_
  · exact ⟨(rl [(1077, 1203), (1081, 1202), (1082, 1198)] own1085), A1080, cA1080, hd1085, hz1085, e1085_1, e1085_5, e1085_6, e1085_7, e1085_8, e1085_33, e1085_34, e1085_35, (Evo.rl_ hX1085 (fun _ => Nat.le_refl 0) rfl), (BlkO.rl_ (mm := [(1077, 1203), (1081, 1202), (1082, 1198)]) b1085_g1061), (RdO.rl_ (mm := [(1077, 1203), (1081, 1202), (1082, 1198)]) b1085_An1_0), (RdO.rl_ (mm := [(1077, 1203), (1081, 1202), (1082, 1198)]) b1085_An1_1), (BlkO.rl_ (mm := [(1077, 1203), (1081, 1202), (1082, 1198)]) b1085_g1070), (RwO.rl_ (mm := [(1077, 1203), (1081, 1202), (1082, 1198)]) b1085_A1080), (BlkO.rl_ (mm := [(1077, 1203), (1081, 1202), (1082, 1198)]) b1085_g1075)⟩
  · rintro ⟨out1201, x1204, x1205⟩ zz1317 a1317 w1317 ⟨own1317, A1199, c1200, hd1318, hz1318, e1318_1, e1318_5, e1318_6, e1318_7, e1318_8, e1318_33, e1318_34, e1318_35, hE1318, b1318_g1061, b1318_An1_0, b1318_An1_1, b1318_g1070, b1318_A1199, b1318_g1075⟩ hs Q1317 hn1317 hp1317 hz1317
    have hs : block_Bytes_b1 n1 out1201 x1204 x1205 = some zz1317 := hs
    refine rg_plain_seq (n := 115) (rs := []) (own0 := own1317) (K := [])
        (bs := [0])
        (ds := [⟨[], [35, 34], [], Fct.val 36 (.bool (decide (x1205 < (n1.1.length : Int))))⟩]) (by kernel_rfl) hz1318 hd1318 (fun _ h => nomatch h) ?_ ?_
    · refine steps_cons (fun own a wx hf hsl hE => ?_) ?_
      · obtain ⟨s_35, s_34, -⟩ := hsl
        exact sg_plain rfl rfl (or_lss (s_35.trans e1318_35) (s_34.trans e1318_34) rfl)
      exact steps_nil
    intro own1319 a1319 w1319 hd1319 hz1319 hk1319 hf1319 hE1319
    have e1319_1 : a1319.eval (.tmp 1) = .pointer (some ⟨g1061, 0, none⟩) := (hk1319 1 rfl).trans e1318_1
    have e1319_5 : a1319.eval (.tmp 5) = .pointer (some ⟨g1070, 0, none⟩) := (hk1319 5 rfl).trans e1318_5
    have e1319_6 : a1319.eval (.tmp 6) = .func (.func 29) #[] #[.pointer (some ⟨g1070, 0, none⟩)] := (hk1319 6 rfl).trans e1318_6
    have e1319_7 : a1319.eval (.tmp 7) = .func (.func 31) #[] #[.pointer (some ⟨g1070, 0, none⟩)] := (hk1319 7 rfl).trans e1318_7
    have e1319_8 : a1319.eval (.tmp 8) = .pointer (some ⟨g1075, 0, none⟩) := (hk1319 8 rfl).trans e1318_8
    have e1319_33 : a1319.eval (.tmp 33) = .slice An1_0 n1.1.length cn1_0 := (hk1319 33 rfl).trans e1318_33
    have e1319_34 : a1319.eval (.tmp 34) = .int .i64 (n1.1.length : Int) := (hk1319 34 rfl).trans e1318_34
    have e1319_35 : a1319.eval (.tmp 35) = .int .i64 x1205 := (hk1319 35 rfl).trans e1318_35
    obtain ⟨(f_36 : a1319.eval (.tmp 36) = .bool (decide (x1205 < (n1.1.length : Int)))), -⟩ := hf1319 [0] rfl
    have e1319_36 := f_36
    have hX1319 := Evo.step hE1318 (fun _ => Nat.le_refl 0) hE1319 rfl
    have b1319_g1061 := BlkO.evo (by decide) hE1319 b1318_g1061
    have b1319_An1_0 := RdO.evo rfl hE1319 b1318_An1_0
    have b1319_An1_1 := RdO.evo rfl hE1319 b1318_An1_1
    have b1319_g1070 := BlkO.evo (by decide) hE1319 b1318_g1070
    have b1319_A1199 := RwO.evo rfl hE1319 b1318_A1199
    have b1319_g1075 := BlkO.evo (by decide) hE1319 b1318_g1075
    refine fl_seq (fun Q1320 hn1320 hp1320 => ?_)
    refine fl_cond e1319_36 hs (fun c1321 hs => ?_) (fun c1321 hs => ?_)
    · refine fl_skip ?_
      refine hn1320 _ _ ?_
      refine fl_seq (fun Q1322 hn1322 hp1322 => ?_)
      refine fl_block (fun Q1323 hn1323 hx1323 hp1323 => ?_)
      obtain ⟨x1324, hx1324, hs⟩ := obind hs
      refine rg_plain_seq (n := 115) (rs := []) (own0 := own1319) (K := [1327])
          (bs := [0, 1, 0, 7])
          (ds := [⟨[], [33, 35], [], Fct.val 37 (.pointer (some ((adr An1_0).add ((x1205 : Int).toNat * R59.s))))⟩,
          ⟨[0], [], [], Fct.nest X59 [0] 38 (fun (y : ((Option Addr × Nat) × Unit × Unit)) => .agg #[.slice y.1.1 x1324.1.length y.1.2, .int .i64 x1324.2.1, .int .i64 x1324.2.2]) x1324⟩,
          ⟨[], [], [], Fct.blk 1327 10 (fun g => .pointer (some ⟨g, 0, none⟩)) 59 #[.slice none 0 0, .int .i64 0, .int .i64 0]⟩,
          ⟨[2, 1], [], [1327], Fct.by_ [1328] [10, 38] (fun l own w => ∃ g1326 : Nat, l.getD 0 undef = .pointer (some ⟨g1326, 0, none⟩) ∧ (∀ (A1325 : Option Addr) (cA1325 : Nat), l.getD 1 undef = .agg #[.slice A1325 x1324.1.length cA1325, .int .i64 x1324.2.1, .int .i64 x1324.2.2] → BlkO own 1328 w g1326 59 #[.slice A1325 x1324.1.length cA1325, .int .i64 x1324.2.1, .int .i64 x1324.2.2])) (fun hk he h => by obtain ⟨g, e, h⟩ := h; exact ⟨g, e, fun _ _ h0' => BlkO.evo (not_hit hk (by decide)) he (h _ _ h0')⟩)⟩]) (by kernel_rfl) hz1319 hd1319 (fun _ h => nomatch h) ?_ ?_
      · refine steps_cons (fun own a wx hf hsl hE => ?_) ?_
        · obtain ⟨s_33, s_35, -⟩ := hsl
          exact sg_plain rfl rfl (or_index (R := R59) (l := n1.1) tl22 (s_33.trans e1319_33) (s_35.trans e1319_35) (RdO.some_ b1319_An1_0 hx1324) hx1324)
        refine steps_cons (fun own a wx hf hsl hE => ?_) ?_
        · obtain ⟨(f_37 : a.eval (.tmp 37) = .pointer (some ((adr An1_0).add ((x1205 : Int).toNat * R59.s)))), -⟩ := hf
          exact sg_plain rfl rfl (or_loadN X59 0 3 ta59 f_37 (Addr.add_zero' _).symm (RdO.evo rfl hE b1319_An1_0) hx1324 (fun _ => rfl) (fun _ => rfl))
        refine steps_cons (fun own a wx hf hsl hE => ?_) ?_
        · exact sg_plain rfl rfl (or_new [] rfl rfl trivial (by kernel_rfl))
        refine steps_cons (fun own a wx hf hsl hE => ?_) ?_
        · obtain ⟨⟨g1326, (f_10 : a.eval (.tmp 10) = .pointer (some ⟨g1326, 0, none⟩)), (b_g1326 : BlkO own 1327 wx g1326 59 #[.slice none 0 0, .int .i64 0, .int .i64 0])⟩, ⟨⟨⟨A1325, cA1325⟩, _, _⟩, (f_38 : a.eval (.tmp 38) = .agg #[.slice A1325 x1324.1.length cA1325, .int .i64 x1324.2.1, .int .i64 x1324.2.2]), ⟨(b_A1325 : RdO own [0] wx R56 A1325 cA1325 x1324.1), -, -⟩⟩, -⟩ := hf
          exact sg_plain rfl rfl (or_store (l := #[.slice A1325 x1324.1.length cA1325, .int .i64 x1324.2.1, .int .i64 x1324.2.2]) (lab := 1327) (lab2 := 1328) ts59 f_10 f_38 b_g1326 (by simp) (by kernel_rfl) (mem_of rfl) (by decide) (by kernel_rfl) (fun own' a' w' ha hb => ⟨_, (ha 10).trans f_10, fun _ _ h0' => by cases (f_38.symm.trans ((ha 38).symm.trans h0')); exact hb⟩))
        exact steps_nil
      intro own1329 a1329 w1329 hd1329 hz1329 hk1329 hf1329 hE1329
      have e1329_1 : a1329.eval (.tmp 1) = .pointer (some ⟨g1061, 0, none⟩) := (hk1329 1 rfl).trans e1319_1
      have e1329_5 : a1329.eval (.tmp 5) = .pointer (some ⟨g1070, 0, none⟩) := (hk1329 5 rfl).trans e1319_5
      have e1329_6 : a1329.eval (.tmp 6) = .func (.func 29) #[] #[.pointer (some ⟨g1070, 0, none⟩)] := (hk1329 6 rfl).trans e1319_6
      have e1329_7 : a1329.eval (.tmp 7) = .func (.func 31) #[] #[.pointer (some ⟨g1070, 0, none⟩)] := (hk1329 7 rfl).trans e1319_7
      have e1329_8 : a1329.eval (.tmp 8) = .pointer (some ⟨g1075, 0, none⟩) := (hk1329 8 rfl).trans e1319_8
      have e1329_33 : a1329.eval (.tmp 33) = .slice An1_0 n1.1.length cn1_0 := (hk1329 33 rfl).trans e1319_33
      have e1329_34 : a1329.eval (.tmp 34) = .int .i64 (n1.1.length : Int) := (hk1329 34 rfl).trans e1319_34
      have e1329_35 : a1329.eval (.tmp 35) = .int .i64 x1205 := (hk1329 35 rfl).trans e1319_35
      obtain ⟨⟨⟨⟨A1325, cA1325⟩, _, _⟩, (f_38 : a1329.eval (.tmp 38) = .agg #[.slice A1325 x1324.1.length cA1325, .int .i64 x1324.2.1, .int .i64 x1324.2.2]), ⟨(b_A1325 : RdO own1329 [0] w1329 R56 A1325 cA1325 x1324.1), -, -⟩⟩, ⟨g1326, (f_10 : a1329.eval (.tmp 10) = .pointer (some ⟨g1326, 0, none⟩)), (bq_g1326 : ∀ (A1325 : Option Addr) (cA1325 : Nat), a1329.eval (.tmp 38) = .agg #[.slice A1325 x1324.1.length cA1325, .int .i64 x1324.2.1, .int .i64 x1324.2.2] → BlkO own1329 1328 w1329 g1326 59 #[.slice A1325 x1324.1.length cA1325, .int .i64 x1324.2.1, .int .i64 x1324.2.2])⟩, -⟩ := hf1329 [1, 3] rfl
      have b_g1326 := bq_g1326 _ _ f_38
      have e1329_10 := f_10
      have hX1329 := Evo.step hX1319 (fun _ => Nat.le_refl 0) hE1329 rfl
      have b1329_g1061 := BlkO.evo (by decide) hE1329 b1319_g1061
      have b1329_An1_0 := RdO.evo rfl hE1329 b1319_An1_0
      have b1329_An1_1 := RdO.evo rfl hE1329 b1319_An1_1
      have b1329_g1070 := BlkO.evo (by decide) hE1329 b1319_g1070
      have b1329_A1199 := RwO.evo rfl hE1329 b1319_A1199
      have b1329_g1075 := BlkO.evo (by decide) hE1329 b1319_g1075
      have b1329_A1325 := b_A1325
      have b1329_g1326 := b_g1326
      obtain ⟨r1330, hr1330, hs⟩ := obind hs
      refine rg_plain_seq (n := 115) (rs := [Fct.at_ 1198 g1070 33 #[.slice A1199 out1201.length c1200], Fct.rowAt 1202 [] 5 R5 A1199 c1200 out1201]) (own0 := own1329) (K := [1198, 1202])
          (bs := [0, 0, 2, 7])
          (ds := [⟨[], [6], [], Fct.val 39 (.func (.func 29) #[] #[.pointer (some ⟨g1070, 0, none⟩)])⟩,
          ⟨[], [10], [], Fct.val 40 (.pointer (some ⟨g1326, 1, none⟩))⟩,
          ⟨[1], [], [], Fct.val 41 (.int .i64 x1324.2.1)⟩,
          ⟨[0, 2, 4, 5], [], [1198, 1202], Fct.mems [1332, 1333] 42 (fun (x : Option Addr × Nat) => .tuple #[]) (fun (x : Option Addr × Nat) own w => RwO own 1332 [] w 5 R5 x.1 x.2 r1330 ∧ BlkO own 1333 w g1070 33 #[.slice x.1 r1330.length x.2]) (fun hk he h => ⟨RwO.evo (hits_sub hk (by decide)) he h.1, BlkO.evo (not_hit hk (by decide)) he h.2⟩)⟩]) (by kernel_rfl) hz1329 hd1329 (by simp only [List.forall_mem_cons]; exact ⟨b1329_g1070, b1329_A1199, fun _ h => nomatch h⟩) ?_ ?_
      · refine steps_cons (fun own a wx hf hsl hE => ?_) ?_
        · obtain ⟨s_6, -⟩ := hsl
          exact sg_plain rfl rfl (or_move (s_6.trans e1329_6))
        refine steps_cons (fun own a wx hf hsl hE => ?_) ?_
        · obtain ⟨s_10, -⟩ := hsl
          exact sg_plain rfl rfl (or_field fo59_1 (s_10.trans e1329_10) (by rfl))
        refine steps_cons (fun own a wx hf hsl hE => ?_) ?_
        · obtain ⟨(f_40 : a.eval (.tmp 40) = .pointer (some ⟨g1326, 1, none⟩)), -⟩ := hf
          exact sg_plain rfl rfl (or_load1 to3 f_40 (Blk.at_ (BlkO.evo (by decide) hE b1329_g1326).2 1 rfl))
        refine steps_cons (fun own a wx hf hsl hE => ?_) ?_
        · obtain ⟨(f_39 : a.eval (.tmp 39) = .func (.func 29) #[] #[.pointer (some ⟨g1070, 0, none⟩)]), (f_41 : a.eval (.tmp 41) = .int .i64 x1324.2.1), (b_g1070 : BlkO own 1198 wx g1070 33 #[.slice A1199 out1201.length c1200]), (b_A1199 : RwO own 1202 [] wx 5 R5 A1199 c1200 out1201), -⟩ := hf
          exact sg_plain rfl rfl (or_callf cf29 f_39 (args1 f_41) rfl (block_Bytes_1_w _ (forth own (look0 [(1198, 1), (1202, 2)])) x1324.2.1 out1201 g1070 33 A1199 c1200 (look0_le rfl) (BlkO.forth_ (m := (look0 [(1198, 1), (1202, 2)])) b_g1070) (RwO.forth_ (m := (look0 [(1198, 1), (1202, 2)])) b_A1199) r1330 hr1330) (post_mems (m := (look0 [(1198, 1), (1202, 2)])) (m' := (look0 [(1, 1333), (2, 1332)])) (hm_of rfl) (fun own' w' a' x h1 h => ⟨x, h1, ⟨RwO.back_ h.1 (by decide) (.inl (Rep.fl_flat _)), BlkO.back_ h.2 (by decide)⟩⟩)))
        exact steps_nil
      intro own1334 a1334 w1334 hd1334 hz1334 hk1334 hf1334 hE1334
      have e1334_1 : a1334.eval (.tmp 1) = .pointer (some ⟨g1061, 0, none⟩) := (hk1334 1 rfl).trans e1329_1
      have e1334_5 : a1334.eval (.tmp 5) = .pointer (some ⟨g1070, 0, none⟩) := (hk1334 5 rfl).trans e1329_5
      have e1334_6 : a1334.eval (.tmp 6) = .func (.func 29) #[] #[.pointer (some ⟨g1070, 0, none⟩)] := (hk1334 6 rfl).trans e1329_6
      have e1334_7 : a1334.eval (.tmp 7) = .func (.func 31) #[] #[.pointer (some ⟨g1070, 0, none⟩)] := (hk1334 7 rfl).trans e1329_7
      have e1334_8 : a1334.eval (.tmp 8) = .pointer (some ⟨g1075, 0, none⟩) := (hk1334 8 rfl).trans e1329_8
      have e1334_10 : a1334.eval (.tmp 10) = .pointer (some ⟨g1326, 0, none⟩) := (hk1334 10 rfl).trans e1329_10
      have e1334_33 : a1334.eval (.tmp 33) = .slice An1_0 n1.1.length cn1_0 := (hk1334 33 rfl).trans e1329_33
      have e1334_34 : a1334.eval (.tmp 34) = .int .i64 (n1.1.length : Int) := (hk1334 34 rfl).trans e1329_34
      have e1334_35 : a1334.eval (.tmp 35) = .int .i64 x1205 := (hk1334 35 rfl).trans e1329_35
      obtain ⟨⟨⟨A1331, cA1331⟩, (f_42 : a1334.eval (.tmp 42) = .tuple #[]), (b_A1331 : RwO own1334 1332 [] w1334 5 R5 A1331 cA1331 r1330), (b_g1070 : BlkO own1334 1333 w1334 g1070 33 #[.slice A1331 r1330.length cA1331])⟩, -⟩ := hf1334 [3] rfl
      have hX1334 := Evo.step hX1329 (fun _ => Nat.le_refl 0) hE1334 rfl
      have b1334_g1061 := BlkO.evo (by decide) hE1334 b1329_g1061
      have b1334_An1_0 := RdO.evo rfl hE1334 b1329_An1_0
      have b1334_An1_1 := RdO.evo rfl hE1334 b1329_An1_1
      have b1334_g1075 := BlkO.evo (by decide) hE1334 b1329_g1075
      have b1334_A1325 := RdO.evo rfl hE1334 b1329_A1325
      have b1334_g1326 := BlkO.evo (by decide) hE1334 b1329_g1326
      have b1334_g1070 := b_g1070
      have b1334_A1331 := b_A1331
      obtain ⟨r1335, hr1335, hs⟩ := obind hs
      refine rg_plain_seq (n := 115) (rs := [Fct.at_ 1333 g1070 33 #[.slice A1331 r1330.length cA1331], Fct.rowAt 1332 [] 5 R5 A1331 cA1331 r1330]) (own0 := own1334) (K := [1333, 1332])
          (bs := [0, 0, 2, 7])
          (ds := [⟨[], [6], [], Fct.val 43 (.func (.func 29) #[] #[.pointer (some ⟨g1070, 0, none⟩)])⟩,
          ⟨[], [10], [], Fct.val 44 (.pointer (some ⟨g1326, 2, none⟩))⟩,
          ⟨[1], [], [], Fct.val 45 (.int .i64 x1324.2.2)⟩,
          ⟨[0, 2, 4, 5], [], [1333, 1332], Fct.mems [1337, 1338] 46 (fun (x : Option Addr × Nat) => .tuple #[]) (fun (x : Option Addr × Nat) own w => RwO own 1337 [] w 5 R5 x.1 x.2 r1335 ∧ BlkO own 1338 w g1070 33 #[.slice x.1 r1335.length x.2]) (fun hk he h => ⟨RwO.evo (hits_sub hk (by decide)) he h.1, BlkO.evo (not_hit hk (by decide)) he h.2⟩)⟩]) (by kernel_rfl) hz1334 hd1334 (by simp only [List.forall_mem_cons]; exact ⟨b1334_g1070, b1334_A1331, fun _ h => nomatch h⟩) ?_ ?_
      · refine steps_cons (fun own a wx hf hsl hE => ?_) ?_
        · obtain ⟨s_6, -⟩ := hsl
          exact sg_plain rfl rfl (or_move (s_6.trans e1334_6))
        refine steps_cons (fun own a wx hf hsl hE => ?_) ?_
        · obtain ⟨s_10, -⟩ := hsl
          exact sg_plain rfl rfl (or_field fo59_2 (s_10.trans e1334_10) (by rfl))
        refine steps_cons (fun own a wx hf hsl hE => ?_) ?_
        · obtain ⟨(f_44 : a.eval (.tmp 44) = .pointer (some ⟨g1326, 2, none⟩)), -⟩ := hf
          exact sg_plain rfl rfl (or_load1 to3 f_44 (Blk.at_ (BlkO.evo (by decide) hE b1334_g1326).2 2 rfl))
        refine steps_cons (fun own a wx hf hsl hE => ?_) ?_
        · obtain ⟨(f_43 : a.eval (.tmp 43) = .func (.func 29) #[] #[.pointer (some ⟨g1070, 0, none⟩)]), (f_45 : a.eval (.tmp 45) = .int .i64 x1324.2.2), (b_g1070 : BlkO own 1333 wx g1070 33 #[.slice A1331 r1330.length cA1331]), (b_A1331 : RwO own 1332 [] wx 5 R5 A1331 cA1331 r1330), -⟩ := hf
          exact sg_plain rfl rfl (or_callf cf29 f_43 (args1 f_45) rfl (block_Bytes_1_w _ (forth own (look0 [(1332, 2), (1333, 1)])) x1324.2.2 r1330 g1070 33 A1331 cA1331 (look0_le rfl) (BlkO.forth_ (m := (look0 [(1332, 2), (1333, 1)])) b_g1070) (RwO.forth_ (m := (look0 [(1332, 2), (1333, 1)])) b_A1331) r1335 hr1335) (post_mems (m := (look0 [(1332, 2), (1333, 1)])) (m' := (look0 [(1, 1338), (2, 1337)])) (hm_of rfl) (fun own' w' a' x h1 h => ⟨x, h1, ⟨RwO.back_ h.1 (by decide) (.inl (Rep.fl_flat _)), BlkO.back_ h.2 (by decide)⟩⟩)))
        exact steps_nil
      intro own1339 a1339 w1339 hd1339 hz1339 hk1339 hf1339 hE1339
      have e1339_1 : a1339.eval (.tmp 1) = .pointer (some ⟨g1061, 0, none⟩) := (hk1339 1 rfl).trans e1334_1
      have e1339_5 : a1339.eval (.tmp 5) = .pointer (some ⟨g1070, 0, none⟩) := (hk1339 5 rfl).trans e1334_5
      have e1339_6 : a1339.eval (.tmp 6) = .func (.func 29) #[] #[.pointer (some ⟨g1070, 0, none⟩)] := (hk1339 6 rfl).trans e1334_6
      have e1339_7 : a1339.eval (.tmp 7) = .func (.func 31) #[] #[.pointer (some ⟨g1070, 0, none⟩)] := (hk1339 7 rfl).trans e1334_7
      have e1339_8 : a1339.eval (.tmp 8) = .pointer (some ⟨g1075, 0, none⟩) := (hk1339 8 rfl).trans e1334_8
      have e1339_10 : a1339.eval (.tmp 10) = .pointer (some ⟨g1326, 0, none⟩) := (hk1339 10 rfl).trans e1334_10
      have e1339_33 : a1339.eval (.tmp 33) = .slice An1_0 n1.1.length cn1_0 := (hk1339 33 rfl).trans e1334_33
      have e1339_34 : a1339.eval (.tmp 34) = .int .i64 (n1.1.length : Int) := (hk1339 34 rfl).trans e1334_34
      have e1339_35 : a1339.eval (.tmp 35) = .int .i64 x1205 := (hk1339 35 rfl).trans e1334_35
      obtain ⟨⟨⟨A1336, cA1336⟩, (f_46 : a1339.eval (.tmp 46) = .tuple #[]), (b_A1336 : RwO own1339 1337 [] w1339 5 R5 A1336 cA1336 r1335), (b_g1070 : BlkO own1339 1338 w1339 g1070 33 #[.slice A1336 r1335.length cA1336])⟩, -⟩ := hf1339 [3] rfl
      have hX1339 := Evo.step hX1334 (fun _ => Nat.le_refl 0) hE1339 rfl
      have b1339_g1061 := BlkO.evo (by decide) hE1339 b1334_g1061
      have b1339_An1_0 := RdO.evo rfl hE1339 b1334_An1_0
      have b1339_An1_1 := RdO.evo rfl hE1339 b1334_An1_1
      have b1339_g1075 := BlkO.evo (by decide) hE1339 b1334_g1075
      have b1339_A1325 := RdO.evo rfl hE1339 b1334_A1325
      have b1339_g1326 := BlkO.evo (by decide) hE1339 b1334_g1326
      have b1339_g1070 := b_g1070
      have b1339_A1336 := b_A1336
      obtain ⟨r1340, hr1340, hs⟩ := obind hs
      refine rg_plain_seq (n := 115) (rs := [Fct.at_ 1338 g1070 33 #[.slice A1336 r1335.length cA1336], Fct.rowAt 1337 [] 5 R5 A1336 cA1336 r1335]) (own0 := own1339) (K := [1338, 1337])
          (bs := [0, 0, 2, 6, 15])
          (ds := [⟨[], [6], [], Fct.val 47 (.func (.func 29) #[] #[.pointer (some ⟨g1070, 0, none⟩)])⟩,
          ⟨[], [10], [], Fct.val 48 (.pointer (some ⟨g1326, 0, none⟩))⟩,
          ⟨[1], [], [], Fct.val 49 (.slice A1325 x1324.1.length cA1325)⟩,
          ⟨[2], [], [], Fct.val 50 (.int .i64 (x1324.1.length : Int))⟩,
          ⟨[0, 3, 5, 6], [], [1338, 1337], Fct.mems [1342, 1343] 51 (fun (x : Option Addr × Nat) => .tuple #[]) (fun (x : Option Addr × Nat) own w => RwO own 1342 [] w 5 R5 x.1 x.2 r1340 ∧ BlkO own 1343 w g1070 33 #[.slice x.1 r1340.length x.2]) (fun hk he h => ⟨RwO.evo (hits_sub hk (by decide)) he h.1, BlkO.evo (not_hit hk (by decide)) he h.2⟩)⟩]) (by kernel_rfl) hz1339 hd1339 (by simp only [List.forall_mem_cons]; exact ⟨b1339_g1070, b1339_A1336, fun _ h => nomatch h⟩) ?_ ?_
      · refine steps_cons (fun own a wx hf hsl hE => ?_) ?_
        · obtain ⟨s_6, -⟩ := hsl
          exact sg_plain rfl rfl (or_move (s_6.trans e1339_6))
        refine steps_cons (fun own a wx hf hsl hE => ?_) ?_
        · obtain ⟨s_10, -⟩ := hsl
          exact sg_plain rfl rfl (or_field fo59_0 (s_10.trans e1339_10) (by rfl))
        refine steps_cons (fun own a wx hf hsl hE => ?_) ?_
        · obtain ⟨(f_48 : a.eval (.tmp 48) = .pointer (some ⟨g1326, 0, none⟩)), -⟩ := hf
          exact sg_plain rfl rfl (or_load1 to57 f_48 (Blk.at_ (BlkO.evo (by decide) hE b1339_g1326).2 0 rfl))
        refine steps_cons (fun own a wx hf hsl hE => ?_) ?_
        · obtain ⟨(f_49 : a.eval (.tmp 49) = .slice A1325 x1324.1.length cA1325), -⟩ := hf
          exact sg_plain rfl rfl (or_len tu57 f_49 rfl)
        refine steps_cons (fun own a wx hf hsl hE => ?_) ?_
        · obtain ⟨(f_47 : a.eval (.tmp 47) = .func (.func 29) #[] #[.pointer (some ⟨g1070, 0, none⟩)]), (f_50 : a.eval (.tmp 50) = .int .i64 (x1324.1.length : Int)), (b_g1070 : BlkO own 1338 wx g1070 33 #[.slice A1336 r1335.length cA1336]), (b_A1336 : RwO own 1337 [] wx 5 R5 A1336 cA1336 r1335), -⟩ := hf
          exact sg_plain rfl rfl (or_callf cf29 f_47 (args1 f_50) rfl (block_Bytes_1_w _ (forth own (look0 [(1337, 2), (1338, 1)])) (x1324.1.length : Int) r1335 g1070 33 A1336 cA1336 (look0_le rfl) (BlkO.forth_ (m := (look0 [(1337, 2), (1338, 1)])) b_g1070) (RwO.forth_ (m := (look0 [(1337, 2), (1338, 1)])) b_A1336) r1340 hr1340) (post_mems (m := (look0 [(1337, 2), (1338, 1)])) (m' := (look0 [(1, 1343), (2, 1342)])) (hm_of rfl) (fun own' w' a' x h1 h => ⟨x, h1, ⟨RwO.back_ h.1 (by decide) (.inl (Rep.fl_flat _)), BlkO.back_ h.2 (by decide)⟩⟩)))
        exact steps_nil
      intro own1344 a1344 w1344 hd1344 hz1344 hk1344 hf1344 hE1344
      have e1344_1 : a1344.eval (.tmp 1) = .pointer (some ⟨g1061, 0, none⟩) := (hk1344 1 rfl).trans e1339_1
      have e1344_5 : a1344.eval (.tmp 5) = .pointer (some ⟨g1070, 0, none⟩) := (hk1344 5 rfl).trans e1339_5
      have e1344_6 : a1344.eval (.tmp 6) = .func (.func 29) #[] #[.pointer (some ⟨g1070, 0, none⟩)] := (hk1344 6 rfl).trans e1339_6
      have e1344_7 : a1344.eval (.tmp 7) = .func (.func 31) #[] #[.pointer (some ⟨g1070, 0, none⟩)] := (hk1344 7 rfl).trans e1339_7
      have e1344_8 : a1344.eval (.tmp 8) = .pointer (some ⟨g1075, 0, none⟩) := (hk1344 8 rfl).trans e1339_8
      have e1344_10 : a1344.eval (.tmp 10) = .pointer (some ⟨g1326, 0, none⟩) := (hk1344 10 rfl).trans e1339_10
      have e1344_33 : a1344.eval (.tmp 33) = .slice An1_0 n1.1.length cn1_0 := (hk1344 33 rfl).trans e1339_33
      have e1344_34 : a1344.eval (.tmp 34) = .int .i64 (n1.1.length : Int) := (hk1344 34 rfl).trans e1339_34
      have e1344_35 : a1344.eval (.tmp 35) = .int .i64 x1205 := (hk1344 35 rfl).trans e1339_35
      obtain ⟨⟨⟨A1341, cA1341⟩, (f_51 : a1344.eval (.tmp 51) = .tuple #[]), (b_A1341 : RwO own1344 1342 [] w1344 5 R5 A1341 cA1341 r1340), (b_g1070 : BlkO own1344 1343 w1344 g1070 33 #[.slice A1341 r1340.length cA1341])⟩, -⟩ := hf1344 [4] rfl
      have hX1344 := Evo.step hX1339 (fun _ => Nat.le_refl 0) hE1344 rfl
      have b1344_g1061 := BlkO.evo (by decide) hE1344 b1339_g1061
      have b1344_An1_0 := RdO.evo rfl hE1344 b1339_An1_0
      have b1344_An1_1 := RdO.evo rfl hE1344 b1339_An1_1
      have b1344_g1075 := BlkO.evo (by decide) hE1344 b1339_g1075
      have b1344_A1325 := RdO.evo rfl hE1344 b1339_A1325
      have b1344_g1326 := BlkO.evo (by decide) hE1344 b1339_g1326
      have b1344_g1070 := b_g1070
      have b1344_A1341 := b_A1341
      refine rg_plain_seq (n := 115) (rs := []) (own0 := own1344) (K := [])
          (bs := [0, 1, 3, 0])
          (ds := [⟨[], [10], [], Fct.val 52 (.pointer (some ⟨g1326, 0, none⟩))⟩,
          ⟨[0], [], [], Fct.val 53 (.slice A1325 x1324.1.length cA1325)⟩,
          ⟨[1], [], [], Fct.val 54 (.int .i64 (x1324.1.length : Int))⟩,
          ⟨[], [], [], Fct.val 55 (.int .i64 0)⟩]) (by kernel_rfl) hz1344 hd1344 (fun _ h => nomatch h) ?_ ?_
      · refine steps_cons (fun own a wx hf hsl hE => ?_) ?_
        · obtain ⟨s_10, -⟩ := hsl
          exact sg_plain rfl rfl (or_field fo59_0 (s_10.trans e1344_10) (by rfl))
        refine steps_cons (fun own a wx hf hsl hE => ?_) ?_
        · obtain ⟨(f_52 : a.eval (.tmp 52) = .pointer (some ⟨g1326, 0, none⟩)), -⟩ := hf
          exact sg_plain rfl rfl (or_load1 to57 f_52 (Blk.at_ (BlkO.evo (by decide) hE b1344_g1326).2 0 rfl))
        refine steps_cons (fun own a wx hf hsl hE => ?_) ?_
        · obtain ⟨(f_53 : a.eval (.tmp 53) = .slice A1325 x1324.1.length cA1325), -⟩ := hf
          exact sg_plain rfl rfl (or_len tu57 f_53 rfl)
        refine steps_cons (fun own a wx hf hsl hE => ?_) ?_
        · exact sg_plain rfl rfl (or_move rfl)
        exact steps_nil
      intro own1345 a1345 w1345 hd1345 hz1345 hk1345 hf1345 hE1345
      have e1345_1 : a1345.eval (.tmp 1) = .pointer (some ⟨g1061, 0, none⟩) := (hk1345 1 rfl).trans e1344_1
      have e1345_5 : a1345.eval (.tmp 5) = .pointer (some ⟨g1070, 0, none⟩) := (hk1345 5 rfl).trans e1344_5
      have e1345_6 : a1345.eval (.tmp 6) = .func (.func 29) #[] #[.pointer (some ⟨g1070, 0, none⟩)] := (hk1345 6 rfl).trans e1344_6
      have e1345_7 : a1345.eval (.tmp 7) = .func (.func 31) #[] #[.pointer (some ⟨g1070, 0, none⟩)] := (hk1345 7 rfl).trans e1344_7
      have e1345_8 : a1345.eval (.tmp 8) = .pointer (some ⟨g1075, 0, none⟩) := (hk1345 8 rfl).trans e1344_8
      have e1345_33 : a1345.eval (.tmp 33) = .slice An1_0 n1.1.length cn1_0 := (hk1345 33 rfl).trans e1344_33
      have e1345_34 : a1345.eval (.tmp 34) = .int .i64 (n1.1.length : Int) := (hk1345 34 rfl).trans e1344_34
      have e1345_35 : a1345.eval (.tmp 35) = .int .i64 x1205 := (hk1345 35 rfl).trans e1344_35
      obtain ⟨(f_53 : a1345.eval (.tmp 53) = .slice A1325 x1324.1.length cA1325), (f_54 : a1345.eval (.tmp 54) = .int .i64 (x1324.1.length : Int)), (f_55 : a1345.eval (.tmp 55) = .int .i64 0), -⟩ := hf1345 [1, 2, 3] rfl
      have e1345_53 := f_53
      have e1345_54 := f_54
      have e1345_55 := f_55
      have hX1345 := Evo.step hX1344 (fun _ => Nat.le_refl 0) hE1345 rfl
      have b1345_g1061 := BlkO.evo (by decide) hE1345 b1344_g1061
      have b1345_An1_0 := RdO.evo rfl hE1345 b1344_An1_0
      have b1345_An1_1 := RdO.evo rfl hE1345 b1344_An1_1
      have b1345_g1075 := BlkO.evo (by decide) hE1345 b1344_g1075
      have b1345_A1325 := RdO.evo rfl hE1345 b1344_A1325
      have b1345_g1070 := BlkO.evo (by decide) hE1345 b1344_g1070
      have b1345_A1341 := RwO.evo rfl hE1345 b1344_A1341
      refine fl_block (fun Q1346 hn1346 hx1346 hp1346 => ?_)
      refine fl_loop (body := (fun s => block_Bytes_b2 x1205 x1324 s.1 s.2.1 s.2.2)) (z := zz1317) (show loopO _ _ = _ from hs) (fun (s : (List Int) × (Int × Int) × Int) a wx => match s with | (out1374, x1377, x1378) => ∃ (ox : Own) (A1372 : Option Addr) (c1373 : Nat), a.defers = [] ∧ a.tmps.size = 115 ∧ a.eval (.tmp 1) = .pointer (some ⟨g1061, 0, none⟩) ∧ a.eval (.tmp 5) = .pointer (some ⟨g1070, 0, none⟩) ∧ a.eval (.tmp 6) = .func (.func 29) #[] #[.pointer (some ⟨g1070, 0, none⟩)] ∧ a.eval (.tmp 7) = .func (.func 31) #[] #[.pointer (some ⟨g1070, 0, none⟩)] ∧ a.eval (.tmp 8) = .pointer (some ⟨g1075, 0, none⟩) ∧ a.eval (.tmp 33) = .slice An1_0 n1.1.length cn1_0 ∧ a.eval (.tmp 34) = .int .i64 (n1.1.length : Int) ∧ a.eval (.tmp 35) = .int .i64 x1205 ∧ a.eval (.tmp 53) = .slice A1325 x1324.1.length cA1325 ∧ a.eval (.tmp 54) = .int .i64 (x1324.1.length : Int) ∧ a.eval (.tmp 55) = .int .i64 x1378 ∧ Evo [] (fun _ => 0) ox w wx ∧ BlkO ox 1062 wx g1061 25 #[.slice An1_0 n1.1.length cn1_0, .slice An1_1 n1.2.length cn1_1] ∧ RdO ox [0] wx R59 An1_0 cn1_0 n1.1 ∧ RdO ox [0] wx R27 An1_1 cn1_1 n1.2 ∧ BlkO ox 1371 wx g1070 33 #[.slice A1372 out1374.length c1373] ∧ RwO ox 1375 [] wx 5 R5 A1372 c1373 out1374 ∧ BlkO ox 1376 wx g1075 56 #[.int .i64 x1377.1, .int .i64 x1377.2] ∧ RdO ox [0] wx R56 A1325 cA1325 x1324.1) ?_ ?_
      · exact ⟨(rl [(1203, 1376), (1342, 1375), (1343, 1371)] own1345), A1341, cA1341, hd1345, hz1345, e1345_1, e1345_5, e1345_6, e1345_7, e1345_8, e1345_33, e1345_34, e1345_35, e1345_53, e1345_54, e1345_55, (Evo.rl_ hX1345 (fun _ => Nat.le_refl 0) rfl), (BlkO.rl_ (mm := [(1203, 1376), (1342, 1375), (1343, 1371)]) b1345_g1061), (RdO.rl_ (mm := [(1203, 1376), (1342, 1375), (1343, 1371)]) b1345_An1_0), (RdO.rl_ (mm := [(1203, 1376), (1342, 1375), (1343, 1371)]) b1345_An1_1), (BlkO.rl_ (mm := [(1203, 1376), (1342, 1375), (1343, 1371)]) b1345_g1070), (RwO.rl_ (mm := [(1203, 1376), (1342, 1375), (1343, 1371)]) b1345_A1341), (BlkO.rl_ (mm := [(1203, 1376), (1342, 1375), (1343, 1371)]) b1345_g1075), (RdO.rl_ (mm := [(1203, 1376), (1342, 1375), (1343, 1371)]) b1345_A1325)⟩
      · rintro ⟨out1374, x1377, x1378⟩ zz1403 a1403 w1403 ⟨own1403, A1372, c1373, hd1404, hz1404, e1404_1, e1404_5, e1404_6, e1404_7, e1404_8, e1404_33, e1404_34, e1404_35, e1404_53, e1404_54, e1404_55, hE1404, b1404_g1061, b1404_An1_0, b1404_An1_1, b1404_g1070, b1404_A1372, b1404_g1075, b1404_A1325⟩ hs Q1403 hn1403 hp1403 hz1403
        have hs : block_Bytes_b2 x1205 x1324 out1374 x1377 x1378 = some zz1403 := hs
        refine rg_plain_seq (n := 115) (rs := []) (own0 := own1403) (K := [])
            (bs := [0])
            (ds := [⟨[], [55, 54], [], Fct.val 56 (.bool (decide (x1378 < (x1324.1.length : Int))))⟩]) (by kernel_rfl) hz1404 hd1404 (fun _ h => nomatch h) ?_ ?_
        · refine steps_cons (fun own a wx hf hsl hE => ?_) ?_
          · obtain ⟨s_55, s_54, -⟩ := hsl
            exact sg_plain rfl rfl (or_lss (s_55.trans e1404_55) (s_54.trans e1404_54) rfl)
          exact steps_nil
        intro own1405 a1405 w1405 hd1405 hz1405 hk1405 hf1405 hE1405
        have e1405_1 : a1405.eval (.tmp 1) = .pointer (some ⟨g1061, 0, none⟩) := (hk1405 1 rfl).trans e1404_1
        have e1405_5 : a1405.eval (.tmp 5) = .pointer (some ⟨g1070, 0, none⟩) := (hk1405 5 rfl).trans e1404_5
        have e1405_6 : a1405.eval (.tmp 6) = .func (.func 29) #[] #[.pointer (some ⟨g1070, 0, none⟩)] := (hk1405 6 rfl).trans e1404_6
        have e1405_7 : a1405.eval (.tmp 7) = .func (.func 31) #[] #[.pointer (some ⟨g1070, 0, none⟩)] := (hk1405 7 rfl).trans e1404_7
        have e1405_8 : a1405.eval (.tmp 8) = .pointer (some ⟨g1075, 0, none⟩) := (hk1405 8 rfl).trans e1404_8
        have e1405_33 : a1405.eval (.tmp 33) = .slice An1_0 n1.1.length cn1_0 := (hk1405 33 rfl).trans e1404_33
        have e1405_34 : a1405.eval (.tmp 34) = .int .i64 (n1.1.length : Int) := (hk1405 34 rfl).trans e1404_34
        have e1405_35 : a1405.eval (.tmp 35) = .int .i64 x1205 := (hk1405 35 rfl).trans e1404_35
        have e1405_53 : a1405.eval (.tmp 53) = .slice A1325 x1324.1.length cA1325 := (hk1405 53 rfl).trans e1404_53
        have e1405_54 : a1405.eval (.tmp 54) = .int .i64 (x1324.1.length : Int) := (hk1405 54 rfl).trans e1404_54
        have e1405_55 : a1405.eval (.tmp 55) = .int .i64 x1378 := (hk1405 55 rfl).trans e1404_55
        obtain ⟨(f_56 : a1405.eval (.tmp 56) = .bool (decide (x1378 < (x1324.1.length : Int)))), -⟩ := hf1405 [0] rfl
        have e1405_56 := f_56
        have hX1405 := Evo.step hE1404 (fun _ => Nat.le_refl 0) hE1405 rfl
        have b1405_g1061 := BlkO.evo (by decide) hE1405 b1404_g1061
        have b1405_An1_0 := RdO.evo rfl hE1405 b1404_An1_0
        have b1405_An1_1 := RdO.evo rfl hE1405 b1404_An1_1
        have b1405_g1070 := BlkO.evo (by decide) hE1405 b1404_g1070
        have b1405_A1372 := RwO.evo rfl hE1405 b1404_A1372
        have b1405_g1075 := BlkO.evo (by decide) hE1405 b1404_g1075
        have b1405_A1325 := RdO.evo rfl hE1405 b1404_A1325
        refine fl_seq (fun Q1406 hn1406 hp1406 => ?_)
        refine fl_cond e1405_56 hs (fun c1407 hs => ?_) (fun c1407 hs => ?_)
        · refine fl_skip ?_
          refine hn1406 _ _ ?_
          refine fl_seq (fun Q1408 hn1408 hp1408 => ?_)
          refine fl_block (fun Q1409 hn1409 hx1409 hp1409 => ?_)
          obtain ⟨x1410, hx1410, hs⟩ := obind hs
          refine rg_plain_seq (n := 115) (rs := []) (own0 := own1405) (K := [1412])
              (bs := [0, 1, 0, 7])
              (ds := [⟨[], [53, 55], [], Fct.val 57 (.pointer (some ((adr A1325).add ((x1378 : Int).toNat * R56.s))))⟩,
              ⟨[0], [], [], Fct.val 58 (.agg #[.int .i64 x1410.1, .int .i64 x1410.2])⟩,
              ⟨[], [], [], Fct.blk 1412 12 (fun g => .pointer (some ⟨g, 0, none⟩)) 56 #[.int .i64 0, .int .i64 0]⟩,
              ⟨[2, 1], [], [1412], Fct.blk 1413 12 (fun g => .pointer (some ⟨g, 0, none⟩)) 56 #[.int .i64 x1410.1, .int .i64 x1410.2]⟩]) (by kernel_rfl) hz1405 hd1405 (fun _ h => nomatch h) ?_ ?_
          · refine steps_cons (fun own a wx hf hsl hE => ?_) ?_
            · obtain ⟨s_53, s_55, -⟩ := hsl
              exact sg_plain rfl rfl (or_index (R := R56) (l := x1324.1) tl57 (s_53.trans e1405_53) (s_55.trans e1405_55) (RdO.some_ b1405_A1325 hx1410) hx1410)
            refine steps_cons (fun own a wx hf hsl hE => ?_) ?_
            · obtain ⟨(f_57 : a.eval (.tmp 57) = .pointer (some ((adr A1325).add ((x1378 : Int).toNat * R56.s)))), -⟩ := hf
              exact sg_plain rfl rfl (or_load (l := E56.f x1410) ta56 f_57 (RdO.cells (F := E56) (RdO.evo rfl hE b1405_A1325) hx1410) rfl)
            refine steps_cons (fun own a wx hf hsl hE => ?_) ?_
            · exact sg_plain rfl rfl (or_new [] rfl rfl trivial (by kernel_rfl))
            refine steps_cons (fun own a wx hf hsl hE => ?_) ?_
            · obtain ⟨⟨g1411, (f_12 : a.eval (.tmp 12) = .pointer (some ⟨g1411, 0, none⟩)), (b_g1411 : BlkO own 1412 wx g1411 56 #[.int .i64 0, .int .i64 0])⟩, (f_58 : a.eval (.tmp 58) = .agg #[.int .i64 x1410.1, .int .i64 x1410.2]), -⟩ := hf
              exact sg_plain rfl rfl (or_store (l := #[.int .i64 x1410.1, .int .i64 x1410.2]) (lab := 1412) (lab2 := 1413) ts56 f_12 f_58 b_g1411 (by simp) (by kernel_rfl) (mem_of rfl) (by decide) (by kernel_rfl) (fun own' a' w' ha hb => ⟨_, (ha 12).trans f_12, hb⟩))
            exact steps_nil
          intro own1414 a1414 w1414 hd1414 hz1414 hk1414 hf1414 hE1414
          have e1414_1 : a1414.eval (.tmp 1) = .pointer (some ⟨g1061, 0, none⟩) := (hk1414 1 rfl).trans e1405_1
          have e1414_5 : a1414.eval (.tmp 5) = .pointer (some ⟨g1070, 0, none⟩) := (hk1414 5 rfl).trans e1405_5
          have e1414_6 : a1414.eval (.tmp 6) = .func (.func 29) #[] #[.pointer (some ⟨g1070, 0, none⟩)] := (hk1414 6 rfl).trans e1405_6
          have e1414_7 : a1414.eval (.tmp 7) = .func (.func 31) #[] #[.pointer (some ⟨g1070, 0, none⟩)] := (hk1414 7 rfl).trans e1405_7
          have e1414_8 : a1414.eval (.tmp 8) = .pointer (some ⟨g1075, 0, none⟩) := (hk1414 8 rfl).trans e1405_8
          have e1414_33 : a1414.eval (.tmp 33) = .slice An1_0 n1.1.length cn1_0 := (hk1414 33 rfl).trans e1405_33
          have e1414_34 : a1414.eval (.tmp 34) = .int .i64 (n1.1.length : Int) := (hk1414 34 rfl).trans e1405_34
          have e1414_35 : a1414.eval (.tmp 35) = .int .i64 x1205 := (hk1414 35 rfl).trans e1405_35
          have e1414_53 : a1414.eval (.tmp 53) = .slice A1325 x1324.1.length cA1325 := (hk1414 53 rfl).trans e1405_53
          have e1414_54 : a1414.eval (.tmp 54) = .int .i64 (x1324.1.length : Int) := (hk1414 54 rfl).trans e1405_54
          have e1414_55 : a1414.eval (.tmp 55) = .int .i64 x1378 := (hk1414 55 rfl).trans e1405_55
          obtain ⟨⟨g1411, (f_12 : a1414.eval (.tmp 12) = .pointer (some ⟨g1411, 0, none⟩)), (b_g1411 : BlkO own1414 1413 w1414 g1411 56 #[.int .i64 x1410.1, .int .i64 x1410.2])⟩, -⟩ := hf1414 [3] rfl
          have e1414_12 := f_12
          have hX1414 := Evo.step hX1405 (fun _ => Nat.le_refl 0) hE1414 rfl
          have b1414_g1061 := BlkO.evo (by decide) hE1414 b1405_g1061
          have b1414_An1_0 := RdO.evo rfl hE1414 b1405_An1_0
          have b1414_An1_1 := RdO.evo rfl hE1414 b1405_An1_1
          have b1414_g1070 := BlkO.evo (by decide) hE1414 b1405_g1070
          have b1414_A1372 := RwO.evo rfl hE1414 b1405_A1372
          have b1414_g1075 := BlkO.evo (by decide) hE1414 b1405_g1075
          have b1414_A1325 := RdO.evo rfl hE1414 b1405_A1325
          have b1414_g1411 := b_g1411
          obtain ⟨r1415, hr1415, hs⟩ := obind hs
          refine rg_plain_seq (n := 115) (rs := [Fct.at_ 1371 g1070 33 #[.slice A1372 out1374.length c1373], Fct.rowAt 1375 [] 5 R5 A1372 c1373 out1374]) (own0 := own1414) (K := [1371, 1375])
              (bs := [0, 0, 2, 0, 8, 30, 63])
              (ds := [⟨[], [7], [], Fct.val 59 (.func (.func 31) #[] #[.pointer (some ⟨g1070, 0, none⟩)])⟩,
              ⟨[], [12], [], Fct.val 60 (.pointer (some ⟨g1411, 0, none⟩))⟩,
              ⟨[1], [], [], Fct.val 61 (.int .i64 x1410.1)⟩,
              ⟨[], [8], [], Fct.val 62 (.pointer (some ⟨g1075, 0, none⟩))⟩,
              ⟨[3], [], [], Fct.val 63 (.int .i64 x1377.1)⟩,
              ⟨[2, 4], [], [], Fct.val 64 (.int .i64 (sb x1410.1 x1377.1))⟩,
              ⟨[0, 5, 7, 8], [], [1371, 1375], Fct.mems [1417, 1418] 65 (fun (x : Option Addr × Nat) => .tuple #[]) (fun (x : Option Addr × Nat) own w => RwO own 1417 [] w 5 R5 x.1 x.2 r1415 ∧ BlkO own 1418 w g1070 33 #[.slice x.1 r1415.length x.2]) (fun hk he h => ⟨RwO.evo (hits_sub hk (by decide)) he h.1, BlkO.evo (not_hit hk (by decide)) he h.2⟩)⟩]) (by kernel_rfl) hz1414 hd1414 (by simp only [List.forall_mem_cons]; exact ⟨b1414_g1070, b1414_A1372, fun _ h => nomatch h⟩) ?_ ?_
          · refine steps_cons (fun own a wx hf hsl hE => ?_) ?_
            · obtain ⟨s_7, -⟩ := hsl
              exact sg_plain rfl rfl (or_move (s_7.trans e1414_7))
            refine steps_cons (fun own a wx hf hsl hE => ?_) ?_
            · obtain ⟨s_12, -⟩ := hsl
              exact sg_plain rfl rfl (or_field fo56_0 (s_12.trans e1414_12) (by rfl))
            refine steps_cons (fun own a wx hf hsl hE => ?_) ?_
            · obtain ⟨(f_60 : a.eval (.tmp 60) = .pointer (some ⟨g1411, 0, none⟩)), -⟩ := hf
              exact sg_plain rfl rfl (or_load1 to3 f_60 (Blk.at_ (BlkO.evo (by decide) hE b1414_g1411).2 0 rfl))
            refine steps_cons (fun own a wx hf hsl hE => ?_) ?_
            · obtain ⟨s_8, -⟩ := hsl
              exact sg_plain rfl rfl (or_field fo56_0 (s_8.trans e1414_8) (by rfl))
            refine steps_cons (fun own a wx hf hsl hE => ?_) ?_
            · obtain ⟨(f_62 : a.eval (.tmp 62) = .pointer (some ⟨g1075, 0, none⟩)), -⟩ := hf
              exact sg_plain rfl rfl (or_load1 to3 f_62 (Blk.at_ (BlkO.evo (by decide) hE b1414_g1075).2 0 rfl))
            refine steps_cons (fun own a wx hf hsl hE => ?_) ?_
            · obtain ⟨(f_61 : a.eval (.tmp 61) = .int .i64 x1410.1), (f_63 : a.eval (.tmp 63) = .int .i64 x1377.1), -⟩ := hf
              exact sg_plain rfl rfl (or_sub f_61 f_63 rfl)
            refine steps_cons (fun own a wx hf hsl hE => ?_) ?_
            · obtain ⟨(f_59 : a.eval (.tmp 59) = .func (.func 31) #[] #[.pointer (some ⟨g1070, 0, none⟩)]), (f_64 : a.eval (.tmp 64) = .int .i64 (sb x1410.1 x1377.1)), (b_g1070 : BlkO own 1371 wx g1070 33 #[.slice A1372 out1374.length c1373]), (b_A1372 : RwO own 1375 [] wx 5 R5 A1372 c1373 out1374), -⟩ := hf
              exact sg_plain rfl rfl (or_callf cf31 f_59 (args1 f_64) rfl (block_Bytes_2_w _ (forth own (look0 [(1371, 1), (1375, 2)])) (sb x1410.1 x1377.1) out1374 g1070 33 A1372 c1373 (look0_le rfl) (BlkO.forth_ (m := (look0 [(1371, 1), (1375, 2)])) b_g1070) (RwO.forth_ (m := (look0 [(1371, 1), (1375, 2)])) b_A1372) r1415 hr1415) (post_mems (m := (look0 [(1371, 1), (1375, 2)])) (m' := (look0 [(1, 1418), (2, 1417)])) (hm_of rfl) (fun own' w' a' x h1 h => ⟨x, h1, ⟨RwO.back_ h.1 (by decide) (.inl (Rep.fl_flat _)), BlkO.back_ h.2 (by decide)⟩⟩)))
            exact steps_nil
          intro own1419 a1419 w1419 hd1419 hz1419 hk1419 hf1419 hE1419
          have e1419_1 : a1419.eval (.tmp 1) = .pointer (some ⟨g1061, 0, none⟩) := (hk1419 1 rfl).trans e1414_1
          have e1419_5 : a1419.eval (.tmp 5) = .pointer (some ⟨g1070, 0, none⟩) := (hk1419 5 rfl).trans e1414_5
          have e1419_6 : a1419.eval (.tmp 6) = .func (.func 29) #[] #[.pointer (some ⟨g1070, 0, none⟩)] := (hk1419 6 rfl).trans e1414_6
          have e1419_7 : a1419.eval (.tmp 7) = .func (.func 31) #[] #[.pointer (some ⟨g1070, 0, none⟩)] := (hk1419 7 rfl).trans e1414_7
          have e1419_8 : a1419.eval (.tmp 8) = .pointer (some ⟨g1075, 0, none⟩) := (hk1419 8 rfl).trans e1414_8
          have e1419_12 : a1419.eval (.tmp 12) = .pointer (some ⟨g1411, 0, none⟩) := (hk1419 12 rfl).trans e1414_12
          have e1419_33 : a1419.eval (.tmp 33) = .slice An1_0 n1.1.length cn1_0 := (hk1419 33 rfl).trans e1414_33
          have e1419_34 : a1419.eval (.tmp 34) = .int .i64 (n1.1.length : Int) := (hk1419 34 rfl).trans e1414_34
          have e1419_35 : a1419.eval (.tmp 35) = .int .i64 x1205 := (hk1419 35 rfl).trans e1414_35
          have e1419_53 : a1419.eval (.tmp 53) = .slice A1325 x1324.1.length cA1325 := (hk1419 53 rfl).trans e1414_53
          have e1419_54 : a1419.eval (.tmp 54) = .int .i64 (x1324.1.length : Int) := (hk1419 54 rfl).trans e1414_54
          have e1419_55 : a1419.eval (.tmp 55) = .int .i64 x1378 := (hk1419 55 rfl).trans e1414_55
          obtain ⟨⟨⟨A1416, cA1416⟩, (f_65 : a1419.eval (.tmp 65) = .tuple #[]), (b_A1416 : RwO own1419 1417 [] w1419 5 R5 A1416 cA1416 r1415), (b_g1070 : BlkO own1419 1418 w1419 g1070 33 #[.slice A1416 r1415.length cA1416])⟩, -⟩ := hf1419 [6] rfl
          have hX1419 := Evo.step hX1414 (fun _ => Nat.le_refl 0) hE1419 rfl
          have b1419_g1061 := BlkO.evo (by decide) hE1419 b1414_g1061
          have b1419_An1_0 := RdO.evo rfl hE1419 b1414_An1_0
          have b1419_An1_1 := RdO.evo rfl hE1419 b1414_An1_1
          have b1419_g1075 := BlkO.evo (by decide) hE1419 b1414_g1075
          have b1419_A1325 := RdO.evo rfl hE1419 b1414_A1325
          have b1419_g1411 := BlkO.evo (by decide) hE1419 b1414_g1411
          have b1419_g1070 := b_g1070
          have b1419_A1416 := b_A1416
          obtain ⟨r1420, hr1420, hs⟩ := obind hs
          refine rg_plain_seq (n := 115) (rs := [Fct.at_ 1418 g1070 33 #[.slice A1416 r1415.length cA1416], Fct.rowAt 1417 [] 5 R5 A1416 cA1416 r1415]) (own0 := own1419) (K := [1418, 1417])
              (bs := [0, 0, 2, 0, 8, 30, 63])
              (ds := [⟨[], [7], [], Fct.val 66 (.func (.func 31) #[] #[.pointer (some ⟨g1070, 0, none⟩)])⟩,
              ⟨[], [12], [], Fct.val 67 (.pointer (some ⟨g1411, 1, none⟩))⟩,
              ⟨[1], [], [], Fct.val 68 (.int .i64 x1410.2)⟩,
              ⟨[], [8], [], Fct.val 69 (.pointer (some ⟨g1075, 1, none⟩))⟩,
              ⟨[3], [], [], Fct.val 70 (.int .i64 x1377.2)⟩,
              ⟨[2, 4], [], [], Fct.val 71 (.int .i64 (sb x1410.2 x1377.2))⟩,
              ⟨[0, 5, 7, 8], [], [1418, 1417], Fct.mems [1422, 1423] 72 (fun (x : Option Addr × Nat) => .tuple #[]) (fun (x : Option Addr × Nat) own w => RwO own 1422 [] w 5 R5 x.1 x.2 r1420 ∧ BlkO own 1423 w g1070 33 #[.slice x.1 r1420.length x.2]) (fun hk he h => ⟨RwO.evo (hits_sub hk (by decide)) he h.1, BlkO.evo (not_hit hk (by decide)) he h.2⟩)⟩]) (by kernel_rfl) hz1419 hd1419 (by simp only [List.forall_mem_cons]; exact ⟨b1419_g1070, b1419_A1416, fun _ h => nomatch h⟩) ?_ ?_
          · refine steps_cons (fun own a wx hf hsl hE => ?_) ?_
            · obtain ⟨s_7, -⟩ := hsl
              exact sg_plain rfl rfl (or_move (s_7.trans e1419_7))
            refine steps_cons (fun own a wx hf hsl hE => ?_) ?_
            · obtain ⟨s_12, -⟩ := hsl
              exact sg_plain rfl rfl (or_field fo56_1 (s_12.trans e1419_12) (by rfl))
            refine steps_cons (fun own a wx hf hsl hE => ?_) ?_
            · obtain ⟨(f_67 : a.eval (.tmp 67) = .pointer (some ⟨g1411, 1, none⟩)), -⟩ := hf
              exact sg_plain rfl rfl (or_load1 to3 f_67 (Blk.at_ (BlkO.evo (by decide) hE b1419_g1411).2 1 rfl))
            refine steps_cons (fun own a wx hf hsl hE => ?_) ?_
            · obtain ⟨s_8, -⟩ := hsl
              exact sg_plain rfl rfl (or_field fo56_1 (s_8.trans e1419_8) (by rfl))
            refine steps_cons (fun own a wx hf hsl hE => ?_) ?_
            · obtain ⟨(f_69 : a.eval (.tmp 69) = .pointer (some ⟨g1075, 1, none⟩)), -⟩ := hf
              exact sg_plain rfl rfl (or_load1 to3 f_69 (Blk.at_ (BlkO.evo (by decide) hE b1419_g1075).2 1 rfl))
            refine steps_cons (fun own a wx hf hsl hE => ?_) ?_
            · obtain ⟨(f_68 : a.eval (.tmp 68) = .int .i64 x1410.2), (f_70 : a.eval (.tmp 70) = .int .i64 x1377.2), -⟩ := hf
              exact sg_plain rfl rfl (or_sub f_68 f_70 rfl)
            refine steps_cons (fun own a wx hf hsl hE => ?_) ?_
            · obtain ⟨(f_66 : a.eval (.tmp 66) = .func (.func 31) #[] #[.pointer (some ⟨g1070, 0, none⟩)]), (f_71 : a.eval (.tmp 71) = .int .i64 (sb x1410.2 x1377.2)), (b_g1070 : BlkO own 1418 wx g1070 33 #[.slice A1416 r1415.length cA1416]), (b_A1416 : RwO own 1417 [] wx 5 R5 A1416 cA1416 r1415), -⟩ := hf
              exact sg_plain rfl rfl (or_callf cf31 f_66 (args1 f_71) rfl (block_Bytes_2_w _ (forth own (look0 [(1417, 2), (1418, 1)])) (sb x1410.2 x1377.2) r1415 g1070 33 A1416 cA1416 (look0_le rfl) (BlkO.forth_ (m := (look0 [(1417, 2), (1418, 1)])) b_g1070) (RwO.forth_ (m := (look0 [(1417, 2), (1418, 1)])) b_A1416) r1420 hr1420) (post_mems (m := (look0 [(1417, 2), (1418, 1)])) (m' := (look0 [(1, 1423), (2, 1422)])) (hm_of rfl) (fun own' w' a' x h1 h => ⟨x, h1, ⟨RwO.back_ h.1 (by decide) (.inl (Rep.fl_flat _)), BlkO.back_ h.2 (by decide)⟩⟩)))
            exact steps_nil
          intro own1424 a1424 w1424 hd1424 hz1424 hk1424 hf1424 hE1424
          have e1424_1 : a1424.eval (.tmp 1) = .pointer (some ⟨g1061, 0, none⟩) := (hk1424 1 rfl).trans e1419_1
          have e1424_5 : a1424.eval (.tmp 5) = .pointer (some ⟨g1070, 0, none⟩) := (hk1424 5 rfl).trans e1419_5
          have e1424_6 : a1424.eval (.tmp 6) = .func (.func 29) #[] #[.pointer (some ⟨g1070, 0, none⟩)] := (hk1424 6 rfl).trans e1419_6
          have e1424_7 : a1424.eval (.tmp 7) = .func (.func 31) #[] #[.pointer (some ⟨g1070, 0, none⟩)] := (hk1424 7 rfl).trans e1419_7
          have e1424_8 : a1424.eval (.tmp 8) = .pointer (some ⟨g1075, 0, none⟩) := (hk1424 8 rfl).trans e1419_8
          have e1424_12 : a1424.eval (.tmp 12) = .pointer (some ⟨g1411, 0, none⟩) := (hk1424 12 rfl).trans e1419_12
          have e1424_33 : a1424.eval (.tmp 33) = .slice An1_0 n1.1.length cn1_0 := (hk1424 33 rfl).trans e1419_33
          have e1424_34 : a1424.eval (.tmp 34) = .int .i64 (n1.1.length : Int) := (hk1424 34 rfl).trans e1419_34
          have e1424_35 : a1424.eval (.tmp 35) = .int .i64 x1205 := (hk1424 35 rfl).trans e1419_35
          have e1424_53 : a1424.eval (.tmp 53) = .slice A1325 x1324.1.length cA1325 := (hk1424 53 rfl).trans e1419_53
          have e1424_54 : a1424.eval (.tmp 54) = .int .i64 (x1324.1.length : Int) := (hk1424 54 rfl).trans e1419_54
          have e1424_55 : a1424.eval (.tmp 55) = .int .i64 x1378 := (hk1424 55 rfl).trans e1419_55
          obtain ⟨⟨⟨A1421, cA1421⟩, (f_72 : a1424.eval (.tmp 72) = .tuple #[]), (b_A1421 : RwO own1424 1422 [] w1424 5 R5 A1421 cA1421 r1420), (b_g1070 : BlkO own1424 1423 w1424 g1070 33 #[.slice A1421 r1420.length cA1421])⟩, -⟩ := hf1424 [6] rfl
          have hX1424 := Evo.step hX1419 (fun _ => Nat.le_refl 0) hE1424 rfl
          have b1424_g1061 := BlkO.evo (by decide) hE1424 b1419_g1061
          have b1424_An1_0 := RdO.evo rfl hE1424 b1419_An1_0
          have b1424_An1_1 := RdO.evo rfl hE1424 b1419_An1_1
          have b1424_g1075 := BlkO.evo (by decide) hE1424 b1419_g1075
          have b1424_A1325 := RdO.evo rfl hE1424 b1419_A1325
          have b1424_g1411 := BlkO.evo (by decide) hE1424 b1419_g1411
          have b1424_g1070 := b_g1070
          have b1424_A1421 := b_A1421
          refine rg_plain (n := 115) (rs := [Fct.at_ 1376 g1075 56 #[.int .i64 x1377.1, .int .i64 x1377.2]]) (own0 := own1424) (K := [1376])
              (bs := [0, 1])
              (ds := [⟨[], [12], [], Fct.val 73 (.agg #[.int .i64 x1410.1, .int .i64 x1410.2])⟩,
              ⟨[0, 2], [8], [1376], Fct.at_ 1425 g1075 56 #[.int .i64 x1410.1, .int .i64 x1410.2]⟩]) (by kernel_rfl) hz1424 hd1424 (by simp only [List.forall_mem_cons]; exact ⟨b1424_g1075, fun _ h => nomatch h⟩) ?_ ?_
          · refine steps_cons (fun own a wx hf hsl hE => ?_) ?_
            · obtain ⟨s_12, -⟩ := hsl
              exact sg_plain rfl rfl (or_load (l := [.int .i64 x1410.1, .int .i64 x1410.2]) ta56 (s_12.trans e1424_12) (Blk.cellsFrom (BlkO.evo (by decide) hE b1424_g1411).2 0 rfl) rfl)
            refine steps_cons (fun own a wx hf hsl hE => ?_) ?_
            · obtain ⟨(f_73 : a.eval (.tmp 73) = .agg #[.int .i64 x1410.1, .int .i64 x1410.2]), (b_g1075 : BlkO own 1376 wx g1075 56 #[.int .i64 x1377.1, .int .i64 x1377.2]), -⟩ := hf
              obtain ⟨s_8, -⟩ := hsl
              exact sg_plain rfl rfl (or_store (l := #[.int .i64 x1410.1, .int .i64 x1410.2]) (lab := 1376) (lab2 := 1425) ts56 (s_8.trans e1424_8) f_73 b_g1075 (by simp) (by kernel_rfl) (mem_of rfl) (by decide) (by kernel_rfl) (fun own' a' w' ha hb => hb))
            exact steps_nil
          intro own1426 a1426 w1426 hd1426 hz1426 hk1426 hf1426 hE1426
          have e1426_1 : a1426.eval (.tmp 1) = .pointer (some ⟨g1061, 0, none⟩) := (hk1426 1 rfl).trans e1424_1
          have e1426_5 : a1426.eval (.tmp 5) = .pointer (some ⟨g1070, 0, none⟩) := (hk1426 5 rfl).trans e1424_5
          have e1426_6 : a1426.eval (.tmp 6) = .func (.func 29) #[] #[.pointer (some ⟨g1070, 0, none⟩)] := (hk1426 6 rfl).trans e1424_6
          have e1426_7 : a1426.eval (.tmp 7) = .func (.func 31) #[] #[.pointer (some ⟨g1070, 0, none⟩)] := (hk1426 7 rfl).trans e1424_7
          have e1426_8 : a1426.eval (.tmp 8) = .pointer (some ⟨g1075, 0, none⟩) := (hk1426 8 rfl).trans e1424_8
          have e1426_33 : a1426.eval (.tmp 33) = .slice An1_0 n1.1.length cn1_0 := (hk1426 33 rfl).trans e1424_33
          have e1426_34 : a1426.eval (.tmp 34) = .int .i64 (n1.1.length : Int) := (hk1426 34 rfl).trans e1424_34
          have e1426_35 : a1426.eval (.tmp 35) = .int .i64 x1205 := (hk1426 35 rfl).trans e1424_35
          have e1426_53 : a1426.eval (.tmp 53) = .slice A1325 x1324.1.length cA1325 := (hk1426 53 rfl).trans e1424_53
          have e1426_54 : a1426.eval (.tmp 54) = .int .i64 (x1324.1.length : Int) := (hk1426 54 rfl).trans e1424_54
          have e1426_55 : a1426.eval (.tmp 55) = .int .i64 x1378 := (hk1426 55 rfl).trans e1424_55
          obtain ⟨(b_g1075 : BlkO own1426 1425 w1426 g1075 56 #[.int .i64 x1410.1, .int .i64 x1410.2]), -⟩ := hf1426 [1] rfl
          have hX1426 := Evo.step hX1424 (fun _ => Nat.le_refl 0) hE1426 rfl
          have b1426_g1061 := BlkO.evo (by decide) hE1426 b1424_g1061
          have b1426_An1_0 := RdO.evo rfl hE1426 b1424_An1_0
          have b1426_An1_1 := RdO.evo rfl hE1426 b1424_An1_1
          have b1426_A1325 := RdO.evo rfl hE1426 b1424_A1325
          have b1426_g1070 := BlkO.evo (by decide) hE1426 b1424_g1070
          have b1426_A1421 := RwO.evo rfl hE1426 b1424_A1421
          have b1426_g1075 := b_g1075
          refine hn1409 _ _ ?_
          refine hn1408 _ _ ?_
          refine rg_plain (n := 115) (rs := []) (own0 := own1426) (K := [])
              (bs := [0, 1])
              (ds := [⟨[], [55], [], Fct.val 74 (.int .i64 (ad x1378 1))⟩,
              ⟨[0], [], [], Fct.val 55 (.int .i64 (ad x1378 1))⟩]) (by kernel_rfl) hz1426 hd1426 (fun _ h => nomatch h) ?_ ?_
          · refine steps_cons (fun own a wx hf hsl hE => ?_) ?_
            · obtain ⟨s_55, -⟩ := hsl
              exact sg_plain rfl rfl (or_add (s_55.trans e1426_55) rfl rfl)
            refine steps_cons (fun own a wx hf hsl hE => ?_) ?_
            · obtain ⟨(f_74 : a.eval (.tmp 74) = .int .i64 (ad x1378 1)), -⟩ := hf
              exact sg_plain rfl rfl (or_move f_74)
            exact steps_nil
          intro own1427 a1427 w1427 hd1427 hz1427 hk1427 hf1427 hE1427
          have e1427_1 : a1427.eval (.tmp 1) = .pointer (some ⟨g1061, 0, none⟩) := (hk1427 1 rfl).trans e1426_1
          have e1427_5 : a1427.eval (.tmp 5) = .pointer (some ⟨g1070, 0, none⟩) := (hk1427 5 rfl).trans e1426_5
          have e1427_6 : a1427.eval (.tmp 6) = .func (.func 29) #[] #[.pointer (some ⟨g1070, 0, none⟩)] := (hk1427 6 rfl).trans e1426_6
          have e1427_7 : a1427.eval (.tmp 7) = .func (.func 31) #[] #[.pointer (some ⟨g1070, 0, none⟩)] := (hk1427 7 rfl).trans e1426_7
          have e1427_8 : a1427.eval (.tmp 8) = .pointer (some ⟨g1075, 0, none⟩) := (hk1427 8 rfl).trans e1426_8
          have e1427_33 : a1427.eval (.tmp 33) = .slice An1_0 n1.1.length cn1_0 := (hk1427 33 rfl).trans e1426_33
          have e1427_34 : a1427.eval (.tmp 34) = .int .i64 (n1.1.length : Int) := (hk1427 34 rfl).trans e1426_34
          have e1427_35 : a1427.eval (.tmp 35) = .int .i64 x1205 := (hk1427 35 rfl).trans e1426_35
          have e1427_53 : a1427.eval (.tmp 53) = .slice A1325 x1324.1.length cA1325 := (hk1427 53 rfl).trans e1426_53
          have e1427_54 : a1427.eval (.tmp 54) = .int .i64 (x1324.1.length : Int) := (hk1427 54 rfl).trans e1426_54
          obtain ⟨(f_55 : a1427.eval (.tmp 55) = .int .i64 (ad x1378 1)), -⟩ := hf1427 [1] rfl
          have e1427_55 := f_55
          have hX1427 := Evo.step hX1426 (fun _ => Nat.le_refl 0) hE1427 rfl
          have b1427_g1061 := BlkO.evo (by decide) hE1427 b1426_g1061
          have b1427_An1_0 := RdO.evo rfl hE1427 b1426_An1_0
          have b1427_An1_1 := RdO.evo rfl hE1427 b1426_An1_1
          have b1427_A1325 := RdO.evo rfl hE1427 b1426_A1325
          have b1427_g1070 := BlkO.evo (by decide) hE1427 b1426_g1070
          have b1427_A1421 := RwO.evo rfl hE1427 b1426_A1421
          have b1427_g1075 := BlkO.evo (by decide) hE1427 b1426_g1075
          exact hn1403 _ _ _ hs ⟨(rl [(1422, 1375), (1423, 1371), (1425, 1376)] own1427), A1421, cA1421, hd1427, hz1427, e1427_1, e1427_5, e1427_6, e1427_7, e1427_8, e1427_33, e1427_34, e1427_35, e1427_53, e1427_54, e1427_55, (Evo.rl_ hX1427 (fun _ => Nat.le_refl 0) rfl), (BlkO.rl_ (mm := [(1422, 1375), (1423, 1371), (1425, 1376)]) b1427_g1061), (RdO.rl_ (mm := [(1422, 1375), (1423, 1371), (1425, 1376)]) b1427_An1_0), (RdO.rl_ (mm := [(1422, 1375), (1423, 1371), (1425, 1376)]) b1427_An1_1), (BlkO.rl_ (mm := [(1422, 1375), (1423, 1371), (1425, 1376)]) b1427_g1070), (RwO.rl_ (mm := [(1422, 1375), (1423, 1371), (1425, 1376)]) b1427_A1421), (BlkO.rl_ (mm := [(1422, 1375), (1423, 1371), (1425, 1376)]) b1427_g1075), (RdO.rl_ (mm := [(1422, 1375), (1423, 1371), (1425, 1376)]) b1427_A1325)⟩
        refine fl_exit ?_
        refine hp1406 _ _ _ rfl ?_
        replace hs := hz1403 _ hs
        refine hp1403 _ _ _ rfl ?_
        refine hx1346 _ _ ?_
        refine hn1323 _ _ ?_
        refine hn1322 _ _ ?_
        refine rg_plain (n := 115) (rs := []) (own0 := own1405) (K := [])
            (bs := [0, 1])
            (ds := [⟨[], [35], [], Fct.val 75 (.int .i64 (ad x1205 1))⟩,
            ⟨[0], [], [], Fct.val 35 (.int .i64 (ad x1205 1))⟩]) (by kernel_rfl) hz1405 hd1405 (fun _ h => nomatch h) ?_ ?_
        · refine steps_cons (fun own a wx hf hsl hE => ?_) ?_
          · obtain ⟨s_35, -⟩ := hsl
            exact sg_plain rfl rfl (or_add (s_35.trans e1405_35) rfl rfl)
          refine steps_cons (fun own a wx hf hsl hE => ?_) ?_
          · obtain ⟨(f_75 : a.eval (.tmp 75) = .int .i64 (ad x1205 1)), -⟩ := hf
            exact sg_plain rfl rfl (or_move f_75)
          exact steps_nil
        intro own1428 a1428 w1428 hd1428 hz1428 hk1428 hf1428 hE1428
        have e1428_1 : a1428.eval (.tmp 1) = .pointer (some ⟨g1061, 0, none⟩) := (hk1428 1 rfl).trans e1405_1
        have e1428_5 : a1428.eval (.tmp 5) = .pointer (some ⟨g1070, 0, none⟩) := (hk1428 5 rfl).trans e1405_5
        have e1428_6 : a1428.eval (.tmp 6) = .func (.func 29) #[] #[.pointer (some ⟨g1070, 0, none⟩)] := (hk1428 6 rfl).trans e1405_6
        have e1428_7 : a1428.eval (.tmp 7) = .func (.func 31) #[] #[.pointer (some ⟨g1070, 0, none⟩)] := (hk1428 7 rfl).trans e1405_7
        have e1428_8 : a1428.eval (.tmp 8) = .pointer (some ⟨g1075, 0, none⟩) := (hk1428 8 rfl).trans e1405_8
        have e1428_33 : a1428.eval (.tmp 33) = .slice An1_0 n1.1.length cn1_0 := (hk1428 33 rfl).trans e1405_33
        have e1428_34 : a1428.eval (.tmp 34) = .int .i64 (n1.1.length : Int) := (hk1428 34 rfl).trans e1405_34
        obtain ⟨(f_35 : a1428.eval (.tmp 35) = .int .i64 (ad x1205 1)), -⟩ := hf1428 [1] rfl
        have e1428_35 := f_35
        have hX1428 := Evo.step hX1405 (fun _ => Nat.le_refl 0) hE1428 rfl
        have b1428_g1061 := BlkO.evo (by decide) hE1428 b1405_g1061
        have b1428_An1_0 := RdO.evo rfl hE1428 b1405_An1_0
        have b1428_An1_1 := RdO.evo rfl hE1428 b1405_An1_1
        have b1428_g1070 := BlkO.evo (by decide) hE1428 b1405_g1070
        have b1428_A1372 := RwO.evo rfl hE1428 b1405_A1372
        have b1428_g1075 := BlkO.evo (by decide) hE1428 b1405_g1075
        exact hn1317 _ _ _ hs ⟨(rl [(1371, 1198), (1375, 1202), (1376, 1203)] own1428), A1372, c1373, hd1428, hz1428, e1428_1, e1428_5, e1428_6, e1428_7, e1428_8, e1428_33, e1428_34, e1428_35, (Evo.rl_ hX1428 (fun _ => Nat.le_refl 0) rfl), (BlkO.rl_ (mm := [(1371, 1198), (1375, 1202), (1376, 1203)]) b1428_g1061), (RdO.rl_ (mm := [(1371, 1198), (1375, 1202), (1376, 1203)]) b1428_An1_0), (RdO.rl_ (mm := [(1371, 1198), (1375, 1202), (1376, 1203)]) b1428_An1_1), (BlkO.rl_ (mm := [(1371, 1198), (1375, 1202), (1376, 1203)]) b1428_g1070), (RwO.rl_ (mm := [(1371, 1198), (1375, 1202), (1376, 1203)]) b1428_A1372), (BlkO.rl_ (mm := [(1371, 1198), (1375, 1202), (1376, 1203)]) b1428_g1075)⟩
    refine fl_exit ?_
    refine hp1320 _ _ _ rfl ?_
    replace hs := hz1317 _ hs
    refine hp1317 _ _ _ rfl ?_
    refine hx1086 _ _ ?_
    refine hn1084 _ _ ?_
    obtain ⟨r1429, hr1429, hs⟩ := obind hs
    refine rg_plain_seq (n := 115) (rs := [Fct.at_ 1198 g1070 33 #[.slice A1199 out1201.length c1200], Fct.rowAt 1202 [] 5 R5 A1199 c1200 out1201]) (own0 := own1319) (K := [1198, 1202])
        (bs := [0, 0, 2, 6, 15])
        (ds := [⟨[], [6], [], Fct.val 76 (.func (.func 29) #[] #[.pointer (some ⟨g1070, 0, none⟩)])⟩,
        ⟨[], [1], [], Fct.val 77 (.pointer (some ⟨g1061, 1, none⟩))⟩,
        ⟨[1], [], [], Fct.val 78 (.slice An1_1 n1.2.length cn1_1)⟩,
        ⟨[2], [], [], Fct.val 79 (.int .i64 (n1.2.length : Int))⟩,
        ⟨[0, 3, 5, 6], [], [1198, 1202], Fct.mems [1431, 1432] 80 (fun (x : Option Addr × Nat) => .tuple #[]) (fun (x : Option Addr × Nat) own w => RwO own 1431 [] w 5 R5 x.1 x.2 r1429 ∧ BlkO own 1432 w g1070 33 #[.slice x.1 r1429.length x.2]) (fun hk he h => ⟨RwO.evo (hits_sub hk (by decide)) he h.1, BlkO.evo (not_hit hk (by decide)) he h.2⟩)⟩]) (by kernel_rfl) hz1319 hd1319 (by simp only [List.forall_mem_cons]; exact ⟨b1319_g1070, b1319_A1199, fun _ h => nomatch h⟩) ?_ ?_
    · refine steps_cons (fun own a wx hf hsl hE => ?_) ?_
      · obtain ⟨s_6, -⟩ := hsl
        exact sg_plain rfl rfl (or_move (s_6.trans e1319_6))
      refine steps_cons (fun own a wx hf hsl hE => ?_) ?_
      · obtain ⟨s_1, -⟩ := hsl
        exact sg_plain rfl rfl (or_field fo25_1 (s_1.trans e1319_1) (by rfl))
      refine steps_cons (fun own a wx hf hsl hE => ?_) ?_
      · obtain ⟨(f_77 : a.eval (.tmp 77) = .pointer (some ⟨g1061, 1, none⟩)), -⟩ := hf
        exact sg_plain rfl rfl (or_load1 to23 f_77 (Blk.at_ (BlkO.evo (by decide) hE b1319_g1061).2 1 rfl))
      refine steps_cons (fun own a wx hf hsl hE => ?_) ?_
      · obtain ⟨(f_78 : a.eval (.tmp 78) = .slice An1_1 n1.2.length cn1_1), -⟩ := hf
        exact sg_plain rfl rfl (or_len tu23 f_78 rfl)
      refine steps_cons (fun own a wx hf hsl hE => ?_) ?_
      · obtain ⟨(f_76 : a.eval (.tmp 76) = .func (.func 29) #[] #[.pointer (some ⟨g1070, 0, none⟩)]), (f_79 : a.eval (.tmp 79) = .int .i64 (n1.2.length : Int)), (b_g1070 : BlkO own 1198 wx g1070 33 #[.slice A1199 out1201.length c1200]), (b_A1199 : RwO own 1202 [] wx 5 R5 A1199 c1200 out1201), -⟩ := hf
        exact sg_plain rfl rfl (or_callf cf29 f_76 (args1 f_79) rfl (block_Bytes_1_w _ (forth own (look0 [(1198, 1), (1202, 2)])) (n1.2.length : Int) out1201 g1070 33 A1199 c1200 (look0_le rfl) (BlkO.forth_ (m := (look0 [(1198, 1), (1202, 2)])) b_g1070) (RwO.forth_ (m := (look0 [(1198, 1), (1202, 2)])) b_A1199) r1429 hr1429) (post_mems (m := (look0 [(1198, 1), (1202, 2)])) (m' := (look0 [(1, 1432), (2, 1431)])) (hm_of rfl) (fun own' w' a' x h1 h => ⟨x, h1, ⟨RwO.back_ h.1 (by decide) (.inl (Rep.fl_flat _)), BlkO.back_ h.2 (by decide)⟩⟩)))
      exact steps_nil
    intro own1433 a1433 w1433 hd1433 hz1433 hk1433 hf1433 hE1433
    have e1433_1 : a1433.eval (.tmp 1) = .pointer (some ⟨g1061, 0, none⟩) := (hk1433 1 rfl).trans e1319_1
    have e1433_5 : a1433.eval (.tmp 5) = .pointer (some ⟨g1070, 0, none⟩) := (hk1433 5 rfl).trans e1319_5
    have e1433_6 : a1433.eval (.tmp 6) = .func (.func 29) #[] #[.pointer (some ⟨g1070, 0, none⟩)] := (hk1433 6 rfl).trans e1319_6
    have e1433_7 : a1433.eval (.tmp 7) = .func (.func 31) #[] #[.pointer (some ⟨g1070, 0, none⟩)] := (hk1433 7 rfl).trans e1319_7
    obtain ⟨⟨⟨A1430, cA1430⟩, (f_80 : a1433.eval (.tmp 80) = .tuple #[]), (b_A1430 : RwO own1433 1431 [] w1433 5 R5 A1430 cA1430 r1429), (b_g1070 : BlkO own1433 1432 w1433 g1070 33 #[.slice A1430 r1429.length cA1430])⟩, -⟩ := hf1433 [4] rfl
    have hX1433 := Evo.step hX1319 (fun _ => Nat.le_refl 0) hE1433 rfl
    have b1433_g1061 := BlkO.evo (by decide) hE1433 b1319_g1061
    have b1433_An1_0 := RdO.evo rfl hE1433 b1319_An1_0
    have b1433_An1_1 := RdO.evo rfl hE1433 b1319_An1_1
    have b1433_g1070 := b_g1070
    have b1433_A1430 := b_A1430
    refine fl_seq (fun Q1434 hn1434 hp1434 => ?_)
    refine rg_plain_seq (n := 115) (rs := []) (own0 := own1433) (K := [])
        (bs := [0, 1, 3, 0])
        (ds := [⟨[], [1], [], Fct.val 81 (.pointer (some ⟨g1061, 1, none⟩))⟩,
        ⟨[0], [], [], Fct.val 82 (.slice An1_1 n1.2.length cn1_1)⟩,
        ⟨[1], [], [], Fct.val 83 (.int .i64 (n1.2.length : Int))⟩,
        ⟨[], [], [], Fct.val 84 (.int .i64 0)⟩]) (by kernel_rfl) hz1433 hd1433 (fun _ h => nomatch h) ?_ ?_
    · refine steps_cons (fun own a wx hf hsl hE => ?_) ?_
      · obtain ⟨s_1, -⟩ := hsl
        exact sg_plain rfl rfl (or_field fo25_1 (s_1.trans e1433_1) (by rfl))
      refine steps_cons (fun own a wx hf hsl hE => ?_) ?_
      · obtain ⟨(f_81 : a.eval (.tmp 81) = .pointer (some ⟨g1061, 1, none⟩)), -⟩ := hf
        exact sg_plain rfl rfl (or_load1 to23 f_81 (Blk.at_ (BlkO.evo (by decide) hE b1433_g1061).2 1 rfl))
      refine steps_cons (fun own a wx hf hsl hE => ?_) ?_
      · obtain ⟨(f_82 : a.eval (.tmp 82) = .slice An1_1 n1.2.length cn1_1), -⟩ := hf
        exact sg_plain rfl rfl (or_len tu23 f_82 rfl)
      refine steps_cons (fun own a wx hf hsl hE => ?_) ?_
      · exact sg_plain rfl rfl (or_move rfl)
      exact steps_nil
    intro own1435 a1435 w1435 hd1435 hz1435 hk1435 hf1435 hE1435
    have e1435_5 : a1435.eval (.tmp 5) = .pointer (some ⟨g1070, 0, none⟩) := (hk1435 5 rfl).trans e1433_5
    have e1435_6 : a1435.eval (.tmp 6) = .func (.func 29) #[] #[.pointer (some ⟨g1070, 0, none⟩)] := (hk1435 6 rfl).trans e1433_6
    have e1435_7 : a1435.eval (.tmp 7) = .func (.func 31) #[] #[.pointer (some ⟨g1070, 0, none⟩)] := (hk1435 7 rfl).trans e1433_7
    obtain ⟨(f_82 : a1435.eval (.tmp 82) = .slice An1_1 n1.2.length cn1_1), (f_83 : a1435.eval (.tmp 83) = .int .i64 (n1.2.length : Int)), (f_84 : a1435.eval (.tmp 84) = .int .i64 0), -⟩ := hf1435 [1, 2, 3] rfl
    have e1435_82 := f_82
    have e1435_83 := f_83
    have e1435_84 := f_84
    have hX1435 := Evo.step hX1433 (fun _ => Nat.le_refl 0) hE1435 rfl
    have b1435_An1_1 := RdO.evo rfl hE1435 b1433_An1_1
    have b1435_g1070 := BlkO.evo (by decide) hE1435 b1433_g1070
    have b1435_A1430 := RwO.evo rfl hE1435 b1433_A1430
    refine fl_block (fun Q1436 hn1436 hx1436 hp1436 => ?_)
    refine fl_loop (body := (fun s => block_Bytes_b3 n1 s.1 s.2)) (z := r) (show loopO _ _ = _ from hs) (fun (s : (List Int) × Int) a wx => match s with | (out1662, x1664) => ∃ (ox : Own) (A1660 : Option Addr) (c1661 : Nat), a.defers = [] ∧ a.tmps.size = 115 ∧ a.eval (.tmp 5) = .pointer (some ⟨g1070, 0, none⟩) ∧ a.eval (.tmp 6) = .func (.func 29) #[] #[.pointer (some ⟨g1070, 0, none⟩)] ∧ a.eval (.tmp 7) = .func (.func 31) #[] #[.pointer (some ⟨g1070, 0, none⟩)] ∧ a.eval (.tmp 82) = .slice An1_1 n1.2.length cn1_1 ∧ a.eval (.tmp 83) = .int .i64 (n1.2.length : Int) ∧ a.eval (.tmp 84) = .int .i64 x1664 ∧ Evo [] (fun _ => 0) ox w wx ∧ BlkO ox 1659 wx g1070 33 #[.slice A1660 out1662.length c1661] ∧ RwO ox 1663 [] wx 5 R5 A1660 c1661 out1662 ∧ RdO ox [0] wx R27 An1_1 cn1_1 n1.2) ?_ ?_
    · exact ⟨(rl [(1431, 1663), (1432, 1659)] own1435), A1430, cA1430, hd1435, hz1435, e1435_5, e1435_6, e1435_7, e1435_82, e1435_83, e1435_84, (Evo.rl_ hX1435 (fun _ => Nat.le_refl 0) rfl), (BlkO.rl_ (mm := [(1431, 1663), (1432, 1659)]) b1435_g1070), (RwO.rl_ (mm := [(1431, 1663), (1432, 1659)]) b1435_A1430), (RdO.rl_ (mm := [(1431, 1663), (1432, 1659)]) b1435_An1_1)⟩
    · rintro ⟨out1662, x1664⟩ zz1887 a1887 w1887 ⟨own1887, A1660, c1661, hd1888, hz1888, e1888_5, e1888_6, e1888_7, e1888_82, e1888_83, e1888_84, hE1888, b1888_g1070, b1888_A1660, b1888_An1_1⟩ hs Q1887 hn1887 hp1887 hz1887
      have hs : block_Bytes_b3 n1 out1662 x1664 = some zz1887 := hs
      refine rg_plain_seq (n := 115) (rs := []) (own0 := own1887) (K := [])
          (bs := [0])
          (ds := [⟨[], [84, 83], [], Fct.val 85 (.bool (decide (x1664 < (n1.2.length : Int))))⟩]) (by kernel_rfl) hz1888 hd1888 (fun _ h => nomatch h) ?_ ?_
      · refine steps_cons (fun own a wx hf hsl hE => ?_) ?_
        · obtain ⟨s_84, s_83, -⟩ := hsl
          exact sg_plain rfl rfl (or_lss (s_84.trans e1888_84) (s_83.trans e1888_83) rfl)
        exact steps_nil
      intro own1889 a1889 w1889 hd1889 hz1889 hk1889 hf1889 hE1889
      have e1889_5 : a1889.eval (.tmp 5) = .pointer (some ⟨g1070, 0, none⟩) := (hk1889 5 rfl).trans e1888_5
      have e1889_6 : a1889.eval (.tmp 6) = .func (.func 29) #[] #[.pointer (some ⟨g1070, 0, none⟩)] := (hk1889 6 rfl).trans e1888_6
      have e1889_7 : a1889.eval (.tmp 7) = .func (.func 31) #[] #[.pointer (some ⟨g1070, 0, none⟩)] := (hk1889 7 rfl).trans e1888_7
      have e1889_82 : a1889.eval (.tmp 82) = .slice An1_1 n1.2.length cn1_1 := (hk1889 82 rfl).trans e1888_82
      have e1889_83 : a1889.eval (.tmp 83) = .int .i64 (n1.2.length : Int) := (hk1889 83 rfl).trans e1888_83
      have e1889_84 : a1889.eval (.tmp 84) = .int .i64 x1664 := (hk1889 84 rfl).trans e1888_84
      obtain ⟨(f_85 : a1889.eval (.tmp 85) = .bool (decide (x1664 < (n1.2.length : Int)))), -⟩ := hf1889 [0] rfl
      have e1889_85 := f_85
      have hX1889 := Evo.step hE1888 (fun _ => Nat.le_refl 0) hE1889 rfl
      have b1889_g1070 := BlkO.evo (by decide) hE1889 b1888_g1070
      have b1889_A1660 := RwO.evo rfl hE1889 b1888_A1660
      have b1889_An1_1 := RdO.evo rfl hE1889 b1888_An1_1
      refine fl_seq (fun Q1890 hn1890 hp1890 => ?_)
      refine fl_cond e1889_85 hs (fun c1891 hs => ?_) (fun c1891 hs => ?_)
      · refine fl_skip ?_
        refine hn1890 _ _ ?_
        refine fl_seq (fun Q1892 hn1892 hp1892 => ?_)
        refine fl_block (fun Q1893 hn1893 hx1893 hp1893 => ?_)
        obtain ⟨x1894, hx1894, hs⟩ := obind hs
        refine rg_plain_seq (n := 115) (rs := []) (own0 := own1889) (K := [])
            (bs := [0, 1, 3])
            (ds := [⟨[], [82, 84], [], Fct.val 86 (.pointer (some ((adr An1_1).add ((x1664 : Int).toNat * R27.s))))⟩,
            ⟨[0], [], [], Fct.nest X27 [0] 87 (fun (y : (Option Addr × Nat)) => .slice y.1 x1894.length y.2) x1894⟩,
            ⟨[1], [], [], Fct.rel [14, 87] (fun l => ∀ (A1895 : Option Addr) (cA1895 : Nat), l.getD 1 undef = .slice A1895 x1894.length cA1895 → l.getD 0 undef = .slice A1895 x1894.length cA1895)⟩]) (by kernel_rfl) hz1889 hd1889 (fun _ h => nomatch h) ?_ ?_
        · refine steps_cons (fun own a wx hf hsl hE => ?_) ?_
          · obtain ⟨s_82, s_84, -⟩ := hsl
            exact sg_plain rfl rfl (or_index (R := R27) (l := n1.2) tl23 (s_82.trans e1889_82) (s_84.trans e1889_84) (RdO.some_ b1889_An1_1 hx1894) hx1894)
          refine steps_cons (fun own a wx hf hsl hE => ?_) ?_
          · obtain ⟨(f_86 : a.eval (.tmp 86) = .pointer (some ((adr An1_1).add ((x1664 : Int).toNat * R27.s)))), -⟩ := hf
            exact sg_plain rfl rfl (or_loadN1 X27 0 to27 f_86 (Addr.add_zero' _).symm (RdO.evo rfl hE b1889_An1_1) hx1894 (fun _ => rfl))
          refine steps_cons (fun own a wx hf hsl hE => ?_) ?_
          · obtain ⟨⟨⟨A1895, cA1895⟩, (f_87 : a.eval (.tmp 87) = .slice A1895 x1894.length cA1895), (b_A1895 : RdO own [0] wx R28 A1895 cA1895 x1894)⟩, -⟩ := hf
            exact sg_plain rfl rfl (or_mono (f := Fct.val 14 (.slice A1895 x1894.length cA1895)) (or_assign f_87) (fun own' a' w' v' hp h => fun _ _ h0' => by cases (f_87.symm.trans ((hp.2 87 (by decide)).symm.trans h0')); exact h))
          exact steps_nil
        intro own1896 a1896 w1896 hd1896 hz1896 hk1896 hf1896 hE1896
        have e1896_5 : a1896.eval (.tmp 5) = .pointer (some ⟨g1070, 0, none⟩) := (hk1896 5 rfl).trans e1889_5
        have e1896_6 : a1896.eval (.tmp 6) = .func (.func 29) #[] #[.pointer (some ⟨g1070, 0, none⟩)] := (hk1896 6 rfl).trans e1889_6
        have e1896_7 : a1896.eval (.tmp 7) = .func (.func 31) #[] #[.pointer (some ⟨g1070, 0, none⟩)] := (hk1896 7 rfl).trans e1889_7
        have e1896_82 : a1896.eval (.tmp 82) = .slice An1_1 n1.2.length cn1_1 := (hk1896 82 rfl).trans e1889_82
        have e1896_83 : a1896.eval (.tmp 83) = .int .i64 (n1.2.length : Int) := (hk1896 83 rfl).trans e1889_83
        have e1896_84 : a1896.eval (.tmp 84) = .int .i64 x1664 := (hk1896 84 rfl).trans e1889_84
        obtain ⟨⟨⟨A1895, cA1895⟩, (f_87 : a1896.eval (.tmp 87) = .slice A1895 x1894.length cA1895), (b_A1895 : RdO own1896 [0] w1896 R28 A1895 cA1895 x1894)⟩, (q_14 : ∀ (A1895 : Option Addr) (cA1895 : Nat), a1896.eval (.tmp 87) = .slice A1895 x1894.length cA1895 → a1896.eval (.tmp 14) = .slice A1895 x1894.length cA1895), -⟩ := hf1896 [1, 2] rfl
        have f_14 := q_14 _ _ f_87
        have e1896_14 := f_14
        have hX1896 := Evo.step hX1889 (fun _ => Nat.le_refl 0) hE1896 rfl
        have b1896_g1070 := BlkO.evo (by decide) hE1896 b1889_g1070
        have b1896_A1660 := RwO.evo rfl hE1896 b1889_A1660
        have b1896_An1_1 := RdO.evo rfl hE1896 b1889_An1_1
        have b1896_A1895 := b_A1895
        obtain ⟨r1897, hr1897, hs⟩ := obind hs
        refine rg_plain_seq (n := 115) (rs := [Fct.at_ 1659 g1070 33 #[.slice A1660 out1662.length c1661], Fct.rowAt 1663 [] 5 R5 A1660 c1661 out1662]) (own0 := own1896) (K := [1659, 1663])
            (bs := [0, 0, 2, 7])
            (ds := [⟨[], [6], [], Fct.val 88 (.func (.func 29) #[] #[.pointer (some ⟨g1070, 0, none⟩)])⟩,
            ⟨[], [14], [], Fct.val 89 (.slice A1895 x1894.length cA1895)⟩,
            ⟨[1], [], [], Fct.val 90 (.int .i64 (x1894.length : Int))⟩,
            ⟨[0, 2, 4, 5], [], [1659, 1663], Fct.mems [1899, 1900] 91 (fun (x : Option Addr × Nat) => .tuple #[]) (fun (x : Option Addr × Nat) own w => RwO own 1899 [] w 5 R5 x.1 x.2 r1897 ∧ BlkO own 1900 w g1070 33 #[.slice x.1 r1897.length x.2]) (fun hk he h => ⟨RwO.evo (hits_sub hk (by decide)) he h.1, BlkO.evo (not_hit hk (by decide)) he h.2⟩)⟩]) (by kernel_rfl) hz1896 hd1896 (by simp only [List.forall_mem_cons]; exact ⟨b1896_g1070, b1896_A1660, fun _ h => nomatch h⟩) ?_ ?_
        · refine steps_cons (fun own a wx hf hsl hE => ?_) ?_
          · obtain ⟨s_6, -⟩ := hsl
            exact sg_plain rfl rfl (or_move (s_6.trans e1896_6))
          refine steps_cons (fun own a wx hf hsl hE => ?_) ?_
          · obtain ⟨s_14, -⟩ := hsl
            exact sg_plain rfl rfl (or_move (s_14.trans e1896_14))
          refine steps_cons (fun own a wx hf hsl hE => ?_) ?_
          · obtain ⟨(f_89 : a.eval (.tmp 89) = .slice A1895 x1894.length cA1895), -⟩ := hf
            exact sg_plain rfl rfl (or_len tu27 f_89 rfl)
          refine steps_cons (fun own a wx hf hsl hE => ?_) ?_
          · obtain ⟨(f_88 : a.eval (.tmp 88) = .func (.func 29) #[] #[.pointer (some ⟨g1070, 0, none⟩)]), (f_90 : a.eval (.tmp 90) = .int .i64 (x1894.length : Int)), (b_g1070 : BlkO own 1659 wx g1070 33 #[.slice A1660 out1662.length c1661]), (b_A1660 : RwO own 1663 [] wx 5 R5 A1660 c1661 out1662), -⟩ := hf
            exact sg_plain rfl rfl (or_callf cf29 f_88 (args1 f_90) rfl (block_Bytes_1_w _ (forth own (look0 [(1659, 1), (1663, 2)])) (x1894.length : Int) out1662 g1070 33 A1660 c1661 (look0_le rfl) (BlkO.forth_ (m := (look0 [(1659, 1), (1663, 2)])) b_g1070) (RwO.forth_ (m := (look0 [(1659, 1), (1663, 2)])) b_A1660) r1897 hr1897) (post_mems (m := (look0 [(1659, 1), (1663, 2)])) (m' := (look0 [(1, 1900), (2, 1899)])) (hm_of rfl) (fun own' w' a' x h1 h => ⟨x, h1, ⟨RwO.back_ h.1 (by decide) (.inl (Rep.fl_flat _)), BlkO.back_ h.2 (by decide)⟩⟩)))
          exact steps_nil
        intro own1901 a1901 w1901 hd1901 hz1901 hk1901 hf1901 hE1901
        have e1901_5 : a1901.eval (.tmp 5) = .pointer (some ⟨g1070, 0, none⟩) := (hk1901 5 rfl).trans e1896_5
        have e1901_6 : a1901.eval (.tmp 6) = .func (.func 29) #[] #[.pointer (some ⟨g1070, 0, none⟩)] := (hk1901 6 rfl).trans e1896_6
        have e1901_7 : a1901.eval (.tmp 7) = .func (.func 31) #[] #[.pointer (some ⟨g1070, 0, none⟩)] := (hk1901 7 rfl).trans e1896_7
        have e1901_14 : a1901.eval (.tmp 14) = .slice A1895 x1894.length cA1895 := (hk1901 14 rfl).trans e1896_14
        have e1901_82 : a1901.eval (.tmp 82) = .slice An1_1 n1.2.length cn1_1 := (hk1901 82 rfl).trans e1896_82
        have e1901_83 : a1901.eval (.tmp 83) = .int .i64 (n1.2.length : Int) := (hk1901 83 rfl).trans e1896_83
        have e1901_84 : a1901.eval (.tmp 84) = .int .i64 x1664 := (hk1901 84 rfl).trans e1896_84
        obtain ⟨⟨⟨A1898, cA1898⟩, (f_91 : a1901.eval (.tmp 91) = .tuple #[]), (b_A1898 : RwO own1901 1899 [] w1901 5 R5 A1898 cA1898 r1897), (b_g1070 : BlkO own1901 1900 w1901 g1070 33 #[.slice A1898 r1897.length cA1898])⟩, -⟩ := hf1901 [3] rfl
        have hX1901 := Evo.step hX1896 (fun _ => Nat.le_refl 0) hE1901 rfl
        have b1901_An1_1 := RdO.evo rfl hE1901 b1896_An1_1
        have b1901_A1895 := RdO.evo rfl hE1901 b1896_A1895
        have b1901_g1070 := b_g1070
        have b1901_A1898 := b_A1898
        refine rg_plain_seq (n := 115) (rs := []) (own0 := own1901) (K := [])
            (bs := [0, 1, 0])
            (ds := [⟨[], [14], [], Fct.val 92 (.slice A1895 x1894.length cA1895)⟩,
            ⟨[0], [], [], Fct.val 93 (.int .i64 (x1894.length : Int))⟩,
            ⟨[], [], [], Fct.val 94 (.int .i64 0)⟩]) (by kernel_rfl) hz1901 hd1901 (fun _ h => nomatch h) ?_ ?_
        · refine steps_cons (fun own a wx hf hsl hE => ?_) ?_
          · obtain ⟨s_14, -⟩ := hsl
            exact sg_plain rfl rfl (or_move (s_14.trans e1901_14))
          refine steps_cons (fun own a wx hf hsl hE => ?_) ?_
          · obtain ⟨(f_92 : a.eval (.tmp 92) = .slice A1895 x1894.length cA1895), -⟩ := hf
            exact sg_plain rfl rfl (or_len tu27 f_92 rfl)
          refine steps_cons (fun own a wx hf hsl hE => ?_) ?_
          · exact sg_plain rfl rfl (or_move rfl)
          exact steps_nil
        intro own1902 a1902 w1902 hd1902 hz1902 hk1902 hf1902 hE1902
        have e1902_5 : a1902.eval (.tmp 5) = .pointer (some ⟨g1070, 0, none⟩) := (hk1902 5 rfl).trans e1901_5
        have e1902_6 : a1902.eval (.tmp 6) = .func (.func 29) #[] #[.pointer (some ⟨g1070, 0, none⟩)] := (hk1902 6 rfl).trans e1901_6
        have e1902_7 : a1902.eval (.tmp 7) = .func (.func 31) #[] #[.pointer (some ⟨g1070, 0, none⟩)] := (hk1902 7 rfl).trans e1901_7
        have e1902_82 : a1902.eval (.tmp 82) = .slice An1_1 n1.2.length cn1_1 := (hk1902 82 rfl).trans e1901_82
        have e1902_83 : a1902.eval (.tmp 83) = .int .i64 (n1.2.length : Int) := (hk1902 83 rfl).trans e1901_83
        have e1902_84 : a1902.eval (.tmp 84) = .int .i64 x1664 := (hk1902 84 rfl).trans e1901_84
        obtain ⟨(f_92 : a1902.eval (.tmp 92) = .slice A1895 x1894.length cA1895), (f_93 : a1902.eval (.tmp 93) = .int .i64 (x1894.length : Int)), (f_94 : a1902.eval (.tmp 94) = .int .i64 0), -⟩ := hf1902 [0, 1, 2] rfl
        have e1902_92 := f_92
        have e1902_93 := f_93
        have e1902_94 := f_94
        have hX1902 := Evo.step hX1901 (fun _ => Nat.le_refl 0) hE1902 rfl
        have b1902_An1_1 := RdO.evo rfl hE1902 b1901_An1_1
        have b1902_A1895 := RdO.evo rfl hE1902 b1901_A1895
        have b1902_g1070 := BlkO.evo (by decide) hE1902 b1901_g1070
        have b1902_A1898 := RwO.evo rfl hE1902 b1901_A1898
        refine fl_block (fun Q1903 hn1903 hx1903 hp1903 => ?_)
        refine fl_loop (body := (fun s => block_Bytes_b4 x1664 x1894 s.1 s.2)) (z := zz1887) (show loopO _ _ = _ from hs) (fun (s : (List Int) × Int) a wx => match s with | (out1973, x1975) => ∃ (ox : Own) (A1971 : Option Addr) (c1972 : Nat), a.defers = [] ∧ a.tmps.size = 115 ∧ a.eval (.tmp 5) = .pointer (some ⟨g1070, 0, none⟩) ∧ a.eval (.tmp 6) = .func (.func 29) #[] #[.pointer (some ⟨g1070, 0, none⟩)] ∧ a.eval (.tmp 7) = .func (.func 31) #[] #[.pointer (some ⟨g1070, 0, none⟩)] ∧ a.eval (.tmp 82) = .slice An1_1 n1.2.length cn1_1 ∧ a.eval (.tmp 83) = .int .i64 (n1.2.length : Int) ∧ a.eval (.tmp 84) = .int .i64 x1664 ∧ a.eval (.tmp 92) = .slice A1895 x1894.length cA1895 ∧ a.eval (.tmp 93) = .int .i64 (x1894.length : Int) ∧ a.eval (.tmp 94) = .int .i64 x1975 ∧ Evo [] (fun _ => 0) ox w wx ∧ BlkO ox 1970 wx g1070 33 #[.slice A1971 out1973.length c1972] ∧ RwO ox 1974 [] wx 5 R5 A1971 c1972 out1973 ∧ RdO ox [0] wx R27 An1_1 cn1_1 n1.2 ∧ RdO ox [0] wx R28 A1895 cA1895 x1894) ?_ ?_
        · exact ⟨(rl [(1899, 1974), (1900, 1970)] own1902), A1898, cA1898, hd1902, hz1902, e1902_5, e1902_6, e1902_7, e1902_82, e1902_83, e1902_84, e1902_92, e1902_93, e1902_94, (Evo.rl_ hX1902 (fun _ => Nat.le_refl 0) rfl), (BlkO.rl_ (mm := [(1899, 1974), (1900, 1970)]) b1902_g1070), (RwO.rl_ (mm := [(1899, 1974), (1900, 1970)]) b1902_A1898), (RdO.rl_ (mm := [(1899, 1974), (1900, 1970)]) b1902_An1_1), (RdO.rl_ (mm := [(1899, 1974), (1900, 1970)]) b1902_A1895)⟩
        · rintro ⟨out1973, x1975⟩ zz2042 a2042 w2042 ⟨own2042, A1971, c1972, hd2043, hz2043, e2043_5, e2043_6, e2043_7, e2043_82, e2043_83, e2043_84, e2043_92, e2043_93, e2043_94, hE2043, b2043_g1070, b2043_A1971, b2043_An1_1, b2043_A1895⟩ hs Q2042 hn2042 hp2042 hz2042
          have hs : block_Bytes_b4 x1664 x1894 out1973 x1975 = some zz2042 := hs
          refine rg_plain_seq (n := 115) (rs := []) (own0 := own2042) (K := [])
              (bs := [0])
              (ds := [⟨[], [94, 93], [], Fct.val 95 (.bool (decide (x1975 < (x1894.length : Int))))⟩]) (by kernel_rfl) hz2043 hd2043 (fun _ h => nomatch h) ?_ ?_
          · refine steps_cons (fun own a wx hf hsl hE => ?_) ?_
            · obtain ⟨s_94, s_93, -⟩ := hsl
              exact sg_plain rfl rfl (or_lss (s_94.trans e2043_94) (s_93.trans e2043_93) rfl)
            exact steps_nil
          intro own2044 a2044 w2044 hd2044 hz2044 hk2044 hf2044 hE2044
          have e2044_5 : a2044.eval (.tmp 5) = .pointer (some ⟨g1070, 0, none⟩) := (hk2044 5 rfl).trans e2043_5
          have e2044_6 : a2044.eval (.tmp 6) = .func (.func 29) #[] #[.pointer (some ⟨g1070, 0, none⟩)] := (hk2044 6 rfl).trans e2043_6
          have e2044_7 : a2044.eval (.tmp 7) = .func (.func 31) #[] #[.pointer (some ⟨g1070, 0, none⟩)] := (hk2044 7 rfl).trans e2043_7
          have e2044_82 : a2044.eval (.tmp 82) = .slice An1_1 n1.2.length cn1_1 := (hk2044 82 rfl).trans e2043_82
          have e2044_83 : a2044.eval (.tmp 83) = .int .i64 (n1.2.length : Int) := (hk2044 83 rfl).trans e2043_83
          have e2044_84 : a2044.eval (.tmp 84) = .int .i64 x1664 := (hk2044 84 rfl).trans e2043_84
          have e2044_92 : a2044.eval (.tmp 92) = .slice A1895 x1894.length cA1895 := (hk2044 92 rfl).trans e2043_92
          have e2044_93 : a2044.eval (.tmp 93) = .int .i64 (x1894.length : Int) := (hk2044 93 rfl).trans e2043_93
          have e2044_94 : a2044.eval (.tmp 94) = .int .i64 x1975 := (hk2044 94 rfl).trans e2043_94
          obtain ⟨(f_95 : a2044.eval (.tmp 95) = .bool (decide (x1975 < (x1894.length : Int)))), -⟩ := hf2044 [0] rfl
          have e2044_95 := f_95
          have hX2044 := Evo.step hE2043 (fun _ => Nat.le_refl 0) hE2044 rfl
          have b2044_g1070 := BlkO.evo (by decide) hE2044 b2043_g1070
          have b2044_A1971 := RwO.evo rfl hE2044 b2043_A1971
          have b2044_An1_1 := RdO.evo rfl hE2044 b2043_An1_1
          have b2044_A1895 := RdO.evo rfl hE2044 b2043_A1895
          refine fl_seq (fun Q2045 hn2045 hp2045 => ?_)
          refine fl_cond e2044_95 hs (fun c2046 hs => ?_) (fun c2046 hs => ?_)
          · refine fl_skip ?_
            refine hn2045 _ _ ?_
            refine fl_seq (fun Q2047 hn2047 hp2047 => ?_)
            refine fl_block (fun Q2048 hn2048 hx2048 hp2048 => ?_)
            obtain ⟨x2049, hx2049, hs⟩ := obind hs
            refine rg_plain_seq (n := 115) (rs := []) (own0 := own2044) (K := [])
                (bs := [0, 1, 3])
                (ds := [⟨[], [92, 94], [], Fct.val 96 (.pointer (some ((adr A1895).add ((x1975 : Int).toNat * R28.s))))⟩,
                ⟨[0], [], [], Fct.nest X28 [0] 97 (fun (y : (Option Addr × Nat)) => .slice y.1 x2049.length y.2) x2049⟩,
                ⟨[1], [], [], Fct.rel [16, 97] (fun l => ∀ (A2050 : Option Addr) (cA2050 : Nat), l.getD 1 undef = .slice A2050 x2049.length cA2050 → l.getD 0 undef = .slice A2050 x2049.length cA2050)⟩]) (by kernel_rfl) hz2044 hd2044 (fun _ h => nomatch h) ?_ ?_
            · refine steps_cons (fun own a wx hf hsl hE => ?_) ?_
              · obtain ⟨s_92, s_94, -⟩ := hsl
                exact sg_plain rfl rfl (or_index (R := R28) (l := x1894) tl27 (s_92.trans e2044_92) (s_94.trans e2044_94) (RdO.some_ b2044_A1895 hx2049) hx2049)
              refine steps_cons (fun own a wx hf hsl hE => ?_) ?_
              · obtain ⟨(f_96 : a.eval (.tmp 96) = .pointer (some ((adr A1895).add ((x1975 : Int).toNat * R28.s)))), -⟩ := hf
                exact sg_plain rfl rfl (or_loadN1 X28 0 to28 f_96 (Addr.add_zero' _).symm (RdO.evo rfl hE b2044_A1895) hx2049 (fun _ => rfl))
              refine steps_cons (fun own a wx hf hsl hE => ?_) ?_
              · obtain ⟨⟨⟨A2050, cA2050⟩, (f_97 : a.eval (.tmp 97) = .slice A2050 x2049.length cA2050), (b_A2050 : RdO own [0] wx R3 A2050 cA2050 x2049)⟩, -⟩ := hf
                exact sg_plain rfl rfl (or_mono (f := Fct.val 16 (.slice A2050 x2049.length cA2050)) (or_assign f_97) (fun own' a' w' v' hp h => fun _ _ h0' => by cases (f_97.symm.trans ((hp.2 97 (by decide)).symm.trans h0')); exact h))
              exact steps_nil
            intro own2051 a2051 w2051 hd2051 hz2051 hk2051 hf2051 hE2051
            have e2051_5 : a2051.eval (.tmp 5) = .pointer (some ⟨g1070, 0, none⟩) := (hk2051 5 rfl).trans e2044_5
            have e2051_6 : a2051.eval (.tmp 6) = .func (.func 29) #[] #[.pointer (some ⟨g1070, 0, none⟩)] := (hk2051 6 rfl).trans e2044_6
            have e2051_7 : a2051.eval (.tmp 7) = .func (.func 31) #[] #[.pointer (some ⟨g1070, 0, none⟩)] := (hk2051 7 rfl).trans e2044_7
            have e2051_82 : a2051.eval (.tmp 82) = .slice An1_1 n1.2.length cn1_1 := (hk2051 82 rfl).trans e2044_82
            have e2051_83 : a2051.eval (.tmp 83) = .int .i64 (n1.2.length : Int) := (hk2051 83 rfl).trans e2044_83
            have e2051_84 : a2051.eval (.tmp 84) = .int .i64 x1664 := (hk2051 84 rfl).trans e2044_84
            have e2051_92 : a2051.eval (.tmp 92) = .slice A1895 x1894.length cA1895 := (hk2051 92 rfl).trans e2044_92
            have e2051_93 : a2051.eval (.tmp 93) = .int .i64 (x1894.length : Int) := (hk2051 93 rfl).trans e2044_93
            have e2051_94 : a2051.eval (.tmp 94) = .int .i64 x1975 := (hk2051 94 rfl).trans e2044_94
            obtain ⟨⟨⟨A2050, cA2050⟩, (f_97 : a2051.eval (.tmp 97) = .slice A2050 x2049.length cA2050), (b_A2050 : RdO own2051 [0] w2051 R3 A2050 cA2050 x2049)⟩, (q_16 : ∀ (A2050 : Option Addr) (cA2050 : Nat), a2051.eval (.tmp 97) = .slice A2050 x2049.length cA2050 → a2051.eval (.tmp 16) = .slice A2050 x2049.length cA2050), -⟩ := hf2051 [1, 2] rfl
            have f_16 := q_16 _ _ f_97
            have e2051_16 := f_16
            have hX2051 := Evo.step hX2044 (fun _ => Nat.le_refl 0) hE2051 rfl
            have b2051_g1070 := BlkO.evo (by decide) hE2051 b2044_g1070
            have b2051_A1971 := RwO.evo rfl hE2051 b2044_A1971
            have b2051_An1_1 := RdO.evo rfl hE2051 b2044_An1_1
            have b2051_A1895 := RdO.evo rfl hE2051 b2044_A1895
            have b2051_A2050 := b_A2050
            obtain ⟨r2052, hr2052, hs⟩ := obind hs
            refine rg_plain_seq (n := 115) (rs := [Fct.at_ 1970 g1070 33 #[.slice A1971 out1973.length c1972], Fct.rowAt 1974 [] 5 R5 A1971 c1972 out1973]) (own0 := own2051) (K := [1970, 1974])
                (bs := [0, 0, 2, 7])
                (ds := [⟨[], [6], [], Fct.val 98 (.func (.func 29) #[] #[.pointer (some ⟨g1070, 0, none⟩)])⟩,
                ⟨[], [16], [], Fct.val 99 (.slice A2050 x2049.length cA2050)⟩,
                ⟨[1], [], [], Fct.val 100 (.int .i64 (x2049.length : Int))⟩,
                ⟨[0, 2, 4, 5], [], [1970, 1974], Fct.mems [2054, 2055] 101 (fun (x : Option Addr × Nat) => .tuple #[]) (fun (x : Option Addr × Nat) own w => RwO own 2054 [] w 5 R5 x.1 x.2 r2052 ∧ BlkO own 2055 w g1070 33 #[.slice x.1 r2052.length x.2]) (fun hk he h => ⟨RwO.evo (hits_sub hk (by decide)) he h.1, BlkO.evo (not_hit hk (by decide)) he h.2⟩)⟩]) (by kernel_rfl) hz2051 hd2051 (by simp only [List.forall_mem_cons]; exact ⟨b2051_g1070, b2051_A1971, fun _ h => nomatch h⟩) ?_ ?_
            · refine steps_cons (fun own a wx hf hsl hE => ?_) ?_
              · obtain ⟨s_6, -⟩ := hsl
                exact sg_plain rfl rfl (or_move (s_6.trans e2051_6))
              refine steps_cons (fun own a wx hf hsl hE => ?_) ?_
              · obtain ⟨s_16, -⟩ := hsl
                exact sg_plain rfl rfl (or_move (s_16.trans e2051_16))
              refine steps_cons (fun own a wx hf hsl hE => ?_) ?_
              · obtain ⟨(f_99 : a.eval (.tmp 99) = .slice A2050 x2049.length cA2050), -⟩ := hf
                exact sg_plain rfl rfl (or_len tu28 f_99 rfl)
              refine steps_cons (fun own a wx hf hsl hE => ?_) ?_
              · obtain ⟨(f_98 : a.eval (.tmp 98) = .func (.func 29) #[] #[.pointer (some ⟨g1070, 0, none⟩)]), (f_100 : a.eval (.tmp 100) = .int .i64 (x2049.length : Int)), (b_g1070 : BlkO own 1970 wx g1070 33 #[.slice A1971 out1973.length c1972]), (b_A1971 : RwO own 1974 [] wx 5 R5 A1971 c1972 out1973), -⟩ := hf
                exact sg_plain rfl rfl (or_callf cf29 f_98 (args1 f_100) rfl (block_Bytes_1_w _ (forth own (look0 [(1970, 1), (1974, 2)])) (x2049.length : Int) out1973 g1070 33 A1971 c1972 (look0_le rfl) (BlkO.forth_ (m := (look0 [(1970, 1), (1974, 2)])) b_g1070) (RwO.forth_ (m := (look0 [(1970, 1), (1974, 2)])) b_A1971) r2052 hr2052) (post_mems (m := (look0 [(1970, 1), (1974, 2)])) (m' := (look0 [(1, 2055), (2, 2054)])) (hm_of rfl) (fun own' w' a' x h1 h => ⟨x, h1, ⟨RwO.back_ h.1 (by decide) (.inl (Rep.fl_flat _)), BlkO.back_ h.2 (by decide)⟩⟩)))
              exact steps_nil
            intro own2056 a2056 w2056 hd2056 hz2056 hk2056 hf2056 hE2056
            have e2056_5 : a2056.eval (.tmp 5) = .pointer (some ⟨g1070, 0, none⟩) := (hk2056 5 rfl).trans e2051_5
            have e2056_6 : a2056.eval (.tmp 6) = .func (.func 29) #[] #[.pointer (some ⟨g1070, 0, none⟩)] := (hk2056 6 rfl).trans e2051_6
            have e2056_7 : a2056.eval (.tmp 7) = .func (.func 31) #[] #[.pointer (some ⟨g1070, 0, none⟩)] := (hk2056 7 rfl).trans e2051_7
            have e2056_16 : a2056.eval (.tmp 16) = .slice A2050 x2049.length cA2050 := (hk2056 16 rfl).trans e2051_16
            have e2056_82 : a2056.eval (.tmp 82) = .slice An1_1 n1.2.length cn1_1 := (hk2056 82 rfl).trans e2051_82
            have e2056_83 : a2056.eval (.tmp 83) = .int .i64 (n1.2.length : Int) := (hk2056 83 rfl).trans e2051_83
            have e2056_84 : a2056.eval (.tmp 84) = .int .i64 x1664 := (hk2056 84 rfl).trans e2051_84
            have e2056_92 : a2056.eval (.tmp 92) = .slice A1895 x1894.length cA1895 := (hk2056 92 rfl).trans e2051_92
            have e2056_93 : a2056.eval (.tmp 93) = .int .i64 (x1894.length : Int) := (hk2056 93 rfl).trans e2051_93
            have e2056_94 : a2056.eval (.tmp 94) = .int .i64 x1975 := (hk2056 94 rfl).trans e2051_94
            obtain ⟨⟨⟨A2053, cA2053⟩, (f_101 : a2056.eval (.tmp 101) = .tuple #[]), (b_A2053 : RwO own2056 2054 [] w2056 5 R5 A2053 cA2053 r2052), (b_g1070 : BlkO own2056 2055 w2056 g1070 33 #[.slice A2053 r2052.length cA2053])⟩, -⟩ := hf2056 [3] rfl
            have hX2056 := Evo.step hX2051 (fun _ => Nat.le_refl 0) hE2056 rfl
            have b2056_An1_1 := RdO.evo rfl hE2056 b2051_An1_1
            have b2056_A1895 := RdO.evo rfl hE2056 b2051_A1895
            have b2056_A2050 := RdO.evo rfl hE2056 b2051_A2050
            have b2056_g1070 := b_g1070
            have b2056_A2053 := b_A2053
            refine rg_plain_seq (n := 115) (rs := []) (own0 := own2056) (K := [])
                (bs := [0, 1, 0])
                (ds := [⟨[], [16], [], Fct.val 102 (.slice A2050 x2049.length cA2050)⟩,
                ⟨[0], [], [], Fct.val 103 (.int .i64 (x2049.length : Int))⟩,
                ⟨[], [], [], Fct.val 104 (.int .i64 0)⟩]) (by kernel_rfl) hz2056 hd2056 (fun _ h => nomatch h) ?_ ?_
            · refine steps_cons (fun own a wx hf hsl hE => ?_) ?_
              · obtain ⟨s_16, -⟩ := hsl
                exact sg_plain rfl rfl (or_move (s_16.trans e2056_16))
              refine steps_cons (fun own a wx hf hsl hE => ?_) ?_
              · obtain ⟨(f_102 : a.eval (.tmp 102) = .slice A2050 x2049.length cA2050), -⟩ := hf
                exact sg_plain rfl rfl (or_len tu28 f_102 rfl)
              refine steps_cons (fun own a wx hf hsl hE => ?_) ?_
              · exact sg_plain rfl rfl (or_move rfl)
              exact steps_nil
            intro own2057 a2057 w2057 hd2057 hz2057 hk2057 hf2057 hE2057
            have e2057_5 : a2057.eval (.tmp 5) = .pointer (some ⟨g1070, 0, none⟩) := (hk2057 5 rfl).trans e2056_5
            have e2057_6 : a2057.eval (.tmp 6) = .func (.func 29) #[] #[.pointer (some ⟨g1070, 0, none⟩)] := (hk2057 6 rfl).trans e2056_6
            have e2057_7 : a2057.eval (.tmp 7) = .func (.func 31) #[] #[.pointer (some ⟨g1070, 0, none⟩)] := (hk2057 7 rfl).trans e2056_7
            have e2057_82 : a2057.eval (.tmp 82) = .slice An1_1 n1.2.length cn1_1 := (hk2057 82 rfl).trans e2056_82
            have e2057_83 : a2057.eval (.tmp 83) = .int .i64 (n1.2.length : Int) := (hk2057 83 rfl).trans e2056_83
            have e2057_84 : a2057.eval (.tmp 84) = .int .i64 x1664 := (hk2057 84 rfl).trans e2056_84
            have e2057_92 : a2057.eval (.tmp 92) = .slice A1895 x1894.length cA1895 := (hk2057 92 rfl).trans e2056_92
            have e2057_93 : a2057.eval (.tmp 93) = .int .i64 (x1894.length : Int) := (hk2057 93 rfl).trans e2056_93
            have e2057_94 : a2057.eval (.tmp 94) = .int .i64 x1975 := (hk2057 94 rfl).trans e2056_94
            obtain ⟨(f_102 : a2057.eval (.tmp 102) = .slice A2050 x2049.length cA2050), (f_103 : a2057.eval (.tmp 103) = .int .i64 (x2049.length : Int)), (f_104 : a2057.eval (.tmp 104) = .int .i64 0), -⟩ := hf2057 [0, 1, 2] rfl
            have e2057_102 := f_102
            have e2057_103 := f_103
            have e2057_104 := f_104
            have hX2057 := Evo.step hX2056 (fun _ => Nat.le_refl 0) hE2057 rfl
            have b2057_An1_1 := RdO.evo rfl hE2057 b2056_An1_1
            have b2057_A1895 := RdO.evo rfl hE2057 b2056_A1895
            have b2057_A2050 := RdO.evo rfl hE2057 b2056_A2050
            have b2057_g1070 := BlkO.evo (by decide) hE2057 b2056_g1070
            have b2057_A2053 := RwO.evo rfl hE2057 b2056_A2053
            refine fl_block (fun Q2058 hn2058 hx2058 hp2058 => ?_)
            refine fl_loop (body := (fun s => block_Bytes_b5 x1975 x2049 s.1 s.2)) (z := zz2042) (show loopO _ _ = _ from hs) (fun (s : (List Int) × Int) a wx => match s with | (out2076, x2078) => ∃ (ox : Own) (A2074 : Option Addr) (c2075 : Nat), a.defers = [] ∧ a.tmps.size = 115 ∧ a.eval (.tmp 5) = .pointer (some ⟨g1070, 0, none⟩) ∧ a.eval (.tmp 6) = .func (.func 29) #[] #[.pointer (some ⟨g1070, 0, none⟩)] ∧ a.eval (.tmp 7) = .func (.func 31) #[] #[.pointer (some ⟨g1070, 0, none⟩)] ∧ a.eval (.tmp 82) = .slice An1_1 n1.2.length cn1_1 ∧ a.eval (.tmp 83) = .int .i64 (n1.2.length : Int) ∧ a.eval (.tmp 84) = .int .i64 x1664 ∧ a.eval (.tmp 92) = .slice A1895 x1894.length cA1895 ∧ a.eval (.tmp 93) = .int .i64 (x1894.length : Int) ∧ a.eval (.tmp 94) = .int .i64 x1975 ∧ a.eval (.tmp 102) = .slice A2050 x2049.length cA2050 ∧ a.eval (.tmp 103) = .int .i64 (x2049.length : Int) ∧ a.eval (.tmp 104) = .int .i64 x2078 ∧ Evo [] (fun _ => 0) ox w wx ∧ BlkO ox 2073 wx g1070 33 #[.slice A2074 out2076.length c2075] ∧ RwO ox 2077 [] wx 5 R5 A2074 c2075 out2076 ∧ RdO ox [0] wx R27 An1_1 cn1_1 n1.2 ∧ RdO ox [0] wx R28 A1895 cA1895 x1894 ∧ RdO ox [0] wx R3 A2050 cA2050 x2049) ?_ ?_
            · exact ⟨(rl [(2054, 2077), (2055, 2073)] own2057), A2053, cA2053, hd2057, hz2057, e2057_5, e2057_6, e2057_7, e2057_82, e2057_83, e2057_84, e2057_92, e2057_93, e2057_94, e2057_102, e2057_103, e2057_104, (Evo.rl_ hX2057 (fun _ => Nat.le_refl 0) rfl), (BlkO.rl_ (mm := [(2054, 2077), (2055, 2073)]) b2057_g1070), (RwO.rl_ (mm := [(2054, 2077), (2055, 2073)]) b2057_A2053), (RdO.rl_ (mm := [(2054, 2077), (2055, 2073)]) b2057_An1_1), (RdO.rl_ (mm := [(2054, 2077), (2055, 2073)]) b2057_A1895), (RdO.rl_ (mm := [(2054, 2077), (2055, 2073)]) b2057_A2050)⟩
            · rintro ⟨out2076, x2078⟩ zz2093 a2093 w2093 ⟨own2093, A2074, c2075, hd2094, hz2094, e2094_5, e2094_6, e2094_7, e2094_82, e2094_83, e2094_84, e2094_92, e2094_93, e2094_94, e2094_102, e2094_103, e2094_104, hE2094, b2094_g1070, b2094_A2074, b2094_An1_1, b2094_A1895, b2094_A2050⟩ hs Q2093 hn2093 hp2093 hz2093
              have hs : block_Bytes_b5 x1975 x2049 out2076 x2078 = some zz2093 := hs
              refine rg_plain_seq (n := 115) (rs := []) (own0 := own2093) (K := [])
                  (bs := [0])
                  (ds := [⟨[], [104, 103], [], Fct.val 105 (.bool (decide (x2078 < (x2049.length : Int))))⟩]) (by kernel_rfl) hz2094 hd2094 (fun _ h => nomatch h) ?_ ?_
              · refine steps_cons (fun own a wx hf hsl hE => ?_) ?_
                · obtain ⟨s_104, s_103, -⟩ := hsl
                  exact sg_plain rfl rfl (or_lss (s_104.trans e2094_104) (s_103.trans e2094_103) rfl)
                exact steps_nil
              intro own2095 a2095 w2095 hd2095 hz2095 hk2095 hf2095 hE2095
              have e2095_5 : a2095.eval (.tmp 5) = .pointer (some ⟨g1070, 0, none⟩) := (hk2095 5 rfl).trans e2094_5
              have e2095_6 : a2095.eval (.tmp 6) = .func (.func 29) #[] #[.pointer (some ⟨g1070, 0, none⟩)] := (hk2095 6 rfl).trans e2094_6
              have e2095_7 : a2095.eval (.tmp 7) = .func (.func 31) #[] #[.pointer (some ⟨g1070, 0, none⟩)] := (hk2095 7 rfl).trans e2094_7
              have e2095_82 : a2095.eval (.tmp 82) = .slice An1_1 n1.2.length cn1_1 := (hk2095 82 rfl).trans e2094_82
              have e2095_83 : a2095.eval (.tmp 83) = .int .i64 (n1.2.length : Int) := (hk2095 83 rfl).trans e2094_83
              have e2095_84 : a2095.eval (.tmp 84) = .int .i64 x1664 := (hk2095 84 rfl).trans e2094_84
              have e2095_92 : a2095.eval (.tmp 92) = .slice A1895 x1894.length cA1895 := (hk2095 92 rfl).trans e2094_92
              have e2095_93 : a2095.eval (.tmp 93) = .int .i64 (x1894.length : Int) := (hk2095 93 rfl).trans e2094_93
              have e2095_94 : a2095.eval (.tmp 94) = .int .i64 x1975 := (hk2095 94 rfl).trans e2094_94
              have e2095_102 : a2095.eval (.tmp 102) = .slice A2050 x2049.length cA2050 := (hk2095 102 rfl).trans e2094_102
              have e2095_103 : a2095.eval (.tmp 103) = .int .i64 (x2049.length : Int) := (hk2095 103 rfl).trans e2094_103
              have e2095_104 : a2095.eval (.tmp 104) = .int .i64 x2078 := (hk2095 104 rfl).trans e2094_104
              obtain ⟨(f_105 : a2095.eval (.tmp 105) = .bool (decide (x2078 < (x2049.length : Int)))), -⟩ := hf2095 [0] rfl
              have e2095_105 := f_105
              have hX2095 := Evo.step hE2094 (fun _ => Nat.le_refl 0) hE2095 rfl
              have b2095_g1070 := BlkO.evo (by decide) hE2095 b2094_g1070
              have b2095_A2074 := RwO.evo rfl hE2095 b2094_A2074
              have b2095_An1_1 := RdO.evo rfl hE2095 b2094_An1_1
              have b2095_A1895 := RdO.evo rfl hE2095 b2094_A1895
              have b2095_A2050 := RdO.evo rfl hE2095 b2094_A2050
              refine fl_seq (fun Q2096 hn2096 hp2096 => ?_)
              refine fl_cond e2095_105 hs (fun c2097 hs => ?_) (fun c2097 hs => ?_)
              · refine fl_skip ?_
                refine hn2096 _ _ ?_
                refine fl_seq (fun Q2098 hn2098 hp2098 => ?_)
                refine fl_block (fun Q2099 hn2099 hx2099 hp2099 => ?_)
                obtain ⟨x2100, hx2100, hs⟩ := obind hs
                refine rg_plain_seq (n := 115) (rs := []) (own0 := own2095) (K := [])
                    (bs := [0, 1, 3])
                    (ds := [⟨[], [102, 104], [], Fct.val 106 (.pointer (some ((adr A2050).add ((x2078 : Int).toNat * R3.s))))⟩,
                    ⟨[0], [], [], Fct.val 107 (.int .i64 x2100)⟩,
                    ⟨[1], [], [], Fct.val 18 (.int .i64 x2100)⟩]) (by kernel_rfl) hz2095 hd2095 (fun _ h => nomatch h) ?_ ?_
                · refine steps_cons (fun own a wx hf hsl hE => ?_) ?_
                  · obtain ⟨s_102, s_104, -⟩ := hsl
                    exact sg_plain rfl rfl (or_index (R := R3) (l := x2049) tl28 (s_102.trans e2095_102) (s_104.trans e2095_104) (RdO.some_ b2095_A2050 hx2100) hx2100)
                  refine steps_cons (fun own a wx hf hsl hE => ?_) ?_
                  · obtain ⟨(f_106 : a.eval (.tmp 106) = .pointer (some ((adr A2050).add ((x2078 : Int).toNat * R3.s)))), -⟩ := hf
                    exact sg_plain rfl rfl (or_load1 to3 f_106 (CellsAt.zero (RdO.cells (F := E3) (RdO.evo rfl hE b2095_A2050) hx2100) rfl))
                  refine steps_cons (fun own a wx hf hsl hE => ?_) ?_
                  · obtain ⟨(f_107 : a.eval (.tmp 107) = .int .i64 x2100), -⟩ := hf
                    exact sg_plain rfl rfl (or_assign f_107)
                  exact steps_nil
                intro own2101 a2101 w2101 hd2101 hz2101 hk2101 hf2101 hE2101
                have e2101_5 : a2101.eval (.tmp 5) = .pointer (some ⟨g1070, 0, none⟩) := (hk2101 5 rfl).trans e2095_5
                have e2101_6 : a2101.eval (.tmp 6) = .func (.func 29) #[] #[.pointer (some ⟨g1070, 0, none⟩)] := (hk2101 6 rfl).trans e2095_6
                have e2101_7 : a2101.eval (.tmp 7) = .func (.func 31) #[] #[.pointer (some ⟨g1070, 0, none⟩)] := (hk2101 7 rfl).trans e2095_7
                have e2101_82 : a2101.eval (.tmp 82) = .slice An1_1 n1.2.length cn1_1 := (hk2101 82 rfl).trans e2095_82
                have e2101_83 : a2101.eval (.tmp 83) = .int .i64 (n1.2.length : Int) := (hk2101 83 rfl).trans e2095_83
                have e2101_84 : a2101.eval (.tmp 84) = .int .i64 x1664 := (hk2101 84 rfl).trans e2095_84
                have e2101_92 : a2101.eval (.tmp 92) = .slice A1895 x1894.length cA1895 := (hk2101 92 rfl).trans e2095_92
                have e2101_93 : a2101.eval (.tmp 93) = .int .i64 (x1894.length : Int) := (hk2101 93 rfl).trans e2095_93
                have e2101_94 : a2101.eval (.tmp 94) = .int .i64 x1975 := (hk2101 94 rfl).trans e2095_94
                have e2101_102 : a2101.eval (.tmp 102) = .slice A2050 x2049.length cA2050 := (hk2101 102 rfl).trans e2095_102
                have e2101_103 : a2101.eval (.tmp 103) = .int .i64 (x2049.length : Int) := (hk2101 103 rfl).trans e2095_103
                have e2101_104 : a2101.eval (.tmp 104) = .int .i64 x2078 := (hk2101 104 rfl).trans e2095_104
                obtain ⟨(f_18 : a2101.eval (.tmp 18) = .int .i64 x2100), -⟩ := hf2101 [2] rfl
                have e2101_18 := f_18
                have hX2101 := Evo.step hX2095 (fun _ => Nat.le_refl 0) hE2101 rfl
                have b2101_g1070 := BlkO.evo (by decide) hE2101 b2095_g1070
                have b2101_A2074 := RwO.evo rfl hE2101 b2095_A2074
                have b2101_An1_1 := RdO.evo rfl hE2101 b2095_An1_1
                have b2101_A1895 := RdO.evo rfl hE2101 b2095_A1895
                have b2101_A2050 := RdO.evo rfl hE2101 b2095_A2050
                obtain ⟨r2102, hr2102, hs⟩ := obind hs
                refine rg_plain (n := 115) (rs := [Fct.at_ 2073 g1070 33 #[.slice A2074 out2076.length c2075], Fct.rowAt 2077 [] 5 R5 A2074 c2075 out2076]) (own0 := own2101) (K := [2073, 2077])
                    (bs := [0, 0, 3])
                    (ds := [⟨[], [7], [], Fct.val 108 (.func (.func 31) #[] #[.pointer (some ⟨g1070, 0, none⟩)])⟩,
                    ⟨[], [18], [], Fct.val 109 (.int .i64 x2100)⟩,
                    ⟨[0, 1, 3, 4], [], [2073, 2077], Fct.mems [2104, 2105] 110 (fun (x : Option Addr × Nat) => .tuple #[]) (fun (x : Option Addr × Nat) own w => RwO own 2104 [] w 5 R5 x.1 x.2 r2102 ∧ BlkO own 2105 w g1070 33 #[.slice x.1 r2102.length x.2]) (fun hk he h => ⟨RwO.evo (hits_sub hk (by decide)) he h.1, BlkO.evo (not_hit hk (by decide)) he h.2⟩)⟩]) (by kernel_rfl) hz2101 hd2101 (by simp only [List.forall_mem_cons]; exact ⟨b2101_g1070, b2101_A2074, fun _ h => nomatch h⟩) ?_ ?_
                · refine steps_cons (fun own a wx hf hsl hE => ?_) ?_
                  · obtain ⟨s_7, -⟩ := hsl
                    exact sg_plain rfl rfl (or_move (s_7.trans e2101_7))
                  refine steps_cons (fun own a wx hf hsl hE => ?_) ?_
                  · obtain ⟨s_18, -⟩ := hsl
                    exact sg_plain rfl rfl (or_move (s_18.trans e2101_18))
                  refine steps_cons (fun own a wx hf hsl hE => ?_) ?_
                  · obtain ⟨(f_108 : a.eval (.tmp 108) = .func (.func 31) #[] #[.pointer (some ⟨g1070, 0, none⟩)]), (f_109 : a.eval (.tmp 109) = .int .i64 x2100), (b_g1070 : BlkO own 2073 wx g1070 33 #[.slice A2074 out2076.length c2075]), (b_A2074 : RwO own 2077 [] wx 5 R5 A2074 c2075 out2076), -⟩ := hf
                    exact sg_plain rfl rfl (or_callf cf31 f_108 (args1 f_109) rfl (block_Bytes_2_w _ (forth own (look0 [(2073, 1), (2077, 2)])) x2100 out2076 g1070 33 A2074 c2075 (look0_le rfl) (BlkO.forth_ (m := (look0 [(2073, 1), (2077, 2)])) b_g1070) (RwO.forth_ (m := (look0 [(2073, 1), (2077, 2)])) b_A2074) r2102 hr2102) (post_mems (m := (look0 [(2073, 1), (2077, 2)])) (m' := (look0 [(1, 2105), (2, 2104)])) (hm_of rfl) (fun own' w' a' x h1 h => ⟨x, h1, ⟨RwO.back_ h.1 (by decide) (.inl (Rep.fl_flat _)), BlkO.back_ h.2 (by decide)⟩⟩)))
                  exact steps_nil
                intro own2106 a2106 w2106 hd2106 hz2106 hk2106 hf2106 hE2106
                have e2106_5 : a2106.eval (.tmp 5) = .pointer (some ⟨g1070, 0, none⟩) := (hk2106 5 rfl).trans e2101_5
                have e2106_6 : a2106.eval (.tmp 6) = .func (.func 29) #[] #[.pointer (some ⟨g1070, 0, none⟩)] := (hk2106 6 rfl).trans e2101_6
                have e2106_7 : a2106.eval (.tmp 7) = .func (.func 31) #[] #[.pointer (some ⟨g1070, 0, none⟩)] := (hk2106 7 rfl).trans e2101_7
                have e2106_82 : a2106.eval (.tmp 82) = .slice An1_1 n1.2.length cn1_1 := (hk2106 82 rfl).trans e2101_82
                have e2106_83 : a2106.eval (.tmp 83) = .int .i64 (n1.2.length : Int) := (hk2106 83 rfl).trans e2101_83
                have e2106_84 : a2106.eval (.tmp 84) = .int .i64 x1664 := (hk2106 84 rfl).trans e2101_84
                have e2106_92 : a2106.eval (.tmp 92) = .slice A1895 x1894.length cA1895 := (hk2106 92 rfl).trans e2101_92
                have e2106_93 : a2106.eval (.tmp 93) = .int .i64 (x1894.length : Int) := (hk2106 93 rfl).trans e2101_93
                have e2106_94 : a2106.eval (.tmp 94) = .int .i64 x1975 := (hk2106 94 rfl).trans e2101_94
                have e2106_102 : a2106.eval (.tmp 102) = .slice A2050 x2049.length cA2050 := (hk2106 102 rfl).trans e2101_102
                have e2106_103 : a2106.eval (.tmp 103) = .int .i64 (x2049.length : Int) := (hk2106 103 rfl).trans e2101_103
                have e2106_104 : a2106.eval (.tmp 104) = .int .i64 x2078 := (hk2106 104 rfl).trans e2101_104
                obtain ⟨⟨⟨A2103, cA2103⟩, (f_110 : a2106.eval (.tmp 110) = .tuple #[]), (b_A2103 : RwO own2106 2104 [] w2106 5 R5 A2103 cA2103 r2102), (b_g1070 : BlkO own2106 2105 w2106 g1070 33 #[.slice A2103 r2102.length cA2103])⟩, -⟩ := hf2106 [2] rfl
                have hX2106 := Evo.step hX2101 (fun _ => Nat.le_refl 0) hE2106 rfl
                have b2106_An1_1 := RdO.evo rfl hE2106 b2101_An1_1
                have b2106_A1895 := RdO.evo rfl hE2106 b2101_A1895
                have b2106_A2050 := RdO.evo rfl hE2106 b2101_A2050
                have b2106_g1070 := b_g1070
                have b2106_A2103 := b_A2103
                refine hn2099 _ _ ?_
                refine hn2098 _ _ ?_
                refine rg_plain (n := 115) (rs := []) (own0 := own2106) (K := [])
                    (bs := [0, 1])
                    (ds := [⟨[], [104], [], Fct.val 111 (.int .i64 (ad x2078 1))⟩,
                    ⟨[0], [], [], Fct.val 104 (.int .i64 (ad x2078 1))⟩]) (by kernel_rfl) hz2106 hd2106 (fun _ h => nomatch h) ?_ ?_
                · refine steps_cons (fun own a wx hf hsl hE => ?_) ?_
                  · obtain ⟨s_104, -⟩ := hsl
                    exact sg_plain rfl rfl (or_add (s_104.trans e2106_104) rfl rfl)
                  refine steps_cons (fun own a wx hf hsl hE => ?_) ?_
                  · obtain ⟨(f_111 : a.eval (.tmp 111) = .int .i64 (ad x2078 1)), -⟩ := hf
                    exact sg_plain rfl rfl (or_move f_111)
                  exact steps_nil
                intro own2107 a2107 w2107 hd2107 hz2107 hk2107 hf2107 hE2107
                have e2107_5 : a2107.eval (.tmp 5) = .pointer (some ⟨g1070, 0, none⟩) := (hk2107 5 rfl).trans e2106_5
                have e2107_6 : a2107.eval (.tmp 6) = .func (.func 29) #[] #[.pointer (some ⟨g1070, 0, none⟩)] := (hk2107 6 rfl).trans e2106_6
                have e2107_7 : a2107.eval (.tmp 7) = .func (.func 31) #[] #[.pointer (some ⟨g1070, 0, none⟩)] := (hk2107 7 rfl).trans e2106_7
                have e2107_82 : a2107.eval (.tmp 82) = .slice An1_1 n1.2.length cn1_1 := (hk2107 82 rfl).trans e2106_82
                have e2107_83 : a2107.eval (.tmp 83) = .int .i64 (n1.2.length : Int) := (hk2107 83 rfl).trans e2106_83
                have e2107_84 : a2107.eval (.tmp 84) = .int .i64 x1664 := (hk2107 84 rfl).trans e2106_84
                have e2107_92 : a2107.eval (.tmp 92) = .slice A1895 x1894.length cA1895 := (hk2107 92 rfl).trans e2106_92
                have e2107_93 : a2107.eval (.tmp 93) = .int .i64 (x1894.length : Int) := (hk2107 93 rfl).trans e2106_93
                have e2107_94 : a2107.eval (.tmp 94) = .int .i64 x1975 := (hk2107 94 rfl).trans e2106_94
                have e2107_102 : a2107.eval (.tmp 102) = .slice A2050 x2049.length cA2050 := (hk2107 102 rfl).trans e2106_102
                have e2107_103 : a2107.eval (.tmp 103) = .int .i64 (x2049.length : Int) := (hk2107 103 rfl).trans e2106_103
                obtain ⟨(f_104 : a2107.eval (.tmp 104) = .int .i64 (ad x2078 1)), -⟩ := hf2107 [1] rfl
                have e2107_104 := f_104
                have hX2107 := Evo.step hX2106 (fun _ => Nat.le_refl 0) hE2107 rfl
                have b2107_An1_1 := RdO.evo rfl hE2107 b2106_An1_1
                have b2107_A1895 := RdO.evo rfl hE2107 b2106_A1895
                have b2107_A2050 := RdO.evo rfl hE2107 b2106_A2050
                have b2107_g1070 := BlkO.evo (by decide) hE2107 b2106_g1070
                have b2107_A2103 := RwO.evo rfl hE2107 b2106_A2103
                exact hn2093 _ _ _ hs ⟨(rl [(2104, 2077), (2105, 2073)] own2107), A2103, cA2103, hd2107, hz2107, e2107_5, e2107_6, e2107_7, e2107_82, e2107_83, e2107_84, e2107_92, e2107_93, e2107_94, e2107_102, e2107_103, e2107_104, (Evo.rl_ hX2107 (fun _ => Nat.le_refl 0) rfl), (BlkO.rl_ (mm := [(2104, 2077), (2105, 2073)]) b2107_g1070), (RwO.rl_ (mm := [(2104, 2077), (2105, 2073)]) b2107_A2103), (RdO.rl_ (mm := [(2104, 2077), (2105, 2073)]) b2107_An1_1), (RdO.rl_ (mm := [(2104, 2077), (2105, 2073)]) b2107_A1895), (RdO.rl_ (mm := [(2104, 2077), (2105, 2073)]) b2107_A2050)⟩
              refine fl_exit ?_
              refine hp2096 _ _ _ rfl ?_
              replace hs := hz2093 _ hs
              refine hp2093 _ _ _ rfl ?_
              refine hx2058 _ _ ?_
              refine hn2048 _ _ ?_
              refine hn2047 _ _ ?_
              refine rg_plain (n := 115) (rs := []) (own0 := own2095) (K := [])
                  (bs := [0, 1])
                  (ds := [⟨[], [94], [], Fct.val 112 (.int .i64 (ad x1975 1))⟩,
                  ⟨[0], [], [], Fct.val 94 (.int .i64 (ad x1975 1))⟩]) (by kernel_rfl) hz2095 hd2095 (fun _ h => nomatch h) ?_ ?_
              · refine steps_cons (fun own a wx hf hsl hE => ?_) ?_
                · obtain ⟨s_94, -⟩ := hsl
                  exact sg_plain rfl rfl (or_add (s_94.trans e2095_94) rfl rfl)
                refine steps_cons (fun own a wx hf hsl hE => ?_) ?_
                · obtain ⟨(f_112 : a.eval (.tmp 112) = .int .i64 (ad x1975 1)), -⟩ := hf
                  exact sg_plain rfl rfl (or_move f_112)
                exact steps_nil
              intro own2108 a2108 w2108 hd2108 hz2108 hk2108 hf2108 hE2108
              have e2108_5 : a2108.eval (.tmp 5) = .pointer (some ⟨g1070, 0, none⟩) := (hk2108 5 rfl).trans e2095_5
              have e2108_6 : a2108.eval (.tmp 6) = .func (.func 29) #[] #[.pointer (some ⟨g1070, 0, none⟩)] := (hk2108 6 rfl).trans e2095_6
              have e2108_7 : a2108.eval (.tmp 7) = .func (.func 31) #[] #[.pointer (some ⟨g1070, 0, none⟩)] := (hk2108 7 rfl).trans e2095_7
              have e2108_82 : a2108.eval (.tmp 82) = .slice An1_1 n1.2.length cn1_1 := (hk2108 82 rfl).trans e2095_82
              have e2108_83 : a2108.eval (.tmp 83) = .int .i64 (n1.2.length : Int) := (hk2108 83 rfl).trans e2095_83
              have e2108_84 : a2108.eval (.tmp 84) = .int .i64 x1664 := (hk2108 84 rfl).trans e2095_84
              have e2108_92 : a2108.eval (.tmp 92) = .slice A1895 x1894.length cA1895 := (hk2108 92 rfl).trans e2095_92
              have e2108_93 : a2108.eval (.tmp 93) = .int .i64 (x1894.length : Int) := (hk2108 93 rfl).trans e2095_93
              obtain ⟨(f_94 : a2108.eval (.tmp 94) = .int .i64 (ad x1975 1)), -⟩ := hf2108 [1] rfl
              have e2108_94 := f_94
              have hX2108 := Evo.step hX2095 (fun _ => Nat.le_refl 0) hE2108 rfl
              have b2108_g1070 := BlkO.evo (by decide) hE2108 b2095_g1070
              have b2108_A2074 := RwO.evo rfl hE2108 b2095_A2074
              have b2108_An1_1 := RdO.evo rfl hE2108 b2095_An1_1
              have b2108_A1895 := RdO.evo rfl hE2108 b2095_A1895
              exact hn2042 _ _ _ hs ⟨(rl [(2073, 1970), (2077, 1974)] own2108), A2074, c2075, hd2108, hz2108, e2108_5, e2108_6, e2108_7, e2108_82, e2108_83, e2108_84, e2108_92, e2108_93, e2108_94, (Evo.rl_ hX2108 (fun _ => Nat.le_refl 0) rfl), (BlkO.rl_ (mm := [(2073, 1970), (2077, 1974)]) b2108_g1070), (RwO.rl_ (mm := [(2073, 1970), (2077, 1974)]) b2108_A2074), (RdO.rl_ (mm := [(2073, 1970), (2077, 1974)]) b2108_An1_1), (RdO.rl_ (mm := [(2073, 1970), (2077, 1974)]) b2108_A1895)⟩
          refine fl_exit ?_
          refine hp2045 _ _ _ rfl ?_
          replace hs := hz2042 _ hs
          refine hp2042 _ _ _ rfl ?_
          refine hx1903 _ _ ?_
          refine hn1893 _ _ ?_
          refine hn1892 _ _ ?_
          refine rg_plain (n := 115) (rs := []) (own0 := own2044) (K := [])
              (bs := [0, 1])
              (ds := [⟨[], [84], [], Fct.val 113 (.int .i64 (ad x1664 1))⟩,
              ⟨[0], [], [], Fct.val 84 (.int .i64 (ad x1664 1))⟩]) (by kernel_rfl) hz2044 hd2044 (fun _ h => nomatch h) ?_ ?_
          · refine steps_cons (fun own a wx hf hsl hE => ?_) ?_
            · obtain ⟨s_84, -⟩ := hsl
              exact sg_plain rfl rfl (or_add (s_84.trans e2044_84) rfl rfl)
            refine steps_cons (fun own a wx hf hsl hE => ?_) ?_
            · obtain ⟨(f_113 : a.eval (.tmp 113) = .int .i64 (ad x1664 1)), -⟩ := hf
              exact sg_plain rfl rfl (or_move f_113)
            exact steps_nil
          intro own2109 a2109 w2109 hd2109 hz2109 hk2109 hf2109 hE2109
          have e2109_5 : a2109.eval (.tmp 5) = .pointer (some ⟨g1070, 0, none⟩) := (hk2109 5 rfl).trans e2044_5
          have e2109_6 : a2109.eval (.tmp 6) = .func (.func 29) #[] #[.pointer (some ⟨g1070, 0, none⟩)] := (hk2109 6 rfl).trans e2044_6
          have e2109_7 : a2109.eval (.tmp 7) = .func (.func 31) #[] #[.pointer (some ⟨g1070, 0, none⟩)] := (hk2109 7 rfl).trans e2044_7
          have e2109_82 : a2109.eval (.tmp 82) = .slice An1_1 n1.2.length cn1_1 := (hk2109 82 rfl).trans e2044_82
          have e2109_83 : a2109.eval (.tmp 83) = .int .i64 (n1.2.length : Int) := (hk2109 83 rfl).trans e2044_83
          obtain ⟨(f_84 : a2109.eval (.tmp 84) = .int .i64 (ad x1664 1)), -⟩ := hf2109 [1] rfl
          have e2109_84 := f_84
          have hX2109 := Evo.step hX2044 (fun _ => Nat.le_refl 0) hE2109 rfl
          have b2109_g1070 := BlkO.evo (by decide) hE2109 b2044_g1070
          have b2109_A1971 := RwO.evo rfl hE2109 b2044_A1971
          have b2109_An1_1 := RdO.evo rfl hE2109 b2044_An1_1
          exact hn1887 _ _ _ hs ⟨(rl [(1970, 1659), (1974, 1663)] own2109), A1971, c1972, hd2109, hz2109, e2109_5, e2109_6, e2109_7, e2109_82, e2109_83, e2109_84, (Evo.rl_ hX2109 (fun _ => Nat.le_refl 0) rfl), (BlkO.rl_ (mm := [(1970, 1659), (1974, 1663)]) b2109_g1070), (RwO.rl_ (mm := [(1970, 1659), (1974, 1663)]) b2109_A1971), (RdO.rl_ (mm := [(1970, 1659), (1974, 1663)]) b2109_An1_1)⟩
      refine fl_exit ?_
      refine hp1890 _ _ _ rfl ?_
      replace hs := hz1887 _ hs
      refine hp1887 _ _ _ rfl ?_
      refine hx1436 _ _ ?_
      refine hn1434 _ _ ?_
      refine rg_plain_seq (n := 115) (rs := []) (own0 := own1889) (K := [])
          (bs := [0, 1, 3])
          (ds := [⟨[], [5], [], Fct.val 114 (.slice A1660 out1662.length c1661)⟩,
          ⟨[0], [], [], Fct.val 2 (.slice A1660 out1662.length c1661)⟩,
          ⟨[], [], [], Fct.val 3 (.int .i64 0)⟩]) (by kernel_rfl) hz1889 hd1889 (fun _ h => nomatch h) ?_ ?_
      · refine steps_cons (fun own a wx hf hsl hE => ?_) ?_
        · obtain ⟨s_5, -⟩ := hsl
          exact sg_plain rfl rfl (or_load1 to33 (s_5.trans e1889_5) (Blk.at_ (BlkO.evo (by decide) hE b1889_g1070).2 0 rfl))
        refine steps_cons (fun own a wx hf hsl hE => ?_) ?_
        · obtain ⟨(f_114 : a.eval (.tmp 114) = .slice A1660 out1662.length c1661), -⟩ := hf
          exact sg_plain rfl rfl (or_assign f_114)
        refine steps_cons (fun own a wx hf hsl hE => ?_) ?_
        · exact sg_plain rfl rfl (or_assign rfl)
        exact steps_nil
      intro own2110 a2110 w2110 hd2110 hz2110 hk2110 hf2110 hE2110
      obtain ⟨(f_2 : a2110.eval (.tmp 2) = .slice A1660 out1662.length c1661), (f_3 : a2110.eval (.tmp 3) = .int .i64 0), -⟩ := hf2110 [1, 2] rfl
      have e2110_2 := f_2
      have e2110_3 := f_3
      have hX2110 := Evo.step hX1889 (fun _ => Nat.le_refl 0) hE2110 rfl
      have b2110_A1660 := RwO.evo rfl hE2110 b1889_A1660
      refine fl_ret ?_
      obtain rfl := osome hs
      exact hret _ _ _ _ (.inl rfl) hd2110 (results2_ rfl (RVal.tmp_ e2110_2) (RVal.tmp_ e2110_3)) ⟨(rl [(1663, 1)] own2110), (A1660, c1661), rfl, (Evo.rl_ hX2110 (fun _ => Nat.le_refl 0) rfl), (RwO.rl_ (mm := [(1663, 1)]) b2110_A1660)⟩

end Go.Proofs.Ytaobbaohelpdgaa
