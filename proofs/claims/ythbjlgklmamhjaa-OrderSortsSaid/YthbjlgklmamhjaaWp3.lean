/-
  Chapter 04. The walks.
-/
import Derived.Test.YthbjlgklmamhjaaWp2
import Derived.Test.YthbjlgklmamhjaaSp3
namespace Go.Proofs.Ythbjlgklmamhjaa
open Go.RowKit
set_option linter.unusedVariables false
theorem ref04_Put_w (w : World) (l1 : List Int) (Al1 : Option Addr) (cl1 : Nat) (n2 : Int) (hl1 : RdO (fun _ => 0) [0] w R3 Al1 cl1 l1) (r : List Int) (hs : ref04_Put l1 n2 = some r) :
    Calls Try.prog 7 #[.slice Al1 l1.length cl1, .int .i64 n2] w fun e w' => ∃ (own' : Own) (x : Option Addr × Nat), e = .returned (.slice x.1 r.length x.2) ∧ Evo [] (fun _ => 0) own' w w' ∧ RwO own' 1 [] w' 3 R3 x.1 x.2 r := by
  refine fl_enter (n := 35) rfl rfl rfl (Nat.le_of_ble_eq_true rfl) ?_
  intro a0 Q hd0 hz0 harg hret
  have ha0 := harg 0 _ rfl
  have ha1 := harg 1 _ rfl
  clear harg
  have hE0 : Evo [] (fun _ => 0) (fun _ => 0) w w := Evo.refl _ _ _
  refine rg_plain_seq (n := 35) (rs := []) (own0 := (fun _ => 0)) (K := [])
      (bs := [0])
      (ds := [⟨[], [], [], Fct.val 4 (.slice none 0 0)⟩]) (by kernel_rfl) hz0 hd0 (fun _ h => nomatch h) ?_ ?_
  · refine steps_cons (fun own a wx hf hsl hE => ?_) ?_
    · exact sg_plain rfl rfl (or_assign rfl)
    exact steps_nil
  intro own62 a62 w62 hd62 hz62 hk62 hf62 hE62
  have e62_0 : a62.eval (.tmp 0) = .slice Al1 l1.length cl1 := (hk62 0 rfl).trans ha0
  have e62_1 : a62.eval (.tmp 1) = .int .i64 n2 := (hk62 1 rfl).trans ha1
  have hX62 := Evo.step hE0 (fun _ => Nat.le_refl 0) hE62 rfl
  have b62_Al1 := RdO.evo rfl hE62 hl1
  refine rg_plain_seq (n := 35) (rs := []) (own0 := own62) (K := [])
      (bs := [0, 1, 3])
      (ds := [⟨[], [0], [], Fct.val 7 (.slice Al1 l1.length cl1)⟩,
      ⟨[0], [], [], Fct.val 8 (.int .i64 (l1.length : Int))⟩,
      ⟨[1], [], [], Fct.val 5 (.int .i64 (l1.length : Int))⟩]) (by kernel_rfl) hz62 hd62 (fun _ h => nomatch h) ?_ ?_
  · refine steps_cons (fun own a wx hf hsl hE => ?_) ?_
    · obtain ⟨s_0, -⟩ := hsl
      exact sg_plain rfl rfl (or_move (s_0.trans e62_0))
    refine steps_cons (fun own a wx hf hsl hE => ?_) ?_
    · obtain ⟨(f_7 : a.eval (.tmp 7) = .slice Al1 l1.length cl1), -⟩ := hf
      exact sg_plain rfl rfl (or_len tu22 f_7 rfl)
    refine steps_cons (fun own a wx hf hsl hE => ?_) ?_
    · obtain ⟨(f_8 : a.eval (.tmp 8) = .int .i64 (l1.length : Int)), -⟩ := hf
      exact sg_plain rfl rfl (or_assign f_8)
    exact steps_nil
  intro own63 a63 w63 hd63 hz63 hk63 hf63 hE63
  have e63_0 : a63.eval (.tmp 0) = .slice Al1 l1.length cl1 := (hk63 0 rfl).trans e62_0
  have e63_1 : a63.eval (.tmp 1) = .int .i64 n2 := (hk63 1 rfl).trans e62_1
  obtain ⟨(f_5 : a63.eval (.tmp 5) = .int .i64 (l1.length : Int)), -⟩ := hf63 [2] rfl
  have e63_5 := f_5
  have hX63 := Evo.step hX62 (fun _ => Nat.le_refl 0) hE63 rfl
  have b63_Al1 := RdO.evo rfl hE63 b62_Al1
  refine fl_seq (fun Q64 hn64 hp64 => ?_)
  refine fl_block (fun Q65 hn65 hx65 hp65 => ?_)
  refine fl_loop (body := (fun s => ref04_Put_b1 l1 n2 s)) (z := r) (show loopO _ _ = _ from hs) (fun (x74 : Int) a wx => ∃ (ox : Own), a.defers = [] ∧ a.tmps.size = 35 ∧ a.eval (.tmp 0) = .slice Al1 l1.length cl1 ∧ a.eval (.tmp 1) = .int .i64 n2 ∧ a.eval (.tmp 5) = .int .i64 x74 ∧ Evo [] (fun _ => 0) ox w wx ∧ RdO ox [0] wx R3 Al1 cl1 l1) ?_ ?_
  · exact ⟨own63, hd63, hz63, e63_0, e63_1, e63_5, hX63, b63_Al1⟩
  · rintro x74 zz83 a83 w83 ⟨own83, hd84, hz84, e84_0, e84_1, e84_5, hE84, b84_Al1⟩ hs Q83 hn83 hp83 hz83
    have hs : ref04_Put_b1 l1 n2 x74 = some zz83 := hs
    refine fl_seq (fun Q85 hn85 hp85 => ?_)
    obtain ⟨x86, hx86, hs⟩ := obind hs
    obtain ⟨x87, hx87, hs⟩ := obind hs
    refine rg_plain_seq (n := 35) (rs := []) (own0 := own83) (K := [])
        (bs := [0, 1, 3, 7, 7, 7, 39, 119, 247, 511, 1023])
        (ds := [⟨[], [5], [], Fct.val 9 (.int .i64 x74)⟩,
        ⟨[0], [], [], Fct.val 10 (.bool (decide (0 < x74)))⟩,
        ⟨[1], [], [], Fct.val 11 (.bool (decide (0 < x74)))⟩,
        ⟨[2], [1], [], Fct.cond (decide (0 < x74)) (some 12) (Fct.val 12 (.int .i64 n2))⟩,
        ⟨[2], [0], [], Fct.cond (decide (0 < x74)) (some 13) (Fct.val 13 (.slice Al1 l1.length cl1))⟩,
        ⟨[2], [5], [], Fct.cond (decide (0 < x74)) (some 14) (Fct.val 14 (.int .i64 x74))⟩,
        ⟨[2, 5], [], [], Fct.cond (decide (0 < x74)) (some 15) (Fct.val 15 (.int .i64 (sb x74 1)))⟩,
        ⟨[2, 4, 6], [], [], Fct.cond (decide (0 < x74)) (some 16) (Fct.val 16 (.pointer (some ((adr Al1).add ((sb x74 1 : Int).toNat * R3.s)))))⟩,
        ⟨[2, 7], [], [], Fct.cond (decide (0 < x74)) (some 17) (Fct.val 17 (.int .i64 x86))⟩,
        ⟨[2, 3, 8], [], [], Fct.cond (decide (0 < x74)) (some 18) (Fct.val 18 (.bool (decide (n2 < x86))))⟩,
        ⟨[2, 9], [], [], Fct.val 19 (.bool x87)⟩]) (by kernel_rfl) hz84 hd84 (fun _ h => nomatch h) ?_ ?_
    · refine steps_cons (fun own a wx hf hsl hE => ?_) ?_
      · obtain ⟨s_5, -⟩ := hsl
        exact sg_plain rfl rfl (or_move (s_5.trans e84_5))
      refine steps_cons (fun own a wx hf hsl hE => ?_) ?_
      · obtain ⟨(f_9 : a.eval (.tmp 9) = .int .i64 x74), -⟩ := hf
        exact sg_plain rfl rfl (or_gtr f_9 rfl rfl)
      refine steps_cons (fun own a wx hf hsl hE => ?_) ?_
      · obtain ⟨(f_10 : a.eval (.tmp 10) = .bool (decide (0 < x74))), -⟩ := hf
        exact sg_plain rfl rfl (or_move f_10)
      refine steps_cons (fun own a wx hf hsl hE => ?_) ?_
      · obtain ⟨(f_11 : a.eval (.tmp 11) = .bool (decide (0 < x74))), -⟩ := hf
        obtain ⟨s_1, -⟩ := hsl
        refine sg_t rfl rfl rfl f_11 (fun hg => ?_)
        exact or_move (s_1.trans e84_1)
      refine steps_cons (fun own a wx hf hsl hE => ?_) ?_
      · obtain ⟨(f_11 : a.eval (.tmp 11) = .bool (decide (0 < x74))), -⟩ := hf
        obtain ⟨s_0, -⟩ := hsl
        refine sg_t rfl rfl rfl f_11 (fun hg => ?_)
        exact or_move (s_0.trans e84_0)
      refine steps_cons (fun own a wx hf hsl hE => ?_) ?_
      · obtain ⟨(f_11 : a.eval (.tmp 11) = .bool (decide (0 < x74))), -⟩ := hf
        obtain ⟨s_5, -⟩ := hsl
        refine sg_t rfl rfl rfl f_11 (fun hg => ?_)
        exact or_move (s_5.trans e84_5)
      refine steps_cons (fun own a wx hf hsl hE => ?_) ?_
      · obtain ⟨(f_11 : a.eval (.tmp 11) = .bool (decide (0 < x74))), c_14, -⟩ := hf
        refine sg_t rfl rfl rfl f_11 (fun hg => ?_)
        have f_14 : a.eval (.tmp 14) = .int .i64 x74 := c_14.1 hg
        exact or_sub f_14 rfl rfl
      refine steps_cons (fun own a wx hf hsl hE => ?_) ?_
      · obtain ⟨(f_11 : a.eval (.tmp 11) = .bool (decide (0 < x74))), c_13, c_15, -⟩ := hf
        refine sg_t rfl rfl rfl f_11 (fun hg => ?_)
        have f_13 : a.eval (.tmp 13) = .slice Al1 l1.length cl1 := c_13.1 hg
        have f_15 : a.eval (.tmp 15) = .int .i64 (sb x74 1) := c_15.1 hg
        exact or_index (R := R3) (l := l1) tl22 f_13 f_15 (RdO.some_ b84_Al1 (gd_t hx86 hg)) (gd_t hx86 hg)
      refine steps_cons (fun own a wx hf hsl hE => ?_) ?_
      · obtain ⟨(f_11 : a.eval (.tmp 11) = .bool (decide (0 < x74))), c_16, -⟩ := hf
        refine sg_t rfl rfl rfl f_11 (fun hg => ?_)
        have f_16 : a.eval (.tmp 16) = .pointer (some ((adr Al1).add ((sb x74 1 : Int).toNat * R3.s))) := c_16.1 hg
        exact or_load1 to3 f_16 (CellsAt.zero (RdO.cells (F := E3) (RdO.evo rfl hE b84_Al1) (gd_t hx86 hg)) rfl)
      refine steps_cons (fun own a wx hf hsl hE => ?_) ?_
      · obtain ⟨(f_11 : a.eval (.tmp 11) = .bool (decide (0 < x74))), c_12, c_17, -⟩ := hf
        refine sg_t rfl rfl rfl f_11 (fun hg => ?_)
        have f_12 : a.eval (.tmp 12) = .int .i64 n2 := c_12.1 hg
        have f_17 : a.eval (.tmp 17) = .int .i64 x86 := c_17.1 hg
        exact or_lss f_12 f_17 rfl
      refine steps_cons (fun own a wx hf hsl hE => ?_) ?_
      · obtain ⟨(f_11 : a.eval (.tmp 11) = .bool (decide (0 < x74))), c_18, -⟩ := hf
        exact sg_plain rfl rfl (or_and f_11 (fun hx => c_18.1 hx) rfl (osome hx87).symm)
      exact steps_nil
    intro own88 a88 w88 hd88 hz88 hk88 hf88 hE88
    have e88_0 : a88.eval (.tmp 0) = .slice Al1 l1.length cl1 := (hk88 0 rfl).trans e84_0
    have e88_1 : a88.eval (.tmp 1) = .int .i64 n2 := (hk88 1 rfl).trans e84_1
    have e88_5 : a88.eval (.tmp 5) = .int .i64 x74 := (hk88 5 rfl).trans e84_5
    obtain ⟨(f_19 : a88.eval (.tmp 19) = .bool x87), -⟩ := hf88 [10] rfl
    have e88_19 := f_19
    have hX88 := Evo.step hE84 (fun _ => Nat.le_refl 0) hE88 rfl
    have b88_Al1 := RdO.evo rfl hE88 b84_Al1
    refine fl_cond e88_19 hs (fun c89 hs => ?_) (fun c89 hs => ?_)
    · refine fl_skip ?_
      refine hn85 _ _ ?_
      refine fl_block (fun Q90 hn90 hx90 hp90 => ?_)
      refine rg_plain (n := 35) (rs := []) (own0 := own88) (K := [])
          (bs := [0, 1, 3])
          (ds := [⟨[], [5], [], Fct.val 20 (.int .i64 x74)⟩,
          ⟨[0], [], [], Fct.val 21 (.int .i64 (sb x74 1))⟩,
          ⟨[1], [], [], Fct.val 5 (.int .i64 (sb x74 1))⟩]) (by kernel_rfl) hz88 hd88 (fun _ h => nomatch h) ?_ ?_
      · refine steps_cons (fun own a wx hf hsl hE => ?_) ?_
        · obtain ⟨s_5, -⟩ := hsl
          exact sg_plain rfl rfl (or_move (s_5.trans e88_5))
        refine steps_cons (fun own a wx hf hsl hE => ?_) ?_
        · obtain ⟨(f_20 : a.eval (.tmp 20) = .int .i64 x74), -⟩ := hf
          exact sg_plain rfl rfl (or_sub f_20 rfl rfl)
        refine steps_cons (fun own a wx hf hsl hE => ?_) ?_
        · obtain ⟨(f_21 : a.eval (.tmp 21) = .int .i64 (sb x74 1)), -⟩ := hf
          exact sg_plain rfl rfl (or_assign f_21)
        exact steps_nil
      intro own91 a91 w91 hd91 hz91 hk91 hf91 hE91
      have e91_0 : a91.eval (.tmp 0) = .slice Al1 l1.length cl1 := (hk91 0 rfl).trans e88_0
      have e91_1 : a91.eval (.tmp 1) = .int .i64 n2 := (hk91 1 rfl).trans e88_1
      obtain ⟨(f_5 : a91.eval (.tmp 5) = .int .i64 (sb x74 1)), -⟩ := hf91 [2] rfl
      have e91_5 := f_5
      have hX91 := Evo.step hX88 (fun _ => Nat.le_refl 0) hE91 rfl
      have b91_Al1 := RdO.evo rfl hE91 b88_Al1
      refine hn90 _ _ ?_
      exact hn83 _ _ _ hs ⟨own91, hd91, hz91, e91_0, e91_1, e91_5, hX91, b91_Al1⟩
    refine fl_exit ?_
    refine hp85 _ _ _ rfl ?_
    replace hs := hz83 _ hs
    refine hp83 _ _ _ rfl ?_
    refine hx65 _ _ ?_
    refine hn64 _ _ ?_
    obtain ⟨x94, hx94, hs⟩ := obind hs
    obtain ⟨x96, hx96, hs⟩ := obind hs
    obtain ⟨x101, hx101, hs⟩ := obind hs
    refine rg_plain_seq (n := 35) (rs := []) (own0 := own88) (K := [93, 97])
        (bs := [0, 0, 0, 6, 15, 0, 32, 127, 255])
        (ds := [⟨[], [], [], Fct.row 93 [] 22 3 R3 ([] : List Int)⟩,
        ⟨[], [0], [], Fct.val 23 (.slice Al1 l1.length cl1)⟩,
        ⟨[], [5], [], Fct.val 24 (.int .i64 x74)⟩,
        ⟨[1, 2], [], [], Fct.view [0] 25 R3 x94⟩,
        ⟨[0, 3], [], [93], Fct.row 97 [] 26 3 R3 x96⟩,
        ⟨[], [1], [], Fct.val 27 (.int .i64 n2)⟩,
        ⟨[5], [], [], Fct.row 100 [] 28 3 R3 [n2]⟩,
        ⟨[4, 6], [], [97], Fct.row 102 [] 29 3 R3 x101⟩,
        ⟨[7], [], [], Fct.rel [6, 29] (fun l => ∀ (A103 : Option Addr) (cA103 : Nat), l.getD 1 undef = .slice A103 x101.length cA103 → l.getD 0 undef = .slice A103 x101.length cA103)⟩]) (by kernel_rfl) hz88 hd88 (fun _ h => nomatch h) ?_ ?_
    · refine steps_cons (fun own a wx hf hsl hE => ?_) ?_
      · exact sg_plain rfl rfl (or_lit (lab := 93) (e := 3) (cs := #[]) (F := E3) (or_new [] rfl rfl trivial (by kernel_rfl)) rfl rfl (show 0 ≤ maxLen by decide))
      refine steps_cons (fun own a wx hf hsl hE => ?_) ?_
      · obtain ⟨s_0, -⟩ := hsl
        exact sg_plain rfl rfl (or_move (s_0.trans e88_0))
      refine steps_cons (fun own a wx hf hsl hE => ?_) ?_
      · obtain ⟨s_5, -⟩ := hsl
        exact sg_plain rfl rfl (or_move (s_5.trans e88_5))
      refine steps_cons (fun own a wx hf hsl hE => ?_) ?_
      · obtain ⟨(f_23 : a.eval (.tmp 23) = .slice Al1 l1.length cl1), (f_24 : a.eval (.tmp 24) = .int .i64 x74), -⟩ := hf
        exact sg_plain rfl rfl (or_view (R := R3) (l := l1) (L := [0]) tu22 ts3 f_23 Bnd.none_ (Bnd.some_ f_24) Bnd.none_ (RdO.evo rfl hE b88_Al1) hx94 (.inl rfl) (by simp))
      refine steps_cons (fun own a wx hf hsl hE => ?_) ?_
      · obtain ⟨⟨⟨A92, cA92⟩, (f_22 : a.eval (.tmp 22) = .slice A92 ([] : List Int).length cA92), (b_A92 : RwO own 93 [] wx 3 R3 A92 cA92 ([] : List Int))⟩, ⟨⟨A95, cA95⟩, (f_25 : a.eval (.tmp 25) = .slice A95 x94.length cA95), (b_A95 : RdO own [0] wx R3 A95 cA95 x94)⟩, -⟩ := hf
        exact sg_plain rfl rfl (or_append (R := R3) (lab := 93) (lab2 := 97) (L := []) (L3 := []) tp22 f_22 b_A92 (by decide) f_25 b_A95 hx96 (by decide) (by decide) (mem_of rfl) (.inl (Rep.fl_flat _)))
      refine steps_cons (fun own a wx hf hsl hE => ?_) ?_
      · obtain ⟨s_1, -⟩ := hsl
        exact sg_plain rfl rfl (or_move (s_1.trans e88_1))
      refine steps_cons (fun own a wx hf hsl hE => ?_) ?_
      · obtain ⟨(f_27 : a.eval (.tmp 27) = .int .i64 n2), -⟩ := hf
        exact sg_plain rfl rfl (or_lit (lab := 100) (e := 3) (cs := #[.int .i64 n2]) (F := E3) (or_new [(27, .int .i64 n2)] rfl rfl ⟨f_27, trivial⟩ (by kernel_rfl)) rfl rfl (show 1 ≤ maxLen by decide))
      refine steps_cons (fun own a wx hf hsl hE => ?_) ?_
      · obtain ⟨⟨⟨A98, cA98⟩, (f_26 : a.eval (.tmp 26) = .slice A98 x96.length cA98), (b_A98 : RwO own 97 [] wx 3 R3 A98 cA98 x96)⟩, ⟨⟨A99, cA99⟩, (f_28 : a.eval (.tmp 28) = .slice A99 [n2].length cA99), (b_A99 : RwO own 100 [] wx 3 R3 A99 cA99 [n2])⟩, -⟩ := hf
        exact sg_plain rfl rfl (or_append (R := R3) (lab := 97) (lab2 := 102) (L := []) (L3 := []) tp22 f_26 b_A98 (by decide) f_28 (RwO.rd b_A99) hx101 (by decide) (by decide) (mem_of rfl) (.inl (Rep.fl_flat _)))
      refine steps_cons (fun own a wx hf hsl hE => ?_) ?_
      · obtain ⟨⟨⟨A103, cA103⟩, (f_29 : a.eval (.tmp 29) = .slice A103 x101.length cA103), (b_A103 : RwO own 102 [] wx 3 R3 A103 cA103 x101)⟩, -⟩ := hf
        exact sg_plain rfl rfl (or_mono (f := Fct.val 6 (.slice A103 x101.length cA103)) (or_assign f_29) (fun own' a' w' v' hp h => fun _ _ h0' => by cases (f_29.symm.trans ((hp.2 29 (by decide)).symm.trans h0')); exact h))
      exact steps_nil
    intro own104 a104 w104 hd104 hz104 hk104 hf104 hE104
    have e104_0 : a104.eval (.tmp 0) = .slice Al1 l1.length cl1 := (hk104 0 rfl).trans e88_0
    have e104_5 : a104.eval (.tmp 5) = .int .i64 x74 := (hk104 5 rfl).trans e88_5
    obtain ⟨⟨⟨A103, cA103⟩, (f_29 : a104.eval (.tmp 29) = .slice A103 x101.length cA103), (b_A103 : RwO own104 102 [] w104 3 R3 A103 cA103 x101)⟩, (q_6 : ∀ (A103 : Option Addr) (cA103 : Nat), a104.eval (.tmp 29) = .slice A103 x101.length cA103 → a104.eval (.tmp 6) = .slice A103 x101.length cA103), -⟩ := hf104 [7, 8] rfl
    have f_6 := q_6 _ _ f_29
    have e104_6 := f_6
    have hX104 := Evo.step hX88 (fun _ => Nat.le_refl 0) hE104 rfl
    have b104_Al1 := RdO.evo rfl hE104 b88_Al1
    have b104_A103 := b_A103
    obtain ⟨x107, hx107, hs⟩ := obind hs
    obtain ⟨x109, hx109, hs⟩ := obind hs
    refine rg_plain_seq (n := 35) (rs := [Fct.rowAt 102 [] 3 R3 A103 cA103 x101]) (own0 := own104) (K := [102])
        (bs := [0, 0, 0, 6, 15, 31])
        (ds := [⟨[], [6], [], Fct.val 30 (.slice A103 x101.length cA103)⟩,
        ⟨[], [0], [], Fct.val 31 (.slice Al1 l1.length cl1)⟩,
        ⟨[], [5], [], Fct.val 32 (.int .i64 x74)⟩,
        ⟨[1, 2], [], [], Fct.view [0] 33 R3 x107⟩,
        ⟨[0, 3, 6], [], [102], Fct.row 110 [] 34 3 R3 x109⟩,
        ⟨[4], [], [], Fct.rel [4, 34] (fun l => ∀ (A111 : Option Addr) (cA111 : Nat), l.getD 1 undef = .slice A111 x109.length cA111 → l.getD 0 undef = .slice A111 x109.length cA111)⟩]) (by kernel_rfl) hz104 hd104 (by simp only [List.forall_mem_cons]; exact ⟨b104_A103, fun _ h => nomatch h⟩) ?_ ?_
    · refine steps_cons (fun own a wx hf hsl hE => ?_) ?_
      · obtain ⟨s_6, -⟩ := hsl
        exact sg_plain rfl rfl (or_move (s_6.trans e104_6))
      refine steps_cons (fun own a wx hf hsl hE => ?_) ?_
      · obtain ⟨s_0, -⟩ := hsl
        exact sg_plain rfl rfl (or_move (s_0.trans e104_0))
      refine steps_cons (fun own a wx hf hsl hE => ?_) ?_
      · obtain ⟨s_5, -⟩ := hsl
        exact sg_plain rfl rfl (or_move (s_5.trans e104_5))
      refine steps_cons (fun own a wx hf hsl hE => ?_) ?_
      · obtain ⟨(f_31 : a.eval (.tmp 31) = .slice Al1 l1.length cl1), (f_32 : a.eval (.tmp 32) = .int .i64 x74), -⟩ := hf
        exact sg_plain rfl rfl (or_view (R := R3) (l := l1) (L := [0]) tu22 ts3 f_31 (Bnd.some_ f_32) Bnd.none_ Bnd.none_ (RdO.evo rfl hE b104_Al1) hx107 (.inl rfl) (by simp))
      refine steps_cons (fun own a wx hf hsl hE => ?_) ?_
      · obtain ⟨(f_30 : a.eval (.tmp 30) = .slice A103 x101.length cA103), ⟨⟨A108, cA108⟩, (f_33 : a.eval (.tmp 33) = .slice A108 x107.length cA108), (b_A108 : RdO own [0] wx R3 A108 cA108 x107)⟩, (b_A103 : RwO own 102 [] wx 3 R3 A103 cA103 x101), -⟩ := hf
        exact sg_plain rfl rfl (or_append (R := R3) (lab := 102) (lab2 := 110) (L := []) (L3 := []) tp22 f_30 b_A103 (by decide) f_33 b_A108 hx109 (by decide) (by decide) (mem_of rfl) (.inl (Rep.fl_flat _)))
      refine steps_cons (fun own a wx hf hsl hE => ?_) ?_
      · obtain ⟨⟨⟨A111, cA111⟩, (f_34 : a.eval (.tmp 34) = .slice A111 x109.length cA111), (b_A111 : RwO own 110 [] wx 3 R3 A111 cA111 x109)⟩, -⟩ := hf
        exact sg_plain rfl rfl (or_mono (f := Fct.val 4 (.slice A111 x109.length cA111)) (or_assign f_34) (fun own' a' w' v' hp h => fun _ _ h0' => by cases (f_34.symm.trans ((hp.2 34 (by decide)).symm.trans h0')); exact h))
      exact steps_nil
    intro own112 a112 w112 hd112 hz112 hk112 hf112 hE112
    obtain ⟨⟨⟨A111, cA111⟩, (f_34 : a112.eval (.tmp 34) = .slice A111 x109.length cA111), (b_A111 : RwO own112 110 [] w112 3 R3 A111 cA111 x109)⟩, (q_4 : ∀ (A111 : Option Addr) (cA111 : Nat), a112.eval (.tmp 34) = .slice A111 x109.length cA111 → a112.eval (.tmp 4) = .slice A111 x109.length cA111), -⟩ := hf112 [4, 5] rfl
    have f_4 := q_4 _ _ f_34
    have e112_4 := f_4
    have hX112 := Evo.step hX104 (fun _ => Nat.le_refl 0) hE112 rfl
    have b112_A111 := b_A111
    refine fl_ret ?_
    obtain rfl := (osome hs).symm
    exact hret _ _ _ _ (.inl rfl) hd112 (results1_ rfl (RVal.tmp_ e112_4)) ⟨(rl [(110, 1)] own112), (A111, cA111), rfl, (Evo.rl_ hX112 (fun _ => Nat.le_refl 0) rfl), (RwO.rl_ (mm := [(110, 1)]) b112_A111)⟩

end Go.Proofs.Ythbjlgklmamhjaa
