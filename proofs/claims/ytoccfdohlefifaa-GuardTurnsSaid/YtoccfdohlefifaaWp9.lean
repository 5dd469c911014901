/-
  Chapter 18. The walks.
-/
import Derived.Test.YtoccfdohlefifaaWp6
import Derived.Test.YtoccfdohlefifaaWp7
import Derived.Test.YtoccfdohlefifaaSp9
namespace Go.Proofs.Ytoccfdohlefifaa
open Go.RowKit
set_option linter.unusedVariables false
set_option maxRecDepth 10000
theorem ref04_Put_w (w : World) (l1 : List Int) (Al1 : Option Addr) (cl1 : Nat) (n2 : Int) (hl1 : RdO (fun _ => 0) [0] w R3 Al1 cl1 l1) (r : List Int) (hs : ref04_Put l1 n2 = some r) :
    Calls Try.prog 31 #[.slice Al1 l1.length cl1, .int .i64 n2] w fun e w' => ∃ (own' : Own) (x : Option Addr × Nat), e = .returned (.slice x.1 r.length x.2) ∧ Evo [] (fun _ => 0) own' w w' ∧ RwO own' 1 [] w' 3 R3 x.1 x.2 r := by
  refine fl_enter (n := 35) rfl rfl rfl (Nat.le_of_ble_eq_true rfl) ?_
  intro a0 Q hd0 hz0 harg hret
  have ha0 := harg 0 _ rfl
  have ha1 := harg 1 _ rfl
  clear harg
  have hE0 : Evo [] (fun _ => 0) (fun _ => 0) w w := Evo.refl _ _ _
  refine rg_plain_seq (n := 35) (rs := []) (own0 := (fun _ => 0)) (K := [])
      (bs := [0])
      (ds := [⟨[], [], [], Fct.val 4 (.slice none 0 0)⟩]) (by kernel_rfl) hz0 hd0 (fun _ h => nomatch h) ?_ ?_
  · refine sc (fun _ _ _ _ _ _ => px (or_assign rfl)) ?_
    exact steps_nil
  intro own62 a62 w62 hd62 hz62 hk62 hf62 hE62
  have e62_0 := (hk62 0 rfl).trans ha0
  have e62_1 := (hk62 1 rfl).trans ha1
  have hX62 := Evo.step hE0 (fun _ => Nat.le_refl 0) hE62 rfl
  have b62_Al1 := RdO.evo rfl hE62 hl1
  refine rg_plain_seq (n := 35) (rs := []) (own0 := own62) (K := [])
      (bs := [0, 1, 3])
      (ds := [⟨[], [0], [], Fct.val 7 (.slice Al1 l1.length cl1)⟩,
      ⟨[0], [], [], Fct.val 8 (.int .i64 (l1.length : Int))⟩,
      ⟨[1], [], [], Fct.val 5 (.int .i64 (l1.length : Int))⟩]) (by kernel_rfl) hz62 hd62 (fun _ h => nomatch h) ?_ ?_
  · refine sc (fun _ _ _ _ s _ => px (or_move (s.1.trans e62_0))) ?_
    refine sc (fun _ _ _ f _ _ => px (or_len tu22 f.1 rfl)) ?_
    refine sc (fun _ _ _ f _ _ => px (or_assign f.1)) ?_
    exact steps_nil
  intro own63 a63 w63 hd63 hz63 hk63 hf63 hE63
  have e63_0 := (hk63 0 rfl).trans e62_0
  have e63_1 := (hk63 1 rfl).trans e62_1
  obtain ⟨(f_5 : a63.eval (.tmp 5) = .int .i64 (l1.length : Int)), -⟩ := hf63 [2] rfl
  have e63_5 := f_5
  have hX63 := Evo.step hX62 (fun _ => Nat.le_refl 0) hE63 rfl
  have b63_Al1 := RdO.evo rfl hE63 b62_Al1
  refine fl_seq (fun Q64 hn64 hp64 => ?_)
  refine fl_block (fun Q65 hn65 hx65 hp65 => ?_)
  refine fl_loop (body := (fun s => ref04_Put_b1 l1 n2 s)) (z := r) (show loopO _ _ = _ from hs) (fun (x74 : Int) a wx => ∃ (ox : Own), a.defers = [] ∧ a.tmps.size = 35 ∧ a.eval (.tmp 0) = .slice Al1 l1.length cl1 ∧ a.eval (.tmp 1) = .int .i64 n2 ∧ a.eval (.tmp 5) = .int .i64 x74 ∧ Evo [] (fun _ => 0) ox w wx ∧ RdO ox [0] wx R3 Al1 cl1 l1) ?_ ?_
  · exact ⟨own63, hd63, hz63, e63_0, e63_1, e63_5, hX63, b63_Al1⟩
  · rintro x74 zz83 a83 w83 ⟨own83, hd84, hz84, e84_0, e84_1, e84_5, hE84, b84_Al1⟩ hs Q83 hn83 hp83 hz83
    have hs : ref04_Put_b1 l1 n2 x74 = some zz83 := hs
    refine fl_seq (fun Q85 hn85 hp85 => ?_)
    obtain ⟨x86, hx86, hs⟩ := obind hs
    obtain ⟨x87, hx87, hs⟩ := obind hs
    refine rg_plain_seq (n := 35) (rs := []) (own0 := own83) (K := [])
        (bs := [0, 1, 3, 7, 7, 7, 39, 119, 247, 511, 1023])
        (ds := [⟨[], [5], [], Fct.val 9 (.int .i64 x74)⟩,
        ⟨[0], [], [], Fct.val 10 (.bool (decide (0 < x74)))⟩,
        ⟨[1], [], [], Fct.val 11 (.bool (decide (0 < x74)))⟩,
        ⟨[2], [1], [], Fct.cond (decide (0 < x74)) (some 12) (Fct.val 12 (.int .i64 n2))⟩,
        ⟨[2], [0], [], Fct.cond (decide (0 < x74)) (some 13) (Fct.val 13 (.slice Al1 l1.length cl1))⟩,
        ⟨[2], [5], [], Fct.cond (decide (0 < x74)) (some 14) (Fct.val 14 (.int .i64 x74))⟩,
        ⟨[2, 5], [], [], Fct.cond (decide (0 < x74)) (some 15) (Fct.val 15 (.int .i64 (sb x74 1)))⟩,
        ⟨[2, 4, 6], [], [], Fct.cond (decide (0 < x74)) (some 16) (Fct.val 16 (.pointer (some ((adr Al1).add ((sb x74 1 : Int).toNat * R3.s)))))⟩,
        ⟨[2, 7], [], [], Fct.cond (decide (0 < x74)) (some 17) (Fct.val 17 (.int .i64 x86))⟩,
        ⟨[2, 3, 8], [], [], Fct.cond (decide (0 < x74)) (some 18) (Fct.val 18 (.bool (decide (n2 < x86))))⟩,
        ⟨[2, 9], [], [], Fct.val 19 (.bool x87)⟩]) (by kernel_rfl) hz84 hd84 (fun _ h => nomatch h) ?_ ?_
    · refine sc (fun _ _ _ _ s _ => px (or_move (s.1.trans e84_5))) ?_
      refine sc (fun _ _ _ f _ _ => px (or_gtr f.1 rfl rfl)) ?_
      refine sc (fun _ _ _ f _ _ => px (or_move f.1)) ?_
      refine sc (fun own a wx hf hsl hE => ?_) ?_
      · obtain ⟨(f_11 : a.eval (.tmp 11) = .bool (decide (0 < x74))), -⟩ := hf
        obtain ⟨s_1, -⟩ := hsl
        refine sg_t rfl rfl rfl f_11 (fun hg => ?_)
        exact or_move (s_1.trans e84_1)
      refine sc (fun own a wx hf hsl hE => ?_) ?_
      · obtain ⟨(f_11 : a.eval (.tmp 11) = .bool (decide (0 < x74))), -⟩ := hf
        obtain ⟨s_0, -⟩ := hsl
        refine sg_t rfl rfl rfl f_11 (fun hg => ?_)
        exact or_move (s_0.trans e84_0)
      refine sc (fun own a wx hf hsl hE => ?_) ?_
      · obtain ⟨(f_11 : a.eval (.tmp 11) = .bool (decide (0 < x74))), -⟩ := hf
        obtain ⟨s_5, -⟩ := hsl
        refine sg_t rfl rfl rfl f_11 (fun hg => ?_)
        exact or_move (s_5.trans e84_5)
      refine sc (fun own a wx hf hsl hE => ?_) ?_
      · obtain ⟨(f_11 : a.eval (.tmp 11) = .bool (decide (0 < x74))), c_14, -⟩ := hf
        refine sg_t rfl rfl rfl f_11 (fun hg => ?_)
        have f_14 : a.eval (.tmp 14) = .int .i64 x74 := c_14.1 hg
        exact or_sub f_14 rfl rfl
      refine sc (fun own a wx hf hsl hE => ?_) ?_
      · obtain ⟨(f_11 : a.eval (.tmp 11) = .bool (decide (0 < x74))), c_13, c_15, -⟩ := hf
        refine sg_t rfl rfl rfl f_11 (fun hg => ?_)
        have f_13 : a.eval (.tmp 13) = .slice Al1 l1.length cl1 := c_13.1 hg
        have f_15 : a.eval (.tmp 15) = .int .i64 (sb x74 1) := c_15.1 hg
        exact or_index (R := R3) (l := l1) tl22 f_13 f_15 (RdO.some_ b84_Al1 (gd_t hx86 hg)) (gd_t hx86 hg)
      refine sc (fun own a wx hf hsl hE => ?_) ?_
      · obtain ⟨(f_11 : a.eval (.tmp 11) = .bool (decide (0 < x74))), c_16, -⟩ := hf
        refine sg_t rfl rfl rfl f_11 (fun hg => ?_)
        have f_16 : a.eval (.tmp 16) = .pointer (some ((adr Al1).add ((sb x74 1 : Int).toNat * R3.s))) := c_16.1 hg
        exact or_load1 to3 f_16 (CellsAt.zero (RdO.cells (F := E3) (RdO.evo rfl hE b84_Al1) (gd_t hx86 hg)) rfl)
      refine sc (fun own a wx hf hsl hE => ?_) ?_
      · obtain ⟨(f_11 : a.eval (.tmp 11) = .bool (decide (0 < x74))), c_12, c_17, -⟩ := hf
        refine sg_t rfl rfl rfl f_11 (fun hg => ?_)
        have f_12 : a.eval (.tmp 12) = .int .i64 n2 := c_12.1 hg
        have f_17 : a.eval (.tmp 17) = .int .i64 x86 := c_17.1 hg
        exact or_lss f_12 f_17 rfl
      refine sc (fun own a wx hf hsl hE => ?_) ?_
      · obtain ⟨(f_11 : a.eval (.tmp 11) = .bool (decide (0 < x74))), c_18, -⟩ := hf
        exact px (or_and f_11 (fun hx => c_18.1 hx) rfl (osome hx87).symm)
      exact steps_nil
    intro own88 a88 w88 hd88 hz88 hk88 hf88 hE88
    have e88_0 := (hk88 0 rfl).trans e84_0
    have e88_1 := (hk88 1 rfl).trans e84_1
    have e88_5 := (hk88 5 rfl).trans e84_5
    obtain ⟨(f_19 : a88.eval (.tmp 19) = .bool x87), -⟩ := hf88 [10] rfl
    have e88_19 := f_19
    have hX88 := Evo.step hE84 (fun _ => Nat.le_refl 0) hE88 rfl
    have b88_Al1 := RdO.evo rfl hE88 b84_Al1
    refine fl_cond e88_19 hs (fun c89 hs => ?_) (fun c89 hs => ?_)
    · refine fl_skip ?_
      refine hn85 _ _ ?_
      refine fl_block (fun Q90 hn90 hx90 hp90 => ?_)
      refine rg_plain (n := 35) (rs := []) (own0 := own88) (K := [])
          (bs := [0, 1, 3])
          (ds := [⟨[], [5], [], Fct.val 20 (.int .i64 x74)⟩,
          ⟨[0], [], [], Fct.val 21 (.int .i64 (sb x74 1))⟩,
          ⟨[1], [], [], Fct.val 5 (.int .i64 (sb x74 1))⟩]) (by kernel_rfl) hz88 hd88 (fun _ h => nomatch h) ?_ ?_
      · refine sc (fun _ _ _ _ s _ => px (or_move (s.1.trans e88_5))) ?_
        refine sc (fun _ _ _ f _ _ => px (or_sub f.1 rfl rfl)) ?_
        refine sc (fun _ _ _ f _ _ => px (or_assign f.1)) ?_
        exact steps_nil
      intro own91 a91 w91 hd91 hz91 hk91 hf91 hE91
      have e91_0 := (hk91 0 rfl).trans e88_0
      have e91_1 := (hk91 1 rfl).trans e88_1
      obtain ⟨(f_5 : a91.eval (.tmp 5) = .int .i64 (sb x74 1)), -⟩ := hf91 [2] rfl
      have e91_5 := f_5
      have hX91 := Evo.step hX88 (fun _ => Nat.le_refl 0) hE91 rfl
      have b91_Al1 := RdO.evo rfl hE91 b88_Al1
      refine hn90 _ _ ?_
      exact hn83 _ _ _ hs ⟨own91, hd91, hz91, e91_0, e91_1, e91_5, hX91, b91_Al1⟩
    refine fl_exit ?_
    refine hp85 _ _ _ rfl ?_
    replace hs := hz83 _ hs
    refine hp83 _ _ _ rfl ?_
    refine hx65 _ _ ?_
    refine hn64 _ _ ?_
    obtain ⟨x94, hx94, hs⟩ := obind hs
    obtain ⟨x96, hx96, hs⟩ := obind hs
    obtain ⟨x101, hx101, hs⟩ := obind hs
    refine rg_plain_seq (n := 35) (rs := []) (own0 := own88) (K := [93, 97])
        (bs := [0, 0, 0, 6, 15, 0, 32, 127, 255])
        (ds := [⟨[], [], [], Fct.row 93 [] 22 3 R3 ([] : List Int)⟩,
        ⟨[], [0], [], Fct.val 23 (.slice Al1 l1.length cl1)⟩,
        ⟨[], [5], [], Fct.val 24 (.int .i64 x74)⟩,
        ⟨[1, 2], [], [], Fct.view [0] 25 R3 x94⟩,
        ⟨[0, 3], [], [93], Fct.row 97 [] 26 3 R3 x96⟩,
        ⟨[], [1], [], Fct.val 27 (.int .i64 n2)⟩,
        ⟨[5], [], [], Fct.row 100 [] 28 3 R3 [n2]⟩,
        ⟨[4, 6], [], [97], Fct.row 102 [] 29 3 R3 x101⟩,
        ⟨[7], [], [], Fct.rel [6, 29] (fun l => ∀ (A103 : Option Addr) (cA103 : Nat), l.getD 1 undef = .slice A103 x101.length cA103 → l.getD 0 undef = .slice A103 x101.length cA103)⟩]) (by kernel_rfl) hz88 hd88 (fun _ h => nomatch h) ?_ ?_
    · refine sc (fun _ _ _ _ _ _ => px (or_lit (lab := 93) (e := 3) (cs := #[]) (F := E3) (or_new [] rfl rfl trivial (by kernel_rfl)) rfl rfl (show 0 ≤ maxLen by decide))) ?_
      refine sc (fun _ _ _ _ s _ => px (or_move (s.1.trans e88_0))) ?_
      refine sc (fun _ _ _ _ s _ => px (or_move (s.1.trans e88_5))) ?_
      refine sc (fun _ _ _ f _ hE => px (or_view (R := R3) (l := l1) (L := [0]) tu22 ts3 f.1 Bnd.none_ (Bnd.some_ f.2.1) Bnd.none_ (RdO.evo rfl hE b88_Al1) hx94 (.inl rfl) (by simp))) ?_
      refine sc (fun own a wx hf hsl hE => ?_) ?_
      · obtain ⟨⟨⟨A92, cA92⟩, (f_22 : a.eval (.tmp 22) = .slice A92 ([] : List Int).length cA92), (b_A92 : RwO own 93 [] wx 3 R3 A92 cA92 ([] : List Int))⟩, ⟨⟨A95, cA95⟩, (f_25 : a.eval (.tmp 25) = .slice A95 x94.length cA95), (b_A95 : RdO own [0] wx R3 A95 cA95 x94)⟩, -⟩ := hf
        exact px (or_append (R := R3) (lab := 93) (lab2 := 97) (L := []) (L3 := []) tp22 f_22 b_A92 (by decide) f_25 b_A95 hx96 (by decide) (by decide) (mem_of rfl) (.inl (Rep.fl_flat _)))
      refine sc (fun _ _ _ _ s _ => px (or_move (s.1.trans e88_1))) ?_
      refine sc (fun _ _ _ f _ _ => px (or_lit (lab := 100) (e := 3) (cs := #[.int .i64 n2]) (F := E3) (or_new [(27, .int .i64 n2)] rfl rfl ⟨f.1, trivial⟩ (by kernel_rfl)) rfl rfl (show 1 ≤ maxLen by decide))) ?_
      refine sc (fun own a wx hf hsl hE => ?_) ?_
      · obtain ⟨⟨⟨A98, cA98⟩, (f_26 : a.eval (.tmp 26) = .slice A98 x96.length cA98), (b_A98 : RwO own 97 [] wx 3 R3 A98 cA98 x96)⟩, ⟨⟨A99, cA99⟩, (f_28 : a.eval (.tmp 28) = .slice A99 [n2].length cA99), (b_A99 : RwO own 100 [] wx 3 R3 A99 cA99 [n2])⟩, -⟩ := hf
        exact px (or_append (R := R3) (lab := 97) (lab2 := 102) (L := []) (L3 := []) tp22 f_26 b_A98 (by decide) f_28 (RwO.rd b_A99) hx101 (by decide) (by decide) (mem_of rfl) (.inl (Rep.fl_flat _)))
      refine sc (fun own a wx hf hsl hE => ?_) ?_
      · obtain ⟨⟨⟨A103, cA103⟩, (f_29 : a.eval (.tmp 29) = .slice A103 x101.length cA103), (b_A103 : RwO own 102 [] wx 3 R3 A103 cA103 x101)⟩, -⟩ := hf
        exact px (or_mono (f := Fct.val 6 (.slice A103 x101.length cA103)) (or_assign f_29) (fun own' a' w' v' hp h => fun _ _ h0' => by cases (f_29.symm.trans ((hp.2 29 (by decide)).symm.trans h0')); exact h))
      exact steps_nil
    intro own104 a104 w104 hd104 hz104 hk104 hf104 hE104
    have e104_0 := (hk104 0 rfl).trans e88_0
    have e104_5 := (hk104 5 rfl).trans e88_5
    obtain ⟨⟨⟨A103, cA103⟩, (f_29 : a104.eval (.tmp 29) = .slice A103 x101.length cA103), (b_A103 : RwO own104 102 [] w104 3 R3 A103 cA103 x101)⟩, (q_6 : ∀ (A103 : Option Addr) (cA103 : Nat), a104.eval (.tmp 29) = .slice A103 x101.length cA103 → a104.eval (.tmp 6) = .slice A103 x101.length cA103), -⟩ := hf104 [7, 8] rfl
    have f_6 := q_6 _ _ f_29
    have e104_6 := f_6
    have hX104 := Evo.step hX88 (fun _ => Nat.le_refl 0) hE104 rfl
    have b104_Al1 := RdO.evo rfl hE104 b88_Al1
    have b104_A103 := b_A103
    obtain ⟨x107, hx107, hs⟩ := obind hs
    obtain ⟨x109, hx109, hs⟩ := obind hs
    refine rg_plain_seq (n := 35) (rs := [Fct.rowAt 102 [] 3 R3 A103 cA103 x101]) (own0 := own104) (K := [102])
        (bs := [0, 0, 0, 6, 15, 31])
        (ds := [⟨[], [6], [], Fct.val 30 (.slice A103 x101.length cA103)⟩,
        ⟨[], [0], [], Fct.val 31 (.slice Al1 l1.length cl1)⟩,
        ⟨[], [5], [], Fct.val 32 (.int .i64 x74)⟩,
        ⟨[1, 2], [], [], Fct.view [0] 33 R3 x107⟩,
        ⟨[0, 3, 6], [], [102], Fct.row 110 [] 34 3 R3 x109⟩,
        ⟨[4], [], [], Fct.rel [4, 34] (fun l => ∀ (A111 : Option Addr) (cA111 : Nat), l.getD 1 undef = .slice A111 x109.length cA111 → l.getD 0 undef = .slice A111 x109.length cA111)⟩]) (by kernel_rfl) hz104 hd104 (by simp only [List.forall_mem_cons]; exact ⟨b104_A103, fun _ h => nomatch h⟩) ?_ ?_
    · refine sc (fun _ _ _ _ s _ => px (or_move (s.1.trans e104_6))) ?_
      refine sc (fun _ _ _ _ s _ => px (or_move (s.1.trans e104_0))) ?_
      refine sc (fun _ _ _ _ s _ => px (or_move (s.1.trans e104_5))) ?_
      refine sc (fun _ _ _ f _ hE => px (or_view (R := R3) (l := l1) (L := [0]) tu22 ts3 f.1 (Bnd.some_ f.2.1) Bnd.none_ Bnd.none_ (RdO.evo rfl hE b104_Al1) hx107 (.inl rfl) (by simp))) ?_
      refine sc (fun own a wx hf hsl hE => ?_) ?_
      · obtain ⟨(f_30 : a.eval (.tmp 30) = .slice A103 x101.length cA103), ⟨⟨A108, cA108⟩, (f_33 : a.eval (.tmp 33) = .slice A108 x107.length cA108), (b_A108 : RdO own [0] wx R3 A108 cA108 x107)⟩, (b_A103 : RwO own 102 [] wx 3 R3 A103 cA103 x101), -⟩ := hf
        exact px (or_append (R := R3) (lab := 102) (lab2 := 110) (L := []) (L3 := []) tp22 f_30 b_A103 (by decide) f_33 b_A108 hx109 (by decide) (by decide) (mem_of rfl) (.inl (Rep.fl_flat _)))
      refine sc (fun own a wx hf hsl hE => ?_) ?_
      · obtain ⟨⟨⟨A111, cA111⟩, (f_34 : a.eval (.tmp 34) = .slice A111 x109.length cA111), (b_A111 : RwO own 110 [] wx 3 R3 A111 cA111 x109)⟩, -⟩ := hf
        exact px (or_mono (f := Fct.val 4 (.slice A111 x109.length cA111)) (or_assign f_34) (fun own' a' w' v' hp h => fun _ _ h0' => by cases (f_34.symm.trans ((hp.2 34 (by decide)).symm.trans h0')); exact h))
      exact steps_nil
    intro own112 a112 w112 hd112 hz112 hk112 hf112 hE112
    obtain ⟨⟨⟨A111, cA111⟩, (f_34 : a112.eval (.tmp 34) = .slice A111 x109.length cA111), (b_A111 : RwO own112 110 [] w112 3 R3 A111 cA111 x109)⟩, (q_4 : ∀ (A111 : Option Addr) (cA111 : Nat), a112.eval (.tmp 34) = .slice A111 x109.length cA111 → a112.eval (.tmp 4) = .slice A111 x109.length cA111), -⟩ := hf112 [4, 5] rfl
    have f_4 := q_4 _ _ f_34
    have e112_4 := f_4
    have hX112 := Evo.step hX104 (fun _ => Nat.le_refl 0) hE112 rfl
    have b112_A111 := b_A111
    refine fl_ret ?_
    obtain rfl := (osome hs).symm
    exact hret _ _ _ _ (.inl rfl) hd112 (results1_ rfl (RVal.tmp_ e112_4)) ⟨(rl [(110, 1)] own112), (A111, cA111), rfl, (Evo.rl_ hX112 (fun _ => Nat.le_refl 0) rfl), (RwO.rl_ (mm := [(110, 1)]) b112_A111)⟩

theorem law18_Lines_w (w : World) (l1 : List Int) (Al1 : Option Addr) (cl1 : Nat) (hl1 : RdO (fun _ => 0) [0] w R3 Al1 cl1 l1) (r : List Int) (hs : law18_Lines l1 = some r) :
    Calls Try.prog 8 #[.slice Al1 l1.length cl1] w fun e w' => ∃ (own' : Own) (x : Option Addr × Nat), e = .returned (.slice x.1 r.length x.2) ∧ Evo [] (fun _ => 0) own' w w' ∧ RwO own' 1 [] w' 3 R3 x.1 x.2 r := by
  refine fl_enter (n := 22) rfl rfl rfl (Nat.le_of_ble_eq_true rfl) ?_
  intro a0 Q hd0 hz0 harg hret
  have ha0 := harg 0 _ rfl
  clear harg
  have hE0 : Evo [] (fun _ => 0) (fun _ => 0) w w := Evo.refl _ _ _
  refine rg_plain_seq (n := 22) (rs := []) (own0 := (fun _ => 0)) (K := [])
      (bs := [0])
      (ds := [⟨[], [], [], Fct.val 2 (.slice none 0 0)⟩]) (by kernel_rfl) hz0 hd0 (fun _ h => nomatch h) ?_ ?_
  · refine sc (fun _ _ _ _ _ _ => px (or_assign rfl)) ?_
    exact steps_nil
  intro own62 a62 w62 hd62 hz62 hk62 hf62 hE62
  have e62_0 := (hk62 0 rfl).trans ha0
  have hX62 := Evo.step hE0 (fun _ => Nat.le_refl 0) hE62 rfl
  have b62_Al1 := RdO.evo rfl hE62 hl1
  refine rg_plain_seq (n := 22) (rs := []) (own0 := own62) (K := [])
      (bs := [0])
      (ds := [⟨[], [], [], Fct.val 3 (.slice none 0 0)⟩]) (by kernel_rfl) hz62 hd62 (fun _ h => nomatch h) ?_ ?_
  · refine sc (fun _ _ _ _ _ _ => px (or_assign rfl)) ?_
    exact steps_nil
  intro own63 a63 w63 hd63 hz63 hk63 hf63 hE63
  have e63_0 := (hk63 0 rfl).trans e62_0
  obtain ⟨(f_3 : a63.eval (.tmp 3) = .slice none 0 0), -⟩ := hf63 [0] rfl
  have e63_3 := f_3
  have hX63 := Evo.step hX62 (fun _ => Nat.le_refl 0) hE63 rfl
  have b63_Al1 := RdO.evo rfl hE63 b62_Al1
  refine fl_seq (fun Q64 hn64 hp64 => ?_)
  refine rg_plain_seq (n := 22) (rs := []) (own0 := own63) (K := [])
      (bs := [0])
      (ds := [⟨[], [], [], Fct.val 4 (.int .i64 0)⟩]) (by kernel_rfl) hz63 hd63 (fun _ h => nomatch h) ?_ ?_
  · refine sc (fun _ _ _ _ _ _ => px (or_assign rfl)) ?_
    exact steps_nil
  intro own65 a65 w65 hd65 hz65 hk65 hf65 hE65
  have e65_0 := (hk65 0 rfl).trans e63_0
  have e65_3 := (hk65 3 rfl).trans e63_3
  obtain ⟨(f_4 : a65.eval (.tmp 4) = .int .i64 0), -⟩ := hf65 [0] rfl
  have e65_4 := f_4
  have hX65 := Evo.step hX63 (fun _ => Nat.le_refl 0) hE65 rfl
  have b65_Al1 := RdO.evo rfl hE65 b63_Al1
  refine fl_block (fun Q66 hn66 hx66 hp66 => ?_)
  refine fl_loop (body := (fun s => law18_Lines_b1 l1 s.1 s.2)) (z := r) (show loopO _ _ = _ from hs) (fun (s : (List Int) × Int) a wx => match s with | (out82, i84) => ∃ (ox : Own) (A80 : Option Addr) (c81 : Nat), a.defers = [] ∧ a.tmps.size = 22 ∧ a.eval (.tmp 0) = .slice Al1 l1.length cl1 ∧ a.eval (.tmp 3) = .slice A80 out82.length c81 ∧ a.eval (.tmp 4) = .int .i64 i84 ∧ Evo [] (fun _ => 0) ox w wx ∧ RdO ox [0] wx R3 Al1 cl1 l1 ∧ RwO ox 83 [] wx 3 R3 A80 c81 out82) ?_ ?_
  · exact ⟨own65, none, 0, hd65, hz65, e65_0, e65_3, e65_4, hX65, b65_Al1, RwO.nil_⟩
  · rintro ⟨out82, i84⟩ zz98 a98 w98 ⟨own98, A80, c81, hd99, hz99, e99_0, e99_3, e99_4, hE99, b99_Al1, b99_A80⟩ hs Q98 hn98 hp98 hz98
    have hs : law18_Lines_b1 l1 out82 i84 = some zz98 := hs
    refine fl_seq (fun Q100 hn100 hp100 => ?_)
    obtain ⟨x101, hx101, hs⟩ := obind hs
    refine rg_plain_seq (n := 22) (rs := []) (own0 := own98) (K := [])
        (bs := [0, 0, 2, 7, 15, 31, 63, 127])
        (ds := [⟨[], [4], [], Fct.val 5 (.int .i64 i84)⟩,
        ⟨[], [0], [], Fct.val 6 (.slice Al1 l1.length cl1)⟩,
        ⟨[1], [], [], Fct.val 7 (.int .i64 (l1.length : Int))⟩,
        ⟨[0, 2], [], [], Fct.val 8 (.bool (decide (i84 < (l1.length : Int))))⟩,
        ⟨[3], [], [], Fct.val 9 (.bool (decide (i84 < (l1.length : Int))))⟩,
        ⟨[4], [4], [], Fct.cond (decide (i84 < (l1.length : Int))) (some 10) (Fct.val 10 (.int .i64 i84))⟩,
        ⟨[4, 5], [], [], Fct.cond (decide (i84 < (l1.length : Int))) (some 11) (Fct.val 11 (.bool (decide (i84 < 10))))⟩,
        ⟨[4, 6], [], [], Fct.val 12 (.bool x101)⟩]) (by kernel_rfl) hz99 hd99 (fun _ h => nomatch h) ?_ ?_
    · refine sc (fun _ _ _ _ s _ => px (or_move (s.1.trans e99_4))) ?_
      refine sc (fun _ _ _ _ s _ => px (or_move (s.1.trans e99_0))) ?_
      refine sc (fun _ _ _ f _ _ => px (or_len tu22 f.1 rfl)) ?_
      refine sc (fun _ _ _ f _ _ => px (or_lss f.1 f.2.1 rfl)) ?_
      refine sc (fun _ _ _ f _ _ => px (or_move f.1)) ?_
      refine sc (fun own a wx hf hsl hE => ?_) ?_
      · obtain ⟨(f_9 : a.eval (.tmp 9) = .bool (decide (i84 < (l1.length : Int)))), -⟩ := hf
        obtain ⟨s_4, -⟩ := hsl
        refine sg_t rfl rfl rfl f_9 (fun hg => ?_)
        exact or_move (s_4.trans e99_4)
      refine sc (fun own a wx hf hsl hE => ?_) ?_
      · obtain ⟨(f_9 : a.eval (.tmp 9) = .bool (decide (i84 < (l1.length : Int)))), c_10, -⟩ := hf
        refine sg_t rfl rfl rfl f_9 (fun hg => ?_)
        have f_10 : a.eval (.tmp 10) = .int .i64 i84 := c_10.1 hg
        exact or_lss f_10 rfl rfl
      refine sc (fun own a wx hf hsl hE => ?_) ?_
      · obtain ⟨(f_9 : a.eval (.tmp 9) = .bool (decide (i84 < (l1.length : Int)))), c_11, -⟩ := hf
        exact px (or_and f_9 (fun hx => c_11.1 hx) rfl (osome hx101).symm)
      exact steps_nil
    intro own102 a102 w102 hd102 hz102 hk102 hf102 hE102
    have e102_0 := (hk102 0 rfl).trans e99_0
    have e102_3 := (hk102 3 rfl).trans e99_3
    have e102_4 := (hk102 4 rfl).trans e99_4
    obtain ⟨(f_12 : a102.eval (.tmp 12) = .bool x101), -⟩ := hf102 [7] rfl
    have e102_12 := f_12
    have hX102 := Evo.step hE99 (fun _ => Nat.le_refl 0) hE102 rfl
    have b102_Al1 := RdO.evo rfl hE102 b99_Al1
    have b102_A80 := RwO.evo rfl hE102 b99_A80
    refine fl_cond e102_12 hs (fun c103 hs => ?_) (fun c103 hs => ?_)
    · refine fl_skip ?_
      refine hn100 _ _ ?_
      refine fl_seq (fun Q104 hn104 hp104 => ?_)
      refine fl_block (fun Q105 hn105 hx105 hp105 => ?_)
      obtain ⟨x106, hx106, hs⟩ := obind hs
      obtain ⟨r107, hr107, hs⟩ := obind hs
      refine rg_plain (n := 22) (rs := []) (own0 := own102) (K := [])
          (bs := [0, 0, 0, 6, 14, 31, 63])
          (ds := [⟨[], [3], [], Fct.val 15 (.slice A80 out82.length c81)⟩,
          ⟨[], [0], [], Fct.val 16 (.slice Al1 l1.length cl1)⟩,
          ⟨[], [4], [], Fct.val 17 (.int .i64 i84)⟩,
          ⟨[1, 2], [], [], Fct.val 18 (.pointer (some ((adr Al1).add ((i84 : Int).toNat * R3.s))))⟩,
          ⟨[3], [], [], Fct.val 19 (.int .i64 x106)⟩,
          ⟨[0, 4], [], [], Fct.row 109 [] 20 3 R3 r107⟩,
          ⟨[5], [], [], Fct.rel [3, 20] (fun l => ∀ (A108 : Option Addr) (cA108 : Nat), l.getD 1 undef = .slice A108 r107.length cA108 → l.getD 0 undef = .slice A108 r107.length cA108)⟩]) (by kernel_rfl) hz102 hd102 (fun _ h => nomatch h) ?_ ?_
      · refine sc (fun _ _ _ _ s _ => px (or_move (s.1.trans e102_3))) ?_
        refine sc (fun _ _ _ _ s _ => px (or_move (s.1.trans e102_0))) ?_
        refine sc (fun _ _ _ _ s _ => px (or_move (s.1.trans e102_4))) ?_
        refine sc (fun _ _ _ f _ _ => px (or_index (R := R3) (l := l1) tl22 f.1 f.2.1 (RdO.some_ b102_Al1 hx106) hx106)) ?_
        refine sc (fun _ _ _ f _ hE => px (or_load1 to3 f.1 (CellsAt.zero (RdO.cells (F := E3) (RdO.evo rfl hE b102_Al1) hx106) rfl))) ?_
        refine sc (fun _ _ _ f _ hE => px (or_call cf31 (args2 f.1 f.2.1) (ref04_Put_w _ out82 A80 c81 x106 (RdO.zero (RwO.rd (RwO.evo rfl hE b102_A80))) r107 hr107) (post_row (m' := (look0 [(1, 109)])) (.inl (Rep.fl_flat _)) rfl rfl (fun _ => rfl)))) ?_
        refine sc (fun own a wx hf hsl hE => ?_) ?_
        · obtain ⟨⟨⟨A108, cA108⟩, (f_20 : a.eval (.tmp 20) = .slice A108 r107.length cA108), (b_A108 : RwO own 109 [] wx 3 R3 A108 cA108 r107)⟩, -⟩ := hf
          exact px (or_mono (f := Fct.val 3 (.slice A108 r107.length cA108)) (or_assign f_20) (fun own' a' w' v' hp h => fun _ _ h0' => by cases (f_20.symm.trans ((hp.2 20 (by decide)).symm.trans h0')); exact h))
        exact steps_nil
      intro own110 a110 w110 hd110 hz110 hk110 hf110 hE110
      have e110_0 := (hk110 0 rfl).trans e102_0
      have e110_4 := (hk110 4 rfl).trans e102_4
      obtain ⟨⟨⟨A108, cA108⟩, (f_20 : a110.eval (.tmp 20) = .slice A108 r107.length cA108), (b_A108 : RwO own110 109 [] w110 3 R3 A108 cA108 r107)⟩, (q_3 : ∀ (A108 : Option Addr) (cA108 : Nat), a110.eval (.tmp 20) = .slice A108 r107.length cA108 → a110.eval (.tmp 3) = .slice A108 r107.length cA108), -⟩ := hf110 [5, 6] rfl
      have f_3 := q_3 _ _ f_20
      have e110_3 := f_3
      have hX110 := Evo.step hX102 (fun _ => Nat.le_refl 0) hE110 rfl
      have b110_Al1 := RdO.evo rfl hE110 b102_Al1
      have b110_A108 := b_A108
      refine hn105 _ _ ?_
      refine hn104 _ _ ?_
      refine rg_plain (n := 22) (rs := []) (own0 := own110) (K := [])
          (bs := [0, 1, 3])
          (ds := [⟨[], [4], [], Fct.val 13 (.int .i64 i84)⟩,
          ⟨[0], [], [], Fct.val 14 (.int .i64 (ad i84 1))⟩,
          ⟨[1], [], [], Fct.val 4 (.int .i64 (ad i84 1))⟩]) (by kernel_rfl) hz110 hd110 (fun _ h => nomatch h) ?_ ?_
      · refine sc (fun _ _ _ _ s _ => px (or_move (s.1.trans e110_4))) ?_
        refine sc (fun _ _ _ f _ _ => px (or_add f.1 rfl rfl)) ?_
        refine sc (fun _ _ _ f _ _ => px (or_assign f.1)) ?_
        exact steps_nil
      intro own111 a111 w111 hd111 hz111 hk111 hf111 hE111
      have e111_0 := (hk111 0 rfl).trans e110_0
      have e111_3 := (hk111 3 rfl).trans e110_3
      obtain ⟨(f_4 : a111.eval (.tmp 4) = .int .i64 (ad i84 1)), -⟩ := hf111 [2] rfl
      have e111_4 := f_4
      have hX111 := Evo.step hX110 (fun _ => Nat.le_refl 0) hE111 rfl
      have b111_Al1 := RdO.evo rfl hE111 b110_Al1
      have b111_A108 := RwO.evo rfl hE111 b110_A108
      exact hn98 _ _ _ hs ⟨(rl [(109, 83)] own111), A108, cA108, hd111, hz111, e111_0, e111_3, e111_4, (Evo.rl_ hX111 (fun _ => Nat.le_refl 0) rfl), (RdO.rl_ (mm := [(109, 83)]) b111_Al1), (RwO.rl_ (mm := [(109, 83)]) b111_A108)⟩
    refine fl_exit ?_
    refine hp100 _ _ _ rfl ?_
    replace hs := hz98 _ hs
    refine hp98 _ _ _ rfl ?_
    refine hx66 _ _ ?_
    refine hn64 _ _ ?_
    refine rg_plain_seq (n := 22) (rs := []) (own0 := own102) (K := [])
        (bs := [0, 1])
        (ds := [⟨[], [3], [], Fct.val 21 (.slice A80 out82.length c81)⟩,
        ⟨[0], [], [], Fct.val 2 (.slice A80 out82.length c81)⟩]) (by kernel_rfl) hz102 hd102 (fun _ h => nomatch h) ?_ ?_
    · refine sc (fun _ _ _ _ s _ => px (or_move (s.1.trans e102_3))) ?_
      refine sc (fun _ _ _ f _ _ => px (or_assign f.1)) ?_
      exact steps_nil
    intro own112 a112 w112 hd112 hz112 hk112 hf112 hE112
    obtain ⟨(f_2 : a112.eval (.tmp 2) = .slice A80 out82.length c81), -⟩ := hf112 [1] rfl
    have e112_2 := f_2
    have hX112 := Evo.step hX102 (fun _ => Nat.le_refl 0) hE112 rfl
    have b112_A80 := RwO.evo rfl hE112 b102_A80
    refine fl_ret ?_
    obtain rfl := (osome hs).symm
    exact hret _ _ _ _ (.inl rfl) hd112 (results1_ rfl (RVal.tmp_ e112_2)) ⟨(rl [(83, 1)] own112), (A80, c81), rfl, (Evo.rl_ hX112 (fun _ => Nat.le_refl 0) rfl), (RwO.rl_ (mm := [(83, 1)]) b112_A80)⟩

theorem law18_GuardTurns_w (w : World) (lines1 : List Int) (Alines1 : Option Addr) (clines1 : Nat) (l2 : List ((List (Int × Int)) × Int × Int)) (Al2 : Option Addr) (cl2 : Nat) (x3 : Int × Int) (b4 : Int × Int) (c5 : Int × Int) (hlines1 : RdO (fun _ => 0) [0] w R3 Alines1 clines1 lines1) (hl2 : RdO (fun _ => 0) [0] w R63 Al2 cl2 l2) (r : Bool) (hs : law18_GuardTurns lines1 l2 x3 b4 c5 = some r) :
    Calls Try.prog 3 #[.slice Alines1 lines1.length clines1, .slice Al2 l2.length cl2, .agg #[.int .i64 x3.1, .int .i64 x3.2], .agg #[.int .i64 b4.1, .int .i64 b4.2], .agg #[.int .i64 c5.1, .int .i64 c5.2]] w fun e w' => ∃ own' : Own, e = .returned (.bool r) ∧ Evo [] (fun _ => 0) own' w w' := by
  refine fl_enter (n := 61) rfl rfl rfl (Nat.le_of_ble_eq_true rfl) ?_
  intro a0 Q hd0 hz0 harg hret
  have ha0 := harg 0 _ rfl
  have ha1 := harg 1 _ rfl
  have ha2 := harg 2 _ rfl
  have ha3 := harg 3 _ rfl
  have ha4 := harg 4 _ rfl
  clear harg
  have hE0 : Evo [] (fun _ => 0) (fun _ => 0) w w := Evo.refl _ _ _
  refine rg_plain_seq (n := 61) (rs := []) (own0 := (fun _ => 0)) (K := [])
      (bs := [0, 0, 0, 0])
      (ds := [⟨[], [2], [], Fct.blk 100 7 (fun g => .pointer (some ⟨g, 0, none⟩)) 25 #[.int .i64 x3.1, .int .i64 x3.2]⟩,
      ⟨[], [3], [], Fct.blk 102 8 (fun g => .pointer (some ⟨g, 0, none⟩)) 25 #[.int .i64 b4.1, .int .i64 b4.2]⟩,
      ⟨[], [4], [], Fct.blk 104 9 (fun g => .pointer (some ⟨g, 0, none⟩)) 25 #[.int .i64 c5.1, .int .i64 c5.2]⟩,
      ⟨[], [], [], Fct.val 10 (.bool false)⟩]) (by kernel_rfl) hz0 hd0 (fun _ h => nomatch h) ?_ ?_
  · refine sc (fun _ _ _ _ s _ => px (or_new [(2, .agg #[.int .i64 x3.1, .int .i64 x3.2])] rfl rfl ⟨(s.1.trans ha2), trivial⟩ (by kernel_rfl))) ?_
    refine sc (fun _ _ _ _ s _ => px (or_new [(3, .agg #[.int .i64 b4.1, .int .i64 b4.2])] rfl rfl ⟨(s.1.trans ha3), trivial⟩ (by kernel_rfl))) ?_
    refine sc (fun _ _ _ _ s _ => px (or_new [(4, .agg #[.int .i64 c5.1, .int .i64 c5.2])] rfl rfl ⟨(s.1.trans ha4), trivial⟩ (by kernel_rfl))) ?_
    refine sc (fun _ _ _ _ _ _ => px (or_assign rfl)) ?_
    exact steps_nil
  intro own105 a105 w105 hd105 hz105 hk105 hf105 hE105
  have e105_0 := (hk105 0 rfl).trans ha0
  have e105_1 := (hk105 1 rfl).trans ha1
  obtain ⟨⟨g99, (f_7 : a105.eval (.tmp 7) = .pointer (some ⟨g99, 0, none⟩)), (b_g99 : BlkO own105 100 w105 g99 25 #[.int .i64 x3.1, .int .i64 x3.2])⟩, ⟨g101, (f_8 : a105.eval (.tmp 8) = .pointer (some ⟨g101, 0, none⟩)), (b_g101 : BlkO own105 102 w105 g101 25 #[.int .i64 b4.1, .int .i64 b4.2])⟩, ⟨g103, (f_9 : a105.eval (.tmp 9) = .pointer (some ⟨g103, 0, none⟩)), (b_g103 : BlkO own105 104 w105 g103 25 #[.int .i64 c5.1, .int .i64 c5.2])⟩, -⟩ := hf105 [0, 1, 2] rfl
  have e105_7 := f_7
  have e105_8 := f_8
  have e105_9 := f_9
  have hX105 := Evo.step hE0 (fun _ => Nat.le_refl 0) hE105 rfl
  have b105_Alines1 := RdO.evo rfl hE105 hlines1
  have b105_Al2 := RdO.evo rfl hE105 hl2
  have b105_g99 := b_g99
  have b105_g101 := b_g101
  have b105_g103 := b_g103
  obtain ⟨r106, hr106, hs⟩ := obind hs
  obtain ⟨r109, hr109, hs⟩ := obind hs
  obtain ⟨r114, hr114, hs⟩ := obind hs
  refine rg_plain_seq (n := 61) (rs := []) (own0 := own105) (K := [])
      (bs := [0, 1, 0, 7, 15, 31])
      (ds := [⟨[], [0], [], Fct.val 13 (.slice Alines1 lines1.length clines1)⟩,
      ⟨[0], [], [], Fct.row 108 [] 14 3 R3 r106⟩,
      ⟨[], [1], [], Fct.val 15 (.slice Al2 l2.length cl2)⟩,
      ⟨[2], [], [], Fct.mems [111, 112, 113, 0] 16 (fun (x : Option Addr × Nat) => .slice x.1 r109.length x.2) (fun (x : Option Addr × Nat) own w => RwO own 111 [112, 113, 0] w 63 R63 x.1 x.2 r109) (fun hk he h => RwO.evo (hits_sub hk (by decide)) he h)⟩,
      ⟨[1, 3], [], [], Fct.mems [124, 125, 126, 127, 128, 129, 130, 131, 132, 133] 17 (fun (x : (Option Addr × Nat) × (Option Addr × Nat) × (Option Addr × Nat) × (Option Addr × Nat) × (Option Addr × Nat) × (Option Addr × Nat) × (Option Addr × Nat) × (Option Addr × Nat) × (Option Addr × Nat)) => .pointer (some ⟨x.1.2, 0, none⟩)) (fun (x : (Option Addr × Nat) × (Option Addr × Nat) × (Option Addr × Nat) × (Option Addr × Nat) × (Option Addr × Nat) × (Option Addr × Nat) × (Option Addr × Nat) × (Option Addr × Nat) × (Option Addr × Nat)) own w => RwO own 124 [] w 80 R80 x.2.2.1.1 x.2.2.1.2 r114.1.1 ∧ MpN own 125 126 [] w x.2.2.2.1.2 vv111 3 R3 r114.1.2.1 ∧ RwO own 127 [] w 3 R3 x.2.2.2.2.1.1 x.2.2.2.2.1.2 r114.1.2.2 ∧ BlkO own 128 w x.2.1.2 106 #[.slice x.2.2.1.1 r114.1.1.length x.2.2.1.2, .map (some x.2.2.2.1.2), .slice x.2.2.2.2.1.1 r114.1.2.2.length x.2.2.2.2.1.2] ∧ RwO own 129 [] w 3 R3 x.2.2.2.2.2.1.1 x.2.2.2.2.2.1.2 r114.2.1 ∧ RwO own 130 [] w 25 R25 x.2.2.2.2.2.2.1.1 x.2.2.2.2.2.2.1.2 r114.2.2.1 ∧ MpO own 131 w x.2.2.2.2.2.2.2.1.2 vv25 vv4 r114.2.2.2.1 ∧ MpO own 132 w x.2.2.2.2.2.2.2.2.2 vv81 vv4 r114.2.2.2.2 ∧ BlkO own 133 w x.1.2 77 #[.pointer (some ⟨x.2.1.2, 0, none⟩), .slice x.2.2.2.2.2.1.1 r114.2.1.length x.2.2.2.2.2.1.2, .slice x.2.2.2.2.2.2.1.1 r114.2.2.1.length x.2.2.2.2.2.2.1.2, .map (some x.2.2.2.2.2.2.2.1.2), .map (some x.2.2.2.2.2.2.2.2.2)]) (fun hk he h => ⟨RwO.evo (hits_sub hk (by decide)) he h.1, MpN.evo (hits_sub hk (by decide)) he h.2.1, RwO.evo (hits_sub hk (by decide)) he h.2.2.1, BlkO.evo (not_hit hk (by decide)) he h.2.2.2.1, RwO.evo (hits_sub hk (by decide)) he h.2.2.2.2.1, RwO.evo (hits_sub hk (by decide)) he h.2.2.2.2.2.1, MpO.evo (not_hit hk (by decide)) he h.2.2.2.2.2.2.1, MpO.evo (not_hit hk (by decide)) he h.2.2.2.2.2.2.2.1, BlkO.evo (not_hit hk (by decide)) he h.2.2.2.2.2.2.2.2⟩)⟩,
      ⟨[4], [], [], Fct.rel [11, 17] (fun l => ∀ (cA115 : Nat), l.getD 1 undef = .pointer (some ⟨cA115, 0, none⟩) → l.getD 0 undef = .pointer (some ⟨cA115, 0, none⟩))⟩]) (by kernel_rfl) hz105 hd105 (fun _ h => nomatch h) ?_ ?_
  · refine sc (fun _ _ _ _ s _ => px (or_move (s.1.trans e105_0))) ?_
    refine sc (fun _ _ _ f _ hE => px (or_call cf8 (args1 f.1) (law18_Lines_w _ lines1 Alines1 clines1 (RdO.zero (RdO.evo rfl hE b105_Alines1)) r106 hr106) (post_row (m' := (look0 [(1, 108)])) (.inl (Rep.fl_flat _)) rfl rfl (fun _ => rfl)))) ?_
    refine sc (fun _ _ _ _ s _ => px (or_move (s.1.trans e105_1))) ?_
    refine sc (fun own _ _ f _ hE => px (or_call cf9 (args1 f.1) (law14_Cut_w _ (forth own (inL [0])) l2 Al2 cl2 inL_le (RdO.alias_ (La := [0]) (RdO.evo rfl hE b105_Al2) (by decide)) r109 hr109) (post_alias (La := [0]) (m' := (look0 [(1, 112), (2, 111), (3, 113)])) (fun own' w' a' x ho hsz h1 h => ⟨x, h1, RwO.backM_ ho h (by decide) (by decide) (by decide) (by decide)⟩)))) ?_
    refine sc (fun own a wx hf hsl hE => ?_) ?_
    · obtain ⟨⟨⟨A107, cA107⟩, (f_14 : a.eval (.tmp 14) = .slice A107 r106.length cA107), (b_A107 : RwO own 108 [] wx 3 R3 A107 cA107 r106)⟩, ⟨⟨A110, cA110⟩, (f_16 : a.eval (.tmp 16) = .slice A110 r109.length cA110), (b_A110 : RwO own 111 [112, 113, 0] wx 63 R63 A110 cA110 r109)⟩, -⟩ := hf
      exact px (or_call cf7 (args2 f_14 f_16) (guard_New_w _ r106 A107 cA107 r109 A110 cA110 (RdO.zero (RwO.rd b_A107)) (RdO.zero (RwO.rd b_A110)) r114 hr114) (post_mems (m := (fun _ => 0)) (m' := (look0 [(1, 133), (2, 128), (3, 124), (4, 125), (5, 126), (6, 127), (7, 129), (8, 130), (9, 131), (10, 132)])) (fun _ _ => .inl rfl) (fun own' w' a' x h1 h => ⟨x, h1, ⟨RwO.back_ h.1 (by decide) (.inl (Rep.fl_flat _)), MpN.back_ h.2.1 (by decide) (by decide) (.inl (Rep.fl_flat _)), RwO.back_ h.2.2.1 (by decide) (.inl (Rep.fl_flat _)), BlkO.back_ h.2.2.2.1 (by decide), RwO.back_ h.2.2.2.2.1 (by decide) (.inl (Rep.fl_flat _)), RwO.back_ h.2.2.2.2.2.1 (by decide) (.inl (Rep.fl_flat _)), MpO.back_ h.2.2.2.2.2.2.1 (by decide), MpO.back_ h.2.2.2.2.2.2.2.1 (by decide), BlkO.back_ h.2.2.2.2.2.2.2.2 (by decide)⟩⟩)))
    refine sc (fun own a wx hf hsl hE => ?_) ?_
    · obtain ⟨⟨⟨⟨A115, cA115⟩, ⟨A116, cA116⟩, ⟨A117, cA117⟩, ⟨A118, cA118⟩, ⟨A119, cA119⟩, ⟨A120, cA120⟩, ⟨A121, cA121⟩, ⟨A122, cA122⟩, ⟨A123, cA123⟩⟩, (f_17 : a.eval (.tmp 17) = .pointer (some ⟨cA115, 0, none⟩)), (b_A117 : RwO own 124 [] wx 80 R80 A117 cA117 r114.1.1), (b_cA118 : MpN own 125 126 [] wx cA118 vv111 3 R3 r114.1.2.1), (b_A119 : RwO own 127 [] wx 3 R3 A119 cA119 r114.1.2.2), (b_cA116 : BlkO own 128 wx cA116 106 #[.slice A117 r114.1.1.length cA117, .map (some cA118), .slice A119 r114.1.2.2.length cA119]), (b_A120 : RwO own 129 [] wx 3 R3 A120 cA120 r114.2.1), (b_A121 : RwO own 130 [] wx 25 R25 A121 cA121 r114.2.2.1), (b_cA122 : MpO own 131 wx cA122 vv25 vv4 r114.2.2.2.1), (b_cA123 : MpO own 132 wx cA123 vv81 vv4 r114.2.2.2.2), (b_cA115 : BlkO own 133 wx cA115 77 #[.pointer (some ⟨cA116, 0, none⟩), .slice A120 r114.2.1.length cA120, .slice A121 r114.2.2.1.length cA121, .map (some cA122), .map (some cA123)])⟩, -⟩ := hf
      exact px (or_mono (f := Fct.val 11 (.pointer (some ⟨cA115, 0, none⟩))) (or_assign f_17) (fun own' a' w' v' hp h => fun _ h0' => by cases (f_17.symm.trans ((hp.2 17 (by decide)).symm.trans h0')); exact h))
    exact steps_nil
  intro own134 a134 w134 hd134 hz134 hk134 hf134 hE134
  have e134_7 := (hk134 7 rfl).trans e105_7
  have e134_8 := (hk134 8 rfl).trans e105_8
  have e134_9 := (hk134 9 rfl).trans e105_9
  obtain ⟨⟨⟨⟨A115, cA115⟩, ⟨A116, cA116⟩, ⟨A117, cA117⟩, ⟨A118, cA118⟩, ⟨A119, cA119⟩, ⟨A120, cA120⟩, ⟨A121, cA121⟩, ⟨A122, cA122⟩, ⟨A123, cA123⟩⟩, (f_17 : a134.eval (.tmp 17) = .pointer (some ⟨cA115, 0, none⟩)), (b_A117 : RwO own134 124 [] w134 80 R80 A117 cA117 r114.1.1), (b_cA118 : MpN own134 125 126 [] w134 cA118 vv111 3 R3 r114.1.2.1), (b_A119 : RwO own134 127 [] w134 3 R3 A119 cA119 r114.1.2.2), (b_cA116 : BlkO own134 128 w134 cA116 106 #[.slice A117 r114.1.1.length cA117, .map (some cA118), .slice A119 r114.1.2.2.length cA119]), (b_A120 : RwO own134 129 [] w134 3 R3 A120 cA120 r114.2.1), (b_A121 : RwO own134 130 [] w134 25 R25 A121 cA121 r114.2.2.1), (b_cA122 : MpO own134 131 w134 cA122 vv25 vv4 r114.2.2.2.1), (b_cA123 : MpO own134 132 w134 cA123 vv81 vv4 r114.2.2.2.2), (b_cA115 : BlkO own134 133 w134 cA115 77 #[.pointer (some ⟨cA116, 0, none⟩), .slice A120 r114.2.1.length cA120, .slice A121 r114.2.2.1.length cA121, .map (some cA122), .map (some cA123)])⟩, (q_11 : ∀ (cA115 : Nat), a134.eval (.tmp 17) = .pointer (some ⟨cA115, 0, none⟩) → a134.eval (.tmp 11) = .pointer (some ⟨cA115, 0, none⟩)), -⟩ := hf134 [4, 5] rfl
  have f_11 := q_11 _ f_17
  have e134_11 := f_11
  have hX134 := Evo.step hX105 (fun _ => Nat.le_refl 0) hE134 rfl
  have b134_g99 := BlkO.evo (by decide) hE134 b105_g99
  have b134_g101 := BlkO.evo (by decide) hE134 b105_g101
  have b134_g103 := BlkO.evo (by decide) hE134 b105_g103
  have b134_A117 := b_A117
  have b134_cA118 := b_cA118
  have b134_A119 := b_A119
  have b134_cA116 := b_cA116
  have b134_A120 := b_A120
  have b134_A121 := b_A121
  have b134_cA122 := b_cA122
  have b134_cA123 := b_cA123
  have b134_cA115 := b_cA115
  refine fl_seq (fun Q135 hn135 hp135 => ?_)
  refine rg_plain_seq (n := 61) (rs := []) (own0 := own134) (K := [])
      (bs := [0, 1])
      (ds := [⟨[], [11], [], Fct.val 18 (.pointer (some ⟨cA115, 0, none⟩))⟩,
      ⟨[0], [], [], Fct.val 19 (.bool false)⟩]) (by kernel_rfl) hz134 hd134 (fun _ h => nomatch h) ?_ ?_
  · refine sc (fun _ _ _ _ s _ => px (or_move (s.1.trans e134_11))) ?_
    refine sc (fun _ _ _ f _ _ => px (or_k [(18, .pointer (some ⟨cA115, 0, none⟩))] rfl rfl ⟨f.1, trivial⟩ (by kernel_rfl))) ?_
    exact steps_nil
  intro own136 a136 w136 hd136 hz136 hk136 hf136 hE136
  have e136_7 := (hk136 7 rfl).trans e134_7
  have e136_8 := (hk136 8 rfl).trans e134_8
  have e136_9 := (hk136 9 rfl).trans e134_9
  have e136_11 := (hk136 11 rfl).trans e134_11
  obtain ⟨(f_19 : a136.eval (.tmp 19) = .bool false), -⟩ := hf136 [1] rfl
  have e136_19 := f_19
  have hX136 := Evo.step hX134 (fun _ => Nat.le_refl 0) hE136 rfl
  have b136_g99 := BlkO.evo (by decide) hE136 b134_g99
  have b136_g101 := BlkO.evo (by decide) hE136 b134_g101
  have b136_g103 := BlkO.evo (by decide) hE136 b134_g103
  have b136_A117 := RwO.evo rfl hE136 b134_A117
  have b136_cA118 := MpN.evo rfl hE136 b134_cA118
  have b136_A119 := RwO.evo rfl hE136 b134_A119
  have b136_cA116 := BlkO.evo (by decide) hE136 b134_cA116
  have b136_A120 := RwO.evo rfl hE136 b134_A120
  have b136_A121 := RwO.evo rfl hE136 b134_A121
  have b136_cA122 := MpO.evo (by decide) hE136 b134_cA122
  have b136_cA123 := MpO.evo (by decide) hE136 b134_cA123
  have b136_cA115 := BlkO.evo (by decide) hE136 b134_cA115
  refine fl_f e136_19 ?_
  refine fl_skip ?_
  refine hn135 _ _ ?_
  obtain ⟨r137, hr137, hs⟩ := obind hs
  refine rg_plain_seq (n := 61) (rs := []) (own0 := own136) (K := [])
      (bs := [0, 0, 0, 0, 15, 31])
      (ds := [⟨[], [11], [], Fct.val 20 (.pointer (some ⟨cA115, 0, none⟩))⟩,
      ⟨[], [7], [], Fct.val 21 (.agg #[.int .i64 x3.1, .int .i64 x3.2])⟩,
      ⟨[], [8], [], Fct.val 22 (.agg #[.int .i64 b4.1, .int .i64 b4.2])⟩,
      ⟨[], [9], [], Fct.val 23 (.agg #[.int .i64 c5.1, .int .i64 c5.2])⟩,
      ⟨[0, 1, 2, 3], [], [], Fct.val 24 (.int .i64 r137)⟩,
      ⟨[4], [], [], Fct.val 12 (.int .i64 r137)⟩]) (by kernel_rfl) hz136 hd136 (fun _ h => nomatch h) ?_ ?_
  · refine sc (fun _ _ _ _ s _ => px (or_move (s.1.trans e136_11))) ?_
    refine sc (fun _ _ _ _ s hE => px (or_load (l := [.int .i64 x3.1, .int .i64 x3.2]) ta25 (s.1.trans e136_7) (Blk.cellsFrom (BlkO.evo (by decide) hE b136_g99).2 0 rfl) rfl)) ?_
    refine sc (fun _ _ _ _ s hE => px (or_load (l := [.int .i64 b4.1, .int .i64 b4.2]) ta25 (s.1.trans e136_8) (Blk.cellsFrom (BlkO.evo (by decide) hE b136_g101).2 0 rfl) rfl)) ?_
    refine sc (fun _ _ _ _ s hE => px (or_load (l := [.int .i64 c5.1, .int .i64 c5.2]) ta25 (s.1.trans e136_9) (Blk.cellsFrom (BlkO.evo (by decide) hE b136_g103).2 0 rfl) rfl)) ?_
    refine sc (fun _ _ _ f _ hE => px (or_call cf10 (args4 f.1 f.2.1 f.2.2.1 f.2.2.2.1) (guard_Guard_Why_w _ r114 cA115 77 cA116 106 A117 cA117 cA118 A119 cA119 A120 cA120 A121 cA121 cA122 cA123 x3 b4 c5 (BlkO.zero_ (BlkO.evo (by decide) hE b136_cA115)) (RdO.zero (RwO.rd (RwO.evo rfl hE b136_A120))) (RdO.zero (RwO.rd (RwO.evo rfl hE b136_A121))) (MpO.zero_ (MpO.evo (by decide) hE b136_cA122)) (MpO.zero_ (MpO.evo (by decide) hE b136_cA123)) (BlkO.zero_ (BlkO.evo (by decide) hE b136_cA116)) (RdO.zero (RwO.rd (RwO.evo rfl hE b136_A117))) (MpN.zero_ (MpN.evo rfl hE b136_cA118)) (RdO.zero (RwO.rd (RwO.evo rfl hE b136_A119))) r137 hr137) post_val)) ?_
    refine sc (fun _ _ _ f _ _ => px (or_assign f.1)) ?_
    exact steps_nil
  intro own138 a138 w138 hd138 hz138 hk138 hf138 hE138
  have e138_7 := (hk138 7 rfl).trans e136_7
  have e138_8 := (hk138 8 rfl).trans e136_8
  have e138_9 := (hk138 9 rfl).trans e136_9
  have e138_11 := (hk138 11 rfl).trans e136_11
  obtain ⟨(f_12 : a138.eval (.tmp 12) = .int .i64 r137), -⟩ := hf138 [5] rfl
  have e138_12 := f_12
  have hX138 := Evo.step hX136 (fun _ => Nat.le_refl 0) hE138 rfl
  have b138_g99 := BlkO.evo (by decide) hE138 b136_g99
  have b138_g101 := BlkO.evo (by decide) hE138 b136_g101
  have b138_g103 := BlkO.evo (by decide) hE138 b136_g103
  have b138_A117 := RwO.evo rfl hE138 b136_A117
  have b138_cA118 := MpN.evo rfl hE138 b136_cA118
  have b138_A119 := RwO.evo rfl hE138 b136_A119
  have b138_cA116 := BlkO.evo (by decide) hE138 b136_cA116
  have b138_A120 := RwO.evo rfl hE138 b136_A120
  have b138_A121 := RwO.evo rfl hE138 b136_A121
  have b138_cA122 := MpO.evo (by decide) hE138 b136_cA122
  have b138_cA123 := MpO.evo (by decide) hE138 b136_cA123
  have b138_cA115 := BlkO.evo (by decide) hE138 b136_cA115
  obtain ⟨r166, hr166, hs⟩ := obind hs
  obtain ⟨r167, hr167, hs⟩ := obind hs
  obtain ⟨x168, hx168, hs⟩ := obind hs
  obtain ⟨r169, hr169, hs⟩ := obind hs
  obtain ⟨x184, hx184, hs⟩ := obind hs
  obtain ⟨r185, hr185, hs⟩ := obind hs
  refine rg_plain_seq (n := 61) (rs := [Fct.at_ 133 cA115 77 #[.pointer (some ⟨cA116, 0, none⟩), .slice A120 r114.2.1.length cA120, .slice A121 r114.2.2.1.length cA121, .map (some cA122), .map (some cA123)], Fct.at_ 128 cA116 106 #[.slice A117 r114.1.1.length cA117, .map (some cA118), .slice A119 r114.1.2.2.length cA119], Fct.rowAt 124 [] 80 R80 A117 cA117 r114.1.1, Fct.mapnAt 125 126 [] cA118 vv111 3 R3 r114.1.2.1, Fct.rowAt 127 [] 3 R3 A119 cA119 r114.1.2.2, Fct.rowAt 129 [] 3 R3 A120 cA120 r114.2.1, Fct.rowAt 130 [] 25 R25 A121 cA121 r114.2.2.1, Fct.mapAt 131 cA122 vv25 vv4 r114.2.2.2.1, Fct.mapAt 132 cA123 vv81 vv4 r114.2.2.2.2]) (own0 := own138) (K := [133, 128, 124, 125, 126, 127, 129, 130, 131, 132])
      (bs := [0, 1, 3, 3, 3, 3, 63, 3, 255, 511, 1023, 2047, 4095, 8191, 16383, 32767, 65535, 131071, 262143, 524287, 524287, 524287, 524287, 8388607, 524287, 17301503, 67108863, 134217727, 268435455, 536870911, 536870911, 536870911, 536870911, 8589934591, 17179869183, 34359738367, 68719476735])
      (ds := [⟨[], [], [], Fct.val 25 (.bool r166)⟩,
      ⟨[0], [], [], Fct.val 26 (.bool r166)⟩,
      ⟨[1], [11], [], Fct.cond r166 (some 27) (Fct.val 27 (.pointer (some ⟨cA115, 0, none⟩)))⟩,
      ⟨[1], [9], [], Fct.cond r166 (some 28) (Fct.val 28 (.agg #[.int .i64 c5.1, .int .i64 c5.2]))⟩,
      ⟨[1], [8], [], Fct.cond r166 (some 29) (Fct.val 29 (.agg #[.int .i64 b4.1, .int .i64 b4.2]))⟩,
      ⟨[1], [7], [], Fct.cond r166 (some 30) (Fct.val 30 (.agg #[.int .i64 x3.1, .int .i64 x3.2]))⟩,
      ⟨[1, 2, 3, 4, 5, 37, 38, 39, 40, 41, 42, 43, 44, 45], [], [], Fct.cond r166 (some 31) (Fct.val 31 (.int .i64 r167))⟩,
      ⟨[1], [12], [], Fct.cond r166 (some 32) (Fct.val 32 (.int .i64 r137))⟩,
      ⟨[1, 6, 7], [], [], Fct.cond r166 (some 33) (Fct.val 33 (.bool (decide (r167 = r137))))⟩,
      ⟨[1, 8], [], [], Fct.val 34 (.bool (r166 && (decide (r167 = r137))))⟩,
      ⟨[9], [], [], Fct.val 35 (.bool (r166 && (decide (r167 = r137))))⟩,
      ⟨[10], [12], [], Fct.cond (r166 && (decide (r167 = r137))) (some 36) (Fct.val 36 (.int .i64 r137))⟩,
      ⟨[10, 11], [], [], Fct.cond (r166 && (decide (r167 = r137))) (some 37) (Fct.val 37 (.bool (decide (0 ≤ r137))))⟩,
      ⟨[10, 12], [], [], Fct.val 38 (.bool x168)⟩,
      ⟨[13], [], [], Fct.val 39 (.bool x168)⟩,
      ⟨[14], [12], [], Fct.cond x168 (some 40) (Fct.val 40 (.int .i64 r137))⟩,
      ⟨[14, 15], [], [], Fct.cond x168 (some 41) (Fct.val 41 (.bool (decide (r137 ≤ 4))))⟩,
      ⟨[14, 16], [], [], Fct.val 42 (.bool (x168 && (decide (r137 ≤ 4))))⟩,
      ⟨[17], [], [], Fct.val 43 (.bool (x168 && (decide (r137 ≤ 4))))⟩,
      ⟨[18], [11], [], Fct.cond (x168 && (decide (r137 ≤ 4))) (some 44) (Fct.val 44 (.pointer (some ⟨cA115, 0, none⟩)))⟩,
      ⟨[18], [9], [], Fct.cond (x168 && (decide (r137 ≤ 4))) (some 45) (Fct.val 45 (.agg #[.int .i64 c5.1, .int .i64 c5.2]))⟩,
      ⟨[18], [8], [], Fct.cond (x168 && (decide (r137 ≤ 4))) (some 46) (Fct.val 46 (.agg #[.int .i64 b4.1, .int .i64 b4.2]))⟩,
      ⟨[18], [7], [], Fct.cond (x168 && (decide (r137 ≤ 4))) (some 47) (Fct.val 47 (.agg #[.int .i64 x3.1, .int .i64 x3.2]))⟩,
      ⟨[18, 19, 20, 21, 22, 37, 38, 39, 40, 41, 42, 43, 44, 45], [], [133, 128, 124, 125, 126, 127, 129, 130, 131, 132], Fct.memsB (x168 && (decide (r137 ≤ 4))) [174, 175, 176, 177, 178, 179, 180, 181, 182, 183] 48 (fun (x : (Option Addr × Nat) × (Option Addr × Nat) × (Option Addr × Nat) × (Option Addr × Nat)) => .bool r169.1) (fun (x : (Option Addr × Nat) × (Option Addr × Nat) × (Option Addr × Nat) × (Option Addr × Nat)) own w => RwO own 174 [] w 80 R80 x.1.1 x.1.2 r169.2.1.1 ∧ MpN own 175 176 [] w cA118 vv111 3 R3 r169.2.1.2.1 ∧ RwO own 177 [] w 3 R3 x.2.1.1 x.2.1.2 r169.2.1.2.2 ∧ BlkO own 178 w cA116 106 #[.slice x.1.1 r169.2.1.1.length x.1.2, .map (some cA118), .slice x.2.1.1 r169.2.1.2.2.length x.2.1.2] ∧ RwO own 179 [] w 3 R3 x.2.2.1.1 x.2.2.1.2 r169.2.2.1 ∧ RwO own 180 [] w 25 R25 x.2.2.2.1 x.2.2.2.2 r169.2.2.2.1 ∧ MpO own 181 w cA122 vv25 vv4 r169.2.2.2.2.1 ∧ MpO own 182 w cA123 vv81 vv4 r169.2.2.2.2.2 ∧ BlkO own 183 w cA115 77 #[.pointer (some ⟨cA116, 0, none⟩), .slice x.2.2.1.1 r169.2.2.1.length x.2.2.1.2, .slice x.2.2.2.1 r169.2.2.2.1.length x.2.2.2.2, .map (some cA122), .map (some cA123)]) (fun hk he h => ⟨RwO.evo (hits_sub hk (by decide)) he h.1, MpN.evo (hits_sub hk (by decide)) he h.2.1, RwO.evo (hits_sub hk (by decide)) he h.2.2.1, BlkO.evo (not_hit hk (by decide)) he h.2.2.2.1, RwO.evo (hits_sub hk (by decide)) he h.2.2.2.2.1, RwO.evo (hits_sub hk (by decide)) he h.2.2.2.2.2.1, MpO.evo (not_hit hk (by decide)) he h.2.2.2.2.2.2.1, MpO.evo (not_hit hk (by decide)) he h.2.2.2.2.2.2.2.1, BlkO.evo (not_hit hk (by decide)) he h.2.2.2.2.2.2.2.2⟩)⟩,
      ⟨[18], [12], [], Fct.cond (x168 && (decide (r137 ≤ 4))) (some 49) (Fct.val 49 (.int .i64 r137))⟩,
      ⟨[18, 24], [], [], Fct.cond (x168 && (decide (r137 ≤ 4))) (some 50) (Fct.val 50 (.bool (decide (r137 = 0))))⟩,
      ⟨[18, 23, 25], [], [], Fct.cond (x168 && (decide (r137 ≤ 4))) (some 51) (Fct.val 51 (.bool (r169.1 == (decide (r137 = 0)))))⟩,
      ⟨[18, 26], [], [], Fct.val 52 (.bool x184)⟩,
      ⟨[27], [], [], Fct.val 53 (.bool x184)⟩,
      ⟨[28], [11], [], Fct.cond x184 (some 54) (Fct.val 54 (.pointer (some ⟨cA115, 0, none⟩)))⟩,
      ⟨[28], [7], [], Fct.cond x184 (some 55) (Fct.val 55 (.agg #[.int .i64 x3.1, .int .i64 x3.2]))⟩,
      ⟨[28], [8], [], Fct.cond x184 (some 56) (Fct.val 56 (.agg #[.int .i64 b4.1, .int .i64 b4.2]))⟩,
      ⟨[28], [9], [], Fct.cond x184 (some 57) (Fct.val 57 (.agg #[.int .i64 c5.1, .int .i64 c5.2]))⟩,
      ⟨[28, 29, 30, 31, 32, 23], [], [], Fct.cond x184 (some 58) (Fct.val 58 (.int .i64 r185))⟩,
      ⟨[28, 33], [], [], Fct.cond x184 (some 59) (Fct.val 59 (.bool (!decide (r185 = 0))))⟩,
      ⟨[28, 34], [], [], Fct.val 60 (.bool (x184 && (!decide (r185 = 0))))⟩,
      ⟨[35], [], [], Fct.val 10 (.bool (x184 && (!decide (r185 = 0))))⟩]) (by kernel_rfl) hz138 hd138 (by simp only [List.forall_mem_cons]; exact ⟨b138_cA115, b138_cA116, b138_A117, b138_cA118, b138_A119, b138_A120, b138_A121, b138_cA122, b138_cA123, fun _ h => nomatch h⟩) ?_ ?_
  · refine sc (fun _ _ _ _ _ _ => px (or_call cf11 (args0) (law18_known_w _   r166 hr166) post_val)) ?_
    refine sc (fun _ _ _ f _ _ => px (or_move f.1)) ?_
    refine sc (fun own a wx hf hsl hE => ?_) ?_
    · obtain ⟨(f_26 : a.eval (.tmp 26) = .bool r166), -⟩ := hf
      obtain ⟨s_11, -⟩ := hsl
      refine sg_t rfl rfl rfl f_26 (fun hg => ?_)
      exact or_move (s_11.trans e138_11)
    refine sc (fun own a wx hf hsl hE => ?_) ?_
    · obtain ⟨(f_26 : a.eval (.tmp 26) = .bool r166), -⟩ := hf
      obtain ⟨s_9, -⟩ := hsl
      refine sg_t rfl rfl rfl f_26 (fun hg => ?_)
      exact or_load (l := [.int .i64 c5.1, .int .i64 c5.2]) ta25 (s_9.trans e138_9) (Blk.cellsFrom (BlkO.evo (by decide) hE b138_g103).2 0 rfl) rfl
    refine sc (fun own a wx hf hsl hE => ?_) ?_
    · obtain ⟨(f_26 : a.eval (.tmp 26) = .bool r166), -⟩ := hf
      obtain ⟨s_8, -⟩ := hsl
      refine sg_t rfl rfl rfl f_26 (fun hg => ?_)
      exact or_load (l := [.int .i64 b4.1, .int .i64 b4.2]) ta25 (s_8.trans e138_8) (Blk.cellsFrom (BlkO.evo (by decide) hE b138_g101).2 0 rfl) rfl
    refine sc (fun own a wx hf hsl hE => ?_) ?_
    · obtain ⟨(f_26 : a.eval (.tmp 26) = .bool r166), -⟩ := hf
      obtain ⟨s_7, -⟩ := hsl
      refine sg_t rfl rfl rfl f_26 (fun hg => ?_)
      exact or_load (l := [.int .i64 x3.1, .int .i64 x3.2]) ta25 (s_7.trans e138_7) (Blk.cellsFrom (BlkO.evo (by decide) hE b138_g99).2 0 rfl) rfl
    refine sc (fun own a wx hf hsl hE => ?_) ?_
    · obtain ⟨(f_26 : a.eval (.tmp 26) = .bool r166), c_27, c_28, c_29, c_30, (b_cA115 : BlkO own 133 wx cA115 77 #[.pointer (some ⟨cA116, 0, none⟩), .slice A120 r114.2.1.length cA120, .slice A121 r114.2.2.1.length cA121, .map (some cA122), .map (some cA123)]), (b_cA116 : BlkO own 128 wx cA116 106 #[.slice A117 r114.1.1.length cA117, .map (some cA118), .slice A119 r114.1.2.2.length cA119]), (b_A117 : RwO own 124 [] wx 80 R80 A117 cA117 r114.1.1), (b_cA118 : MpN own 125 126 [] wx cA118 vv111 3 R3 r114.1.2.1), (b_A119 : RwO own 127 [] wx 3 R3 A119 cA119 r114.1.2.2), (b_A120 : RwO own 129 [] wx 3 R3 A120 cA120 r114.2.1), (b_A121 : RwO own 130 [] wx 25 R25 A121 cA121 r114.2.2.1), (b_cA122 : MpO own 131 wx cA122 vv25 vv4 r114.2.2.2.1), (b_cA123 : MpO own 132 wx cA123 vv81 vv4 r114.2.2.2.2), -⟩ := hf
      refine sg_t rfl rfl rfl f_26 (fun hg => ?_)
      have f_27 : a.eval (.tmp 27) = .pointer (some ⟨cA115, 0, none⟩) := c_27.1 hg
      have f_28 : a.eval (.tmp 28) = .agg #[.int .i64 c5.1, .int .i64 c5.2] := c_28.1 hg
      have f_29 : a.eval (.tmp 29) = .agg #[.int .i64 b4.1, .int .i64 b4.2] := c_29.1 hg
      have f_30 : a.eval (.tmp 30) = .agg #[.int .i64 x3.1, .int .i64 x3.2] := c_30.1 hg
      exact or_call cf10 (args4 f_27 f_28 f_29 f_30) (guard_Guard_Why_w _ r114 cA115 77 cA116 106 A117 cA117 cA118 A119 cA119 A120 cA120 A121 cA121 cA122 cA123 c5 b4 x3 (BlkO.zero_ b_cA115) (RdO.zero (RwO.rd b_A120)) (RdO.zero (RwO.rd b_A121)) (MpO.zero_ b_cA122) (MpO.zero_ b_cA123) (BlkO.zero_ b_cA116) (RdO.zero (RwO.rd b_A117)) (MpN.zero_ b_cA118) (RdO.zero (RwO.rd b_A119)) r167 (gd_t hr167 hg)) post_val
    refine sc (fun own a wx hf hsl hE => ?_) ?_
    · obtain ⟨(f_26 : a.eval (.tmp 26) = .bool r166), -⟩ := hf
      obtain ⟨s_12, -⟩ := hsl
      refine sg_t rfl rfl rfl f_26 (fun hg => ?_)
      exact or_move (s_12.trans e138_12)
    refine sc (fun own a wx hf hsl hE => ?_) ?_
    · obtain ⟨(f_26 : a.eval (.tmp 26) = .bool r166), c_31, c_32, -⟩ := hf
      refine sg_t rfl rfl rfl f_26 (fun hg => ?_)
      have f_31 : a.eval (.tmp 31) = .int .i64 r167 := c_31.1 hg
      have f_32 : a.eval (.tmp 32) = .int .i64 r137 := c_32.1 hg
      exact or_eql f_31 f_32 rfl
    refine sc (fun own a wx hf hsl hE => ?_) ?_
    · obtain ⟨(f_26 : a.eval (.tmp 26) = .bool r166), c_33, -⟩ := hf
      exact px (or_and f_26 (fun hx => c_33.1 hx) rfl rfl)
    refine sc (fun _ _ _ f _ _ => px (or_move f.1)) ?_
    refine sc (fun own a wx hf hsl hE => ?_) ?_
    · obtain ⟨(f_35 : a.eval (.tmp 35) = .bool (r166 && (decide (r167 = r137)))), -⟩ := hf
      obtain ⟨s_12, -⟩ := hsl
      refine sg_t rfl rfl rfl f_35 (fun hg => ?_)
      exact or_move (s_12.trans e138_12)
    refine sc (fun own a wx hf hsl hE => ?_) ?_
    · obtain ⟨(f_35 : a.eval (.tmp 35) = .bool (r166 && (decide (r167 = r137)))), c_36, -⟩ := hf
      refine sg_t rfl rfl rfl f_35 (fun hg => ?_)
      have f_36 : a.eval (.tmp 36) = .int .i64 r137 := c_36.1 hg
      exact or_geq f_36 rfl rfl
    refine sc (fun own a wx hf hsl hE => ?_) ?_
    · obtain ⟨(f_35 : a.eval (.tmp 35) = .bool (r166 && (decide (r167 = r137)))), c_37, -⟩ := hf
      exact px (or_and f_35 (fun hx => c_37.1 hx) rfl (osome hx168).symm)
    refine sc (fun _ _ _ f _ _ => px (or_move f.1)) ?_
    refine sc (fun own a wx hf hsl hE => ?_) ?_
    · obtain ⟨(f_39 : a.eval (.tmp 39) = .bool x168), -⟩ := hf
      obtain ⟨s_12, -⟩ := hsl
      refine sg_t rfl rfl rfl f_39 (fun hg => ?_)
      exact or_move (s_12.trans e138_12)
    refine sc (fun own a wx hf hsl hE => ?_) ?_
    · obtain ⟨(f_39 : a.eval (.tmp 39) = .bool x168), c_40, -⟩ := hf
      refine sg_t rfl rfl rfl f_39 (fun hg => ?_)
      have f_40 : a.eval (.tmp 40) = .int .i64 r137 := c_40.1 hg
      exact or_leq f_40 rfl rfl
    refine sc (fun own a wx hf hsl hE => ?_) ?_
    · obtain ⟨(f_39 : a.eval (.tmp 39) = .bool x168), c_41, -⟩ := hf
      exact px (or_and f_39 (fun hx => c_41.1 hx) rfl rfl)
    refine sc (fun _ _ _ f _ _ => px (or_move f.1)) ?_
    refine sc (fun own a wx hf hsl hE => ?_) ?_
    · obtain ⟨(f_43 : a.eval (.tmp 43) = .bool (x168 && (decide (r137 ≤ 4)))), -⟩ := hf
      obtain ⟨s_11, -⟩ := hsl
      refine sg_t rfl rfl rfl f_43 (fun hg => ?_)
      exact or_move (s_11.trans e138_11)
    refine sc (fun own a wx hf hsl hE => ?_) ?_
    · obtain ⟨(f_43 : a.eval (.tmp 43) = .bool (x168 && (decide (r137 ≤ 4)))), -⟩ := hf
      obtain ⟨s_9, -⟩ := hsl
      refine sg_t rfl rfl rfl f_43 (fun hg => ?_)
      exact or_load (l := [.int .i64 c5.1, .int .i64 c5.2]) ta25 (s_9.trans e138_9) (Blk.cellsFrom (BlkO.evo (by decide) hE b138_g103).2 0 rfl) rfl
    refine sc (fun own a wx hf hsl hE => ?_) ?_
    · obtain ⟨(f_43 : a.eval (.tmp 43) = .bool (x168 && (decide (r137 ≤ 4)))), -⟩ := hf
      obtain ⟨s_8, -⟩ := hsl
      refine sg_t rfl rfl rfl f_43 (fun hg => ?_)
      exact or_load (l := [.int .i64 b4.1, .int .i64 b4.2]) ta25 (s_8.trans e138_8) (Blk.cellsFrom (BlkO.evo (by decide) hE b138_g101).2 0 rfl) rfl
    refine sc (fun own a wx hf hsl hE => ?_) ?_
    · obtain ⟨(f_43 : a.eval (.tmp 43) = .bool (x168 && (decide (r137 ≤ 4)))), -⟩ := hf
      obtain ⟨s_7, -⟩ := hsl
      refine sg_t rfl rfl rfl f_43 (fun hg => ?_)
      exact or_load (l := [.int .i64 x3.1, .int .i64 x3.2]) ta25 (s_7.trans e138_7) (Blk.cellsFrom (BlkO.evo (by decide) hE b138_g99).2 0 rfl) rfl
    refine sc (fun own a wx hf hsl hE => ?_) ?_
    · obtain ⟨(f_43 : a.eval (.tmp 43) = .bool (x168 && (decide (r137 ≤ 4)))), c_44, c_45, c_46, c_47, (b_cA115 : BlkO own 133 wx cA115 77 #[.pointer (some ⟨cA116, 0, none⟩), .slice A120 r114.2.1.length cA120, .slice A121 r114.2.2.1.length cA121, .map (some cA122), .map (some cA123)]), (b_cA116 : BlkO own 128 wx cA116 106 #[.slice A117 r114.1.1.length cA117, .map (some cA118), .slice A119 r114.1.2.2.length cA119]), (b_A117 : RwO own 124 [] wx 80 R80 A117 cA117 r114.1.1), (b_cA118 : MpN own 125 126 [] wx cA118 vv111 3 R3 r114.1.2.1), (b_A119 : RwO own 127 [] wx 3 R3 A119 cA119 r114.1.2.2), (b_A120 : RwO own 129 [] wx 3 R3 A120 cA120 r114.2.1), (b_A121 : RwO own 130 [] wx 25 R25 A121 cA121 r114.2.2.1), (b_cA122 : MpO own 131 wx cA122 vv25 vv4 r114.2.2.2.1), (b_cA123 : MpO own 132 wx cA123 vv81 vv4 r114.2.2.2.2), -⟩ := hf
      refine sgB_t rfl rfl f_43 (fun hg => memsB_y (fun _ _ _ => Iff.rfl) rfl rfl hg ?_) (fun hg => by obtain rfl := gd_f hr169 hg; exact memsB_n (mm := [(124, 174), (125, 175), (126, 176), (127, 177), (128, 178), (129, 179), (130, 180), (131, 181), (132, 182), (133, 183)]) (fun _ _ _ => Iff.rfl) rfl hg rfl ((A117, cA117), (A119, cA119), (A120, cA120), (A121, cA121)) ⟨(RwO.rl_ (mm := [(124, 174), (125, 175), (126, 176), (127, 177), (128, 178), (129, 179), (130, 180), (131, 181), (132, 182), (133, 183)]) b_A117), (MpN.rl_ (mm := [(124, 174), (125, 175), (126, 176), (127, 177), (128, 178), (129, 179), (130, 180), (131, 181), (132, 182), (133, 183)]) b_cA118), (RwO.rl_ (mm := [(124, 174), (125, 175), (126, 176), (127, 177), (128, 178), (129, 179), (130, 180), (131, 181), (132, 182), (133, 183)]) b_A119), (BlkO.rl_ (mm := [(124, 174), (125, 175), (126, 176), (127, 177), (128, 178), (129, 179), (130, 180), (131, 181), (132, 182), (133, 183)]) b_cA116), (RwO.rl_ (mm := [(124, 174), (125, 175), (126, 176), (127, 177), (128, 178), (129, 179), (130, 180), (131, 181), (132, 182), (133, 183)]) b_A120), (RwO.rl_ (mm := [(124, 174), (125, 175), (126, 176), (127, 177), (128, 178), (129, 179), (130, 180), (131, 181), (132, 182), (133, 183)]) b_A121), (MpO.rl_ (mm := [(124, 174), (125, 175), (126, 176), (127, 177), (128, 178), (129, 179), (130, 180), (131, 181), (132, 182), (133, 183)]) b_cA122), (MpO.rl_ (mm := [(124, 174), (125, 175), (126, 176), (127, 177), (128, 178), (129, 179), (130, 180), (131, 181), (132, 182), (133, 183)]) b_cA123), (BlkO.rl_ (mm := [(124, 174), (125, 175), (126, 176), (127, 177), (128, 178), (129, 179), (130, 180), (131, 181), (132, 182), (133, 183)]) b_cA115)⟩)
      have f_44 : a.eval (.tmp 44) = .pointer (some ⟨cA115, 0, none⟩) := c_44.1 hg
      have f_45 : a.eval (.tmp 45) = .agg #[.int .i64 c5.1, .int .i64 c5.2] := c_45.1 hg
      have f_46 : a.eval (.tmp 46) = .agg #[.int .i64 b4.1, .int .i64 b4.2] := c_46.1 hg
      have f_47 : a.eval (.tmp 47) = .agg #[.int .i64 x3.1, .int .i64 x3.2] := c_47.1 hg
      exact or_call cf12 (args4 f_44 f_45 f_46 f_47) (guard_Guard_Drop_w _ (forth own (look0 [(124, 3), (125, 4), (126, 5), (127, 6), (128, 2), (129, 7), (130, 8), (131, 9), (132, 10), (133, 1)])) r114 cA115 77 cA116 106 A117 cA117 cA118 A119 cA119 A120 cA120 A121 cA121 cA122 cA123 c5 b4 x3 (look0_le rfl) (BlkO.forth_ (m := (look0 [(124, 3), (125, 4), (126, 5), (127, 6), (128, 2), (129, 7), (130, 8), (131, 9), (132, 10), (133, 1)])) b_cA115) (RwO.forth_ (m := (look0 [(124, 3), (125, 4), (126, 5), (127, 6), (128, 2), (129, 7), (130, 8), (131, 9), (132, 10), (133, 1)])) b_A120) (RwO.forth_ (m := (look0 [(124, 3), (125, 4), (126, 5), (127, 6), (128, 2), (129, 7), (130, 8), (131, 9), (132, 10), (133, 1)])) b_A121) (MpO.forth_ (m := (look0 [(124, 3), (125, 4), (126, 5), (127, 6), (128, 2), (129, 7), (130, 8), (131, 9), (132, 10), (133, 1)])) b_cA122) (MpO.forth_ (m := (look0 [(124, 3), (125, 4), (126, 5), (127, 6), (128, 2), (129, 7), (130, 8), (131, 9), (132, 10), (133, 1)])) b_cA123) (BlkO.forth_ (m := (look0 [(124, 3), (125, 4), (126, 5), (127, 6), (128, 2), (129, 7), (130, 8), (131, 9), (132, 10), (133, 1)])) b_cA116) (RwO.forth_ (m := (look0 [(124, 3), (125, 4), (126, 5), (127, 6), (128, 2), (129, 7), (130, 8), (131, 9), (132, 10), (133, 1)])) b_A117) (MpN.forth_ (m := (look0 [(124, 3), (125, 4), (126, 5), (127, 6), (128, 2), (129, 7), (130, 8), (131, 9), (132, 10), (133, 1)])) b_cA118) (RwO.forth_ (m := (look0 [(124, 3), (125, 4), (126, 5), (127, 6), (128, 2), (129, 7), (130, 8), (131, 9), (132, 10), (133, 1)])) b_A119) r169 (gd_t hr169 hg)) (post_mems (m := (look0 [(124, 3), (125, 4), (126, 5), (127, 6), (128, 2), (129, 7), (130, 8), (131, 9), (132, 10), (133, 1)])) (m' := (look0 [(1, 183), (2, 178), (3, 174), (4, 175), (5, 176), (6, 177), (7, 179), (8, 180), (9, 181), (10, 182)])) (hm_of rfl) (fun own' w' a' x h1 h => ⟨x, h1, ⟨RwO.back_ h.1 (by decide) (.inl (Rep.fl_flat _)), MpN.back_ h.2.1 (by decide) (by decide) (.inl (Rep.fl_flat _)), RwO.back_ h.2.2.1 (by decide) (.inl (Rep.fl_flat _)), BlkO.back_ h.2.2.2.1 (by decide), RwO.back_ h.2.2.2.2.1 (by decide) (.inl (Rep.fl_flat _)), RwO.back_ h.2.2.2.2.2.1 (by decide) (.inl (Rep.fl_flat _)), MpO.back_ h.2.2.2.2.2.2.1 (by decide), MpO.back_ h.2.2.2.2.2.2.2.1 (by decide), BlkO.back_ h.2.2.2.2.2.2.2.2 (by decide)⟩⟩))
    refine sc (fun own a wx hf hsl hE => ?_) ?_
    · obtain ⟨(f_43 : a.eval (.tmp 43) = .bool (x168 && (decide (r137 ≤ 4)))), -⟩ := hf
      obtain ⟨s_12, -⟩ := hsl
      refine sg_t rfl rfl rfl f_43 (fun hg => ?_)
      exact or_move (s_12.trans e138_12)
    refine sc (fun own a wx hf hsl hE => ?_) ?_
    · obtain ⟨(f_43 : a.eval (.tmp 43) = .bool (x168 && (decide (r137 ≤ 4)))), c_49, -⟩ := hf
      refine sg_t rfl rfl rfl f_43 (fun hg => ?_)
      have f_49 : a.eval (.tmp 49) = .int .i64 r137 := c_49.1 hg
      exact or_eql f_49 rfl rfl
    refine sc (fun own a wx hf hsl hE => ?_) ?_
    · obtain ⟨(f_43 : a.eval (.tmp 43) = .bool (x168 && (decide (r137 ≤ 4)))), ⟨⟨⟨A170, cA170⟩, ⟨A171, cA171⟩, ⟨A172, cA172⟩, ⟨A173, cA173⟩⟩, c_48, (b_A170 : RwO own 174 [] wx 80 R80 A170 cA170 r169.2.1.1), (b_cA118 : MpN own 175 176 [] wx cA118 vv111 3 R3 r169.2.1.2.1), (b_A171 : RwO own 177 [] wx 3 R3 A171 cA171 r169.2.1.2.2), (b_cA116 : BlkO own 178 wx cA116 106 #[.slice A170 r169.2.1.1.length cA170, .map (some cA118), .slice A171 r169.2.1.2.2.length cA171]), (b_A172 : RwO own 179 [] wx 3 R3 A172 cA172 r169.2.2.1), (b_A173 : RwO own 180 [] wx 25 R25 A173 cA173 r169.2.2.2.1), (b_cA122 : MpO own 181 wx cA122 vv25 vv4 r169.2.2.2.2.1), (b_cA123 : MpO own 182 wx cA123 vv81 vv4 r169.2.2.2.2.2), (b_cA115 : BlkO own 183 wx cA115 77 #[.pointer (some ⟨cA116, 0, none⟩), .slice A172 r169.2.2.1.length cA172, .slice A173 r169.2.2.2.1.length cA173, .map (some cA122), .map (some cA123)])⟩, c_50, -⟩ := hf
      refine sg_t rfl rfl rfl f_43 (fun hg => ?_)
      have f_48 := c_48.1 hg
      have f_50 : a.eval (.tmp 50) = .bool (decide (r137 = 0)) := c_50.1 hg
      exact or_eqlb tb4 f_48 f_50 rfl
    refine sc (fun own a wx hf hsl hE => ?_) ?_
    · obtain ⟨(f_43 : a.eval (.tmp 43) = .bool (x168 && (decide (r137 ≤ 4)))), c_51, -⟩ := hf
      exact px (or_and f_43 (fun hx => c_51.1 hx) rfl (osome hx184).symm)
    refine sc (fun _ _ _ f _ _ => px (or_move f.1)) ?_
    refine sc (fun own a wx hf hsl hE => ?_) ?_
    · obtain ⟨(f_53 : a.eval (.tmp 53) = .bool x184), -⟩ := hf
      obtain ⟨s_11, -⟩ := hsl
      refine sg_t rfl rfl rfl f_53 (fun hg => ?_)
      exact or_move (s_11.trans e138_11)
    refine sc (fun own a wx hf hsl hE => ?_) ?_
    · obtain ⟨(f_53 : a.eval (.tmp 53) = .bool x184), -⟩ := hf
      obtain ⟨s_7, -⟩ := hsl
      refine sg_t rfl rfl rfl f_53 (fun hg => ?_)
      exact or_load (l := [.int .i64 x3.1, .int .i64 x3.2]) ta25 (s_7.trans e138_7) (Blk.cellsFrom (BlkO.evo (by decide) hE b138_g99).2 0 rfl) rfl
    refine sc (fun own a wx hf hsl hE => ?_) ?_
    · obtain ⟨(f_53 : a.eval (.tmp 53) = .bool x184), -⟩ := hf
      obtain ⟨s_8, -⟩ := hsl
      refine sg_t rfl rfl rfl f_53 (fun hg => ?_)
      exact or_load (l := [.int .i64 b4.1, .int .i64 b4.2]) ta25 (s_8.trans e138_8) (Blk.cellsFrom (BlkO.evo (by decide) hE b138_g101).2 0 rfl) rfl
    refine sc (fun own a wx hf hsl hE => ?_) ?_
    · obtain ⟨(f_53 : a.eval (.tmp 53) = .bool x184), -⟩ := hf
      obtain ⟨s_9, -⟩ := hsl
      refine sg_t rfl rfl rfl f_53 (fun hg => ?_)
      exact or_load (l := [.int .i64 c5.1, .int .i64 c5.2]) ta25 (s_9.trans e138_9) (Blk.cellsFrom (BlkO.evo (by decide) hE b138_g103).2 0 rfl) rfl
    refine sc (fun own a wx hf hsl hE => ?_) ?_
    · obtain ⟨(f_53 : a.eval (.tmp 53) = .bool x184), c_54, c_55, c_56, c_57, ⟨⟨⟨A170, cA170⟩, ⟨A171, cA171⟩, ⟨A172, cA172⟩, ⟨A173, cA173⟩⟩, c_48, (b_A170 : RwO own 174 [] wx 80 R80 A170 cA170 r169.2.1.1), (b_cA118 : MpN own 175 176 [] wx cA118 vv111 3 R3 r169.2.1.2.1), (b_A171 : RwO own 177 [] wx 3 R3 A171 cA171 r169.2.1.2.2), (b_cA116 : BlkO own 178 wx cA116 106 #[.slice A170 r169.2.1.1.length cA170, .map (some cA118), .slice A171 r169.2.1.2.2.length cA171]), (b_A172 : RwO own 179 [] wx 3 R3 A172 cA172 r169.2.2.1), (b_A173 : RwO own 180 [] wx 25 R25 A173 cA173 r169.2.2.2.1), (b_cA122 : MpO own 181 wx cA122 vv25 vv4 r169.2.2.2.2.1), (b_cA123 : MpO own 182 wx cA123 vv81 vv4 r169.2.2.2.2.2), (b_cA115 : BlkO own 183 wx cA115 77 #[.pointer (some ⟨cA116, 0, none⟩), .slice A172 r169.2.2.1.length cA172, .slice A173 r169.2.2.2.1.length cA173, .map (some cA122), .map (some cA123)])⟩, -⟩ := hf
      refine sg_t rfl rfl rfl f_53 (fun hg => ?_)
      have f_54 : a.eval (.tmp 54) = .pointer (some ⟨cA115, 0, none⟩) := c_54.1 hg
      have f_55 : a.eval (.tmp 55) = .agg #[.int .i64 x3.1, .int .i64 x3.2] := c_55.1 hg
      have f_56 : a.eval (.tmp 56) = .agg #[.int .i64 b4.1, .int .i64 b4.2] := c_56.1 hg
      have f_57 : a.eval (.tmp 57) = .agg #[.int .i64 c5.1, .int .i64 c5.2] := c_57.1 hg
      exact or_call cf10 (args4 f_54 f_55 f_56 f_57) (guard_Guard_Why_w _ r169.2 cA115 77 cA116 106 A170 cA170 cA118 A171 cA171 A172 cA172 A173 cA173 cA122 cA123 x3 b4 c5 (BlkO.zero_ b_cA115) (RdO.zero (RwO.rd b_A172)) (RdO.zero (RwO.rd b_A173)) (MpO.zero_ b_cA122) (MpO.zero_ b_cA123) (BlkO.zero_ b_cA116) (RdO.zero (RwO.rd b_A170)) (MpN.zero_ b_cA118) (RdO.zero (RwO.rd b_A171)) r185 (gd_t hr185 hg)) post_val
    refine sc (fun own a wx hf hsl hE => ?_) ?_
    · obtain ⟨(f_53 : a.eval (.tmp 53) = .bool x184), c_58, -⟩ := hf
      refine sg_t rfl rfl rfl f_53 (fun hg => ?_)
      have f_58 : a.eval (.tmp 58) = .int .i64 r185 := c_58.1 hg
      exact or_neq f_58 rfl rfl
    refine sc (fun own a wx hf hsl hE => ?_) ?_
    · obtain ⟨(f_53 : a.eval (.tmp 53) = .bool x184), c_59, -⟩ := hf
      exact px (or_and f_53 (fun hx => c_59.1 hx) rfl rfl)
    refine sc (fun _ _ _ f _ _ => px (or_assign f.1)) ?_
    exact steps_nil
  intro own186 a186 w186 hd186 hz186 hk186 hf186 hE186
  obtain ⟨(f_10 : a186.eval (.tmp 10) = .bool (x184 && (!decide (r185 = 0)))), -⟩ := hf186 [36] rfl
  have e186_10 := f_10
  have hX186 := Evo.step hX138 (fun _ => Nat.le_refl 0) hE186 rfl
  refine fl_ret ?_
  obtain rfl := osome hs
  exact hret _ _ _ _ (.inl rfl) hd186 (results1_ rfl (RVal.tmp_ e186_10)) ⟨own186, rfl, hX186⟩

end Go.Proofs.Ytoccfdohlefifaa
