import Derived.Test.YtoccfdohlefifaaWp1
import Derived.Test.YtoccfdohlefifaaSp2
namespace Go.Proofs.Ytoccfdohlefifaa
open Go.RowKit
set_option linter.unusedVariables false
set_option maxRecDepth 10000
theorem ref04_Put_w (w : World) (l1 : List Int) (Al1 : Option Addr) (cl1 : Nat) (n2 : Int) (hl1 : RdO (fun _ => 0) [0] w R3 Al1 cl1 l1) (r : List Int) (hs : ref04_Put l1 n2 = some r) :
  Calls Try.prog 31 #[sl Al1 l1 cl1, Zi n2] w fun e w' => ∃ (own' : Own) (x : Option Addr × Nat), e = .returned (.slice x.1 r.length x.2) ∧ Evo [] (fun _ => 0) own' w w' ∧ RwO own' 1 [] w' 3 R3 x.1 x.2 r := by
 refine fl_enter (n := 35) rfl rfl rfl (Nat.le_of_ble_eq_true rfl) ?_
 intro a0 Q d0 z0 harg hret
 have ha0 := harg 0 _ rfl
 have ha1 := harg 1 _ rfl
 clear harg
 have hE0 : Evo [] (fun _ => 0) (fun _ => 0) w w := Evo.refl _ _ _
 refine rq_seq 35 (fun _ => 0) (bz 1) [dv [] [] 4 (.slice none 0 0)] z0 d0 ?_ ?_
 ·exact sO (or_assign rfl) <| steps_nil
 intro o62 a62 w62 d62 z62 hk62 hf62 hE62
 obtain ⟨e62_0, e62_1⟩ := kt2 hk62 ha0 ha1
 have hX62 := es_ hE0 hE62
 refine rq_seq 35 o62 (bz 3) [dv [] [0] 7 (sl Al1 l1 cl1), dv [0] [] 8 (Zi (l1.length : Int)), dv [1] [] 5 (Zi (l1.length : Int))] z62 d62 ?_ ?_
 ·exact sM e62_0 <| sF (fun f => or_len tu22 f.1 rfl) <| sA <| steps_nil
 intro o63 a63 w63 d63 z63 hk63 hf63 hE63
 obtain ⟨e63_0, e63_1⟩ := kt2 hk63 e62_0 e62_1
 have e63_5 := gv (hf63 [2] rfl) rfl
 have hX63 := es_ hX62 hE63
 refine fl_seq (fun Q64 hn64 hp64 => ?_)
 refine fl_block (fun Q65 hn65 hx65 hp65 => ?_)
 refine fl_loop (body := (fun s => ref04_Put_b1 l1 n2 s)) (z := r) (show loopO _ _ = _ from hs) (fun (x74 : Int) a wx => ∃ (ox : Own), a.defers = [] ∧ a.tmps.size = 35 ∧ a.eval (.tmp 0) = sl Al1 l1 cl1 ∧ a.eval (.tmp 1) = Zi n2 ∧ a.eval (.tmp 5) = Zi x74 ∧ Evo [] (fun _ => 0) ox w wx) ?_ ?_
 ·exact ⟨o63, d63, z63, e63_0, e63_1, e63_5, hX63⟩
 ·rintro x74 zz83 a83 w83 ⟨o83, d84, z84, e84_0, e84_1, e84_5, hE84⟩ hs Q83 hn83 hp83 z83
  have hs : ref04_Put_b1 l1 n2 x74 = some zz83 := hs
  refine fl_seq (fun Q85 hn85 hp85 => ?_)
  obtain ⟨x86, hx86, hs⟩ := obind hs
  obtain ⟨x87, hx87, hs⟩ := obind hs
  refine rq_seq 35 o83 [0, 1, 3, 7, 7, 7, 39, 119, 247, 511, 1023] [dv [] [5] 9 (Zi x74), dv [0] [] 10 (.bool (decide (0 < x74))), dv [1] [] 11 (.bool (decide (0 < x74))), dc [2] [1] (decide (0 < x74)) 12 (Zi n2), dc [2] [0] (decide (0 < x74)) 13 (sl Al1 l1 cl1), dc [2] [5] (decide (0 < x74)) 14 (Zi x74), dc [2, 5] [] (decide (0 < x74)) 15 (Zi (sb x74 1)), dc [2, 4, 6] [] (decide (0 < x74)) 16 (.pointer (some ((adr Al1).add ((sb x74 1 : Int).toNat * R3.s)))), dc [2, 7] [] (decide (0 < x74)) 17 (Zi x86), dc [2, 3, 8] [] (decide (0 < x74)) 18 (.bool (decide (n2 < x86))), dv [2, 9] [] 19 (.bool x87)] z84 d84 ?_ ?_
  ·exact sM e84_5 <| sF (fun f => or_gtr f.1 rfl rfl) <| sV <| cT (fun _ s _ _ => or_move (s.1.trans e84_1)) <| cT (fun _ s _ _ => or_move (s.1.trans e84_0)) <| cT (fun _ s _ _ => or_move (s.1.trans e84_5)) <| cT (fun f _ _ hg => or_sub (f.2.1.1 hg) rfl rfl) <| cT (fun f _ _ hg => or_index (R := R3) (l := l1) tl22 (f.2.1.1 hg) (f.2.2.1.1 hg) (RdO.some_ (RdO.evo rfl hE84 hl1) (gd_t hx86 hg)) (gd_t hx86 hg)) <| cT (fun f _ hE hg => or_load1 to3 (f.2.1.1 hg) (CellsAt.zero (RdO.cells (F := E3) (RdO.evo rfl hE (RdO.evo rfl hE84 hl1)) (gd_t hx86 hg)) rfl)) <| cT (fun f _ _ hg => or_lss (f.2.1.1 hg) (f.2.2.1.1 hg) rfl) <| sF (fun f => or_and f.1 (fun hx => f.2.1.1 hx) rfl (osome hx87).symm) <| steps_nil
  intro o88 a88 w88 d88 z88 hk88 hf88 hE88
  obtain ⟨e88_0, e88_1, e88_5⟩ := kt3 hk88 e84_0 e84_1 e84_5
  have e88_19 := gv (hf88 [10] rfl) rfl
  have hX88 := es_ hE84 hE88
  refine fl_cond e88_19 hs (fun c89 hs => ?_) (fun c89 hs => ?_)
  ·refine fl_skip ?_
   refine hn85 _ _ ?_
   refine fl_block (fun Q90 hn90 hx90 hp90 => ?_)
   refine rq 35 o88 (bz 3) [dv [] [5] 20 (Zi x74), dv [0] [] 21 (Zi (sb x74 1)), dv [1] [] 5 (Zi (sb x74 1))] z88 d88 ?_ ?_
   ·exact sM e88_5 <| sF (fun f => or_sub f.1 rfl rfl) <| sA <| steps_nil
   intro o91 a91 w91 d91 z91 hk91 hf91 hE91
   obtain ⟨e91_0, e91_1⟩ := kt2 hk91 e88_0 e88_1
   have e91_5 := gv (hf91 [2] rfl) rfl
   have hX91 := es_ hX88 hE91
   refine hn90 _ _ ?_
   exact hn83 _ _ _ hs ⟨o91, d91, z91, e91_0, e91_1, e91_5, hX91⟩
  refine fl_exit ?_
  refine hp85 _ _ _ rfl ?_
  replace hs := z83 _ hs
  refine hp83 _ _ _ rfl ?_
  refine hx65 _ _ ?_
  refine hn64 _ _ ?_
  obtain ⟨x94, hx94, hs⟩ := obind hs
  obtain ⟨x96, hx96, hs⟩ := obind hs
  obtain ⟨x101, hx101, hs⟩ := obind hs
  refine rp_seq 35 o88 [93, 97] [0, 0, 0, 6, 15, 0, 32, 127, 255] [⟨[], [], [], Fct.row 93 [] 22 3 R3 ([] : List Int)⟩, dv [] [0] 23 (sl Al1 l1 cl1), dv [] [5] 24 (Zi x74), ⟨[1, 2], [], [], Fct.view [0] 25 R3 x94⟩, ⟨[0, 3], [], [93], Fct.row 97 [] 26 3 R3 x96⟩, dv [] [1] 27 (Zi n2), ⟨[5], [], [], Fct.row 100 [] 28 3 R3 [n2]⟩, ⟨[4, 6], [], [97], Fct.row 102 [] 29 3 R3 x101⟩, ⟨[7], [], [], Fct.rel [6, 29] (fun l => ∀ (A103 : Option Addr) (cA103 : Nat), l.getD 1 undef = sl A103 x101 cA103 → l.getD 0 undef = sl A103 x101 cA103)⟩] z88 d88 ?_ ?_
  ·refine sO (or_lit (lab := 93) (e := 3) (cs := #[]) (F := E3) (nw0) rfl rfl (show 0 ≤ maxLen by decide)) <| sM e88_0 <| sM e88_5 <| sFE (fun f hE => or_view (R := R3) (l := l1) (L := [0]) tu22 ts3 f.1 Bnd.none_ (Bnd.some_ f.2.1) Bnd.none_ (RdO.evo rfl hE (RdO.evo rfl hX88 hl1)) hx94 (.inl rfl) (by simp)) ?_
   refine sc (fun own a wx hf hsl hE => ?_) ?_
   ·obtain ⟨⟨⟨A92, cA92⟩, f_22, b_A92⟩, ⟨⟨A95, cA95⟩, f_25, b_A95⟩, -⟩ := hf
    exact px (or_append (R := R3) (lab := 93) (lab2 := 97) (L := []) (L3 := []) tp22 f_22 b_A92 (by decide) f_25 b_A95 hx96 (by decide) (by decide) (mem_of rfl) (.inl (Rep.fl_flat _)))
   refine sM e88_1 <| sF (fun f => or_lit (lab := 100) (e := 3) (cs := #[Zi n2]) (F := E3) (nw1 f.1) rfl rfl (show 1 ≤ maxLen by decide)) ?_
   refine sc (fun own a wx hf hsl hE => ?_) ?_
   ·obtain ⟨⟨⟨A98, cA98⟩, f_26, b_A98⟩, ⟨⟨A99, cA99⟩, f_28, b_A99⟩, -⟩ := hf
    exact px (or_append (R := R3) (lab := 97) (lab2 := 102) (L := []) (L3 := []) tp22 f_26 b_A98 (by decide) f_28 (RwO.rd b_A99) hx101 (by decide) (by decide) (mem_of rfl) (.inl (Rep.fl_flat _)))
   refine sc (fun own a wx hf hsl hE => ?_) ?_
   ·obtain ⟨⟨⟨A103, cA103⟩, (f_29 : a.eval (.tmp 29) = sl A103 x101 cA103), b_A103⟩, -⟩ := hf
    exact px (or_mono (f := Fct.val 6 (sl A103 x101 cA103)) (or_assign f_29) (fun own' a' w' v' hp h => fun _ _ h0' => by cases (f_29.symm.trans ((hp.2 29 (by decide)).symm.trans h0')); exact h))
   exact steps_nil
  intro o104 a104 w104 d104 z104 hk104 hf104 hE104
  obtain ⟨e104_0, e104_5⟩ := kt2 hk104 e88_0 e88_5
  obtain ⟨⟨⟨A103, cA103⟩, (f_29 : a104.eval (.tmp 29) = sl A103 x101 cA103), (b104_A103 : RwO o104 102 [] w104 3 R3 A103 cA103 x101)⟩, (q_6 : ∀ (A103 : Option Addr) (cA103 : Nat), a104.eval (.tmp 29) = sl A103 x101 cA103 → a104.eval (.tmp 6) = sl A103 x101 cA103), -⟩ := hf104 [7, 8] rfl
  have e104_6 := q_6 _ _ f_29
  have hX104 := es_ hX88 hE104
  obtain ⟨x107, hx107, hs⟩ := obind hs
  obtain ⟨x109, hx109, hs⟩ := obind hs
  refine rr_seq 35 [Fct.rowAt 102 [] 3 R3 A103 cA103 x101] o104 [102] [0, 0, 0, 6, 15, 31] [dv [] [6] 30 (sl A103 x101 cA103), dv [] [0] 31 (sl Al1 l1 cl1), dv [] [5] 32 (Zi x74), ⟨[1, 2], [], [], Fct.view [0] 33 R3 x107⟩, ⟨[0, 3, 6], [], [102], Fct.row 110 [] 34 3 R3 x109⟩, ⟨[4], [], [], Fct.rel [4, 34] (fun l => ∀ (A111 : Option Addr) (cA111 : Nat), l.getD 1 undef = sl A111 x109 cA111 → l.getD 0 undef = sl A111 x109 cA111)⟩] z104 d104 (fm1 b104_A103) ?_ ?_
  ·refine sM e104_6 <| sM e104_0 <| sM e104_5 <| sFE (fun f hE => or_view (R := R3) (l := l1) (L := [0]) tu22 ts3 f.1 (Bnd.some_ f.2.1) Bnd.none_ Bnd.none_ (RdO.evo rfl hE (RdO.evo rfl hX104 hl1)) hx107 (.inl rfl) (by simp)) ?_
   refine sc (fun own a wx hf hsl hE => ?_) ?_
   ·obtain ⟨f_30, ⟨⟨A108, cA108⟩, f_33, b_A108⟩, b_A103, -⟩ := hf
    exact px (or_append (R := R3) (lab := 102) (lab2 := 110) (L := []) (L3 := []) tp22 f_30 b_A103 (by decide) f_33 b_A108 hx109 (by decide) (by decide) (mem_of rfl) (.inl (Rep.fl_flat _)))
   refine sc (fun own a wx hf hsl hE => ?_) ?_
   ·obtain ⟨⟨⟨A111, cA111⟩, (f_34 : a.eval (.tmp 34) = sl A111 x109 cA111), b_A111⟩, -⟩ := hf
    exact px (or_mono (f := Fct.val 4 (sl A111 x109 cA111)) (or_assign f_34) (fun own' a' w' v' hp h => fun _ _ h0' => by cases (f_34.symm.trans ((hp.2 34 (by decide)).symm.trans h0')); exact h))
   exact steps_nil
  intro o112 a112 w112 d112 z112 hk112 hf112 hE112
  obtain ⟨⟨⟨A111, cA111⟩, (f_34 : a112.eval (.tmp 34) = sl A111 x109 cA111), (b112_A111 : RwO o112 110 [] w112 3 R3 A111 cA111 x109)⟩, (q_4 : ∀ (A111 : Option Addr) (cA111 : Nat), a112.eval (.tmp 34) = sl A111 x109 cA111 → a112.eval (.tmp 4) = sl A111 x109 cA111), -⟩ := hf112 [4, 5] rfl
  have e112_4 := q_4 _ _ f_34
  have hX112 := es_ hX104 hE112
  refine fl_ret ?_
  obtain rfl := (osome hs).symm
  exact hret _ _ _ _ (.inl rfl) d112 (results1_ rfl (RVal.tmp_ e112_4)) ⟨(rl [(110, 1)] o112), (A111, cA111), rfl, (Evo.rl_ hX112 (fun _ => Nat.le_refl 0) rfl), (RwO.rl_ b112_A111)⟩
theorem law18_Lines_w (w : World) (l1 : List Int) (Al1 : Option Addr) (cl1 : Nat) (hl1 : RdO (fun _ => 0) [0] w R3 Al1 cl1 l1) (r : List Int) (hs : law18_Lines l1 = some r) :
  Calls Try.prog 8 #[sl Al1 l1 cl1] w fun e w' => ∃ (own' : Own) (x : Option Addr × Nat), e = .returned (.slice x.1 r.length x.2) ∧ Evo [] (fun _ => 0) own' w w' ∧ RwO own' 1 [] w' 3 R3 x.1 x.2 r := by
 refine fl_enter (n := 22) rfl rfl rfl (Nat.le_of_ble_eq_true rfl) ?_
 intro a0 Q d0 z0 harg hret
 have ha0 := harg 0 _ rfl
 clear harg
 have hE0 : Evo [] (fun _ => 0) (fun _ => 0) w w := Evo.refl _ _ _
 refine rq_seq 22 (fun _ => 0) (bz 1) [dv [] [] 2 (.slice none 0 0)] z0 d0 ?_ ?_
 ·exact sO (or_assign rfl) <| steps_nil
 intro o62 a62 w62 d62 z62 hk62 hf62 hE62
 have e62_0 := kt hk62 ha0
 have hX62 := es_ hE0 hE62
 refine rq_seq 22 o62 (bz 1) [dv [] [] 3 (.slice none 0 0)] z62 d62 ?_ ?_
 ·exact sO (or_assign rfl) <| steps_nil
 intro o63 a63 w63 d63 z63 hk63 hf63 hE63
 have e63_0 := kt hk63 e62_0
 have e63_3 := gv (hf63 [0] rfl) rfl
 have hX63 := es_ hX62 hE63
 refine fl_seq (fun Q64 hn64 hp64 => ?_)
 refine rq_seq 22 o63 (bz 1) [dv [] [] 4 (Zi 0)] z63 d63 ?_ ?_
 ·exact sO (or_assign rfl) <| steps_nil
 intro o65 a65 w65 d65 z65 hk65 hf65 hE65
 obtain ⟨e65_0, e65_3⟩ := kt2 hk65 e63_0 e63_3
 have e65_4 := gv (hf65 [0] rfl) rfl
 have hX65 := es_ hX63 hE65
 refine fl_block (fun Q66 hn66 hx66 hp66 => ?_)
 refine fl_loop (body := (fun s => law18_Lines_b1 l1 s.1 s.2)) (z := r) (show loopO _ _ = _ from hs) (fun (s : (List Int) × Int) a wx => match s with | (out82, i84) => ∃ (ox : Own) (A80 : Option Addr) (c81 : Nat), a.defers = [] ∧ a.tmps.size = 22 ∧ a.eval (.tmp 0) = sl Al1 l1 cl1 ∧ a.eval (.tmp 3) = sl A80 out82 c81 ∧ a.eval (.tmp 4) = Zi i84 ∧ Evo [] (fun _ => 0) ox w wx ∧ RwO ox 83 [] wx 3 R3 A80 c81 out82) ?_ ?_
 ·exact ⟨o65, none, 0, d65, z65, e65_0, e65_3, e65_4, hX65, RwO.nil_⟩
 ·rintro ⟨out82, i84⟩ zz98 a98 w98 ⟨o98, A80, c81, d99, z99, e99_0, e99_3, e99_4, hE99, b99_A80⟩ hs Q98 hn98 hp98 z98
  have hs : law18_Lines_b1 l1 out82 i84 = some zz98 := hs
  refine fl_seq (fun Q100 hn100 hp100 => ?_)
  obtain ⟨x101, hx101, hs⟩ := obind hs
  refine rq_seq 22 o98 [0, 0, 2, 7, 15, 31, 63, 127] [dv [] [4] 5 (Zi i84), dv [] [0] 6 (sl Al1 l1 cl1), dv [1] [] 7 (Zi (l1.length : Int)), dv [0, 2] [] 8 (.bool (decide (i84 < (l1.length : Int)))), dv [3] [] 9 (.bool (decide (i84 < (l1.length : Int)))), dc [4] [4] (decide (i84 < (l1.length : Int))) 10 (Zi i84), dc [4, 5] [] (decide (i84 < (l1.length : Int))) 11 (.bool (decide (i84 < 10))), dv [4, 6] [] 12 (.bool x101)] z99 d99 ?_ ?_
  ·exact sM e99_4 <| sM e99_0 <| sF (fun f => or_len tu22 f.1 rfl) <| sF (fun f => or_lss f.1 f.2.1 rfl) <| sV <| cT (fun _ s _ _ => or_move (s.1.trans e99_4)) <| cT (fun f _ _ hg => or_lss (f.2.1.1 hg) rfl rfl) <| sF (fun f => or_and f.1 (fun hx => f.2.1.1 hx) rfl (osome hx101).symm) <| steps_nil
  intro o102 a102 w102 d102 z102 hk102 hf102 hE102
  obtain ⟨e102_0, e102_3, e102_4⟩ := kt3 hk102 e99_0 e99_3 e99_4
  have e102_12 := gv (hf102 [7] rfl) rfl
  have hX102 := es_ hE99 hE102
  have b102_A80 := re_ hE102 b99_A80
  refine fl_cond e102_12 hs (fun c103 hs => ?_) (fun c103 hs => ?_)
  ·refine fl_skip ?_
   refine hn100 _ _ ?_
   refine fl_seq (fun Q104 hn104 hp104 => ?_)
   refine fl_block (fun Q105 hn105 hx105 hp105 => ?_)
   obtain ⟨x106, hx106, hs⟩ := obind hs
   obtain ⟨r107, hr107, hs⟩ := obind hs
   refine rq 22 o102 [0, 0, 0, 6, 14, 31, 63] [dv [] [3] 15 (sl A80 out82 c81), dv [] [0] 16 (sl Al1 l1 cl1), dv [] [4] 17 (Zi i84), dv [1, 2] [] 18 (.pointer (some ((adr Al1).add ((i84 : Int).toNat * R3.s)))), dv [3] [] 19 (Zi x106), ⟨[0, 4], [], [], Fct.row 109 [] 20 3 R3 r107⟩, ⟨[5], [], [], Fct.rel [3, 20] (fun l => ∀ (A108 : Option Addr) (cA108 : Nat), l.getD 1 undef = sl A108 r107 cA108 → l.getD 0 undef = sl A108 r107 cA108)⟩] z102 d102 ?_ ?_
   ·refine sM e102_3 <| sM e102_0 <| sM e102_4 <| sF (fun f => or_index (R := R3) (l := l1) tl22 f.1 f.2.1 (RdO.some_ (RdO.evo rfl hX102 hl1) hx106) hx106) <| sFE (fun f hE => or_load1 to3 f.1 (CellsAt.zero (RdO.cells (F := E3) (RdO.evo rfl hE (RdO.evo rfl hX102 hl1)) hx106) rfl)) <| sFE (fun f hE => or_call cf31 (args2 f.1 f.2.1) (ref04_Put_w _ out82 A80 c81 x106 (RdO.zero (RwO.rd (re_ hE b102_A80))) r107 hr107) (post_row (m' := (look0 [(1, 109)])) (.inl (Rep.fl_flat _)) rfl rfl (fun _ => rfl))) ?_
    refine sc (fun own a wx hf hsl hE => ?_) ?_
    ·obtain ⟨⟨⟨A108, cA108⟩, (f_20 : a.eval (.tmp 20) = sl A108 r107 cA108), b_A108⟩, -⟩ := hf
     exact px (or_mono (f := Fct.val 3 (sl A108 r107 cA108)) (or_assign f_20) (fun own' a' w' v' hp h => fun _ _ h0' => by cases (f_20.symm.trans ((hp.2 20 (by decide)).symm.trans h0')); exact h))
    exact steps_nil
   intro o110 a110 w110 d110 z110 hk110 hf110 hE110
   obtain ⟨e110_0, e110_4⟩ := kt2 hk110 e102_0 e102_4
   obtain ⟨⟨⟨A108, cA108⟩, (f_20 : a110.eval (.tmp 20) = sl A108 r107 cA108), (b110_A108 : RwO o110 109 [] w110 3 R3 A108 cA108 r107)⟩, (q_3 : ∀ (A108 : Option Addr) (cA108 : Nat), a110.eval (.tmp 20) = sl A108 r107 cA108 → a110.eval (.tmp 3) = sl A108 r107 cA108), -⟩ := hf110 [5, 6] rfl
   have e110_3 := q_3 _ _ f_20
   have hX110 := es_ hX102 hE110
   refine hn105 _ _ ?_
   refine hn104 _ _ ?_
   refine rq 22 o110 (bz 3) [dv [] [4] 13 (Zi i84), dv [0] [] 14 (Zi (ad i84 1)), dv [1] [] 4 (Zi (ad i84 1))] z110 d110 ?_ ?_
   ·exact sM e110_4 <| sF (fun f => or_add f.1 rfl rfl) <| sA <| steps_nil
   intro o111 a111 w111 d111 z111 hk111 hf111 hE111
   obtain ⟨e111_0, e111_3⟩ := kt2 hk111 e110_0 e110_3
   have e111_4 := gv (hf111 [2] rfl) rfl
   have hX111 := es_ hX110 hE111
   have b111_A108 := re_ hE111 b110_A108
   exact hn98 _ _ _ hs ⟨(rl [(109, 83)] o111), A108, cA108, d111, z111, e111_0, e111_3, e111_4, (Evo.rl_ hX111 (fun _ => Nat.le_refl 0) rfl), (RwO.rl_ b111_A108)⟩
  refine fl_exit ?_
  refine hp100 _ _ _ rfl ?_
  replace hs := z98 _ hs
  refine hp98 _ _ _ rfl ?_
  refine hx66 _ _ ?_
  refine hn64 _ _ ?_
  refine rq_seq 22 o102 (bz 2) [dv [] [3] 21 (sl A80 out82 c81), dv [0] [] 2 (sl A80 out82 c81)] z102 d102 ?_ ?_
  ·exact sM e102_3 <| sA <| steps_nil
  intro o112 a112 w112 d112 z112 hk112 hf112 hE112
  have e112_2 := gv (hf112 [1] rfl) rfl
  have hX112 := es_ hX102 hE112
  have b112_A80 := re_ hE112 b102_A80
  refine fl_ret ?_
  obtain rfl := (osome hs).symm
  exact hret _ _ _ _ (.inl rfl) d112 (results1_ rfl (RVal.tmp_ e112_2)) ⟨(rl [(83, 1)] o112), (A80, c81), rfl, (Evo.rl_ hX112 (fun _ => Nat.le_refl 0) rfl), (RwO.rl_ b112_A80)⟩
theorem law14_Cut_w (w : World) (own : Own) (l1 : List ((List (Int × Int)) × Int × Int)) (Al1 : Option Addr) (cl1 : Nat) (hown : ∀ b, own b ≤ 1) (hl1 : RdO own [1] w R63 Al1 cl1 l1) (r : List ((List (Int × Int)) × Int × Int)) (hs : law14_Cut l1 = some r) :
  Calls Try.prog 9 #[sl Al1 l1 cl1] w fun e w' => ∃ (own' : Own) (x : Option Addr × Nat), e = .returned (.slice x.1 r.length x.2) ∧ Evo [] own own' w w' ∧ RwO own' 2 [1, 3] w' 63 R63 x.1 x.2 r := by
 refine fl_enter (n := 33) rfl rfl rfl (Nat.le_of_ble_eq_true rfl) ?_
 intro a0 Q d0 z0 harg hret
 have ha0 := harg 0 _ rfl
 clear harg
 have hE0 : Evo [] own own w w := Evo.refl _ _ _
 refine rq_seq 33 own (bz 1) [dv [] [] 2 (.slice none 0 0)] z0 d0 ?_ ?_
 ·exact sO (or_assign rfl) <| steps_nil
 intro o108 a108 w108 d108 z108 hk108 hf108 hE108
 have e108_0 := kt hk108 ha0
 have hX108 := Evo.step hE0 hown hE108 rfl
 refine rq_seq 33 o108 (bz 1) [dv [] [] 3 (.slice none 0 0)] z108 d108 ?_ ?_
 ·exact sO (or_assign rfl) <| steps_nil
 intro o109 a109 w109 d109 z109 hk109 hf109 hE109
 have e109_0 := kt hk109 e108_0
 have e109_3 := gv (hf109 [0] rfl) rfl
 have hX109 := Evo.step hX108 hown hE109 rfl
 refine fl_seq (fun Q110 hn110 hp110 => ?_)
 refine rq_seq 33 o109 (bz 1) [dv [] [] 4 (Zi 0)] z109 d109 ?_ ?_
 ·exact sO (or_assign rfl) <| steps_nil
 intro o111 a111 w111 d111 z111 hk111 hf111 hE111
 obtain ⟨e111_0, e111_3⟩ := kt2 hk111 e109_0 e109_3
 have e111_4 := gv (hf111 [0] rfl) rfl
 have hX111 := Evo.step hX109 hown hE111 rfl
 refine fl_block (fun Q112 hn112 hx112 hp112 => ?_)
 refine fl_loop (body := (fun s => law14_Cut_b1 l1 s.1 s.2)) (z := r) (show loopO _ _ = _ from hs) (fun (s : (List ((List (Int × Int)) × Int × Int)) × Int) a wx => match s with | (out142, i145) => ∃ (ox : Own) (A140 : Option Addr) (c141 : Nat), a.defers = [] ∧ a.tmps.size = 33 ∧ a.eval (.tmp 0) = sl Al1 l1 cl1 ∧ a.eval (.tmp 3) = sl A140 out142 c141 ∧ a.eval (.tmp 4) = Zi i145 ∧ Evo [] own ox w wx ∧ RwO ox 143 [1, 144] wx 63 R63 A140 c141 out142) ?_ ?_
 ·exact ⟨o111, none, 0, d111, z111, e111_0, e111_3, e111_4, hX111, RwO.nil_⟩
 ·rintro ⟨out142, i145⟩ zz174 a174 w174 ⟨o174, A140, c141, d175, z175, e175_0, e175_3, e175_4, hE175, b175_A140⟩ hs Q174 hn174 hp174 z174
  have hs : law14_Cut_b1 l1 out142 i145 = some zz174 := hs
  refine fl_seq (fun Q176 hn176 hp176 => ?_)
  obtain ⟨x177, hx177, hs⟩ := obind hs
  refine rq_seq 33 o174 [0, 0, 2, 7, 15, 31, 63, 127] [dv [] [4] 6 (Zi i145), dv [] [0] 7 (sl Al1 l1 cl1), dv [1] [] 8 (Zi (l1.length : Int)), dv [0, 2] [] 9 (.bool (decide (i145 < (l1.length : Int)))), dv [3] [] 10 (.bool (decide (i145 < (l1.length : Int)))), dc [4] [4] (decide (i145 < (l1.length : Int))) 11 (Zi i145), dc [4, 5] [] (decide (i145 < (l1.length : Int))) 12 (.bool (decide (i145 < 10))), dv [4, 6] [] 13 (.bool x177)] z175 d175 ?_ ?_
  ·exact sM e175_4 <| sM e175_0 <| sF (fun f => or_len tu23 f.1 rfl) <| sF (fun f => or_lss f.1 f.2.1 rfl) <| sV <| cT (fun _ s _ _ => or_move (s.1.trans e175_4)) <| cT (fun f _ _ hg => or_lss (f.2.1.1 hg) rfl rfl) <| sF (fun f => or_and f.1 (fun hx => f.2.1.1 hx) rfl (osome hx177).symm) <| steps_nil
  intro o178 a178 w178 d178 z178 hk178 hf178 hE178
  obtain ⟨e178_0, e178_3, e178_4⟩ := kt3 hk178 e175_0 e175_3 e175_4
  have e178_13 := gv (hf178 [7] rfl) rfl
  have hX178 := Evo.step hE175 hown hE178 rfl
  have b178_A140 := re_ hE178 b175_A140
  refine fl_cond e178_13 hs (fun c179 hs => ?_) (fun c179 hs => ?_)
  ·refine fl_skip ?_
   refine hn176 _ _ ?_
   refine fl_seq (fun Q180 hn180 hp180 => ?_)
   refine fl_block (fun Q181 hn181 hx181 hp181 => ?_)
   obtain ⟨x182, hx182, hs⟩ := obind hs
   refine rp_seq 33 o178 [185] [0, 0, 3, 7, 0, 31] [dv [] [0] 16 (sl Al1 l1 cl1), dv [] [4] 17 (Zi i145), dv [0, 1] [] 18 (.pointer (some ((adr Al1).add ((i145 : Int).toNat * R63.s)))), ⟨[2], [], [], Fct.nest X63 [1] 19 (fun (y : ((Option Addr × Nat) × Unit × Unit)) => .agg #[.slice y.1.1 x182.1.length y.1.2, Zi x182.2.1, Zi x182.2.2]) x182⟩, ⟨[], [], [], Fct.blk 185 5 (fun g => pt g 0) 63 #[.slice none 0 0, Zi 0, Zi 0]⟩, ⟨[4, 3], [], [185], Fct.by_ [186] [5, 19] (fun l own w => ∃ g184 : Nat, l.getD 0 undef = pt g184 0 ∧ (∀ (A183 : Option Addr) (cA183 : Nat), l.getD 1 undef = .agg #[sl A183 x182.1 cA183, Zi x182.2.1, Zi x182.2.2] → BlkO own 186 w g184 63 #[sl A183 x182.1 cA183, Zi x182.2.1, Zi x182.2.2])) (fun hk he h => by obtain ⟨g, e, h⟩ := h; exact ⟨g, e, fun _ _ h0' => BlkO.evo (not_hit hk (by decide)) he (h _ _ h0')⟩)⟩] z178 d178 ?_ ?_
   ·refine sM e178_0 <| sM e178_4 <| sF (fun f => or_index (R := R63) (l := l1) tl23 f.1 f.2.1 (RdO.some_ (RdO.evo rfl hX178 hl1) hx182) hx182) <| sFE (fun f hE => or_loadN X63 0 3 ta63 f.1 (Addr.add_zero' _).symm (RdO.evo rfl hE (RdO.evo rfl hX178 hl1)) hx182 (fun _ => rfl) (fun _ => rfl)) <| sO (nw0) ?_
    refine sc (fun own a wx hf hsl hE => ?_) ?_
    ·obtain ⟨⟨g184, f_5, b_g184⟩, ⟨⟨⟨A183, cA183⟩, _, _⟩, (f_19 : a.eval (.tmp 19) = .agg #[sl A183 x182.1 cA183, Zi x182.2.1, Zi x182.2.2]), ⟨b_A183, -, -⟩⟩, -⟩ := hf
     exact px (or_store (l := #[sl A183 x182.1 cA183, Zi x182.2.1, Zi x182.2.2]) (lab := 185) (lab2 := 186) ts63 f_5 f_19 b_g184 (by simp) (by kernel_rfl) (mem_of rfl) (by decide) (by kernel_rfl) (fun own' a' w' ha hb => ⟨_, (ha 5).trans f_5, fun _ _ h0' => by cases (f_19.symm.trans ((ha 19).symm.trans h0')); exact hb⟩))
    exact steps_nil
   intro o187 a187 w187 d187 z187 hk187 hf187 hE187
   obtain ⟨e187_0, e187_3, e187_4⟩ := kt3 hk187 e178_0 e178_3 e178_4
   obtain ⟨⟨⟨⟨A183, cA183⟩, _, _⟩, (f_19 : a187.eval (.tmp 19) = .agg #[sl A183 x182.1 cA183, Zi x182.2.1, Zi x182.2.2]), ⟨(b187_A183 : RdO o187 [1] w187 R25 A183 cA183 x182.1), -, -⟩⟩, ⟨g184, (e187_5 : a187.eval (.tmp 5) = pt g184 0), (bq_g184 : ∀ (A183 : Option Addr) (cA183 : Nat), a187.eval (.tmp 19) = .agg #[sl A183 x182.1 cA183, Zi x182.2.1, Zi x182.2.2] → BlkO o187 186 w187 g184 63 #[sl A183 x182.1 cA183, Zi x182.2.1, Zi x182.2.2])⟩, -⟩ := hf187 [3, 5] rfl
   have b187_g184 := bq_g184 _ _ f_19
   have hX187 := Evo.step hX178 hown hE187 rfl
   have b187_A140 := re_ hE187 b178_A140
   obtain ⟨x190, hx190, hs⟩ := obind hs
   refine rr_seq 33 [Fct.at_ 186 g184 63 #[sl A183 x182.1 cA183, Zi x182.2.1, Zi x182.2.2]] o187 [186] [0, 1, 0, 4, 12, 28, 63, 127, 255] [dv [] [5] 20 (pt g184 0), dv [0, 9] [] 21 (sl A183 x182.1 cA183), dv [] [5] 22 (pt g184 0), dv [2, 9] [] 23 (sl A183 x182.1 cA183), dv [3] [] 24 (Zi (x182.1.length : Int)), dv [4] [] 25 (Zi (mn (x182.1.length : Int) 20)), ⟨[1, 5], [], [], Fct.view [1] 26 R25 x190⟩, dv [] [5] 27 (pt g184 0), ⟨[7, 6, 9], [], [186], Fct.by_ [192] [26] (fun l own w => ∀ (A191 : Option Addr) (cA191 : Nat), l.getD 0 undef = sl A191 x190 cA191 → BlkO own 192 w g184 63 #[sl A191 x190 cA191, Zi x182.2.1, Zi x182.2.2]) (fun hk he h _ _ h0' => BlkO.evo (not_hit hk (by decide)) he (h _ _ h0'))⟩] z187 d187 (fm1 b187_g184) ?_ ?_
   ·refine sS (fun s => or_field fo63_0 (s.1.trans e187_5) (by rfl)) ?_
    refine sc (fun own a wx hf hsl hE => ?_) ?_
    ·obtain ⟨f_20, (b_g184 : BlkO own 186 wx g184 63 #[sl A183 x182.1 cA183, Zi x182.2.1, Zi x182.2.2]), -⟩ := hf
     exact px (ld1 to55 f_20 b_g184)
    refine sS (fun s => or_field fo63_0 (s.1.trans e187_5) (by rfl)) ?_
    refine sc (fun own a wx hf hsl hE => ?_) ?_
    ·obtain ⟨f_22, (b_g184 : BlkO own 186 wx g184 63 #[sl A183 x182.1 cA183, Zi x182.2.1, Zi x182.2.2]), -⟩ := hf
     exact px (ld1 to55 f_22 b_g184)
    refine sF (fun f => or_len tu55 f.1 rfl) <| sF (fun f => or_min f.1 rfl) <| sFE (fun f hE => or_view (R := R25) (l := x182.1) (L := [1]) tu55 ts25 f.1 Bnd.none_ (Bnd.some_ f.2.1) Bnd.none_ (RdO.evo rfl hE b187_A183) hx190 (.inl rfl) (by simp)) <| sS (fun s => or_field fo63_0 (s.1.trans e187_5) (by rfl)) ?_
    refine sc (fun own a wx hf hsl hE => ?_) ?_
    ·obtain ⟨f_27, ⟨⟨A191, cA191⟩, (f_26 : a.eval (.tmp 26) = sl A191 x190 cA191), b_A191⟩, b_g184, -⟩ := hf
     exact px (or_store1 (lab := 186) (lab2 := 192) ts55 f_27 f_26 b_g184 (by simp) rfl (mem_of rfl) (by decide) rfl (fun own' a' w' ha hb => fun _ _ h0' => by cases (f_26.symm.trans ((ha 26).symm.trans h0')); exact hb))
    exact steps_nil
   intro o193 a193 w193 d193 z193 hk193 hf193 hE193
   obtain ⟨e193_0, e193_3, e193_4, e193_5⟩ := kt4 hk193 e187_0 e187_3 e187_4 e187_5
   obtain ⟨⟨⟨A191, cA191⟩, (f_26 : a193.eval (.tmp 26) = sl A191 x190 cA191), (b193_A191 : RdO o193 [1] w193 R25 A191 cA191 x190)⟩, (bq_g184 : ∀ (A191 : Option Addr) (cA191 : Nat), a193.eval (.tmp 26) = sl A191 x190 cA191 → BlkO o193 192 w193 g184 63 #[sl A191 x190 cA191, Zi x182.2.1, Zi x182.2.2]), -⟩ := hf193 [6, 8] rfl
   have b193_g184 := bq_g184 _ _ f_26
   have hX193 := Evo.step hX187 hown hE193 rfl
   have b193_A140 := re_ hE193 b187_A140
   obtain ⟨x198, hx198, hs⟩ := obind hs
   refine rr 33 [Fct.rowAt 143 [1, 144] 63 R63 A140 c141 out142] o193 [143] [0, 0, 2, 7, 15] [dv [] [3] 28 (sl A140 out142 c141), dv [] [5] 29 (.agg #[sl A191 x190 cA191, Zi x182.2.1, Zi x182.2.2]), ⟨[1], [], [], Fct.row 197 [1] 30 63 R63 [(x190, x182.2.1, x182.2.2)]⟩, ⟨[0, 2, 5], [], [143], Fct.row 199 [1, 144, 197] 31 63 R63 x198⟩, ⟨[3], [], [], Fct.rel [3, 31] (fun l => ∀ (A200 : Option Addr) (cA200 : Nat), l.getD 1 undef = sl A200 x198 cA200 → l.getD 0 undef = sl A200 x198 cA200)⟩] z193 d193 (fm1 b193_A140) ?_ ?_
   ·refine sM e193_3 <| sL ta63 e193_5 b193_g184 <| sFE (fun f hE => or_litN (R := R63) (lab := 197) (L := [1]) (e := 63) (cs := #[sl A191 x190 cA191, Zi x182.2.1, Zi x182.2.2]) (l := [(x190, x182.2.1, x182.2.2)]) (n := 1) [(29, .agg #[sl A191 x190 cA191, Zi x182.2.1, Zi x182.2.2])] rfl rfl ⟨f.1, trivial⟩ (by kernel_rfl) rfl (by decide) ⟨(Ex.iff X63).2 ⟨((A191, cA191), (), ()), rfl, ⟨(RdO.evo rfl hE b193_A191), trivial, trivial⟩⟩, rfl⟩ rfl) ?_
    refine sc (fun own a wx hf hsl hE => ?_) ?_
    ·obtain ⟨f_28, ⟨⟨A196, cA196⟩, f_30, b_A196⟩, b_A140, -⟩ := hf
     exact px (or_append (R := R63) (lab := 143) (lab2 := 199) (L := [1, 144]) (L3 := [1, 144, 197]) tp23 f_28 b_A140 (by decide) f_30 (RwO.rd b_A196) hx198 (by decide) (by decide) (mem_of rfl) (.inr ⟨rfl, rfl, by decide, by decide⟩))
    refine sc (fun own a wx hf hsl hE => ?_) ?_
    ·obtain ⟨⟨⟨A200, cA200⟩, (f_31 : a.eval (.tmp 31) = sl A200 x198 cA200), b_A200⟩, -⟩ := hf
     exact px (or_mono (f := Fct.val 3 (sl A200 x198 cA200)) (or_assign f_31) (fun own' a' w' v' hp h => fun _ _ h0' => by cases (f_31.symm.trans ((hp.2 31 (by decide)).symm.trans h0')); exact h))
    exact steps_nil
   intro o201 a201 w201 d201 z201 hk201 hf201 hE201
   obtain ⟨e201_0, e201_4⟩ := kt2 hk201 e193_0 e193_4
   obtain ⟨⟨⟨A200, cA200⟩, (f_31 : a201.eval (.tmp 31) = sl A200 x198 cA200), (b201_A200 : RwO o201 199 [1, 144, 197] w201 63 R63 A200 cA200 x198)⟩, (q_3 : ∀ (A200 : Option Addr) (cA200 : Nat), a201.eval (.tmp 31) = sl A200 x198 cA200 → a201.eval (.tmp 3) = sl A200 x198 cA200), -⟩ := hf201 [3, 4] rfl
   have e201_3 := q_3 _ _ f_31
   have hX201 := Evo.step hX193 hown hE201 rfl
   refine hn181 _ _ ?_
   refine hn180 _ _ ?_
   refine rq 33 o201 (bz 3) [dv [] [4] 14 (Zi i145), dv [0] [] 15 (Zi (ad i145 1)), dv [1] [] 4 (Zi (ad i145 1))] z201 d201 ?_ ?_
   ·exact sM e201_4 <| sF (fun f => or_add f.1 rfl rfl) <| sA <| steps_nil
   intro o202 a202 w202 d202 z202 hk202 hf202 hE202
   obtain ⟨e202_0, e202_3⟩ := kt2 hk202 e201_0 e201_3
   have e202_4 := gv (hf202 [2] rfl) rfl
   have hX202 := Evo.step hX201 hown hE202 rfl
   have b202_A200 := re_ hE202 b201_A200
   exact hn174 _ _ _ hs ⟨(rl [(197, 144), (199, 143)] o202), A200, cA200, d202, z202, e202_0, e202_3, e202_4, (Evo.rl_ hX202 hown rfl), (RwO.more (RwO.rl_ b202_A200) (by decide))⟩
  refine fl_exit ?_
  refine hp176 _ _ _ rfl ?_
  replace hs := z174 _ hs
  refine hp174 _ _ _ rfl ?_
  refine hx112 _ _ ?_
  refine hn110 _ _ ?_
  refine rq_seq 33 o178 (bz 2) [dv [] [3] 32 (sl A140 out142 c141), dv [0] [] 2 (sl A140 out142 c141)] z178 d178 ?_ ?_
  ·exact sM e178_3 <| sA <| steps_nil
  intro o203 a203 w203 d203 z203 hk203 hf203 hE203
  have e203_2 := gv (hf203 [1] rfl) rfl
  have hX203 := Evo.step hX178 hown hE203 rfl
  have b203_A140 := re_ hE203 b178_A140
  refine fl_ret ?_
  obtain rfl := (osome hs).symm
  exact hret _ _ _ _ (.inl rfl) d203 (results1_ rfl (RVal.tmp_ e203_2)) ⟨(rl [(143, 2), (144, 3)] o203), (A140, c141), rfl, (Evo.rl_ hX203 hown rfl), (RwO.rl_ b203_A140)⟩
theorem order_Find_w (w : World) (l1 : List Int) (Al1 : Option Addr) (cl1 : Nat) (n2 : Int) (hl1 : RdO (fun _ => 0) [0] w R3 Al1 cl1 l1) (r : Int × Bool) (hs : order_Find l1 n2 = some r) :
  Calls Try.prog 65 #[sl Al1 l1 cl1, Zi n2] w fun e w' => ∃ own' : Own, e = .returned (.tuple #[Zi r.1, .bool r.2]) ∧ Evo [] (fun _ => 0) own' w w' := by
 refine fl_enter (n := 42) rfl rfl rfl (Nat.le_of_ble_eq_true rfl) ?_
 intro a0 Q d0 z0 harg hret
 have ha0 := harg 0 _ rfl
 have ha1 := harg 1 _ rfl
 clear harg
 have hE0 : Evo [] (fun _ => 0) (fun _ => 0) w w := Evo.refl _ _ _
 refine rq_seq 42 (fun _ => 0) (bz 2) [dv [] [] 4 (Zi 0), dv [] [] 5 (.bool false)] z0 d0 ?_ ?_
 ·exact sO (or_assign rfl) <| sO (or_assign rfl) <| steps_nil
 intro o124 a124 w124 d124 z124 hk124 hf124 hE124
 obtain ⟨e124_0, e124_1⟩ := kt2 hk124 ha0 ha1
 have hX124 := es_ hE0 hE124
 refine fl_scope (S := (Int × Int)) (body := (fun s => order_Find_b1_0 l1 n2 s.1 s.2)) (z := r) (fun _ => 0) ?_ (fun s a wx => ((fun (s : Int × Int) => match s with | (low152, high153) => ∃ (ox : Own), a.defers = [] ∧ a.tmps.size = 42 ∧ a.eval (.tmp 0) = sl Al1 l1 cl1 ∧ a.eval (.tmp 1) = Zi n2 ∧ a.eval (.tmp 6) = Zi low152 ∧ a.eval (.tmp 7) = Zi high153 ∧ Evo [] (fun _ => 0) ox w wx) : ((Int × Int)) → Prop) s) ?_ ?_
 ·intro s; rfl
 ·intro Q181 hj181 hp181
  refine rq_seq 42 o124 [0, 1, 0, 7] [dv [] [0] 9 (sl Al1 l1 cl1), dv [0] [] 10 (Zi (l1.length : Int)), dv [] [] 6 (Zi 0), dv [1] [] 7 (Zi (l1.length : Int))] z124 d124 ?_ ?_
  ·exact sM e124_0 <| sF (fun f => or_len tu22 f.1 rfl) <| sO (or_assign rfl) <| sA <| steps_nil
  intro o210 a210 w210 d210 z210 hk210 hf210 hE210
  obtain ⟨e210_0, e210_1⟩ := kt2 hk210 e124_0 e124_1
  have e210_6 := gv (hf210 [2] rfl) rfl
  have e210_7 := gv (hf210 [3] rfl) rfl
  have hX210 := es_ hX124 hE210
  refine fl_seq (fun Q211 hn211 hp211 => ?_)
  refine fl_label ?_
  refine hn211 _ _ ?_
  refine fl_seq (fun Q212 hn212 hp212 => ?_)
  refine rq_seq 42 o210 [0, 0, 3] [dv [] [6] 11 (Zi 0), dv [] [7] 12 (Zi (l1.length : Int)), dv [0, 1] [] 13 (.bool (decide (0 = (l1.length : Int))))] z210 d210 ?_ ?_
  ·exact sM e210_6 <| sM e210_7 <| sF (fun f => or_eql f.1 f.2.1 rfl) <| steps_nil
  intro o213 a213 w213 d213 z213 hk213 hf213 hE213
  obtain ⟨e213_0, e213_1, e213_6, e213_7⟩ := kt4 hk213 e210_0 e210_1 e210_6 e210_7
  have e213_13 := gv (hf213 [2] rfl) rfl
  have hX213 := es_ hX210 hE213
  refine fl_cond e213_13 hs (fun c214 hs => ?_) (fun c214 hs => ?_)
  ·obtain ⟨x215, hx215, hs⟩ := obind hs
   obtain ⟨x216, hx216, hs⟩ := obind hs
   refine rd_seq g_mixed 42 [] o213 [] [0, 0, 0, 4, 14, 30, 62, 62, 254, 510, 62, 2046, 4094, 63, 16383] [dv [] [6] 14 (Zi 0), dv [] [6] 15 (Zi 0), dv [] [0] 16 (sl Al1 l1 cl1), dv [2] [] 17 (Zi (l1.length : Int)), dv [1, 3] [] 18 (.bool (decide (0 < (l1.length : Int)))), dv [4] [] 19 (.bool (decide (0 < (l1.length : Int)))), dc [5] [0] (decide (0 < (l1.length : Int))) 20 (sl Al1 l1 cl1), dc [5] [6] (decide (0 < (l1.length : Int))) 21 (Zi 0), dc [5, 6, 7] [] (decide (0 < (l1.length : Int))) 22 (.pointer (some ((adr Al1).add ((0 : Int).toNat * R3.s)))), dc [5, 8] [] (decide (0 < (l1.length : Int))) 23 (Zi x215), dc [5] [1] (decide (0 < (l1.length : Int))) 24 (Zi n2), dc [5, 9, 10] [] (decide (0 < (l1.length : Int))) 25 (.bool (decide (x215 = n2))), dv [5, 11] [] 26 (.bool x216), dv [0] [] 4 (Zi 0), dv [12] [] 5 (.bool x216)] z213 d213 nm_ ?_ ?_
   ·exact sM e213_6 <| sM e213_6 <| sM e213_0 <| sF (fun f => or_len tu22 f.1 rfl) <| sF (fun f => or_lss f.1 f.2.1 rfl) <| sV <| cT (fun _ s _ _ => or_move (s.1.trans e213_0)) <| cT (fun _ s _ _ => or_move (s.1.trans e213_6)) <| cT (fun f _ _ hg => or_index (R := R3) (l := l1) tl22 (f.2.1.1 hg) (f.2.2.1.1 hg) (RdO.some_ (RdO.evo rfl hX213 hl1) (gd_t hx215 hg)) (gd_t hx215 hg)) <| cT (fun f _ hE hg => or_load1 to3 (f.2.1.1 hg) (CellsAt.zero (RdO.cells (F := E3) (RdO.evo rfl hE (RdO.evo rfl hX213 hl1)) (gd_t hx215 hg)) rfl)) <| cT (fun _ s _ _ => or_move (s.1.trans e213_1)) <| cT (fun f _ _ hg => or_eql (f.2.1.1 hg) (f.2.2.1.1 hg) rfl) <| sF (fun f => or_and f.1 (fun hx => f.2.1.1 hx) rfl (osome hx216).symm) <| sA <| sA <| steps_nil
   intro o217 a217 w217 d217 z217 hk217 hf217 hE217
   have e217_4 := gv (hf217 [13] rfl) rfl
   have e217_5 := gv (hf217 [14] rfl) rfl
   have hX217 := es_ hX213 hE217
   refine fl_ret ?_
   refine hp212 _ _ _ rfl ?_
   refine hp181.leaves _ _ _ rfl ?_
   obtain rfl := osome hs
   exact hret _ _ _ _ (.inl rfl) d217 (results2_ rfl (RVal.tmp_ e217_4) (RVal.tmp_ e217_5)) ⟨o217, rfl, hX217⟩
  refine fl_skip ?_
  refine hn212 _ _ ?_
  refine fl_seq (fun Q218 hn218 hp218 => ?_)
  have K228 : ∀ (a228 : Act) (w228 : World) (o228 : Own) (low226 : Int) (high227 : Int), a228.defers = [] → a228.tmps.size = 42 → a228.eval (.tmp 0) = sl Al1 l1 cl1 → a228.eval (.tmp 1) = Zi n2 → a228.eval (.tmp 6) = Zi low226 → a228.eval (.tmp 7) = Zi high227 → Evo [] (fun _ => 0) o228 w w228 → order_Find_k3 l1 n2 low226 high227 = some r → Q218 .normal a228 w228 := by
   intro a228 w228 o228 low226 high227 d229 z229 e229_0 e229_1 e229_6 e229_7 hE229 hs
   refine hn218 _ _ ?_
   refine fl_goto ?_
   exact hj181 (low226, high227) _ _ (show loopO _ _ = _ from hs) ⟨o228, d229, z229, e229_0, e229_1, e229_6, e229_7, hE229⟩
  obtain ⟨x230, hx230, hs⟩ := obind hs
  refine rq_seq 42 o213 [0, 0, 0, 6, 14, 31, 63] [dv [] [6] 27 (Zi 0), dv [] [7] 28 (Zi (l1.length : Int)), dv [] [6] 29 (Zi 0), dv [1, 2] [] 30 (Zi (sb (l1.length : Int) 0)), dv [3] [] 31 (Zi x230), dv [0, 4] [] 32 (Zi (ad 0 x230)), dv [5] [] 8 (Zi (ad 0 x230))] z213 d213 ?_ ?_
  ·exact sM e213_6 <| sM e213_7 <| sM e213_6 <| sF (fun f => or_sub f.1 f.2.1 rfl) <| sF (fun f => or_quo f.1 rfl hx230) <| sF (fun f => or_add f.1 f.2.1 rfl) <| sA <| steps_nil
  intro o231 a231 w231 d231 z231 hk231 hf231 hE231
  obtain ⟨e231_0, e231_1, e231_6, e231_7⟩ := kt4 hk231 e213_0 e213_1 e213_6 e213_7
  have e231_8 := gv (hf231 [6] rfl) rfl
  have hX231 := es_ hX213 hE231
  obtain ⟨x232, hx232, hs⟩ := obind hs
  refine rq_seq 42 o231 [0, 0, 3, 7, 0, 31] [dv [] [0] 33 (sl Al1 l1 cl1), dv [] [8] 34 (Zi (ad 0 x230)), dv [0, 1] [] 35 (.pointer (some ((adr Al1).add ((ad 0 x230 : Int).toNat * R3.s)))), dv [2] [] 36 (Zi x232), dv [] [1] 37 (Zi n2), dv [3, 4] [] 38 (.bool (decide (x232 < n2)))] z231 d231 ?_ ?_
  ·exact sM e231_0 <| sM e231_8 <| sF (fun f => or_index (R := R3) (l := l1) tl22 f.1 f.2.1 (RdO.some_ (RdO.evo rfl hX231 hl1) hx232) hx232) <| sFE (fun f hE => or_load1 to3 f.1 (CellsAt.zero (RdO.cells (F := E3) (RdO.evo rfl hE (RdO.evo rfl hX231 hl1)) hx232) rfl)) <| sM e231_1 <| sF (fun f => or_lss f.1 f.2.1 rfl) <| steps_nil
  intro o233 a233 w233 d233 z233 hk233 hf233 hE233
  obtain ⟨e233_0, e233_1, e233_6, e233_7, e233_8⟩ := kt5 hk233 e231_0 e231_1 e231_6 e231_7 e231_8
  have e233_38 := gv (hf233 [5] rfl) rfl
  have hX233 := es_ hX231 hE233
  refine fl_cond e233_38 hs (fun c234 hs => ?_) (fun c234 hs => ?_)
  ·refine rq 42 o233 (bz 3) [dv [] [8] 39 (Zi (ad 0 x230)), dv [0] [] 40 (Zi (ad (ad 0 x230) 1)), dv [1] [] 6 (Zi (ad (ad 0 x230) 1))] z233 d233 ?_ ?_
   ·exact sM e233_8 <| sF (fun f => or_add f.1 rfl rfl) <| sA <| steps_nil
   intro o235 a235 w235 d235 z235 hk235 hf235 hE235
   obtain ⟨e235_0, e235_1, e235_7⟩ := kt3 hk235 e233_0 e233_1 e233_7
   have e235_6 := gv (hf235 [2] rfl) rfl
   have hX235 := es_ hX233 hE235
   exact (K228 _ _ o235 _ _ d235 z235 e235_0 e235_1 e235_6 e235_7 hX235 hs)
  refine rq 42 o233 (bz 2) [dv [] [8] 41 (Zi (ad 0 x230)), dv [0] [] 7 (Zi (ad 0 x230))] z233 d233 ?_ ?_
  ·exact sM e233_8 <| sA <| steps_nil
  intro o236 a236 w236 d236 z236 hk236 hf236 hE236
  obtain ⟨e236_0, e236_1, e236_6⟩ := kt3 hk236 e233_0 e233_1 e233_6
  have e236_7 := gv (hf236 [1] rfl) rfl
  have hX236 := es_ hX233 hE236
  exact (K228 _ _ o236 _ _ d236 z236 e236_0 e236_1 e236_6 e236_7 hX236 hs)
 ·rintro ⟨low152, high153⟩
  rintro zz181 a182 w182 ⟨o182, d183, z183, e183_0, e183_1, e183_6, e183_7, hE183⟩ hs Q182 hj182 hp182 z182
  have hs : order_Find_b1_0 l1 n2 low152 high153 = some zz181 := hs
  conv => arg 4; whnf
  refine fl_seq (fun Q184 hn184 hp184 => ?_)
  refine fl_skip ?_
  refine hn184 _ _ ?_
  refine fl_seq (fun Q185 hn185 hp185 => ?_)
  refine rq_seq 42 o182 [0, 0, 3] [dv [] [6] 11 (Zi low152), dv [] [7] 12 (Zi high153), dv [0, 1] [] 13 (.bool (decide (low152 = high153)))] z183 d183 ?_ ?_
  ·exact sM e183_6 <| sM e183_7 <| sF (fun f => or_eql f.1 f.2.1 rfl) <| steps_nil
  intro o186 a186 w186 d186 z186 hk186 hf186 hE186
  obtain ⟨e186_0, e186_1, e186_6, e186_7⟩ := kt4 hk186 e183_0 e183_1 e183_6 e183_7
  have e186_13 := gv (hf186 [2] rfl) rfl
  have hX186 := es_ hE183 hE186
  refine fl_cond e186_13 hs (fun c187 hs => ?_) (fun c187 hs => ?_)
  ·obtain ⟨x188, hx188, hs⟩ := obind hs
   obtain ⟨x189, hx189, hs⟩ := obind hs
   refine rd_seq g_mixed 42 [] o186 [] [0, 0, 0, 4, 14, 30, 62, 62, 254, 510, 62, 2046, 4094, 63, 16383] [dv [] [6] 14 (Zi low152), dv [] [6] 15 (Zi low152), dv [] [0] 16 (sl Al1 l1 cl1), dv [2] [] 17 (Zi (l1.length : Int)), dv [1, 3] [] 18 (.bool (decide (low152 < (l1.length : Int)))), dv [4] [] 19 (.bool (decide (low152 < (l1.length : Int)))), dc [5] [0] (decide (low152 < (l1.length : Int))) 20 (sl Al1 l1 cl1), dc [5] [6] (decide (low152 < (l1.length : Int))) 21 (Zi low152), dc [5, 6, 7] [] (decide (low152 < (l1.length : Int))) 22 (.pointer (some ((adr Al1).add ((low152 : Int).toNat * R3.s)))), dc [5, 8] [] (decide (low152 < (l1.length : Int))) 23 (Zi x188), dc [5] [1] (decide (low152 < (l1.length : Int))) 24 (Zi n2), dc [5, 9, 10] [] (decide (low152 < (l1.length : Int))) 25 (.bool (decide (x188 = n2))), dv [5, 11] [] 26 (.bool x189), dv [0] [] 4 (Zi low152), dv [12] [] 5 (.bool x189)] z186 d186 nm_ ?_ ?_
   ·exact sM e186_6 <| sM e186_6 <| sM e186_0 <| sF (fun f => or_len tu22 f.1 rfl) <| sF (fun f => or_lss f.1 f.2.1 rfl) <| sV <| cT (fun _ s _ _ => or_move (s.1.trans e186_0)) <| cT (fun _ s _ _ => or_move (s.1.trans e186_6)) <| cT (fun f _ _ hg => or_index (R := R3) (l := l1) tl22 (f.2.1.1 hg) (f.2.2.1.1 hg) (RdO.some_ (RdO.evo rfl hX186 hl1) (gd_t hx188 hg)) (gd_t hx188 hg)) <| cT (fun f _ hE hg => or_load1 to3 (f.2.1.1 hg) (CellsAt.zero (RdO.cells (F := E3) (RdO.evo rfl hE (RdO.evo rfl hX186 hl1)) (gd_t hx188 hg)) rfl)) <| cT (fun _ s _ _ => or_move (s.1.trans e186_1)) <| cT (fun f _ _ hg => or_eql (f.2.1.1 hg) (f.2.2.1.1 hg) rfl) <| sF (fun f => or_and f.1 (fun hx => f.2.1.1 hx) rfl (osome hx189).symm) <| sA <| sA <| steps_nil
   intro o190 a190 w190 d190 z190 hk190 hf190 hE190
   have e190_4 := gv (hf190 [13] rfl) rfl
   have e190_5 := gv (hf190 [14] rfl) rfl
   have hX190 := es_ hX186 hE190
   refine fl_ret ?_
   refine hp185 _ _ _ rfl ?_
   replace hs := z182 _ hs
   refine hp182.leaves _ _ _ rfl ?_
   obtain rfl := osome hs
   exact hret _ _ _ _ (.inl rfl) d190 (results2_ rfl (RVal.tmp_ e190_4) (RVal.tmp_ e190_5)) ⟨o190, rfl, hX190⟩
  refine fl_skip ?_
  refine hn185 _ _ ?_
  refine fl_seq (fun Q191 hn191 hp191 => ?_)
  have K201 : ∀ (a201 : Act) (w201 : World) (o201 : Own) (low199 : Int) (high200 : Int), a201.defers = [] → a201.tmps.size = 42 → a201.eval (.tmp 0) = sl Al1 l1 cl1 → a201.eval (.tmp 1) = Zi n2 → a201.eval (.tmp 6) = Zi low199 → a201.eval (.tmp 7) = Zi high200 → Evo [] (fun _ => 0) o201 w w201 → order_Find_k2 low199 high200 = some zz181 → Q191 .normal a201 w201 := by
   intro a201 w201 o201 low199 high200 d202 z202 e202_0 e202_1 e202_6 e202_7 hE202 hs
   refine hn191 _ _ ?_
   refine fl_goto ?_
   exact hj182 (low199, high200) _ _ hs ⟨o201, d202, z202, e202_0, e202_1, e202_6, e202_7, hE202⟩
  obtain ⟨x203, hx203, hs⟩ := obind hs
  refine rq_seq 42 o186 [0, 0, 0, 6, 14, 31, 63] [dv [] [6] 27 (Zi low152), dv [] [7] 28 (Zi high153), dv [] [6] 29 (Zi low152), dv [1, 2] [] 30 (Zi (sb high153 low152)), dv [3] [] 31 (Zi x203), dv [0, 4] [] 32 (Zi (ad low152 x203)), dv [5] [] 8 (Zi (ad low152 x203))] z186 d186 ?_ ?_
  ·exact sM e186_6 <| sM e186_7 <| sM e186_6 <| sF (fun f => or_sub f.1 f.2.1 rfl) <| sF (fun f => or_quo f.1 rfl hx203) <| sF (fun f => or_add f.1 f.2.1 rfl) <| sA <| steps_nil
  intro o204 a204 w204 d204 z204 hk204 hf204 hE204
  obtain ⟨e204_0, e204_1, e204_6, e204_7⟩ := kt4 hk204 e186_0 e186_1 e186_6 e186_7
  have e204_8 := gv (hf204 [6] rfl) rfl
  have hX204 := es_ hX186 hE204
  obtain ⟨x205, hx205, hs⟩ := obind hs
  refine rq_seq 42 o204 [0, 0, 3, 7, 0, 31] [dv [] [0] 33 (sl Al1 l1 cl1), dv [] [8] 34 (Zi (ad low152 x203)), dv [0, 1] [] 35 (.pointer (some ((adr Al1).add ((ad low152 x203 : Int).toNat * R3.s)))), dv [2] [] 36 (Zi x205), dv [] [1] 37 (Zi n2), dv [3, 4] [] 38 (.bool (decide (x205 < n2)))] z204 d204 ?_ ?_
  ·exact sM e204_0 <| sM e204_8 <| sF (fun f => or_index (R := R3) (l := l1) tl22 f.1 f.2.1 (RdO.some_ (RdO.evo rfl hX204 hl1) hx205) hx205) <| sFE (fun f hE => or_load1 to3 f.1 (CellsAt.zero (RdO.cells (F := E3) (RdO.evo rfl hE (RdO.evo rfl hX204 hl1)) hx205) rfl)) <| sM e204_1 <| sF (fun f => or_lss f.1 f.2.1 rfl) <| steps_nil
  intro o206 a206 w206 d206 z206 hk206 hf206 hE206
  obtain ⟨e206_0, e206_1, e206_6, e206_7, e206_8⟩ := kt5 hk206 e204_0 e204_1 e204_6 e204_7 e204_8
  have e206_38 := gv (hf206 [5] rfl) rfl
  have hX206 := es_ hX204 hE206
  refine fl_cond e206_38 hs (fun c207 hs => ?_) (fun c207 hs => ?_)
  ·refine rq 42 o206 (bz 3) [dv [] [8] 39 (Zi (ad low152 x203)), dv [0] [] 40 (Zi (ad (ad low152 x203) 1)), dv [1] [] 6 (Zi (ad (ad low152 x203) 1))] z206 d206 ?_ ?_
   ·exact sM e206_8 <| sF (fun f => or_add f.1 rfl rfl) <| sA <| steps_nil
   intro o208 a208 w208 d208 z208 hk208 hf208 hE208
   obtain ⟨e208_0, e208_1, e208_7⟩ := kt3 hk208 e206_0 e206_1 e206_7
   have e208_6 := gv (hf208 [2] rfl) rfl
   have hX208 := es_ hX206 hE208
   exact (K201 _ _ o208 _ _ d208 z208 e208_0 e208_1 e208_6 e208_7 hX208 hs)
  refine rq 42 o206 (bz 2) [dv [] [8] 41 (Zi (ad low152 x203)), dv [0] [] 7 (Zi (ad low152 x203))] z206 d206 ?_ ?_
  ·exact sM e206_8 <| sA <| steps_nil
  intro o209 a209 w209 d209 z209 hk209 hf209 hE209
  obtain ⟨e209_0, e209_1, e209_6⟩ := kt3 hk209 e206_0 e206_1 e206_6
  have e209_7 := gv (hf209 [1] rfl) rfl
  have hX209 := es_ hX206 hE209
  exact (K201 _ _ o209 _ _ d209 z209 e209_0 e209_1 e209_6 e209_7 hX209 hs)
theorem order_Strips_w (w : World) (l1 : List Int) (Al1 : Option Addr) (cl1 : Nat) (n2 : Int) (hl1 : RdO (fun _ => 0) [0] w R3 Al1 cl1 l1) (r : Int × Int) (hs : order_Strips l1 n2 = some r) :
  Calls Try.prog 53 #[sl Al1 l1 cl1, Zi n2] w fun e w' => ∃ own' : Own, e = .returned (.tuple #[Zi r.1, Zi r.2]) ∧ Evo [] (fun _ => 0) own' w w' := by
 refine fl_enter (n := 35) rfl rfl rfl (Nat.le_of_ble_eq_true rfl) ?_
 intro a0 Q d0 z0 harg hret
 have ha0 := harg 0 _ rfl
 have ha1 := harg 1 _ rfl
 clear harg
 have hE0 : Evo [] (fun _ => 0) (fun _ => 0) w w := Evo.refl _ _ _
 refine rq_seq 35 (fun _ => 0) (bz 2) [dv [] [] 4 (Zi 0), dv [] [] 5 (Zi 0)] z0 d0 ?_ ?_
 ·exact sO (or_assign rfl) <| sO (or_assign rfl) <| steps_nil
 intro o44 a44 w44 d44 z44 hk44 hf44 hE44
 obtain ⟨e44_0, e44_1⟩ := kt2 hk44 ha0 ha1
 have hX44 := es_ hE0 hE44
 obtain ⟨r45, hr45, hs⟩ := obind hs
 refine rq_seq 35 o44 [0, 0, 3, 7, 15, 15, 31, 127] [dv [] [0] 10 (sl Al1 l1 cl1), dv [] [1] 11 (Zi n2), dv [0, 1] [] 12 (.tuple #[Zi r45.1, .bool r45.2]), dv [2] [] 9 (.tuple #[Zi r45.1, .bool r45.2]), dv [3] [] 13 (Zi r45.1), dv [3] [] 14 (.bool r45.2), dv [4] [] 6 (Zi r45.1), dv [5] [] 7 (.bool r45.2)] z44 d44 ?_ ?_
 ·exact sM e44_0 <| sM e44_1 <| sFE (fun f hE => or_call cf65 (args2 f.1 f.2.1) (order_Find_w _ l1 Al1 cl1 n2 (RdO.zero (RdO.evo rfl hE (RdO.evo rfl hX44 hl1))) r45 hr45) post_val) <| sV <| sF (fun f => ok1 f.1) <| sF (fun f => ok1 f.1) <| sA <| sA <| steps_nil
 intro o46 a46 w46 d46 z46 hk46 hf46 hE46
 obtain ⟨e46_0, e46_1⟩ := kt2 hk46 e44_0 e44_1
 have e46_6 := gv (hf46 [6] rfl) rfl
 have e46_7 := gv (hf46 [7] rfl) rfl
 have hX46 := es_ hX44 hE46
 refine rq_seq 35 o46 (bz 2) [dv [] [6] 15 (Zi r45.1), dv [0] [] 8 (Zi r45.1)] z46 d46 ?_ ?_
 ·exact sM e46_6 <| sA <| steps_nil
 intro o47 a47 w47 d47 z47 hk47 hf47 hE47
 obtain ⟨e47_0, e47_1, e47_6, e47_7⟩ := kt4 hk47 e46_0 e46_1 e46_6 e46_7
 have e47_8 := gv (hf47 [1] rfl) rfl
 have hX47 := es_ hX46 hE47
 refine fl_seq (fun Q48 hn48 hp48 => ?_)
 refine fl_block (fun Q49 hn49 hx49 hp49 => ?_)
 refine fl_loop (body := (fun s => order_Strips_b1 l1 n2 r45 s)) (z := r) (show loopO _ _ = _ from hs) (fun (last58 : Int) a wx => ∃ (ox : Own), a.defers = [] ∧ a.tmps.size = 35 ∧ a.eval (.tmp 0) = sl Al1 l1 cl1 ∧ a.eval (.tmp 1) = Zi n2 ∧ a.eval (.tmp 6) = Zi r45.1 ∧ a.eval (.tmp 7) = .bool r45.2 ∧ a.eval (.tmp 8) = Zi last58 ∧ Evo [] (fun _ => 0) ox w wx) ?_ ?_
 ·exact ⟨o47, d47, z47, e47_0, e47_1, e47_6, e47_7, e47_8, hX47⟩
 ·rintro last58 zz67 a67 w67 ⟨o67, d68, z68, e68_0, e68_1, e68_6, e68_7, e68_8, hE68⟩ hs Q67 hn67 hp67 z67
  have hs : order_Strips_b1 l1 n2 r45 last58 = some zz67 := hs
  refine fl_seq (fun Q69 hn69 hp69 => ?_)
  obtain ⟨x70, hx70, hs⟩ := obind hs
  obtain ⟨x71, hx71, hs⟩ := obind hs
  refine rq_seq 35 o67 [0, 1, 3, 3, 11, 31, 63, 127, 255, 255, 1023, 2047, 255, 8191, 16383] [dv [] [7] 16 (.bool r45.2), dv [0] [] 17 (.bool r45.2), dc [1] [8] r45.2 18 (Zi last58), dc [1] [0] r45.2 19 (sl Al1 l1 cl1), dc [1, 3] [] r45.2 20 (Zi (l1.length : Int)), dc [1, 2, 4] [] r45.2 21 (.bool (decide (last58 < (l1.length : Int)))), dv [1, 5] [] 22 (.bool x70), dv [6] [] 23 (.bool x70), dc [7] [0] x70 24 (sl Al1 l1 cl1), dc [7] [8] x70 25 (Zi last58), dc [7, 8, 9] [] x70 26 (.pointer (some ((adr Al1).add ((last58 : Int).toNat * R3.s)))), dc [7, 10] [] x70 27 (Zi x71), dc [7] [1] x70 28 (Zi n2), dc [7, 11, 12] [] x70 29 (.bool (decide (x71 = n2))), dv [7, 13] [] 30 (.bool (x70 && (decide (x71 = n2))))] z68 d68 ?_ ?_
  ·exact sM e68_7 <| sV <| cT (fun _ s _ _ => or_move (s.1.trans e68_8)) <| cT (fun _ s _ _ => or_move (s.1.trans e68_0)) <| cT (fun f _ _ hg => or_len tu22 (f.2.1.1 hg) rfl) <| cT (fun f _ _ hg => or_lss (f.2.1.1 hg) (f.2.2.1.1 hg) rfl) <| sF (fun f => or_and f.1 (fun hx => f.2.1.1 hx) rfl (osome hx70).symm) <| sV <| cT (fun _ s _ _ => or_move (s.1.trans e68_0)) <| cT (fun _ s _ _ => or_move (s.1.trans e68_8)) <| cT (fun f _ _ hg => or_index (R := R3) (l := l1) tl22 (f.2.1.1 hg) (f.2.2.1.1 hg) (RdO.some_ (RdO.evo rfl hE68 hl1) (gd_t hx71 hg)) (gd_t hx71 hg)) <| cT (fun f _ hE hg => or_load1 to3 (f.2.1.1 hg) (CellsAt.zero (RdO.cells (F := E3) (RdO.evo rfl hE (RdO.evo rfl hE68 hl1)) (gd_t hx71 hg)) rfl)) <| cT (fun _ s _ _ => or_move (s.1.trans e68_1)) <| cT (fun f _ _ hg => or_eql (f.2.1.1 hg) (f.2.2.1.1 hg) rfl) <| sF (fun f => or_and f.1 (fun hx => f.2.1.1 hx) rfl rfl) <| steps_nil
  intro o72 a72 w72 d72 z72 hk72 hf72 hE72
  obtain ⟨e72_0, e72_1, e72_6, e72_7, e72_8⟩ := kt5 hk72 e68_0 e68_1 e68_6 e68_7 e68_8
  have e72_30 := gv (hf72 [14] rfl) rfl
  have hX72 := es_ hE68 hE72
  refine fl_cond e72_30 hs (fun c73 hs => ?_) (fun c73 hs => ?_)
  ·refine fl_skip ?_
   refine hn69 _ _ ?_
   refine fl_block (fun Q74 hn74 hx74 hp74 => ?_)
   refine rq 35 o72 (bz 3) [dv [] [8] 31 (Zi last58), dv [0] [] 32 (Zi (ad last58 1)), dv [1] [] 8 (Zi (ad last58 1))] z72 d72 ?_ ?_
   ·exact sM e72_8 <| sF (fun f => or_add f.1 rfl rfl) <| sA <| steps_nil
   intro o75 a75 w75 d75 z75 hk75 hf75 hE75
   obtain ⟨e75_0, e75_1, e75_6, e75_7⟩ := kt4 hk75 e72_0 e72_1 e72_6 e72_7
   have e75_8 := gv (hf75 [2] rfl) rfl
   have hX75 := es_ hX72 hE75
   refine hn74 _ _ ?_
   exact hn67 _ _ _ hs ⟨o75, d75, z75, e75_0, e75_1, e75_6, e75_7, e75_8, hX75⟩
  refine fl_exit ?_
  refine hp69 _ _ _ rfl ?_
  replace hs := z67 _ hs
  refine hp67 _ _ _ rfl ?_
  refine hx49 _ _ ?_
  refine hn48 _ _ ?_
  refine rq_seq 35 o72 [0, 0, 1, 7] [dv [] [6] 33 (Zi r45.1), dv [] [8] 34 (Zi last58), dv [0] [] 4 (Zi r45.1), dv [1] [] 5 (Zi last58)] z72 d72 ?_ ?_
  ·exact sM e72_6 <| sM e72_8 <| sA <| sA <| steps_nil
  intro o76 a76 w76 d76 z76 hk76 hf76 hE76
  have e76_4 := gv (hf76 [2] rfl) rfl
  have e76_5 := gv (hf76 [3] rfl) rfl
  have hX76 := es_ hX72 hE76
  refine fl_ret ?_
  obtain rfl := osome hs
  exact hret _ _ _ _ (.inl rfl) d76 (results2_ rfl (RVal.tmp_ e76_4) (RVal.tmp_ e76_5)) ⟨o76, rfl, hX76⟩
theorem order_Common_w (w : World) (l1 : List Int) (Al1 : Option Addr) (cl1 : Nat) (x2 : Int) (b3 : Int) (hl1 : RdO (fun _ => 0) [0] w R3 Al1 cl1 l1) (r : Bool) (hs : order_Common l1 x2 b3 = some r) :
  Calls Try.prog 33 #[sl Al1 l1 cl1, Zi x2, Zi b3] w fun e w' => ∃ own' : Own, e = .returned (.bool r) ∧ Evo [] (fun _ => 0) own' w w' := by
 refine fl_enter (n := 31) rfl rfl rfl (Nat.le_of_ble_eq_true rfl) ?_
 intro a0 Q d0 z0 harg hret
 have ha0 := harg 0 _ rfl
 have ha1 := harg 1 _ rfl
 have ha2 := harg 2 _ rfl
 clear harg
 have hE0 : Evo [] (fun _ => 0) (fun _ => 0) w w := Evo.refl _ _ _
 refine rq_seq 31 (fun _ => 0) (bz 1) [dv [] [] 6 (.bool false)] z0 d0 ?_ ?_
 ·exact sO (or_assign rfl) <| steps_nil
 intro o18 a18 w18 d18 z18 hk18 hf18 hE18
 obtain ⟨e18_0, e18_1, e18_2⟩ := kt3 hk18 ha0 ha1 ha2
 have hX18 := es_ hE0 hE18
 obtain ⟨r19, hr19, hs⟩ := obind hs
 refine rq_seq 31 o18 [0, 0, 3, 7, 15, 15, 31, 127] [dv [] [0] 12 (sl Al1 l1 cl1), dv [] [1] 13 (Zi x2), dv [0, 1] [] 14 (.tuple #[Zi r19.1, Zi r19.2]), dv [2] [] 11 (.tuple #[Zi r19.1, Zi r19.2]), dv [3] [] 15 (Zi r19.1), dv [3] [] 16 (Zi r19.2), dv [4] [] 7 (Zi r19.1), dv [5] [] 8 (Zi r19.2)] z18 d18 ?_ ?_
 ·exact sM e18_0 <| sM e18_1 <| sFE (fun f hE => or_call cf53 (args2 f.1 f.2.1) (order_Strips_w _ l1 Al1 cl1 x2 (RdO.zero (RdO.evo rfl hE (RdO.evo rfl hX18 hl1))) r19 hr19) post_val) <| sV <| sF (fun f => ok1 f.1) <| sF (fun f => ok1 f.1) <| sA <| sA <| steps_nil
 intro o20 a20 w20 d20 z20 hk20 hf20 hE20
 obtain ⟨e20_0, e20_2⟩ := kt2 hk20 e18_0 e18_2
 have e20_7 := gv (hf20 [6] rfl) rfl
 have e20_8 := gv (hf20 [7] rfl) rfl
 have hX20 := es_ hX18 hE20
 obtain ⟨r21, hr21, hs⟩ := obind hs
 refine rq_seq 31 o20 [0, 0, 3, 7, 15, 15, 31, 127] [dv [] [0] 18 (sl Al1 l1 cl1), dv [] [2] 19 (Zi b3), dv [0, 1] [] 20 (.tuple #[Zi r21.1, Zi r21.2]), dv [2] [] 17 (.tuple #[Zi r21.1, Zi r21.2]), dv [3] [] 21 (Zi r21.1), dv [3] [] 22 (Zi r21.2), dv [4] [] 9 (Zi r21.1), dv [5] [] 10 (Zi r21.2)] z20 d20 ?_ ?_
 ·exact sM e20_0 <| sM e20_2 <| sFE (fun f hE => or_call cf53 (args2 f.1 f.2.1) (order_Strips_w _ l1 Al1 cl1 b3 (RdO.zero (RdO.evo rfl hE (RdO.evo rfl hX20 hl1))) r21 hr21) post_val) <| sV <| sF (fun f => ok1 f.1) <| sF (fun f => ok1 f.1) <| sA <| sA <| steps_nil
 intro o22 a22 w22 d22 z22 hk22 hf22 hE22
 obtain ⟨e22_7, e22_8⟩ := kt2 hk22 e20_7 e20_8
 have e22_9 := gv (hf22 [6] rfl) rfl
 have e22_10 := gv (hf22 [7] rfl) rfl
 have hX22 := es_ hX20 hE22
 obtain ⟨x23, hx23, hs⟩ := obind hs
 refine rq_seq 31 o22 [0, 0, 3, 7, 15, 15, 63, 127, 255] [dv [] [7] 23 (Zi r19.1), dv [] [10] 24 (Zi r21.2), dv [0, 1] [] 25 (.bool (decide (r19.1 ≤ r21.2))), dv [2] [] 26 (.bool (decide (r19.1 ≤ r21.2))), dc [3] [9] (decide (r19.1 ≤ r21.2)) 27 (Zi r21.1), dc [3] [8] (decide (r19.1 ≤ r21.2)) 28 (Zi r19.2), dc [3, 4, 5] [] (decide (r19.1 ≤ r21.2)) 29 (.bool (decide (r21.1 ≤ r19.2))), dv [3, 6] [] 30 (.bool x23), dv [7] [] 6 (.bool x23)] z22 d22 ?_ ?_
 ·exact sM e22_7 <| sM e22_10 <| sF (fun f => or_leq f.1 f.2.1 rfl) <| sV <| cT (fun _ s _ _ => or_move (s.1.trans e22_9)) <| cT (fun _ s _ _ => or_move (s.1.trans e22_8)) <| cT (fun f _ _ hg => or_leq (f.2.1.1 hg) (f.2.2.1.1 hg) rfl) <| sF (fun f => or_and f.1 (fun hx => f.2.1.1 hx) rfl (osome hx23).symm) <| sA <| steps_nil
 intro o24 a24 w24 d24 z24 hk24 hf24 hE24
 have e24_6 := gv (hf24 [8] rfl) rfl
 have hX24 := es_ hX22 hE24
 refine fl_ret ?_
 obtain rfl := (osome hs).symm
 exact hret _ _ _ _ (.inl rfl) d24 (results1_ rfl (RVal.tmp_ e24_6)) ⟨o24, rfl, hX24⟩
theorem exact_Box_w (w : World) (l1 : List (Int × Int)) (Al1 : Option Addr) (cl1 : Nat) (hl1 : RdO (fun _ => 0) [0] w R25 Al1 cl1 l1) (r : (Int × Int) × (Int × Int) × Bool) (hs : exact_Box l1 = some r) :
  Calls Try.prog 54 #[sl Al1 l1 cl1] w fun e w' => ∃ own' : Own, e = .returned (.tuple #[P2 r.1, P2 r.2.1, .bool r.2.2]) ∧ Evo [] (fun _ => 0) own' w w' := by
 refine fl_enter (n := 58) rfl rfl rfl (Nat.le_of_ble_eq_true rfl) ?_
 intro a0 Q d0 z0 harg hret
 have ha0 := harg 0 _ rfl
 clear harg
 have hE0 : Evo [] (fun _ => 0) (fun _ => 0) w w := Evo.refl _ _ _
 refine rq_seq 58 (fun _ => 0) [0, 0, 0] [⟨[], [], [], Fct.blk 102 2 (fun g => pt g 0) 25 #[Zi 0, Zi 0]⟩, ⟨[], [], [], Fct.blk 104 3 (fun g => pt g 0) 25 #[Zi 0, Zi 0]⟩, dv [] [] 4 (.bool false)] z0 d0 ?_ ?_
 ·exact sO (nw0) <| sO (nw0) <| sO (or_assign rfl) <| steps_nil
 intro o105 a105 w105 d105 z105 hk105 hf105 hE105
 have e105_0 := kt hk105 ha0
 obtain ⟨⟨g101, (e105_2 : a105.eval (.tmp 2) = pt g101 0), (b105_g101 : BlkO o105 102 w105 g101 25 #[Zi 0, Zi 0])⟩, ⟨g103, (e105_3 : a105.eval (.tmp 3) = pt g103 0), (b105_g103 : BlkO o105 104 w105 g103 25 #[Zi 0, Zi 0])⟩, -⟩ := hf105 [0, 1] rfl
 have hX105 := es_ hE0 hE105
 refine fl_seq (fun Q106 hn106 hp106 => ?_)
 obtain ⟨r107, hr107, hs⟩ := obind hs
 obtain ⟨x108, hx108, hs⟩ := obind hs
 refine rq_seq 58 o105 (bz 8) [dv [] [0] 9 (sl Al1 l1 cl1), dv [0] [] 10 (Zi (l1.length : Int)), dv [1] [] 11 (.bool (decide ((l1.length : Int) = 0))), dv [2] [] 12 (.bool (decide ((l1.length : Int) = 0))), dc [3] [0] (!(decide ((l1.length : Int) = 0))) 13 (sl Al1 l1 cl1), dc [3, 4] [] (!(decide ((l1.length : Int) = 0))) 14 (.bool r107), dc [3, 5] [] (!(decide ((l1.length : Int) = 0))) 15 (.bool (!r107)), dv [3, 6] [] 16 (.bool x108)] z105 d105 ?_ ?_
 ·exact sM e105_0 <| sF (fun f => or_len tu55 f.1 rfl) <| sF (fun f => or_eql f.1 rfl rfl) <| sV <| cF (fun _ s _ _ => or_move (s.1.trans e105_0)) <| cF (fun f _ hE hg => or_call cf32 (args1 (f.2.1.1 hg)) (exact_Right_w _ l1 Al1 cl1 (RdO.zero (RdO.evo rfl hE (RdO.evo rfl hX105 hl1))) r107 (gd_t hr107 hg)) post_val) <| cF (fun f _ _ hg => or_not (f.2.1.1 hg) rfl) <| sF (fun f => or_or f.1 rfl (fun hx => f.2.1.1 hx) (osome hx108).symm) <| steps_nil
 intro o109 a109 w109 d109 z109 hk109 hf109 hE109
 obtain ⟨e109_0, e109_2, e109_3⟩ := kt3 hk109 e105_0 e105_2 e105_3
 have e109_16 := gv (hf109 [7] rfl) rfl
 have hX109 := es_ hX105 hE109
 obtain ⟨b109_g101, b109_g103⟩ := be2 hE109 b105_g101 b105_g103
 refine fl_cond e109_16 hs (fun c110 hs => ?_) (fun c110 hs => ?_)
 ·refine rr_seq 58 [Fct.at_ 102 g101 25 #[Zi 0, Zi 0], Fct.at_ 104 g103 25 #[Zi 0, Zi 0]] o109 [102, 104] [0, 0, 1, 7, 15] [dv [] [] 17 (.agg #[Zi 0, Zi 0]), dv [] [] 18 (.agg #[Zi 0, Zi 0]), ⟨[0, 5], [2], [102], Fct.at_ 112 g101 25 #[Zi 0, Zi 0]⟩, ⟨[1, 6], [3], [104], Fct.at_ 113 g103 25 #[Zi 0, Zi 0]⟩, dv [] [] 4 (.bool false)] z109 d109 (fm2 b109_g101 b109_g103) ?_ ?_
  ·refine sO (or_k [] rfl rfl trivial (by kernel_rfl)) <| sO (or_k [] rfl rfl trivial (by kernel_rfl)) ?_
   refine sc (fun own a wx hf hsl hE => ?_) ?_
   ·obtain ⟨f_17, b_g101, -⟩ := hf
    obtain ⟨s_2, -⟩ := hsl
    exact px (or_store (l := #[Zi 0, Zi 0]) (lab := 102) (lab2 := 112) ts25 (s_2.trans e109_2) f_17 b_g101 (by simp) (by kernel_rfl) (mem_of rfl) (by decide) (by kernel_rfl) (fun own' a' w' ha hb => hb))
   refine sc (fun own a wx hf hsl hE => ?_) ?_
   ·obtain ⟨f_18, b_g103, -⟩ := hf
    obtain ⟨s_3, -⟩ := hsl
    exact px (or_store (l := #[Zi 0, Zi 0]) (lab := 104) (lab2 := 113) ts25 (s_3.trans e109_3) f_18 b_g103 (by simp) (by kernel_rfl) (mem_of rfl) (by decide) (by kernel_rfl) (fun own' a' w' ha hb => hb))
   exact sO (or_assign rfl) <| steps_nil
  intro o114 a114 w114 d114 z114 hk114 hf114 hE114
  obtain ⟨e114_2, e114_3⟩ := kt2 hk114 e109_2 e109_3
  have e114_4 := gv (hf114 [4] rfl) rfl
  obtain ⟨(b114_g101 : BlkO o114 112 w114 g101 25 #[Zi 0, Zi 0]), (b114_g103 : BlkO o114 113 w114 g103 25 #[Zi 0, Zi 0]), -⟩ := hf114 [2, 3] rfl
  have hX114 := es_ hX109 hE114
  refine fl_ret ?_
  refine hp106 _ _ _ rfl ?_
  obtain rfl := osome hs
  exact hret _ _ _ _ (.inl rfl) d114 (results3_ rfl (RVal.cell_ e114_2 (run_loadVarAgg (l := [Zi 0, Zi 0]) ta25 (Blk.cellsFrom b114_g101.2 0 rfl) rfl)) (RVal.cell_ e114_3 (run_loadVarAgg (l := [Zi 0, Zi 0]) ta25 (Blk.cellsFrom b114_g103.2 0 rfl) rfl)) (RVal.tmp_ e114_4)) ⟨o114, rfl, hX114⟩
 refine fl_skip ?_
 refine hn106 _ _ ?_
 obtain ⟨x115, hx115, hs⟩ := obind hs
 obtain ⟨x116, hx116, hs⟩ := obind hs
 refine rd_seq g_mixed 58 [] o109 [118, 120] [0, 1, 3, 0, 8, 24, 0, 0, 199, 511] [dv [] [0] 19 (sl Al1 l1 cl1), dv [0] [] 20 (.pointer (some ((adr Al1).add ((0 : Int).toNat * R25.s)))), dv [1] [] 21 (P2 x115), dv [] [0] 22 (sl Al1 l1 cl1), dv [3] [] 23 (.pointer (some ((adr Al1).add ((0 : Int).toNat * R25.s)))), dv [4] [] 24 (P2 x116), ⟨[], [], [], Fct.blk 118 5 (fun g => pt g 0) 25 #[Zi 0, Zi 0]⟩, ⟨[], [], [], Fct.blk 120 6 (fun g => pt g 0) 25 #[Zi 0, Zi 0]⟩, ⟨[6, 2], [], [118], Fct.blk 121 5 (fun g => pt g 0) 25 #[Zi x115.1, Zi x115.2]⟩, ⟨[7, 5], [], [120], Fct.blk 122 6 (fun g => pt g 0) 25 #[Zi x116.1, Zi x116.2]⟩] z109 d109 nm_ ?_ ?_
 ·refine sM e109_0 <| sF (fun f => or_index (R := R25) (l := l1) tl55 f.1 rfl (RdO.some_ (RdO.evo rfl hX109 hl1) hx115) hx115) <| sFE (fun f hE => or_load (l := E25.f x115) ta25 f.1 (RdO.cells (F := E25) (RdO.evo rfl hE (RdO.evo rfl hX109 hl1)) hx115) rfl) <| sM e109_0 <| sF (fun f => or_index (R := R25) (l := l1) tl55 f.1 rfl (RdO.some_ (RdO.evo rfl hX109 hl1) hx116) hx116) <| sFE (fun f hE => or_load (l := E25.f x116) ta25 f.1 (RdO.cells (F := E25) (RdO.evo rfl hE (RdO.evo rfl hX109 hl1)) hx116) rfl) <| sO (nw0) <| sO (nw0) ?_
  refine sc (fun own a wx hf hsl hE => ?_) ?_
  ·obtain ⟨⟨g117, f_5, b_g117⟩, f_21, -⟩ := hf
   exact px (or_store (l := #[Zi x115.1, Zi x115.2]) (lab := 118) (lab2 := 121) ts25 f_5 f_21 b_g117 (by simp) (by kernel_rfl) (mem_of rfl) (by decide) (by kernel_rfl) (fun own' a' w' ha hb => ⟨_, (ha 5).trans f_5, hb⟩))
  refine sc (fun own a wx hf hsl hE => ?_) ?_
  ·obtain ⟨⟨g119, f_6, b_g119⟩, f_24, -⟩ := hf
   exact px (or_store (l := #[Zi x116.1, Zi x116.2]) (lab := 120) (lab2 := 122) ts25 f_6 f_24 b_g119 (by simp) (by kernel_rfl) (mem_of rfl) (by decide) (by kernel_rfl) (fun own' a' w' ha hb => ⟨_, (ha 6).trans f_6, hb⟩))
  exact steps_nil
 intro o123 a123 w123 d123 z123 hk123 hf123 hE123
 obtain ⟨e123_0, e123_2, e123_3⟩ := kt3 hk123 e109_0 e109_2 e109_3
 obtain ⟨⟨g117, (e123_5 : a123.eval (.tmp 5) = pt g117 0), (b123_g117 : BlkO o123 121 w123 g117 25 #[Zi x115.1, Zi x115.2])⟩, ⟨g119, (e123_6 : a123.eval (.tmp 6) = pt g119 0), (b123_g119 : BlkO o123 122 w123 g119 25 #[Zi x116.1, Zi x116.2])⟩, -⟩ := hf123 [8, 9] rfl
 have hX123 := es_ hX109 hE123
 obtain ⟨b123_g101, b123_g103⟩ := be2 hE123 b109_g101 b109_g103
 refine fl_seq (fun Q124 hn124 hp124 => ?_)
 refine rq_seq 58 o123 [0, 1, 0] [dv [] [0] 25 (sl Al1 l1 cl1), dv [0] [] 26 (Zi (l1.length : Int)), dv [] [] 27 (Zi 0)] z123 d123 ?_ ?_
 ·exact sM e123_0 <| sF (fun f => or_len tu55 f.1 rfl) <| sO (or_move rfl) <| steps_nil
 intro o125 a125 w125 d125 z125 hk125 hf125 hE125
 obtain ⟨e125_2, e125_3, e125_5, e125_6⟩ := kt4 hk125 e123_2 e123_3 e123_5 e123_6
 have e125_25 := gv (hf125 [0] rfl) rfl
 have e125_26 := gv (hf125 [1] rfl) rfl
 have e125_27 := gv (hf125 [2] rfl) rfl
 have hX125 := es_ hX123 hE125
 obtain ⟨b125_g101, b125_g103, b125_g117, b125_g119⟩ := be4 hE125 b123_g101 b123_g103 b123_g117 b123_g119
 refine fl_block (fun Q126 hn126 hx126 hp126 => ?_)
 refine fl_loop (body := (fun s => exact_Box_b1 l1 s.1 s.2.1 s.2.2)) (z := r) (show loopO _ _ = _ from hs) (fun (s : (Int × Int) × (Int × Int) × Int) a wx => match s with | (low146, high148, x149) => ∃ (ox : Own), a.defers = [] ∧ a.tmps.size = 58 ∧ a.eval (.tmp 2) = pt g101 0 ∧ a.eval (.tmp 3) = pt g103 0 ∧ a.eval (.tmp 5) = pt g117 0 ∧ a.eval (.tmp 6) = pt g119 0 ∧ a.eval (.tmp 25) = sl Al1 l1 cl1 ∧ a.eval (.tmp 26) = Zi (l1.length : Int) ∧ a.eval (.tmp 27) = Zi x149 ∧ Evo [] (fun _ => 0) ox w wx ∧ BlkO ox 102 wx g101 25 #[Zi 0, Zi 0] ∧ BlkO ox 104 wx g103 25 #[Zi 0, Zi 0] ∧ BlkO ox 145 wx g117 25 #[Zi low146.1, Zi low146.2] ∧ BlkO ox 147 wx g119 25 #[Zi high148.1, Zi high148.2]) ?_ ?_
 ·exact ⟨(rl [(121, 145), (122, 147)] o125), d125, z125, e125_2, e125_3, e125_5, e125_6, e125_25, e125_26, e125_27, (Evo.rl_ hX125 (fun _ => Nat.le_refl 0) rfl), (BlkO.rl_ b125_g101), (BlkO.rl_ b125_g103), (BlkO.rl_ b125_g117), (BlkO.rl_ b125_g119)⟩
 ·rintro ⟨low146, high148, x149⟩ zz168 a168 w168 ⟨o168, d169, z169, e169_2, e169_3, e169_5, e169_6, e169_25, e169_26, e169_27, hE169, b169_g101, b169_g103, b169_g117, b169_g119⟩ hs Q168 hn168 hp168 z168
  have hs : exact_Box_b1 l1 low146 high148 x149 = some zz168 := hs
  refine rq_seq 58 o168 (bz 1) [dv [] [27, 26] 28 (.bool (decide (x149 < (l1.length : Int))))] z169 d169 ?_ ?_
  ·exact sS (fun s => or_lss (s.1.trans e169_27) (s.2.1.trans e169_26) rfl) <| steps_nil
  intro o170 a170 w170 d170 z170 hk170 hf170 hE170
  obtain ⟨e170_2, e170_3, e170_5, e170_6, e170_25, e170_26, e170_27⟩ := kt7 hk170 e169_2 e169_3 e169_5 e169_6 e169_25 e169_26 e169_27
  have e170_28 := gv (hf170 [0] rfl) rfl
  have hX170 := es_ hE169 hE170
  obtain ⟨b170_g101, b170_g103, b170_g117, b170_g119⟩ := be4 hE170 b169_g101 b169_g103 b169_g117 b169_g119
  refine fl_seq (fun Q171 hn171 hp171 => ?_)
  refine fl_cond e170_28 hs (fun c172 hs => ?_) (fun c172 hs => ?_)
  ·refine fl_skip ?_
   refine hn171 _ _ ?_
   refine fl_seq (fun Q173 hn173 hp173 => ?_)
   refine fl_block (fun Q174 hn174 hx174 hp174 => ?_)
   obtain ⟨x175, hx175, hs⟩ := obind hs
   refine rp_seq 58 o170 [177] [0, 1, 0, 7] [dv [] [25, 27] 29 (.pointer (some ((adr Al1).add ((x149 : Int).toNat * R25.s)))), dv [0] [] 30 (P2 x175), ⟨[], [], [], Fct.blk 177 8 (fun g => pt g 0) 25 #[Zi 0, Zi 0]⟩, ⟨[2, 1], [], [177], Fct.blk 178 8 (fun g => pt g 0) 25 #[Zi x175.1, Zi x175.2]⟩] z170 d170 ?_ ?_
   ·refine sS (fun s => or_index (R := R25) (l := l1) tl55 (s.1.trans e170_25) (s.2.1.trans e170_27) (RdO.some_ (RdO.evo rfl hX170 hl1) hx175) hx175) <| sFE (fun f hE => or_load (l := E25.f x175) ta25 f.1 (RdO.cells (F := E25) (RdO.evo rfl hE (RdO.evo rfl hX170 hl1)) hx175) rfl) <| sO (nw0) ?_
    refine sc (fun own a wx hf hsl hE => ?_) ?_
    ·obtain ⟨⟨g176, f_8, b_g176⟩, f_30, -⟩ := hf
     exact px (or_store (l := #[Zi x175.1, Zi x175.2]) (lab := 177) (lab2 := 178) ts25 f_8 f_30 b_g176 (by simp) (by kernel_rfl) (mem_of rfl) (by decide) (by kernel_rfl) (fun own' a' w' ha hb => ⟨_, (ha 8).trans f_8, hb⟩))
    exact steps_nil
   intro o179 a179 w179 d179 z179 hk179 hf179 hE179
   obtain ⟨e179_2, e179_3, e179_5, e179_6, e179_25, e179_26, e179_27⟩ := kt7 hk179 e170_2 e170_3 e170_5 e170_6 e170_25 e170_26 e170_27
   obtain ⟨⟨g176, (e179_8 : a179.eval (.tmp 8) = pt g176 0), (b179_g176 : BlkO o179 178 w179 g176 25 #[Zi x175.1, Zi x175.2])⟩, -⟩ := hf179 [3] rfl
   have hX179 := es_ hX170 hE179
   obtain ⟨b179_g101, b179_g103, b179_g117, b179_g119⟩ := be4 hE179 b170_g101 b170_g103 b170_g117 b170_g119
   refine rd_seq g_mixed 58 [Fct.at_ 145 g117 25 #[Zi low146.1, Zi low146.2]] o179 [145, 180] [0, 1, 0, 4, 15, 0, 32, 0, 128, 480, 127, 1151, 4095, 8191] [dv [] [5] 31 (pt g117 0), dv [0, 14] [] 32 (Zi low146.1), dv [] [8] 33 (pt g176 0), dv [2] [] 34 (Zi x175.1), dv [1, 3] [] 35 (Zi (mn low146.1 x175.1)), dv [] [5] 36 (pt g117 1), dv [5, 14] [] 37 (Zi low146.2), dv [] [8] 38 (pt g176 1), dv [7] [] 39 (Zi x175.2), dv [6, 8] [] 40 (Zi (mn low146.2 x175.2)), dv [] [5] 41 (pt g117 0), ⟨[10, 4, 14], [], [145], Fct.at_ 180 g117 25 #[Zi (mn low146.1 x175.1), Zi low146.2]⟩, dv [] [5] 42 (pt g117 1), ⟨[12, 9, 11], [], [180], Fct.at_ 181 g117 25 #[Zi (mn low146.1 x175.1), Zi (mn low146.2 x175.2)]⟩] z179 d179 (fm1 b179_g117) ?_ ?_
   ·refine sS (fun s => or_field fo25_0 (s.1.trans e179_5) (by rfl)) ?_
    refine sc (fun own a wx hf hsl hE => ?_) ?_
    ·obtain ⟨f_31, (b_g117 : BlkO own 145 wx g117 25 #[Zi low146.1, Zi low146.2]), -⟩ := hf
     exact px (ld1 to3 f_31 b_g117)
    refine sS (fun s => or_field fo25_0 (s.1.trans e179_8) (by rfl)) <| sG to3 b179_g176 <| sF (fun f => or_min f.1 f.2.1) <| sS (fun s => or_field fo25_1 (s.1.trans e179_5) (by rfl)) ?_
    refine sc (fun own a wx hf hsl hE => ?_) ?_
    ·obtain ⟨f_36, (b_g117 : BlkO own 145 wx g117 25 #[Zi low146.1, Zi low146.2]), -⟩ := hf
     exact px (ld1 to3 f_36 b_g117)
    refine sS (fun s => or_field fo25_1 (s.1.trans e179_8) (by rfl)) <| sG to3 b179_g176 <| sF (fun f => or_min f.1 f.2.1) <| sS (fun s => or_field fo25_0 (s.1.trans e179_5) (by rfl)) ?_
    refine sc (fun own a wx hf hsl hE => ?_) ?_
    ·obtain ⟨f_41, f_35, b_g117, -⟩ := hf
     exact px (or_store1 (lab := 145) (lab2 := 180) ts3 f_41 f_35 b_g117 (by simp) rfl (mem_of rfl) (by decide) rfl (fun own' a' w' ha hb => hb))
    refine sS (fun s => or_field fo25_1 (s.1.trans e179_5) (by rfl)) ?_
    refine sc (fun own a wx hf hsl hE => ?_) ?_
    ·obtain ⟨f_42, f_40, b_g117, -⟩ := hf
     exact px (or_store1 (lab := 180) (lab2 := 181) ts3 f_42 f_40 b_g117 (by simp) rfl (mem_of rfl) (by decide) rfl (fun own' a' w' ha hb => hb))
    exact steps_nil
   intro o182 a182 w182 d182 z182 hk182 hf182 hE182
   obtain ⟨e182_2, e182_3, e182_5, e182_6, e182_8, e182_25, e182_26, e182_27⟩ := kt8 hk182 e179_2 e179_3 e179_5 e179_6 e179_8 e179_25 e179_26 e179_27
   obtain ⟨(b182_g117 : BlkO o182 181 w182 g117 25 #[Zi (mn low146.1 x175.1), Zi (mn low146.2 x175.2)]), -⟩ := hf182 [13] rfl
   have hX182 := es_ hX179 hE182
   obtain ⟨b182_g101, b182_g103, b182_g119, b182_g176⟩ := be4 hE182 b179_g101 b179_g103 b179_g119 b179_g176
   refine rd_ g_mixed 58 [Fct.at_ 147 g119 25 #[Zi high148.1, Zi high148.2]] o182 [147, 183] [0, 1, 0, 4, 15, 0, 32, 0, 128, 480, 127, 1151, 4095, 8191] [dv [] [6] 43 (pt g119 0), dv [0, 14] [] 44 (Zi high148.1), dv [] [8] 45 (pt g176 0), dv [2] [] 46 (Zi x175.1), dv [1, 3] [] 47 (Zi (mx high148.1 x175.1)), dv [] [6] 48 (pt g119 1), dv [5, 14] [] 49 (Zi high148.2), dv [] [8] 50 (pt g176 1), dv [7] [] 51 (Zi x175.2), dv [6, 8] [] 52 (Zi (mx high148.2 x175.2)), dv [] [6] 53 (pt g119 0), ⟨[10, 4, 14], [], [147], Fct.at_ 183 g119 25 #[Zi (mx high148.1 x175.1), Zi high148.2]⟩, dv [] [6] 54 (pt g119 1), ⟨[12, 9, 11], [], [183], Fct.at_ 184 g119 25 #[Zi (mx high148.1 x175.1), Zi (mx high148.2 x175.2)]⟩] z182 d182 (fm1 b182_g119) ?_ ?_
   ·refine sS (fun s => or_field fo25_0 (s.1.trans e182_6) (by rfl)) ?_
    refine sc (fun own a wx hf hsl hE => ?_) ?_
    ·obtain ⟨f_43, (b_g119 : BlkO own 147 wx g119 25 #[Zi high148.1, Zi high148.2]), -⟩ := hf
     exact px (ld1 to3 f_43 b_g119)
    refine sS (fun s => or_field fo25_0 (s.1.trans e182_8) (by rfl)) <| sG to3 b182_g176 <| sF (fun f => or_max f.1 f.2.1) <| sS (fun s => or_field fo25_1 (s.1.trans e182_6) (by rfl)) ?_
    refine sc (fun own a wx hf hsl hE => ?_) ?_
    ·obtain ⟨f_48, (b_g119 : BlkO own 147 wx g119 25 #[Zi high148.1, Zi high148.2]), -⟩ := hf
     exact px (ld1 to3 f_48 b_g119)
    refine sS (fun s => or_field fo25_1 (s.1.trans e182_8) (by rfl)) <| sG to3 b182_g176 <| sF (fun f => or_max f.1 f.2.1) <| sS (fun s => or_field fo25_0 (s.1.trans e182_6) (by rfl)) ?_
    refine sc (fun own a wx hf hsl hE => ?_) ?_
    ·obtain ⟨f_53, f_47, b_g119, -⟩ := hf
     exact px (or_store1 (lab := 147) (lab2 := 183) ts3 f_53 f_47 b_g119 (by simp) rfl (mem_of rfl) (by decide) rfl (fun own' a' w' ha hb => hb))
    refine sS (fun s => or_field fo25_1 (s.1.trans e182_6) (by rfl)) ?_
    refine sc (fun own a wx hf hsl hE => ?_) ?_
    ·obtain ⟨f_54, f_52, b_g119, -⟩ := hf
     exact px (or_store1 (lab := 183) (lab2 := 184) ts3 f_54 f_52 b_g119 (by simp) rfl (mem_of rfl) (by decide) rfl (fun own' a' w' ha hb => hb))
    exact steps_nil
   intro o185 a185 w185 d185 z185 hk185 hf185 hE185
   obtain ⟨e185_2, e185_3, e185_5, e185_6, e185_25, e185_26, e185_27⟩ := kt7 hk185 e182_2 e182_3 e182_5 e182_6 e182_25 e182_26 e182_27
   obtain ⟨(b185_g119 : BlkO o185 184 w185 g119 25 #[Zi (mx high148.1 x175.1), Zi (mx high148.2 x175.2)]), -⟩ := hf185 [13] rfl
   have hX185 := es_ hX182 hE185
   obtain ⟨b185_g101, b185_g103, b185_g117⟩ := be3 hE185 b182_g101 b182_g103 b182_g117
   refine hn174 _ _ ?_
   refine hn173 _ _ ?_
   refine rq 58 o185 (bz 2) [dv [] [27] 55 (Zi (ad x149 1)), dv [0] [] 27 (Zi (ad x149 1))] z185 d185 ?_ ?_
   ·exact sS (fun s => or_add (s.1.trans e185_27) rfl rfl) <| sV <| steps_nil
   intro o186 a186 w186 d186 z186 hk186 hf186 hE186
   obtain ⟨e186_2, e186_3, e186_5, e186_6, e186_25, e186_26⟩ := kt6 hk186 e185_2 e185_3 e185_5 e185_6 e185_25 e185_26
   have e186_27 := gv (hf186 [1] rfl) rfl
   have hX186 := es_ hX185 hE186
   obtain ⟨b186_g101, b186_g103, b186_g117, b186_g119⟩ := be4 hE186 b185_g101 b185_g103 b185_g117 b185_g119
   exact hn168 _ _ _ hs ⟨(rl [(181, 145), (184, 147)] o186), d186, z186, e186_2, e186_3, e186_5, e186_6, e186_25, e186_26, e186_27, (Evo.rl_ hX186 (fun _ => Nat.le_refl 0) rfl), (BlkO.rl_ b186_g101), (BlkO.rl_ b186_g103), (BlkO.rl_ b186_g117), (BlkO.rl_ b186_g119)⟩
  refine fl_exit ?_
  refine hp171 _ _ _ rfl ?_
  replace hs := z168 _ hs
  refine hp168 _ _ _ rfl ?_
  refine hx126 _ _ ?_
  refine hn124 _ _ ?_
  refine rd_seq g_mixed 58 [Fct.at_ 102 g101 25 #[Zi 0, Zi 0], Fct.at_ 104 g103 25 #[Zi 0, Zi 0]] o170 [102, 104] [0, 0, 1, 7, 15] [dv [] [5] 56 (P2 low146), dv [] [6] 57 (P2 high148), ⟨[0, 5], [2], [102], Fct.at_ 188 g101 25 #[Zi low146.1, Zi low146.2]⟩, ⟨[1, 6], [3], [104], Fct.at_ 189 g103 25 #[Zi high148.1, Zi high148.2]⟩, dv [] [] 4 (.bool true)] z170 d170 (fm2 b170_g101 b170_g103) ?_ ?_
  ·refine sL ta25 e170_5 b170_g117 <| sL ta25 e170_6 b170_g119 ?_
   refine sc (fun own a wx hf hsl hE => ?_) ?_
   ·obtain ⟨f_56, b_g101, -⟩ := hf
    obtain ⟨s_2, -⟩ := hsl
    exact px (or_store (l := #[Zi low146.1, Zi low146.2]) (lab := 102) (lab2 := 188) ts25 (s_2.trans e170_2) f_56 b_g101 (by simp) (by kernel_rfl) (mem_of rfl) (by decide) (by kernel_rfl) (fun own' a' w' ha hb => hb))
   refine sc (fun own a wx hf hsl hE => ?_) ?_
   ·obtain ⟨f_57, b_g103, -⟩ := hf
    obtain ⟨s_3, -⟩ := hsl
    exact px (or_store (l := #[Zi high148.1, Zi high148.2]) (lab := 104) (lab2 := 189) ts25 (s_3.trans e170_3) f_57 b_g103 (by simp) (by kernel_rfl) (mem_of rfl) (by decide) (by kernel_rfl) (fun own' a' w' ha hb => hb))
   exact sO (or_assign rfl) <| steps_nil
  intro o190 a190 w190 d190 z190 hk190 hf190 hE190
  obtain ⟨e190_2, e190_3⟩ := kt2 hk190 e170_2 e170_3
  have e190_4 := gv (hf190 [4] rfl) rfl
  obtain ⟨(b190_g101 : BlkO o190 188 w190 g101 25 #[Zi low146.1, Zi low146.2]), (b190_g103 : BlkO o190 189 w190 g103 25 #[Zi high148.1, Zi high148.2]), -⟩ := hf190 [2, 3] rfl
  have hX190 := es_ hX170 hE190
  refine fl_ret ?_
  obtain rfl := osome hs
  exact hret _ _ _ _ (.inl rfl) d190 (results3_ rfl (RVal.cell_ e190_2 (run_loadVarAgg (l := [Zi low146.1, Zi low146.2]) ta25 (Blk.cellsFrom b190_g101.2 0 rfl) rfl)) (RVal.cell_ e190_3 (run_loadVarAgg (l := [Zi high148.1, Zi high148.2]) ta25 (Blk.cellsFrom b190_g103.2 0 rfl) rfl)) (RVal.tmp_ e190_4)) ⟨o190, rfl, hX190⟩
theorem rows_Of_w (w : World) (l1 : List (Int × Int)) (Al1 : Option Addr) (cl1 : Nat) (hl1 : RdO (fun _ => 0) [0] w R25 Al1 cl1 l1) (r : ((Int × Int) × (Int × Int)) × Bool) (hs : rows_Of l1 = some r) :
  Calls Try.prog 34 #[sl Al1 l1 cl1] w fun e w' => ∃ own' : Own, e = .returned (.tuple #[.agg #[Zi r.1.1.1, Zi r.1.1.2, Zi r.1.2.1, Zi r.1.2.2], .bool r.2]) ∧ Evo [] (fun _ => 0) own' w w' := by
 refine fl_enter (n := 17) rfl rfl rfl (Nat.le_of_ble_eq_true rfl) ?_
 intro a0 Q d0 z0 harg hret
 have ha0 := harg 0 _ rfl
 clear harg
 have hE0 : Evo [] (fun _ => 0) (fun _ => 0) w w := Evo.refl _ _ _
 refine rq_seq 17 (fun _ => 0) [0, 0] [⟨[], [], [], Fct.blk 25 2 (fun g => pt g 0) 80 #[Zi 0, Zi 0, Zi 0, Zi 0]⟩, dv [] [] 3 (.bool false)] z0 d0 ?_ ?_
 ·exact sO (nw0) <| sO (or_assign rfl) <| steps_nil
 intro o26 a26 w26 d26 z26 hk26 hf26 hE26
 have e26_0 := kt hk26 ha0
 obtain ⟨⟨g24, (e26_2 : a26.eval (.tmp 2) = pt g24 0), (b26_g24 : BlkO o26 25 w26 g24 80 #[Zi 0, Zi 0, Zi 0, Zi 0])⟩, -⟩ := hf26 [0] rfl
 have hX26 := es_ hE0 hE26
 obtain ⟨r27, hr27, hs⟩ := obind hs
 refine rp_seq 17 o26 [29, 31] [0, 1, 3, 7, 7, 7, 0, 0, 207, 479, 1023] [dv [] [0] 8 (sl Al1 l1 cl1), dv [0] [] 9 (.tuple #[P2 r27.1, P2 r27.2.1, .bool r27.2.2]), dv [1] [] 7 (.tuple #[P2 r27.1, P2 r27.2.1, .bool r27.2.2]), dv [2] [] 10 (P2 r27.1), dv [2] [] 11 (P2 r27.2.1), dv [2] [] 12 (.bool r27.2.2), ⟨[], [], [], Fct.blk 29 4 (fun g => pt g 0) 25 #[Zi 0, Zi 0]⟩, ⟨[], [], [], Fct.blk 31 5 (fun g => pt g 0) 25 #[Zi 0, Zi 0]⟩, ⟨[6, 3], [], [29], Fct.blk 32 4 (fun g => pt g 0) 25 #[Zi r27.1.1, Zi r27.1.2]⟩, ⟨[7, 4], [], [31], Fct.blk 33 5 (fun g => pt g 0) 25 #[Zi r27.2.1.1, Zi r27.2.1.2]⟩, dv [5] [] 6 (.bool r27.2.2)] z26 d26 ?_ ?_
 ·refine sM e26_0 <| sFE (fun f hE => or_call cf54 (args1 f.1) (exact_Box_w _ l1 Al1 cl1 (RdO.zero (RdO.evo rfl hE (RdO.evo rfl hX26 hl1))) r27 hr27) post_val) <| sV <| sF (fun f => ok1 f.1) <| sF (fun f => ok1 f.1) <| sF (fun f => ok1 f.1) <| sO (nw0) <| sO (nw0) ?_
  refine sc (fun own a wx hf hsl hE => ?_) ?_
  ·obtain ⟨⟨g28, f_4, b_g28⟩, f_10, -⟩ := hf
   exact px (or_store (l := #[Zi r27.1.1, Zi r27.1.2]) (lab := 29) (lab2 := 32) ts25 f_4 f_10 b_g28 (by simp) (by kernel_rfl) (mem_of rfl) (by decide) (by kernel_rfl) (fun own' a' w' ha hb => ⟨_, (ha 4).trans f_4, hb⟩))
  refine sc (fun own a wx hf hsl hE => ?_) ?_
  ·obtain ⟨⟨g30, f_5, b_g30⟩, f_11, -⟩ := hf
   exact px (or_store (l := #[Zi r27.2.1.1, Zi r27.2.1.2]) (lab := 31) (lab2 := 33) ts25 f_5 f_11 b_g30 (by simp) (by kernel_rfl) (mem_of rfl) (by decide) (by kernel_rfl) (fun own' a' w' ha hb => ⟨_, (ha 5).trans f_5, hb⟩))
  exact sA <| steps_nil
 intro o34 a34 w34 d34 z34 hk34 hf34 hE34
 have e34_2 := kt hk34 e26_2
 have e34_6 := gv (hf34 [10] rfl) rfl
 obtain ⟨⟨g28, (e34_4 : a34.eval (.tmp 4) = pt g28 0), (b34_g28 : BlkO o34 32 w34 g28 25 #[Zi r27.1.1, Zi r27.1.2])⟩, ⟨g30, (e34_5 : a34.eval (.tmp 5) = pt g30 0), (b34_g30 : BlkO o34 33 w34 g30 25 #[Zi r27.2.1.1, Zi r27.2.1.2])⟩, -⟩ := hf34 [8, 9] rfl
 have hX34 := es_ hX26 hE34
 have b34_g24 := be_ hE34 b26_g24
 refine rr_seq 17 [Fct.at_ 25 g24 80 #[Zi 0, Zi 0, Zi 0, Zi 0]] o34 [25] [0, 0, 3, 0, 7, 31] [dv [] [4] 13 (P2 r27.1), dv [] [5] 14 (P2 r27.2.1), dv [0, 1] [] 15 (.agg #[Zi r27.1.1, Zi r27.1.2, Zi r27.2.1.1, Zi r27.2.1.2]), dv [] [6] 16 (.bool r27.2.2), ⟨[2, 6], [2], [25], Fct.at_ 35 g24 80 #[Zi r27.1.1, Zi r27.1.2, Zi r27.2.1.1, Zi r27.2.1.2]⟩, dv [3] [] 3 (.bool r27.2.2)] z34 d34 (fm1 b34_g24) ?_ ?_
 ·refine sL ta25 e34_4 b34_g28 <| sL ta25 e34_5 b34_g30 <| sF (fun f => ok2 f.1 f.2.1) <| sM e34_6 ?_
  refine sc (fun own a wx hf hsl hE => ?_) ?_
  ·obtain ⟨f_15, b_g24, -⟩ := hf
   obtain ⟨s_2, -⟩ := hsl
   exact px (or_store (l := #[Zi r27.1.1, Zi r27.1.2, Zi r27.2.1.1, Zi r27.2.1.2]) (lab := 25) (lab2 := 35) ts80 (s_2.trans e34_2) f_15 b_g24 (by simp) (by kernel_rfl) (mem_of rfl) (by decide) (by kernel_rfl) (fun own' a' w' ha hb => hb))
  exact sA <| steps_nil
 intro o36 a36 w36 d36 z36 hk36 hf36 hE36
 have e36_2 := kt hk36 e34_2
 have e36_3 := gv (hf36 [5] rfl) rfl
 obtain ⟨(b36_g24 : BlkO o36 35 w36 g24 80 #[Zi r27.1.1, Zi r27.1.2, Zi r27.2.1.1, Zi r27.2.1.2]), -⟩ := hf36 [4] rfl
 have hX36 := es_ hX34 hE36
 refine fl_ret ?_
 obtain rfl := osome hs
 exact hret _ _ _ _ (.inl rfl) d36 (results2_ rfl (RVal.cell_ e36_2 (run_loadVarAgg (l := [Zi r27.1.1, Zi r27.1.2, Zi r27.2.1.1, Zi r27.2.1.2]) ta80 (Blk.cellsFrom b36_g24.2 0 rfl) rfl)) (RVal.tmp_ e36_3)) ⟨o36, rfl, hX36⟩
theorem rows_Meet_w (w : World) (x1 : (Int × Int) × (Int × Int)) (b2 : (Int × Int) × (Int × Int)) (r : Bool) (hs : rows_Meet x1 b2 = some r) :
  Calls Try.prog 55 #[.agg #[Zi x1.1.1, Zi x1.1.2, Zi x1.2.1, Zi x1.2.2], .agg #[Zi b2.1.1, Zi b2.1.2, Zi b2.2.1, Zi b2.2.2]] w fun e w' => ∃ own' : Own, e = .returned (.bool r) ∧ Evo [] (fun _ => 0) own' w w' := by
 refine fl_enter (n := 47) rfl rfl rfl (Nat.le_of_ble_eq_true rfl) ?_
 intro a0 Q d0 z0 harg hret
 have ha0 := harg 0 _ rfl
 have ha1 := harg 1 _ rfl
 clear harg
 have hE0 : Evo [] (fun _ => 0) (fun _ => 0) w w := Evo.refl _ _ _
 refine rq_seq 47 (fun _ => 0) [0, 0, 0] [⟨[], [0], [], Fct.blk 22 2 (fun g => pt g 0) 80 #[Zi x1.1.1, Zi x1.1.2, Zi x1.2.1, Zi x1.2.2]⟩, ⟨[], [1], [], Fct.blk 24 3 (fun g => pt g 0) 80 #[Zi b2.1.1, Zi b2.1.2, Zi b2.2.1, Zi b2.2.2]⟩, dv [] [] 4 (.bool false)] z0 d0 ?_ ?_
 ·exact sS (fun s => nw1 (s.1.trans ha0)) <| sS (fun s => nw1 (s.1.trans ha1)) <| sO (or_assign rfl) <| steps_nil
 intro o25 a25 w25 d25 z25 hk25 hf25 hE25
 obtain ⟨⟨g21, (e25_2 : a25.eval (.tmp 2) = pt g21 0), (b25_g21 : BlkO o25 22 w25 g21 80 #[Zi x1.1.1, Zi x1.1.2, Zi x1.2.1, Zi x1.2.2])⟩, ⟨g23, (e25_3 : a25.eval (.tmp 3) = pt g23 0), (b25_g23 : BlkO o25 24 w25 g23 80 #[Zi b2.1.1, Zi b2.1.2, Zi b2.2.1, Zi b2.2.2])⟩, -⟩ := hf25 [0, 1] rfl
 have hX25 := es_ hE0 hE25
 obtain ⟨r26, hr26, hs⟩ := obind hs
 obtain ⟨r27, hr27, hs⟩ := obind hs
 obtain ⟨x28, hx28, hs⟩ := obind hs
 obtain ⟨x29, hx29, hs⟩ := obind hs
 refine rq_seq 47 o25 [0, 1, 3, 7, 15, 31, 63, 127, 255, 511, 127, 1151, 3199, 8191, 16383, 32767, 65535, 131071, 262143, 65535, 589823, 1638399, 4194303, 8388607, 16777215, 33554431, 67108863, 134217727, 33554431, 301989887, 838860799, 2147483647, 4294967295, 8589934591, 17179869183, 34359738367, 68719476735, 17179869183, 154618822655, 429496729599, 1099511627775, 2199023255551, 4398046511103] [dv [] [2] 5 (.agg #[Zi x1.1.1, Zi x1.1.2, Zi x1.2.1, Zi x1.2.2]), dv [0] [] 6 (.bool r26), dv [1] [] 7 (.bool r26), dc [2] [3] r26 8 (.agg #[Zi b2.1.1, Zi b2.1.2, Zi b2.2.1, Zi b2.2.2]), dc [2, 3] [] r26 9 (.bool r27), dv [2, 4] [] 10 (.bool (r26 && r27)), dv [5] [] 11 (.bool (r26 && r27)), dc [6] [2] (r26 && r27) 12 (pt g21 0), dc [6, 7] [] (r26 && r27) 13 (pt g21 0), dc [6, 8] [] (r26 && r27) 14 (Zi x1.1.1), dc [6] [3] (r26 && r27) 15 (pt g23 2), dc [6, 10] [] (r26 && r27) 16 (pt g23 2), dc [6, 11] [] (r26 && r27) 17 (Zi b2.2.1), dc [6, 9, 12] [] (r26 && r27) 18 (.bool (decide (x1.1.1 ≤ b2.2.1))), dv [6, 13] [] 19 (.bool x28), dv [14] [] 20 (.bool x28), dc [15] [3] x28 21 (pt g23 0), dc [15, 16] [] x28 22 (pt g23 0), dc [15, 17] [] x28 23 (Zi b2.1.1), dc [15] [2] x28 24 (pt g21 2), dc [15, 19] [] x28 25 (pt g21 2), dc [15, 20] [] x28 26 (Zi x1.2.1), dc [15, 18, 21] [] x28 27 (.bool (decide (b2.1.1 ≤ x1.2.1))), dv [15, 22] [] 28 (.bool (x28 && (decide (b2.1.1 ≤ x1.2.1)))), dv [23] [] 29 (.bool (x28 && (decide (b2.1.1 ≤ x1.2.1)))), dc [24] [2] (x28 && (decide (b2.1.1 ≤ x1.2.1))) 30 (pt g21 0), dc [24, 25] [] (x28 && (decide (b2.1.1 ≤ x1.2.1))) 31 (pt g21 1), dc [24, 26] [] (x28 && (decide (b2.1.1 ≤ x1.2.1))) 32 (Zi x1.1.2), dc [24] [3] (x28 && (decide (b2.1.1 ≤ x1.2.1))) 33 (pt g23 2), dc [24, 28] [] (x28 && (decide (b2.1.1 ≤ x1.2.1))) 34 (pt g23 3), dc [24, 29] [] (x28 && (decide (b2.1.1 ≤ x1.2.1))) 35 (Zi b2.2.2), dc [24, 27, 30] [] (x28 && (decide (b2.1.1 ≤ x1.2.1))) 36 (.bool (decide (x1.1.2 ≤ b2.2.2))), dv [24, 31] [] 37 (.bool x29), dv [32] [] 38 (.bool x29), dc [33] [3] x29 39 (pt g23 0), dc [33, 34] [] x29 40 (pt g23 1), dc [33, 35] [] x29 41 (Zi b2.1.2), dc [33] [2] x29 42 (pt g21 2), dc [33, 37] [] x29 43 (pt g21 3), dc [33, 38] [] x29 44 (Zi x1.2.2), dc [33, 36, 39] [] x29 45 (.bool (decide (b2.1.2 ≤ x1.2.2))), dv [33, 40] [] 46 (.bool (x29 && (decide (b2.1.2 ≤ x1.2.2)))), dv [41] [] 4 (.bool (x29 && (decide (b2.1.2 ≤ x1.2.2))))] z25 d25 ?_ ?_
 ·exact sL ta80 e25_2 b25_g21 <| sF (fun f => or_call cf48 (args1 f.1) (rows_Right_w _ x1  r26 hr26) post_val) <| sV <| cTL ta80 e25_3 b25_g23 <| cT (fun f _ _ hg => or_call cf48 (args1 (f.2.1.1 hg)) (rows_Right_w _ b2  r27 (gd_t hr27 hg)) post_val) <| sF (fun f => or_and f.1 (fun hx => f.2.1.1 hx) rfl rfl) <| sV <| cT (fun _ s _ _ => or_field fo80_0 (s.1.trans e25_2) (by rfl)) <| cT (fun f _ _ hg => or_field fo25_0 (f.2.1.1 hg) (by rfl)) <| cT (fun f _ hE hg => ld1 to3 (f.2.1.1 hg) (be_ hE b25_g21)) <| cT (fun _ s _ _ => or_field fo80_1 (s.1.trans e25_3) (by rfl)) <| cT (fun f _ _ hg => or_field fo25_0 (f.2.1.1 hg) (by rfl)) <| cT (fun f _ hE hg => ld1 to3 (f.2.1.1 hg) (be_ hE b25_g23)) <| cT (fun f _ _ hg => or_leq (f.2.1.1 hg) (f.2.2.1.1 hg) rfl) <| sF (fun f => or_and f.1 (fun hx => f.2.1.1 hx) rfl (osome hx28).symm) <| sV <| cT (fun _ s _ _ => or_field fo80_0 (s.1.trans e25_3) (by rfl)) <| cT (fun f _ _ hg => or_field fo25_0 (f.2.1.1 hg) (by rfl)) <| cT (fun f _ hE hg => ld1 to3 (f.2.1.1 hg) (be_ hE b25_g23)) <| cT (fun _ s _ _ => or_field fo80_1 (s.1.trans e25_2) (by rfl)) <| cT (fun f _ _ hg => or_field fo25_0 (f.2.1.1 hg) (by rfl)) <| cT (fun f _ hE hg => ld1 to3 (f.2.1.1 hg) (be_ hE b25_g21)) <| cT (fun f _ _ hg => or_leq (f.2.1.1 hg) (f.2.2.1.1 hg) rfl) <| sF (fun f => or_and f.1 (fun hx => f.2.1.1 hx) rfl rfl) <| sV <| cT (fun _ s _ _ => or_field fo80_0 (s.1.trans e25_2) (by rfl)) <| cT (fun f _ _ hg => or_field fo25_1 (f.2.1.1 hg) (by rfl)) <| cT (fun f _ hE hg => ld1 to3 (f.2.1.1 hg) (be_ hE b25_g21)) <| cT (fun _ s _ _ => or_field fo80_1 (s.1.trans e25_3) (by rfl)) <| cT (fun f _ _ hg => or_field fo25_1 (f.2.1.1 hg) (by rfl)) <| cT (fun f _ hE hg => ld1 to3 (f.2.1.1 hg) (be_ hE b25_g23)) <| cT (fun f _ _ hg => or_leq (f.2.1.1 hg) (f.2.2.1.1 hg) rfl) <| sF (fun f => or_and f.1 (fun hx => f.2.1.1 hx) rfl (osome hx29).symm) <| sV <| cT (fun _ s _ _ => or_field fo80_0 (s.1.trans e25_3) (by rfl)) <| cT (fun f _ _ hg => or_field fo25_1 (f.2.1.1 hg) (by rfl)) <| cT (fun f _ hE hg => ld1 to3 (f.2.1.1 hg) (be_ hE b25_g23)) <| cT (fun _ s _ _ => or_field fo80_1 (s.1.trans e25_2) (by rfl)) <| cT (fun f _ _ hg => or_field fo25_1 (f.2.1.1 hg) (by rfl)) <| cT (fun f _ hE hg => ld1 to3 (f.2.1.1 hg) (be_ hE b25_g21)) <| cT (fun f _ _ hg => or_leq (f.2.1.1 hg) (f.2.2.1.1 hg) rfl) <| sF (fun f => or_and f.1 (fun hx => f.2.1.1 hx) rfl rfl) <| sA <| steps_nil
 intro o30 a30 w30 d30 z30 hk30 hf30 hE30
 have e30_4 := gv (hf30 [42] rfl) rfl
 have hX30 := es_ hX25 hE30
 refine fl_ret ?_
 obtain rfl := osome hs
 exact hret _ _ _ _ (.inl rfl) d30 (results1_ rfl (RVal.tmp_ e30_4)) ⟨o30, rfl, hX30⟩
theorem slices_Compact_int_int_w (w : World) (own : Own) (s1 : List Int) (As1 : Option Addr) (cs1 : Nat) (hown : ∀ b, own b ≤ 1) (hs1 : RwO own 1 [] w 3 R3 As1 cs1 s1) (r : List Int) (hs : slices_Compact_int_int s1 = some r) :
  Calls Try.prog 66 #[sl As1 s1 cs1] w fun e w' => ∃ (own' : Own) (x : Option Addr × Nat), e = .returned (.slice x.1 r.length x.2) ∧ Evo [1] own own' w w' ∧ RwO own' 2 [] w' 3 R3 x.1 x.2 r := by
 refine fl_enter (n := 61) rfl rfl rfl (Nat.le_of_ble_eq_true rfl) ?_
 intro a0 Q d0 z0 harg hret
 have ha0 := harg 0 _ rfl
 clear harg
 have hE0 : Evo [1] own own w w := Evo.refl _ _ _
 refine rq_seq 61 own (bz 1) [dv [] [] 2 (.slice none 0 0)] z0 d0 ?_ ?_
 ·exact sO (or_assign rfl) <| steps_nil
 intro o914 a914 w914 d914 z914 hk914 hf914 hE914
 have e914_0 := kt hk914 ha0
 have hX914 := Evo.step hE0 hown hE914 rfl
 have b914_As1 := re_ hE914 hs1
 refine fl_seq (fun Q915 hn915 hp915 => ?_)
 refine rq_seq 61 o914 (bz 3) [dv [] [0] 6 (sl As1 s1 cs1), dv [0] [] 7 (Zi (s1.length : Int)), dv [1] [] 8 (.bool (decide ((s1.length : Int) < 2)))] z914 d914 ?_ ?_
 ·exact sM e914_0 <| sF (fun f => or_len tu22 f.1 rfl) <| sF (fun f => or_lss f.1 rfl rfl) <| steps_nil
 intro o916 a916 w916 d916 z916 hk916 hf916 hE916
 have e916_0 := kt hk916 e914_0
 have e916_8 := gv (hf916 [2] rfl) rfl
 have hX916 := Evo.step hX914 hown hE916 rfl
 have b916_As1 := re_ hE916 b914_As1
 refine fl_cond e916_8 hs (fun c917 hs => ?_) (fun c917 hs => ?_)
 ·refine rq_seq 61 o916 (bz 2) [dv [] [0] 9 (sl As1 s1 cs1), dv [0] [] 2 (sl As1 s1 cs1)] z916 d916 ?_ ?_
  ·exact sM e916_0 <| sA <| steps_nil
  intro o918 a918 w918 d918 z918 hk918 hf918 hE918
  have e918_2 := gv (hf918 [1] rfl) rfl
  have hX918 := Evo.step hX916 hown hE918 rfl
  have b918_As1 := re_ hE918 b916_As1
  refine fl_ret ?_
  refine hp915 _ _ _ rfl ?_
  obtain rfl := (osome hs).symm
  exact hret _ _ _ _ (.inl rfl) d918 (results1_ rfl (RVal.tmp_ e918_2)) ⟨(rl [(1, 2)] o918), (As1, cs1), rfl, (Evo.rl_ hX918 hown rfl), (RwO.rl_ b918_As1)⟩
 refine fl_skip ?_
 refine hn915 _ _ ?_
 refine fl_seq (fun Q919 hn919 hp919 => ?_)
 refine rq_seq 61 o916 (bz 1) [dv [] [] 3 (Zi 1)] z916 d916 ?_ ?_
 ·exact sO (or_assign rfl) <| steps_nil
 intro o920 a920 w920 d920 z920 hk920 hf920 hE920
 have e920_0 := kt hk920 e916_0
 have e920_3 := gv (hf920 [0] rfl) rfl
 have hX920 := Evo.step hX916 hown hE920 rfl
 have b920_As1 := re_ hE920 b916_As1
 refine fl_block (fun Q921 hn921 hx921 hp921 => ?_)
 refine fl_loop (body := (fun s => slices_Compact_int_int_b1 s1 s)) (z := r) (show loopO _ _ = _ from hs) (fun (k1219 : Int) a wx => ∃ (ox : Own), a.defers = [] ∧ a.tmps.size = 61 ∧ a.eval (.tmp 0) = sl As1 s1 cs1 ∧ a.eval (.tmp 3) = Zi k1219 ∧ Evo [1] own ox w wx ∧ RwO ox 1 [] wx 3 R3 As1 cs1 s1) ?_ ?_
 ·exact ⟨o920, d920, z920, e920_0, e920_3, hX920, b920_As1⟩
 ·rintro k1219 zz1517 a1517 w1517 ⟨o1517, d1518, z1518, e1518_0, e1518_3, hE1518, b1518_As1⟩ hs Q1517 hn1517 hp1517 z1517
  have hs : slices_Compact_int_int_b1 s1 k1219 = some zz1517 := hs
  refine fl_seq (fun Q1519 hn1519 hp1519 => ?_)
  refine rq_seq 61 o1517 [0, 0, 2, 7] [dv [] [3] 10 (Zi k1219), dv [] [0] 11 (sl As1 s1 cs1), dv [1] [] 12 (Zi (s1.length : Int)), dv [0, 2] [] 13 (.bool (decide (k1219 < (s1.length : Int))))] z1518 d1518 ?_ ?_
  ·exact sM e1518_3 <| sM e1518_0 <| sF (fun f => or_len tu22 f.1 rfl) <| sF (fun f => or_lss f.1 f.2.1 rfl) <| steps_nil
  intro o1520 a1520 w1520 d1520 z1520 hk1520 hf1520 hE1520
  obtain ⟨e1520_0, e1520_3⟩ := kt2 hk1520 e1518_0 e1518_3
  have e1520_13 := gv (hf1520 [3] rfl) rfl
  have hX1520 := Evo.step hE1518 hown hE1520 rfl
  have b1520_As1 := re_ hE1520 b1518_As1
  refine fl_cond e1520_13 hs (fun c1521 hs => ?_) (fun c1521 hs => ?_)
  ·refine fl_skip ?_
   refine hn1519 _ _ ?_
   refine fl_seq (fun Q1522 hn1522 hp1522 => ?_)
   refine fl_block (fun Q1523 hn1523 hx1523 hp1523 => ?_)
   obtain ⟨x1524, hx1524, hs⟩ := obind hs
   obtain ⟨x1525, hx1525, hs⟩ := obind hs
   refine rd_seq g_mixed 61 [] o1520 [] [0, 0, 3, 7, 0, 0, 32, 112, 240, 511] [dv [] [0] 16 (sl As1 s1 cs1), dv [] [3] 17 (Zi k1219), dv [0, 1] [] 18 (.pointer (some ((adr As1).add ((k1219 : Int).toNat * R3.s)))), dv [2] [] 19 (Zi x1524), dv [] [0] 20 (sl As1 s1 cs1), dv [] [3] 21 (Zi k1219), dv [5] [] 22 (Zi (sb k1219 1)), dv [4, 6] [] 23 (.pointer (some ((adr As1).add ((sb k1219 1 : Int).toNat * R3.s)))), dv [7] [] 24 (Zi x1525), dv [3, 8] [] 25 (.bool (decide (x1524 = x1525)))] z1520 d1520 nm_ ?_ ?_
   ·exact sM e1520_0 <| sM e1520_3 <| sF (fun f => or_index (R := R3) (l := s1) tl22 f.1 f.2.1 (RdO.some_ (RwO.rd b1520_As1) hx1524) hx1524) <| sFE (fun f hE => or_load1 to3 f.1 (CellsAt.zero (RdO.cells (F := E3) (RwO.rd (re_ hE b1520_As1)) hx1524) rfl)) <| sM e1520_0 <| sM e1520_3 <| sF (fun f => or_sub f.1 rfl rfl) <| sF (fun f => or_index (R := R3) (l := s1) tl22 f.1 f.2.1 (RdO.some_ (RwO.rd b1520_As1) hx1525) hx1525) <| sFE (fun f hE => or_load1 to3 f.1 (CellsAt.zero (RdO.cells (F := E3) (RwO.rd (re_ hE b1520_As1)) hx1525) rfl)) <| sF (fun f => or_eql f.1 f.2.1 rfl) <| steps_nil
   intro o1526 a1526 w1526 d1526 z1526 hk1526 hf1526 hE1526
   obtain ⟨e1526_0, e1526_3⟩ := kt2 hk1526 e1520_0 e1520_3
   have e1526_25 := gv (hf1526 [9] rfl) rfl
   have hX1526 := Evo.step hX1520 hown hE1526 rfl
   have b1526_As1 := re_ hE1526 b1520_As1
   refine fl_cond e1526_25 hs (fun c1527 hs => ?_) (fun c1527 hs => ?_)
   ·obtain ⟨x1528, hx1528, hs⟩ := obind hs
    obtain ⟨n1530, hn1530, hs⟩ := obind hs
    refine rq_seq 61 o1526 [0, 0, 3, 7] [dv [] [0] 26 (sl As1 s1 cs1), dv [] [3] 27 (Zi k1219), dv [0, 1] [] 28 (pieceV As1 cs1 R3.s k1219 n1530), dv [2] [] 4 (pieceV As1 cs1 R3.s k1219 n1530)] z1526 d1526 ?_ ?_
    ·exact sM e1526_0 <| sM e1526_3 <| sFE (fun f hE => or_pieceW (R := R3) tu22 ts3 f.1 (Bnd.some_ f.2.1) (Bnd.noneE (osome hn1530)) (RwO.rd (re_ hE b1526_As1)) (cut_toE hn1530 hx1528)) <| sA <| steps_nil
    intro o1531 a1531 w1531 d1531 z1531 hk1531 hf1531 hE1531
    obtain ⟨e1531_0, e1531_3⟩ := kt2 hk1531 e1526_0 e1526_3
    have e1531_4 := gv (hf1531 [3] rfl) rfl
    have hX1531 := Evo.step hX1526 hown hE1531 rfl
    have b1531_As1 := re_ hE1531 b1526_As1
    refine fl_seq (fun Q1532 hn1532 hp1532 => ?_)
    refine rq_seq 61 o1531 (bz 1) [dv [] [] 5 (Zi 1)] z1531 d1531 ?_ ?_
    ·exact sO (or_assign rfl) <| steps_nil
    intro o1533 a1533 w1533 d1533 z1533 hk1533 hf1533 hE1533
    obtain ⟨e1533_0, e1533_3, e1533_4⟩ := kt3 hk1533 e1531_0 e1531_3 e1531_4
    have e1533_5 := gv (hf1533 [0] rfl) rfl
    have hX1533 := Evo.step hX1531 hown hE1533 rfl
    have b1533_As1 := re_ hE1533 b1531_As1
    refine fl_block (fun Q1534 hn1534 hx1534 hp1534 => ?_)
    refine fl_loop (body := (fun s => slices_Compact_int_int_b2 k1219 n1530 s.1 s.2.1 s.2.2)) (z := zz1517) (show loopO _ _ = _ from hs) (fun (s : (List Int) × Int × Int) a wx => match s with | (s1621, k1623, k1624) => ∃ (ox : Own), a.defers = [] ∧ a.tmps.size = 61 ∧ a.eval (.tmp 0) = sl As1 s1621 cs1 ∧ a.eval (.tmp 3) = Zi k1623 ∧ a.eval (.tmp 4) = pieceV As1 cs1 R3.s k1219 n1530 ∧ a.eval (.tmp 5) = Zi k1624 ∧ Evo [1] own ox w wx ∧ RwO ox 1622 [] wx 3 R3 As1 cs1 s1621) ?_ ?_
    ·exact ⟨(rl [(1, 1622)] o1533), d1533, z1533, e1533_0, e1533_3, e1533_4, e1533_5, (Evo.rl_ hX1533 hown rfl), (RwO.rl_ b1533_As1)⟩
    ·rintro ⟨s1621, k1623, k1624⟩ zz1711 a1711 w1711 ⟨o1711, d1712, z1712, e1712_0, e1712_3, e1712_4, e1712_5, hE1712, b1712_As1⟩ hs Q1711 hn1711 hp1711 z1711
     have hs : slices_Compact_int_int_b2 k1219 n1530 s1621 k1623 k1624 = some zz1711 := hs
     refine fl_seq (fun Q1713 hn1713 hp1713 => ?_)
     refine rq_seq 61 o1711 [0, 0, 2, 7] [dv [] [5] 29 (Zi k1624), dv [] [4] 30 (pieceV As1 cs1 R3.s k1219 n1530), dv [1] [] 31 (Zi (n1530 - k1219)), dv [0, 2] [] 32 (.bool (decide (k1624 < (n1530 - k1219))))] z1712 d1712 ?_ ?_
     ·exact sM e1712_5 <| sM e1712_4 <| sF (fun f => or_lenW (R := R3) tu22 f.1 (cut_some hx1528).1 (cut_lt hn1530 hx1528).1 rfl) <| sF (fun f => or_lss f.1 f.2.1 rfl) <| steps_nil
     intro o1714 a1714 w1714 d1714 z1714 hk1714 hf1714 hE1714
     obtain ⟨e1714_0, e1714_3, e1714_4, e1714_5⟩ := kt4 hk1714 e1712_0 e1712_3 e1712_4 e1712_5
     have e1714_32 := gv (hf1714 [3] rfl) rfl
     have hX1714 := Evo.step hE1712 hown hE1714 rfl
     have b1714_As1 := re_ hE1714 b1712_As1
     refine fl_cond e1714_32 hs (fun c1715 hs => ?_) (fun c1715 hs => ?_)
     ·refine fl_skip ?_
      refine hn1713 _ _ ?_
      refine fl_seq (fun Q1716 hn1716 hp1716 => ?_)
      refine fl_block (fun Q1757 hn1757 hx1757 hp1757 => ?_)
      have K1778 : ∀ (a1778 : Act) (w1778 : World) (o1778 : Own) (s1775 : List Int) (k1777 : Int), a1778.defers = [] → a1778.tmps.size = 61 → a1778.eval (.tmp 0) = sl As1 s1775 cs1 → a1778.eval (.tmp 3) = Zi k1777 → a1778.eval (.tmp 4) = pieceV As1 cs1 R3.s k1219 n1530 → a1778.eval (.tmp 5) = Zi k1624 → Evo [1] own o1778 w w1778 → RwO o1778 1776 [] w1778 3 R3 As1 cs1 s1775 → slices_Compact_int_int_k3 k1624 s1775 k1777 = some zz1711 → (Q1757 .normal a1778 w1778 ∧ Q1757 (.exit 3) a1778 w1778) := by
       intro a1778 w1778 o1778 s1775 k1777 d1779 z1779 e1779_0 e1779_3 e1779_4 e1779_5 hE1779 b1779_As1 hs
       refine and_both (hn1757 _ _) (hx1757 _ _) ?_
       refine hn1716 _ _ ?_
       refine rq 61 o1778 (bz 3) [dv [] [5] 33 (Zi k1624), dv [0] [] 34 (Zi (ad k1624 1)), dv [1] [] 5 (Zi (ad k1624 1))] z1779 d1779 ?_ ?_
       ·exact sM e1779_5 <| sF (fun f => or_add f.1 rfl rfl) <| sA <| steps_nil
       intro o1780 a1780 w1780 d1780 z1780 hk1780 hf1780 hE1780
       obtain ⟨e1780_0, e1780_3, e1780_4⟩ := kt3 hk1780 e1779_0 e1779_3 e1779_4
       have e1780_5 := gv (hf1780 [2] rfl) rfl
       have hX1780 := Evo.step hE1779 hown hE1780 rfl
       have b1780_As1 := re_ hE1780 b1779_As1
       exact hn1711 _ _ _ hs ⟨(rl [(1776, 1622)] o1780), d1780, z1780, e1780_0, e1780_3, e1780_4, e1780_5, (Evo.rl_ hX1780 hown rfl), (RwO.rl_ b1780_As1)⟩
      obtain ⟨q1781, hq1781, hs⟩ := obind hs
      obtain ⟨x1782, hx1782, hs⟩ := obind hs
      obtain ⟨q1783, hq1783, hs⟩ := obind hs
      obtain ⟨x1784, hx1784, hs⟩ := obind hs
      refine rd_seq g_mixed 61 [] o1714 [] [0, 0, 3, 7, 0, 0, 32, 112, 240, 511] [dv [] [4] 35 (pieceV As1 cs1 R3.s k1219 n1530), dv [] [5] 36 (Zi k1624), dv [0, 1] [] 37 (.pointer (some ((adr As1).add ((q1781 : Int).toNat * R3.s)))), dv [2] [] 38 (Zi x1782), dv [] [4] 39 (pieceV As1 cs1 R3.s k1219 n1530), dv [] [5] 40 (Zi k1624), dv [5] [] 41 (Zi (sb k1624 1)), dv [4, 6] [] 42 (.pointer (some ((adr As1).add ((q1783 : Int).toNat * R3.s)))), dv [7] [] 43 (Zi x1784), dv [3, 8] [] 44 (.bool (!decide (x1782 = x1784)))] z1714 d1714 nm_ ?_ ?_
      ·exact sM e1714_4 <| sM e1714_5 <| sF (fun f => or_indexW (R := R3) tl22 f.1 f.2.1 (RdO.some_ (RwO.rd b1714_As1) hx1782) (cut_some hx1528).1 (piece_le (cut_toE hn1530 hx1528) (RwO.rd b1526_As1)) hq1781) <| sFE (fun f hE => or_load1 to3 f.1 (CellsAt.zero (RdO.cells (F := E3) (RwO.rd (re_ hE b1714_As1)) hx1782) rfl)) <| sM e1714_4 <| sM e1714_5 <| sF (fun f => or_sub f.1 rfl rfl) <| sF (fun f => or_indexW (R := R3) tl22 f.1 f.2.1 (RdO.some_ (RwO.rd b1714_As1) hx1784) (cut_some hx1528).1 (piece_le (cut_toE hn1530 hx1528) (RwO.rd b1526_As1)) hq1783) <| sFE (fun f hE => or_load1 to3 f.1 (CellsAt.zero (RdO.cells (F := E3) (RwO.rd (re_ hE b1714_As1)) hx1784) rfl)) <| sF (fun f => or_neq f.1 f.2.1 rfl) <| steps_nil
      intro o1785 a1785 w1785 d1785 z1785 hk1785 hf1785 hE1785
      obtain ⟨e1785_0, e1785_3, e1785_4, e1785_5⟩ := kt4 hk1785 e1714_0 e1714_3 e1714_4 e1714_5
      have e1785_44 := gv (hf1785 [9] rfl) rfl
      have hX1785 := Evo.step hX1714 hown hE1785 rfl
      have b1785_As1 := re_ hE1785 b1714_As1
      refine fl_cond e1785_44 hs (fun c1786 hs => ?_) (fun c1786 hs => ?_)
      ·obtain ⟨q1790, hq1790, hs⟩ := obind hs
       obtain ⟨x1791, hx1791, hs⟩ := obind hs
       obtain ⟨x1792, hx1792, hs⟩ := obind hs
       obtain ⟨l1793, hl1793, hs⟩ := obind hs
       refine rr_seq 61 [Fct.rowAt 1622 [] 3 R3 As1 cs1 s1621] o1785 [1622] [0, 0, 0, 0, 12, 28, 63, 127] [dv [] [0] 45 (sl As1 s1621 cs1), dv [] [3] 46 (Zi k1623), dv [] [4] 47 (pieceV As1 cs1 R3.s k1219 n1530), dv [] [5] 48 (Zi k1624), dv [2, 3, 8] [] 49 (.pointer (some ((adr As1).add ((q1790 : Int).toNat * R3.s)))), dv [4, 8] [] 50 (Zi x1791), dv [0, 1] [] 51 (.pointer (some ((adr As1).add ((k1623 : Int).toNat * R3.s)))), ⟨[6, 5, 8], [], [1622], Fct.rowAt 1794 [] 3 R3 As1 cs1 l1793⟩] z1785 d1785 (fm1 b1785_As1) ?_ ?_
       ·refine sM e1785_0 <| sM e1785_3 <| sM e1785_4 <| sM e1785_5 ?_
        refine sc (fun own a wx hf hsl hE => ?_) ?_
        ·obtain ⟨f_47, f_48, b_As1, -⟩ := hf
         exact px (or_indexW (R := R3) tl22 f_47 f_48 (RdO.some_ (RwO.rd b1785_As1) hx1791) (cut_some hx1528).1 (piece_le (cut_toE hn1530 hx1528) (RwO.rd b1526_As1)) hq1790)
        refine sc (fun own a wx hf hsl hE => ?_) ?_
        ·obtain ⟨f_49, b_As1, -⟩ := hf
         exact px (or_load1 to3 f_49 (CellsAt.zero (RdO.cells (F := E3) (RwO.rd b_As1) hx1791) rfl))
        refine sF (fun f => or_index (R := R3) (l := s1621) tl22 f.1 f.2.1 (RdO.some_ (RwO.rd b1785_As1) hx1792) hx1792) ?_
        refine sc (fun own a wx hf hsl hE => ?_) ?_
        ·obtain ⟨f_51, f_50, b_As1, -⟩ := hf
         exact px (or_storeIx (R := R3) (lab := 1622) (lab2 := 1794) (cs := [Zi x1791]) (v := x1791) ts3 f_51 f_50 rfl (Rep.fl_flat _) (fun _ _ => rfl) b_As1 hl1793 (mem_of rfl) (by decide) (fun own' a' w' ha hb => hb))
        exact steps_nil
       intro o1795 a1795 w1795 d1795 z1795 hk1795 hf1795 hE1795
       obtain ⟨e1795_0, e1795_3, e1795_4, e1795_5⟩ := kt4 hk1795 e1785_0 e1785_3 e1785_4 e1785_5
       obtain ⟨(b1795_As1 : RwO o1795 1794 [] w1795 3 R3 As1 cs1 l1793), -⟩ := hf1795 [7] rfl
       have hX1795 := Evo.step hX1785 hown hE1795 rfl
       have m1796_0 : a1795.eval (.tmp 0) = sl As1 l1793 cs1 := e1795_0.trans (by (try unfold sl); rw [put_len hl1793])
       refine rq 61 o1795 (bz 3) [dv [] [3] 52 (Zi k1623), dv [0] [] 53 (Zi (ad k1623 1)), dv [1] [] 3 (Zi (ad k1623 1))] z1795 d1795 ?_ ?_
       ·exact sM e1795_3 <| sF (fun f => or_add f.1 rfl rfl) <| sA <| steps_nil
       intro o1797 a1797 w1797 d1797 z1797 hk1797 hf1797 hE1797
       obtain ⟨e1797_0, e1797_4, e1797_5⟩ := kt3 hk1797 m1796_0 e1795_4 e1795_5
       have e1797_3 := gv (hf1797 [2] rfl) rfl
       have hX1797 := Evo.step hX1795 hown hE1797 rfl
       have b1797_As1 := re_ hE1797 b1795_As1
       exact (K1778 _ _ (rl [(1794, 1776)] o1797) _ _ d1797 z1797 e1797_0 e1797_3 e1797_4 e1797_5 (Evo.rl_ hX1797 hown rfl) (RwO.rl_ b1797_As1) hs).1
      refine fl_skip ?_
      exact (K1778 _ _ (rl [(1622, 1776)] o1785) _ _ d1785 z1785 e1785_0 e1785_3 e1785_4 e1785_5 (Evo.rl_ hX1785 hown rfl) (RwO.rl_ b1785_As1) hs).1
     refine fl_exit ?_
     refine hp1713 _ _ _ rfl ?_
     replace hs := z1711 _ hs
     refine hp1711 _ _ _ rfl ?_
     refine hx1534 _ _ ?_
     refine hn1532 _ _ ?_
     obtain ⟨x1801, hx1801, hs⟩ := obind hs
     obtain ⟨n1803, hn1803, hs⟩ := obind hs
     obtain ⟨l1804, hl1804, hs⟩ := obind hs
     refine rr_seq 61 [Fct.rowAt 1622 [] 3 R3 As1 cs1 s1621] o1714 [1622] [0, 0, 3, 7] [dv [] [0] 54 (sl As1 s1621 cs1), dv [] [3] 55 (Zi k1623), dv [0, 1, 4] [] 56 (pieceV As1 cs1 R3.s k1623 n1803), ⟨[2, 4], [], [1622], Fct.rowAt 1805 [] 3 R3 As1 cs1 l1804⟩] z1714 d1714 (fm1 b1714_As1) ?_ ?_
     ·refine sM e1714_0 <| sM e1714_3 ?_
      refine sc (fun own a wx hf hsl hE => ?_) ?_
      ·obtain ⟨f_54, f_55, b_As1, -⟩ := hf
       exact px (or_pieceW (R := R3) tu22 ts3 f_54 (Bnd.some_ f_55) (Bnd.noneE (osome hn1803)) (RwO.rd b_As1) (cut_toE hn1803 hx1801))
      refine sc (fun own a wx hf hsl hE => ?_) ?_
      ·obtain ⟨f_56, b_As1, -⟩ := hf
       exact px (or_clear (R := R3) (lab := 1622) (lab2 := 1805) (z := Zi 0) (dv := 0) tu22 (by kernel_rfl) rfl f_56 b_As1 hl1804 (Rep.fl_flat _) (fun _ _ => rfl) (mem_of rfl) (by decide) (fun own' a' w' hb => hb))
      exact steps_nil
     intro o1806 a1806 w1806 d1806 z1806 hk1806 hf1806 hE1806
     obtain ⟨e1806_0, e1806_3⟩ := kt2 hk1806 e1714_0 e1714_3
     obtain ⟨(b1806_As1 : RwO o1806 1805 [] w1806 3 R3 As1 cs1 l1804), -⟩ := hf1806 [3] rfl
     have hX1806 := Evo.step hX1714 hown hE1806 rfl
     have m1807_0 : a1806.eval (.tmp 0) = sl As1 l1804 cs1 := e1806_0.trans (by (try unfold sl); rw [clr_len hl1804])
     obtain ⟨x1810, hx1810, hs⟩ := obind hs
     refine rr_seq 61 [Fct.rowAt 1805 [] 3 R3 As1 cs1 l1804] o1806 [1805] [0, 0, 3, 7] [dv [] [0] 57 (sl As1 l1804 cs1), dv [] [3] 58 (Zi k1623), ⟨[0, 1, 4], [], [1805], Fct.row 1812 [] 59 3 R3 x1810⟩, ⟨[2], [], [], Fct.rel [2, 59] (fun l => ∀ (A1811 : Option Addr) (cA1811 : Nat), l.getD 1 undef = sl A1811 x1810 cA1811 → l.getD 0 undef = sl A1811 x1810 cA1811)⟩] z1806 d1806 (fm1 b1806_As1) ?_ ?_
     ·refine sM m1807_0 <| sM e1806_3 ?_
      refine sc (fun own a wx hf hsl hE => ?_) ?_
      ·obtain ⟨f_57, f_58, b_As1, -⟩ := hf
       exact px (or_keep (R := R3) (lab := 1805) (lab2 := 1812) tu22 ts3 f_57 (Bnd.some_ f_58) b_As1 hx1810 (mem_of rfl) (by decide) (.inl (Rep.fl_flat _)))
      refine sc (fun own a wx hf hsl hE => ?_) ?_
      ·obtain ⟨⟨⟨A1811, cA1811⟩, (f_59 : a.eval (.tmp 59) = sl A1811 x1810 cA1811), b_A1811⟩, -⟩ := hf
       exact px (or_mono (f := Fct.val 2 (sl A1811 x1810 cA1811)) (or_assign f_59) (fun own' a' w' v' hp h => fun _ _ h0' => by cases (f_59.symm.trans ((hp.2 59 (by decide)).symm.trans h0')); exact h))
      exact steps_nil
     intro o1813 a1813 w1813 d1813 z1813 hk1813 hf1813 hE1813
     obtain ⟨⟨⟨A1811, cA1811⟩, (f_59 : a1813.eval (.tmp 59) = sl A1811 x1810 cA1811), (b1813_A1811 : RwO o1813 1812 [] w1813 3 R3 A1811 cA1811 x1810)⟩, (q_2 : ∀ (A1811 : Option Addr) (cA1811 : Nat), a1813.eval (.tmp 59) = sl A1811 x1810 cA1811 → a1813.eval (.tmp 2) = sl A1811 x1810 cA1811), -⟩ := hf1813 [2, 3] rfl
     have e1813_2 := q_2 _ _ f_59
     have hX1813 := Evo.step hX1806 hown hE1813 rfl
     refine fl_ret ?_
     refine hp1523 _ _ _ rfl ?_
     refine hp1522 _ _ _ rfl ?_
     replace hs := z1517 _ hs
     refine hp1517 _ _ _ rfl ?_
     refine hp921 _ _ _ rfl ?_
     refine hp919 _ _ _ rfl ?_
     obtain rfl := (osome hs).symm
     exact hret _ _ _ _ (.inl rfl) d1813 (results1_ rfl (RVal.tmp_ e1813_2)) ⟨(rl [(1812, 2)] o1813), (A1811, cA1811), rfl, (Evo.rl_ hX1813 hown rfl), (RwO.rl_ b1813_A1811)⟩
   refine fl_skip ?_
   refine hn1523 _ _ ?_
   refine hn1522 _ _ ?_
   refine rq 61 o1526 (bz 3) [dv [] [3] 14 (Zi k1219), dv [0] [] 15 (Zi (ad k1219 1)), dv [1] [] 3 (Zi (ad k1219 1))] z1526 d1526 ?_ ?_
   ·exact sM e1526_3 <| sF (fun f => or_add f.1 rfl rfl) <| sA <| steps_nil
   intro o1814 a1814 w1814 d1814 z1814 hk1814 hf1814 hE1814
   have e1814_0 := kt hk1814 e1526_0
   have e1814_3 := gv (hf1814 [2] rfl) rfl
   have hX1814 := Evo.step hX1526 hown hE1814 rfl
   have b1814_As1 := re_ hE1814 b1526_As1
   exact hn1517 _ _ _ hs ⟨o1814, d1814, z1814, e1814_0, e1814_3, hX1814, b1814_As1⟩
  refine fl_exit ?_
  refine hp1519 _ _ _ rfl ?_
  replace hs := z1517 _ hs
  refine hp1517 _ _ _ rfl ?_
  refine hx921 _ _ ?_
  refine hn919 _ _ ?_
  refine rq_seq 61 o1520 (bz 2) [dv [] [0] 60 (sl As1 s1 cs1), dv [0] [] 2 (sl As1 s1 cs1)] z1520 d1520 ?_ ?_
  ·exact sM e1520_0 <| sA <| steps_nil
  intro o1815 a1815 w1815 d1815 z1815 hk1815 hf1815 hE1815
  have e1815_2 := gv (hf1815 [1] rfl) rfl
  have hX1815 := Evo.step hX1520 hown hE1815 rfl
  have b1815_As1 := re_ hE1815 b1520_As1
  refine fl_ret ?_
  obtain rfl := (osome hs).symm
  exact hret _ _ _ _ (.inl rfl) d1815 (results1_ rfl (RVal.tmp_ e1815_2)) ⟨(rl [(1, 2)] o1815), (As1, cs1), rfl, (Evo.rl_ hX1815 hown rfl), (RwO.rl_ b1815_As1)⟩
end Go.Proofs.Ytoccfdohlefifaa
