import Derived.Test.YtnmkonlfnpcoiaaWp3
import Derived.Test.YtnmkonlfnpcoiaaSp4
namespace Go.Proofs.Ytnmkonlfnpcoiaa
open Go.RowKit
set_option linter.unusedVariables false
set_option maxRecDepth 10000
theorem pack_Pack_Blobs_w (w : World) (p1 : (List Int) × (List (List Int)) × (List ((Int × Int × Int) × Int))) (gp1 : Nat) (tp1 : TypeId) (Ap1_0 : Option Addr) (cp1_0 : Nat) (Ap1_1 : Option Addr) (cp1_1 : Nat) (Ap1_2 : Option Addr) (cp1_2 : Nat) (hgp1 : BlkO (fun _ => 0) 0 w gp1 tp1 #[sl Ap1_0 p1.1 cp1_0, sl Ap1_1 p1.2.1 cp1_1, sl Ap1_2 p1.2.2 cp1_2]) (hAp1_0 : RdO (fun _ => 0) [0] w R5 Ap1_0 cp1_0 p1.1) (hAp1_1 : RdO (fun _ => 0) [0] w R22 Ap1_1 cp1_1 p1.2.1) (hAp1_2 : RdO (fun _ => 0) [0] w R66 Ap1_2 cp1_2 p1.2.2) (r : Int) (hs : pack_Pack_Blobs p1 = some r) :
  Calls Try.prog 13 #[pt gp1 0] w fun e w' => ∃ own' : Own, e = .returned (Zi r) ∧ Evo [] (fun _ => 0) own' w w' := by
 refine fl_enter (n := 10) rfl rfl rfl (Nat.le_of_ble_eq_true rfl) ?_
 intro a0 Q d0 z0 harg hret
 have ha0 := harg 0 _ rfl
 clear harg
 have hE0 : Evo [] (fun _ => 0) (fun _ => 0) w w := Evo.refl _ _ _
 refine rq_seq 10 (fun _ => 0) (bz 1) [dv [] [] 2 (Zi 0)] z0 d0 ?_ ?_
 ·exact sO (or_assign rfl) <| steps_nil
 intro o15 a15 w15 d15 z15 hk15 hf15 hE15
 have e15_0 := kt hk15 ha0
 have hX15 := es_ hE0 hE15
 refine fl_seq (fun Q16 hn16 hp16 => ?_)
 refine rq_seq 10 o15 (bz 2) [dv [] [0] 3 (pt gp1 0), dv [0] [] 4 (.bool false)] z15 d15 ?_ ?_
 ·exact sM e15_0 <| sF (fun f => ok1 f.1) <| steps_nil
 intro o17 a17 w17 d17 z17 hk17 hf17 hE17
 have e17_0 := kt hk17 e15_0
 have e17_4 := gv (hf17 [1] rfl) rfl
 have hX17 := es_ hX15 hE17
 refine fl_f e17_4 ?_
 refine fl_skip ?_
 refine hn16 _ _ ?_
 refine rq_seq 10 o17 (bz 6) [dv [] [0] 5 (pt gp1 0), dv [0] [] 6 (pt gp1 0), dv [1] [] 7 (pt gp1 1), dv [2] [] 8 (sl Ap1_1 p1.2.1 cp1_1), dv [3] [] 9 (Zi (p1.2.1.length : Int)), dv [4] [] 2 (Zi (p1.2.1.length : Int))] z17 d17 ?_ ?_
 ·exact sM e17_0 <| sF (fun f => ok1 f.1) <| sF (fun f => or_field fo64_1 f.1 (by rfl)) <| sG to61 (be_ hX17 hgp1) <| sF (fun f => or_len tu61 f.1 rfl) <| sA <| steps_nil
 intro o18 a18 w18 d18 z18 hk18 hf18 hE18
 have e18_2 := gv (hf18 [5] rfl) rfl
 have hX18 := es_ hX17 hE18
 refine fl_ret ?_
 obtain rfl := osome hs
 exact hret _ _ _ _ (.inl rfl) d18 (results1_ rfl (RVal.tmp_ e18_2)) ⟨o18, rfl, hX18⟩
theorem pack_Pack_Len_w (w : World) (p1 : (List Int) × (List (List Int)) × (List ((Int × Int × Int) × Int))) (gp1 : Nat) (tp1 : TypeId) (Ap1_0 : Option Addr) (cp1_0 : Nat) (Ap1_1 : Option Addr) (cp1_1 : Nat) (Ap1_2 : Option Addr) (cp1_2 : Nat) (hgp1 : BlkO (fun _ => 0) 0 w gp1 tp1 #[sl Ap1_0 p1.1 cp1_0, sl Ap1_1 p1.2.1 cp1_1, sl Ap1_2 p1.2.2 cp1_2]) (hAp1_0 : RdO (fun _ => 0) [0] w R5 Ap1_0 cp1_0 p1.1) (hAp1_1 : RdO (fun _ => 0) [0] w R22 Ap1_1 cp1_1 p1.2.1) (hAp1_2 : RdO (fun _ => 0) [0] w R66 Ap1_2 cp1_2 p1.2.2) (r : Int) (hs : pack_Pack_Len p1 = some r) :
  Calls Try.prog 14 #[pt gp1 0] w fun e w' => ∃ own' : Own, e = .returned (Zi r) ∧ Evo [] (fun _ => 0) own' w w' := by
 refine fl_enter (n := 10) rfl rfl rfl (Nat.le_of_ble_eq_true rfl) ?_
 intro a0 Q d0 z0 harg hret
 have ha0 := harg 0 _ rfl
 clear harg
 have hE0 : Evo [] (fun _ => 0) (fun _ => 0) w w := Evo.refl _ _ _
 refine rq_seq 10 (fun _ => 0) (bz 1) [dv [] [] 2 (Zi 0)] z0 d0 ?_ ?_
 ·exact sO (or_assign rfl) <| steps_nil
 intro o15 a15 w15 d15 z15 hk15 hf15 hE15
 have e15_0 := kt hk15 ha0
 have hX15 := es_ hE0 hE15
 refine fl_seq (fun Q16 hn16 hp16 => ?_)
 refine rq_seq 10 o15 (bz 2) [dv [] [0] 3 (pt gp1 0), dv [0] [] 4 (.bool false)] z15 d15 ?_ ?_
 ·exact sM e15_0 <| sF (fun f => ok1 f.1) <| steps_nil
 intro o17 a17 w17 d17 z17 hk17 hf17 hE17
 have e17_0 := kt hk17 e15_0
 have e17_4 := gv (hf17 [1] rfl) rfl
 have hX17 := es_ hX15 hE17
 refine fl_f e17_4 ?_
 refine fl_skip ?_
 refine hn16 _ _ ?_
 refine rq_seq 10 o17 (bz 6) [dv [] [0] 5 (pt gp1 0), dv [0] [] 6 (pt gp1 0), dv [1] [] 7 (pt gp1 2), dv [2] [] 8 (sl Ap1_2 p1.2.2 cp1_2), dv [3] [] 9 (Zi (p1.2.2.length : Int)), dv [4] [] 2 (Zi (p1.2.2.length : Int))] z17 d17 ?_ ?_
 ·exact sM e17_0 <| sF (fun f => ok1 f.1) <| sF (fun f => or_field fo64_2 f.1 (by rfl)) <| sG to62 (be_ hX17 hgp1) <| sF (fun f => or_len tu62 f.1 rfl) <| sA <| steps_nil
 intro o18 a18 w18 d18 z18 hk18 hf18 hE18
 have e18_2 := gv (hf18 [5] rfl) rfl
 have hX18 := es_ hX17 hE18
 refine fl_ret ?_
 obtain rfl := osome hs
 exact hret _ _ _ _ (.inl rfl) d18 (results1_ rfl (RVal.tmp_ e18_2)) ⟨o18, rfl, hX18⟩
theorem law27_known_w (w : World) (r : Bool) (hs : law27_known = some r) :
  Calls Try.prog 9 #[] w fun e w' => ∃ own' : Own, e = .returned (.bool r) ∧ Evo [] (fun _ => 0) own' w w' := by
 refine fl_enter (n := 55) rfl rfl rfl (Nat.le_of_ble_eq_true rfl) ?_
 intro a0 Q d0 z0 harg hret
 clear harg
 have hE0 : Evo [] (fun _ => 0) (fun _ => 0) w w := Evo.refl _ _ _
 refine rq_seq 55 (fun _ => 0) (bz 1) [dv [] [] 0 (.bool false)] z0 d0 ?_ ?_
 ·exact sO (or_assign rfl) <| steps_nil
 intro o51 a51 w51 d51 z51 hk51 hf51 hE51
 have hX51 := es_ hE0 hE51
 obtain ⟨r52, hr52, hs⟩ := obind hs
 refine rq_seq 55 o51 [0, 1, 3, 3, 7, 31] [⟨[], [], [], Fct.mems [54] 8 (fun (x : Option Addr × Nat) => .tuple #[.slice x.1 r52.1.length x.2, Zi r52.2]) (fun (x : Option Addr × Nat) own w => RwO own 54 [] w 5 R5 x.1 x.2 r52.1) (fun hk he h => RwO.evo (hits_sub hk (by decide)) he h)⟩, ⟨[0], [], [], Fct.rel [7, 8] (fun l => ∀ (A53 : Option Addr) (cA53 : Nat), l.getD 1 undef = .tuple #[sl A53 r52.1 cA53, Zi r52.2] → l.getD 0 undef = .tuple #[sl A53 r52.1 cA53, Zi r52.2])⟩, ⟨[1, 0], [], [], Fct.rel [9, 8] (fun l => ∀ (A53 : Option Addr) (cA53 : Nat), l.getD 1 undef = .tuple #[sl A53 r52.1 cA53, Zi r52.2] → l.getD 0 undef = sl A53 r52.1 cA53)⟩, dv [1, 0] [] 10 (Zi r52.2), ⟨[2, 0], [], [], Fct.rel [1, 8] (fun l => ∀ (A53 : Option Addr) (cA53 : Nat), l.getD 1 undef = .tuple #[sl A53 r52.1 cA53, Zi r52.2] → l.getD 0 undef = sl A53 r52.1 cA53)⟩, dv [3] [] 2 (Zi r52.2)] z51 d51 ?_ ?_
 ·refine sO (or_call cf10 (args2 rfl rfl) (pack_Write_w _ ([] : List Int) none 0 ([] : List ((Int × Int × Int) × (List Int))) none 0 RdO.nil_ RdO.nil_ r52 hr52) (post_mems (m := (fun _ => 0)) (m' := (look0 [(1, 54)])) (fun _ _ => .inl rfl) (fun own' w' a' x h1 h => ⟨x, h1, RwO.back_ h (by decide) (.inl (Rep.fl_flat _))⟩))) ?_
  refine sc (fun own a wx hf hsl hE => ?_) ?_
  ·obtain ⟨⟨⟨A53, cA53⟩, (f_8 : a.eval (.tmp 8) = .tuple #[sl A53 r52.1 cA53, Zi r52.2]), b_A53⟩, -⟩ := hf
   exact px (or_mono (f := Fct.val 7 (.tuple #[sl A53 r52.1 cA53, Zi r52.2])) (or_move f_8) (fun own' a' w' v' hp h => fun _ _ h0' => by cases (f_8.symm.trans ((hp.2 8 (by decide)).symm.trans h0')); exact h))
  refine sc (fun own a wx hf hsl hE => ?_) ?_
  ·obtain ⟨(q_7 : ∀ (A53 : Option Addr) (cA53 : Nat), a.eval (.tmp 8) = .tuple #[sl A53 r52.1 cA53, Zi r52.2] → a.eval (.tmp 7) = .tuple #[sl A53 r52.1 cA53, Zi r52.2]), ⟨⟨A53, cA53⟩, (f_8 : a.eval (.tmp 8) = .tuple #[sl A53 r52.1 cA53, Zi r52.2]), b_A53⟩, -⟩ := hf
   have f_7 := q_7 _ _ f_8
   exact px (or_mono (f := Fct.val 9 (sl A53 r52.1 cA53)) (ok1 f_7) (fun own' a' w' v' hp h => fun _ _ h0' => by cases (f_8.symm.trans ((hp.2 8 (by decide)).symm.trans h0')); exact h))
  refine sc (fun own a wx hf hsl hE => ?_) ?_
  ·obtain ⟨(q_7 : ∀ (A53 : Option Addr) (cA53 : Nat), a.eval (.tmp 8) = .tuple #[sl A53 r52.1 cA53, Zi r52.2] → a.eval (.tmp 7) = .tuple #[sl A53 r52.1 cA53, Zi r52.2]), ⟨⟨A53, cA53⟩, f_8, b_A53⟩, -⟩ := hf
   have f_7 := q_7 _ _ f_8
   exact px (ok1 f_7)
  refine sc (fun own a wx hf hsl hE => ?_) ?_
  ·obtain ⟨(q_9 : ∀ (A53 : Option Addr) (cA53 : Nat), a.eval (.tmp 8) = .tuple #[sl A53 r52.1 cA53, Zi r52.2] → a.eval (.tmp 9) = sl A53 r52.1 cA53), ⟨⟨A53, cA53⟩, (f_8 : a.eval (.tmp 8) = .tuple #[sl A53 r52.1 cA53, Zi r52.2]), b_A53⟩, -⟩ := hf
   have f_9 := q_9 _ _ f_8
   exact px (or_mono (f := Fct.val 1 (sl A53 r52.1 cA53)) (or_assign f_9) (fun own' a' w' v' hp h => fun _ _ h0' => by cases (f_8.symm.trans ((hp.2 8 (by decide)).symm.trans h0')); exact h))
  exact sA <| steps_nil
 intro o55 a55 w55 d55 z55 hk55 hf55 hE55
 have e55_2 := gv (hf55 [5] rfl) rfl
 obtain ⟨⟨⟨A53, cA53⟩, (f_8 : a55.eval (.tmp 8) = .tuple #[sl A53 r52.1 cA53, Zi r52.2]), (b55_A53 : RwO o55 54 [] w55 5 R5 A53 cA53 r52.1)⟩, (q_1 : ∀ (A53 : Option Addr) (cA53 : Nat), a55.eval (.tmp 8) = .tuple #[sl A53 r52.1 cA53, Zi r52.2] → a55.eval (.tmp 1) = sl A53 r52.1 cA53), -⟩ := hf55 [0, 4] rfl
 have e55_1 := q_1 _ _ f_8
 have hX55 := es_ hX51 hE55
 obtain ⟨r60, hr60, hs⟩ := obind hs
 refine rq_seq 55 o55 [0, 1, 3, 7, 15, 31, 31, 63, 255] [⟨[], [], [], Fct.row 57 [] 12 5 R5 [7]⟩, ⟨[0], [], [], Fct.rel [13, 12] (fun l => ∀ (A56 : Option Addr) (cA56 : Nat), l.getD 1 undef = .slice A56 [7].length cA56 → l.getD 0 undef = .agg #[Zi 0, Zi 0, Zi 0, .slice A56 [7].length cA56])⟩, ⟨[1, 0], [], [], Fct.row 59 [57] 14 30 R30 [((0, 0, 0), [7])]⟩, ⟨[2], [], [], Fct.mems [62] 15 (fun (x : Option Addr × Nat) => .tuple #[.slice x.1 r60.1.length x.2, Zi r60.2]) (fun (x : Option Addr × Nat) own w => RwO own 62 [] w 5 R5 x.1 x.2 r60.1) (fun hk he h => RwO.evo (hits_sub hk (by decide)) he h)⟩, ⟨[3], [], [], Fct.rel [11, 15] (fun l => ∀ (A61 : Option Addr) (cA61 : Nat), l.getD 1 undef = .tuple #[sl A61 r60.1 cA61, Zi r60.2] → l.getD 0 undef = .tuple #[sl A61 r60.1 cA61, Zi r60.2])⟩, ⟨[4, 3], [], [], Fct.rel [16, 15] (fun l => ∀ (A61 : Option Addr) (cA61 : Nat), l.getD 1 undef = .tuple #[sl A61 r60.1 cA61, Zi r60.2] → l.getD 0 undef = sl A61 r60.1 cA61)⟩, dv [4, 3] [] 17 (Zi r60.2), ⟨[5, 3], [], [], Fct.rel [3, 15] (fun l => ∀ (A61 : Option Addr) (cA61 : Nat), l.getD 1 undef = .tuple #[sl A61 r60.1 cA61, Zi r60.2] → l.getD 0 undef = sl A61 r60.1 cA61)⟩, dv [6] [] 4 (Zi r60.2)] z55 d55 ?_ ?_
 ·refine sO (or_lit (lab := 57) (e := 5) (cs := #[.int .u8 7]) (F := E5) (nw0) rfl rfl (show 1 ≤ maxLen by decide)) ?_
  refine sc (fun own a wx hf hsl hE => ?_) ?_
  ·obtain ⟨⟨⟨A56, cA56⟩, (f_12 : a.eval (.tmp 12) = .slice A56 [7].length cA56), b_A56⟩, -⟩ := hf
   exact px (or_mono (f := Fct.val 13 (.agg #[Zi 0, Zi 0, Zi 0, .slice A56 [7].length cA56])) (ok1 f_12) (fun own' a' w' v' hp h => fun _ _ h0' => by cases (f_12.symm.trans ((hp.2 12 (by decide)).symm.trans h0')); exact h))
  refine sc (fun own a wx hf hsl hE => ?_) ?_
  ·obtain ⟨(q_13 : ∀ (A56 : Option Addr) (cA56 : Nat), a.eval (.tmp 12) = .slice A56 [7].length cA56 → a.eval (.tmp 13) = .agg #[Zi 0, Zi 0, Zi 0, .slice A56 [7].length cA56]), ⟨⟨A56, cA56⟩, f_12, b_A56⟩, -⟩ := hf
   have f_13 := q_13 _ _ f_12
   exact px (or_litN (R := R30) (lab := 59) (L := [57]) (e := 30) (cs := #[Zi 0, Zi 0, Zi 0, .slice A56 [7].length cA56]) (l := [((0, 0, 0), [7])]) (n := 1) [(13, .agg #[Zi 0, Zi 0, Zi 0, .slice A56 [7].length cA56])] rfl rfl ⟨f_13, trivial⟩ (by kernel_rfl) rfl (by decide) ⟨(Ex.iff X30).2 ⟨((), (A56, cA56)), rfl, ⟨trivial, (RwO.rd b_A56)⟩⟩, rfl⟩ rfl)
  refine sc (fun own a wx hf hsl hE => ?_) ?_
  ·obtain ⟨⟨⟨A58, cA58⟩, f_14, b_A58⟩, -⟩ := hf
   exact px (or_call cf10 (args2 rfl f_14) (pack_Write_w _ ([] : List Int) none 0 [((0, 0, 0), [7])] A58 cA58 RdO.nil_ (RdO.zero (RwO.rd b_A58)) r60 hr60) (post_mems (m := (fun _ => 0)) (m' := (look0 [(1, 62)])) (fun _ _ => .inl rfl) (fun own' w' a' x h1 h => ⟨x, h1, RwO.back_ h (by decide) (.inl (Rep.fl_flat _))⟩)))
  refine sc (fun own a wx hf hsl hE => ?_) ?_
  ·obtain ⟨⟨⟨A61, cA61⟩, (f_15 : a.eval (.tmp 15) = .tuple #[sl A61 r60.1 cA61, Zi r60.2]), b_A61⟩, -⟩ := hf
   exact px (or_mono (f := Fct.val 11 (.tuple #[sl A61 r60.1 cA61, Zi r60.2])) (or_move f_15) (fun own' a' w' v' hp h => fun _ _ h0' => by cases (f_15.symm.trans ((hp.2 15 (by decide)).symm.trans h0')); exact h))
  refine sc (fun own a wx hf hsl hE => ?_) ?_
  ·obtain ⟨(q_11 : ∀ (A61 : Option Addr) (cA61 : Nat), a.eval (.tmp 15) = .tuple #[sl A61 r60.1 cA61, Zi r60.2] → a.eval (.tmp 11) = .tuple #[sl A61 r60.1 cA61, Zi r60.2]), ⟨⟨A61, cA61⟩, (f_15 : a.eval (.tmp 15) = .tuple #[sl A61 r60.1 cA61, Zi r60.2]), b_A61⟩, -⟩ := hf
   have f_11 := q_11 _ _ f_15
   exact px (or_mono (f := Fct.val 16 (sl A61 r60.1 cA61)) (ok1 f_11) (fun own' a' w' v' hp h => fun _ _ h0' => by cases (f_15.symm.trans ((hp.2 15 (by decide)).symm.trans h0')); exact h))
  refine sc (fun own a wx hf hsl hE => ?_) ?_
  ·obtain ⟨(q_11 : ∀ (A61 : Option Addr) (cA61 : Nat), a.eval (.tmp 15) = .tuple #[sl A61 r60.1 cA61, Zi r60.2] → a.eval (.tmp 11) = .tuple #[sl A61 r60.1 cA61, Zi r60.2]), ⟨⟨A61, cA61⟩, f_15, b_A61⟩, -⟩ := hf
   have f_11 := q_11 _ _ f_15
   exact px (ok1 f_11)
  refine sc (fun own a wx hf hsl hE => ?_) ?_
  ·obtain ⟨(q_16 : ∀ (A61 : Option Addr) (cA61 : Nat), a.eval (.tmp 15) = .tuple #[sl A61 r60.1 cA61, Zi r60.2] → a.eval (.tmp 16) = sl A61 r60.1 cA61), ⟨⟨A61, cA61⟩, (f_15 : a.eval (.tmp 15) = .tuple #[sl A61 r60.1 cA61, Zi r60.2]), b_A61⟩, -⟩ := hf
   have f_16 := q_16 _ _ f_15
   exact px (or_mono (f := Fct.val 3 (sl A61 r60.1 cA61)) (or_assign f_16) (fun own' a' w' v' hp h => fun _ _ h0' => by cases (f_15.symm.trans ((hp.2 15 (by decide)).symm.trans h0')); exact h))
  exact sA <| steps_nil
 intro o63 a63 w63 d63 z63 hk63 hf63 hE63
 obtain ⟨e63_1, e63_2⟩ := kt2 hk63 e55_1 e55_2
 have e63_4 := gv (hf63 [8] rfl) rfl
 obtain ⟨⟨⟨A61, cA61⟩, (f_15 : a63.eval (.tmp 15) = .tuple #[sl A61 r60.1 cA61, Zi r60.2]), (b63_A61 : RwO o63 62 [] w63 5 R5 A61 cA61 r60.1)⟩, (q_3 : ∀ (A61 : Option Addr) (cA61 : Nat), a63.eval (.tmp 15) = .tuple #[sl A61 r60.1 cA61, Zi r60.2] → a63.eval (.tmp 3) = sl A61 r60.1 cA61), -⟩ := hf63 [3, 7] rfl
 have e63_3 := q_3 _ _ f_15
 have hX63 := es_ hX55 hE63
 have b63_A53 := re_ hE63 b55_A53
 obtain ⟨r64, hr64, hs⟩ := obind hs
 refine rq_seq 55 o63 [0, 1, 3, 7, 7, 15, 63] [dv [] [3] 19 (sl A61 r60.1 cA61), ⟨[0], [], [], Fct.mems [69, 70, 71, 72, 73] 20 (fun (x : (Option Addr × Nat) × (Option Addr × Nat) × (Option Addr × Nat) × (Option Addr × Nat)) => .tuple #[.pointer (some ⟨x.1.2, 0, none⟩), Zi r64.2]) (fun (x : (Option Addr × Nat) × (Option Addr × Nat) × (Option Addr × Nat) × (Option Addr × Nat)) own w => RwO own 69 [] w 5 R5 x.2.1.1 x.2.1.2 r64.1.1 ∧ RwO own 70 [71] w 22 R22 x.2.2.1.1 x.2.2.1.2 r64.1.2.1 ∧ RwO own 72 [] w 66 R66 x.2.2.2.1 x.2.2.2.2 r64.1.2.2 ∧ BlkO own 73 w x.1.2 64 #[.slice x.2.1.1 r64.1.1.length x.2.1.2, .slice x.2.2.1.1 r64.1.2.1.length x.2.2.1.2, .slice x.2.2.2.1 r64.1.2.2.length x.2.2.2.2]) (fun hk he h => ⟨RwO.evo (hits_sub hk (by decide)) he h.1, RwO.evo (hits_sub hk (by decide)) he h.2.1, RwO.evo (hits_sub hk (by decide)) he h.2.2.1, BlkO.evo (not_hit hk (by decide)) he h.2.2.2⟩)⟩, ⟨[1], [], [], Fct.rel [18, 20] (fun l => ∀ (cA65 : Nat), l.getD 1 undef = .tuple #[pt cA65 0, Zi r64.2] → l.getD 0 undef = .tuple #[pt cA65 0, Zi r64.2])⟩, ⟨[2, 1], [], [], Fct.rel [21, 20] (fun l => ∀ (cA65 : Nat), l.getD 1 undef = .tuple #[pt cA65 0, Zi r64.2] → l.getD 0 undef = pt cA65 0)⟩, dv [2, 1] [] 22 (Zi r64.2), ⟨[3, 1], [], [], Fct.rel [5, 20] (fun l => ∀ (cA65 : Nat), l.getD 1 undef = .tuple #[pt cA65 0, Zi r64.2] → l.getD 0 undef = pt cA65 0)⟩, dv [4] [] 6 (Zi r64.2)] z63 d63 ?_ ?_
 ·refine sM e63_3 <| sFE (fun f hE => or_call cf12 (args1 f.1) (pack_Open_w _ r60.1 A61 cA61 (RdO.zero (RwO.rd (re_ hE b63_A61))) r64 hr64) (post_mems (m := (fun _ => 0)) (m' := (look0 [(1, 73), (2, 69), (3, 70), (4, 71), (5, 72)])) (fun _ _ => .inl rfl) (fun own' w' a' x h1 h => ⟨x, h1, ⟨RwO.back_ h.1 (by decide) (.inl (Rep.fl_flat _)), RwO.back_ h.2.1 (by decide) (.inr (by decide)), RwO.back_ h.2.2.1 (by decide) (.inl (Rep.fl_flat _)), BlkO.back_ h.2.2.2 (by decide)⟩⟩))) ?_
  refine sc (fun own a wx hf hsl hE => ?_) ?_
  ·obtain ⟨⟨⟨⟨A65, cA65⟩, ⟨A66, cA66⟩, ⟨A67, cA67⟩, ⟨A68, cA68⟩⟩, (f_20 : a.eval (.tmp 20) = .tuple #[pt cA65 0, Zi r64.2]), b_A66, b_A67, b_A68, b_cA65⟩, -⟩ := hf
   exact px (or_mono (f := Fct.val 18 (.tuple #[pt cA65 0, Zi r64.2])) (or_move f_20) (fun own' a' w' v' hp h => fun _ h0' => by cases (f_20.symm.trans ((hp.2 20 (by decide)).symm.trans h0')); exact h))
  refine sc (fun own a wx hf hsl hE => ?_) ?_
  ·obtain ⟨(q_18 : ∀ (cA65 : Nat), a.eval (.tmp 20) = .tuple #[pt cA65 0, Zi r64.2] → a.eval (.tmp 18) = .tuple #[pt cA65 0, Zi r64.2]), ⟨⟨⟨A65, cA65⟩, ⟨A66, cA66⟩, ⟨A67, cA67⟩, ⟨A68, cA68⟩⟩, (f_20 : a.eval (.tmp 20) = .tuple #[pt cA65 0, Zi r64.2]), b_A66, b_A67, b_A68, b_cA65⟩, -⟩ := hf
   have f_18 := q_18 _ f_20
   exact px (or_mono (f := Fct.val 21 (pt cA65 0)) (ok1 f_18) (fun own' a' w' v' hp h => fun _ h0' => by cases (f_20.symm.trans ((hp.2 20 (by decide)).symm.trans h0')); exact h))
  refine sc (fun own a wx hf hsl hE => ?_) ?_
  ·obtain ⟨(q_18 : ∀ (cA65 : Nat), a.eval (.tmp 20) = .tuple #[pt cA65 0, Zi r64.2] → a.eval (.tmp 18) = .tuple #[pt cA65 0, Zi r64.2]), ⟨⟨⟨A65, cA65⟩, ⟨A66, cA66⟩, ⟨A67, cA67⟩, ⟨A68, cA68⟩⟩, f_20, b_A66, b_A67, b_A68, b_cA65⟩, -⟩ := hf
   have f_18 := q_18 _ f_20
   exact px (ok1 f_18)
  refine sc (fun own a wx hf hsl hE => ?_) ?_
  ·obtain ⟨(q_21 : ∀ (cA65 : Nat), a.eval (.tmp 20) = .tuple #[pt cA65 0, Zi r64.2] → a.eval (.tmp 21) = pt cA65 0), ⟨⟨⟨A65, cA65⟩, ⟨A66, cA66⟩, ⟨A67, cA67⟩, ⟨A68, cA68⟩⟩, (f_20 : a.eval (.tmp 20) = .tuple #[pt cA65 0, Zi r64.2]), b_A66, b_A67, b_A68, b_cA65⟩, -⟩ := hf
   have f_21 := q_21 _ f_20
   exact px (or_mono (f := Fct.val 5 (pt cA65 0)) (or_assign f_21) (fun own' a' w' v' hp h => fun _ h0' => by cases (f_20.symm.trans ((hp.2 20 (by decide)).symm.trans h0')); exact h))
  exact sA <| steps_nil
 intro o74 a74 w74 d74 z74 hk74 hf74 hE74
 obtain ⟨e74_1, e74_2, e74_3, e74_4⟩ := kt4 hk74 e63_1 e63_2 e63_3 e63_4
 have e74_6 := gv (hf74 [6] rfl) rfl
 obtain ⟨⟨⟨⟨A65, cA65⟩, ⟨A66, cA66⟩, ⟨A67, cA67⟩, ⟨A68, cA68⟩⟩, (f_20 : a74.eval (.tmp 20) = .tuple #[pt cA65 0, Zi r64.2]), (b74_A66 : RwO o74 69 [] w74 5 R5 A66 cA66 r64.1.1), (b74_A67 : RwO o74 70 [71] w74 22 R22 A67 cA67 r64.1.2.1), (b74_A68 : RwO o74 72 [] w74 66 R66 A68 cA68 r64.1.2.2), (b74_cA65 : BlkO o74 73 w74 cA65 64 #[sl A66 r64.1.1 cA66, sl A67 r64.1.2.1 cA67, sl A68 r64.1.2.2 cA68])⟩, (q_5 : ∀ (cA65 : Nat), a74.eval (.tmp 20) = .tuple #[pt cA65 0, Zi r64.2] → a74.eval (.tmp 5) = pt cA65 0), -⟩ := hf74 [1, 5] rfl
 have e74_5 := q_5 _ f_20
 have hX74 := es_ hX63 hE74
 have b74_A53 := re_ hE74 b63_A53
 have b74_A61 := re_ hE74 b63_A61
 obtain ⟨x75, hx75, hs⟩ := obind hs
 obtain ⟨r80, hr80, hs⟩ := obind hs
 obtain ⟨x81, hx81, hs⟩ := obind hs
 obtain ⟨r86, hr86, hs⟩ := obind hs
 obtain ⟨r87, hr87, hs⟩ := obind hs
 obtain ⟨r88, hr88, hs⟩ := obind hs
 obtain ⟨x89, hx89, hs⟩ := obind hs
 refine rp_seq 55 o74 [77, 83] [0, 1, 3, 7, 15, 31, 63, 127, 255, 511, 1023, 2047, 2047, 6143, 16383, 32767, 65535, 131071, 131071, 393215, 1048575, 2097151, 4194303, 8388607, 16777215, 33554431, 67108863, 134217727, 268435455, 536870911, 1073741823, 2147483647, 4294967295] [dv [] [2] 23 (Zi r52.2), dv [0] [] 24 (.bool (decide (r52.2 = 0))), dv [1] [] 25 (.bool (decide (r52.2 = 0))), dc [2] [4] (decide (r52.2 = 0)) 26 (Zi r60.2), dc [2, 3] [] (decide (r52.2 = 0)) 27 (.bool (decide (r60.2 = 0))), dv [2, 4] [] 28 (.bool x75), dv [5] [] 29 (.bool x75), dc [6] [6] x75 30 (Zi r64.2), dc [6, 7] [] x75 31 (.bool (decide (r64.2 = 0))), dv [6, 8] [] 32 (.bool (x75 && (decide (r64.2 = 0)))), dv [9] [] 33 (.bool (x75 && (decide (r64.2 = 0)))), dc [10] [1] (x75 && (decide (r64.2 = 0))) 34 (sl A53 r52.1 cA53), ⟨[10], [], [], Fct.cond (x75 && (decide (r64.2 = 0))) (some 35) (Fct.rowF 77 35 5 R5 [71, 82, 84, 49, 0, 0, 0])⟩, ⟨[10, 12], [], [77], Fct.cond (x75 && (decide (r64.2 = 0))) (some 36) (Fct.viewF [78] 36 R5 [71, 82, 84, 49, 0, 0, 0])⟩, dc [10, 11, 13] [] (x75 && (decide (r64.2 = 0))) 37 (.bool r80), dv [10, 14] [] 38 (.bool x81), dv [15] [] 39 (.bool x81), dc [16] [3] x81 40 (sl A61 r60.1 cA61), ⟨[16], [], [], Fct.cond x81 (some 41) (Fct.rowF 83 41 5 R5 [71, 82, 84, 49, 0, 1, 1, 7, 1, 0, 0, 0, 0])⟩, ⟨[16, 18], [], [83], Fct.cond x81 (some 42) (Fct.viewF [84] 42 R5 [71, 82, 84, 49, 0, 1, 1, 7, 1, 0, 0, 0, 0])⟩, dc [16, 17, 19] [] x81 43 (.bool r86), dv [16, 20] [] 44 (.bool (x81 && r86)), dv [21] [] 45 (.bool (x81 && r86)), dc [22] [5] (x81 && r86) 46 (pt cA65 0), dc [22, 23] [] (x81 && r86) 47 (Zi r87), dc [22, 24] [] (x81 && r86) 48 (.bool (decide (r87 = 1))), dv [22, 25] [] 49 (.bool ((x81 && r86) && (decide (r87 = 1)))), dv [26] [] 50 (.bool ((x81 && r86) && (decide (r87 = 1)))), dc [27] [5] ((x81 && r86) && (decide (r87 = 1))) 51 (pt cA65 0), dc [27, 28] [] ((x81 && r86) && (decide (r87 = 1))) 52 (Zi r88), dc [27, 29] [] ((x81 && r86) && (decide (r87 = 1))) 53 (.bool (decide (r88 = 1))), dv [27, 30] [] 54 (.bool x89), dv [31] [] 0 (.bool x89)] z74 d74 ?_ ?_
 ·refine sM e74_2 <| sF (fun f => or_eql f.1 rfl rfl) <| sV <| cT (fun _ s _ _ => or_move (s.1.trans e74_4)) <| cT (fun f _ _ hg => or_eql (f.2.1.1 hg) rfl rfl) <| sF (fun f => or_and f.1 (fun hx => f.2.1.1 hx) rfl (osome hx75).symm) <| sV <| cT (fun _ s _ _ => or_move (s.1.trans e74_6)) <| cT (fun f _ _ hg => or_eql (f.2.1.1 hg) rfl rfl) <| sF (fun f => or_and f.1 (fun hx => f.2.1.1 hx) rfl rfl) <| sV <| cT (fun _ s _ _ => or_move (s.1.trans e74_1)) <| cT (fun _ _ _ _ => or_litF (lab := 77) (e := 5) (cs := #[.int .u8 71, .int .u8 82, .int .u8 84, .int .u8 49, .int .u8 0, .int .u8 0, .int .u8 0]) (F := E5) (nw0) rfl rfl (show 7 ≤ maxLen by decide)) ?_
  refine sc (fun own a wx hf hsl hE => ?_) ?_
  ·obtain ⟨f_33, c_35, -⟩ := hf
   refine sg_t rfl rfl rfl f_33 (fun hg => ?_)
   obtain ⟨A76, f_35, b_A76⟩ := c_35.1 hg
   exact or_convM (lab := 77) (lab2 := 78) tu22 tn5 f_35 b_A76 (mem_of rfl) (by decide) (by simp)
  refine sc (fun own a wx hf hsl hE => ?_) ?_
  ·obtain ⟨f_33, c_34, c_36, -⟩ := hf
   refine sg_t rfl rfl rfl f_33 (fun hg => ?_)
   have f_34 := c_34.1 hg
   obtain ⟨A79, f_36, b_A79⟩ := c_36.1 hg
   exact or_call cf11 (args2 f_34 f_36) (ref07_Same_w _ r52.1 A53 cA53 [71, 82, 84, 49, 0, 0, 0] A79 ([71, 82, 84, 49, 0, 0, 0].length) (RdO.zero (RwO.rd (re_ hE b74_A53))) (RdO.zero b_A79) r80 (gd_t hr80 hg)) post_val
  refine sF (fun f => or_and f.1 (fun hx => f.2.1.1 hx) rfl (osome hx81).symm) <| sV <| cT (fun _ s _ _ => or_move (s.1.trans e74_3)) <| cT (fun _ _ _ _ => or_litF (lab := 83) (e := 5) (cs := #[.int .u8 71, .int .u8 82, .int .u8 84, .int .u8 49, .int .u8 0, .int .u8 1, .int .u8 1, .int .u8 7, .int .u8 1, .int .u8 0, .int .u8 0, .int .u8 0, .int .u8 0]) (F := E5) (nw0) rfl rfl (show 13 ≤ maxLen by decide)) ?_
  refine sc (fun own a wx hf hsl hE => ?_) ?_
  ·obtain ⟨f_39, c_41, -⟩ := hf
   refine sg_t rfl rfl rfl f_39 (fun hg => ?_)
   obtain ⟨A82, f_41, b_A82⟩ := c_41.1 hg
   exact or_convM (lab := 83) (lab2 := 84) tu22 tn5 f_41 b_A82 (mem_of rfl) (by decide) (by simp)
  refine sc (fun own a wx hf hsl hE => ?_) ?_
  ·obtain ⟨f_39, c_40, c_42, -⟩ := hf
   refine sg_t rfl rfl rfl f_39 (fun hg => ?_)
   have f_40 := c_40.1 hg
   obtain ⟨A85, f_42, b_A85⟩ := c_42.1 hg
   exact or_call cf11 (args2 f_40 f_42) (ref07_Same_w _ r60.1 A61 cA61 [71, 82, 84, 49, 0, 1, 1, 7, 1, 0, 0, 0, 0] A85 ([71, 82, 84, 49, 0, 1, 1, 7, 1, 0, 0, 0, 0].length) (RdO.zero (RwO.rd (re_ hE b74_A61))) (RdO.zero b_A85) r86 (gd_t hr86 hg)) post_val
  exact sF (fun f => or_and f.1 (fun hx => f.2.1.1 hx) rfl rfl) <| sV <| cT (fun _ s _ _ => or_move (s.1.trans e74_5)) <| cT (fun f _ hE hg => or_call cf14 (args1 (f.2.1.1 hg)) (pack_Pack_Len_w _ r64.1 cA65 64 A66 cA66 A67 cA67 A68 cA68 (BlkO.zero_ (be_ hE b74_cA65)) (RdO.zero (RwO.rd (re_ hE b74_A66))) (RdO.zero (RwO.rd (re_ hE b74_A67))) (RdO.zero (RwO.rd (re_ hE b74_A68))) r87 (gd_t hr87 hg)) post_val) <| cT (fun f _ _ hg => or_eql (f.2.1.1 hg) rfl rfl) <| sF (fun f => or_and f.1 (fun hx => f.2.1.1 hx) rfl rfl) <| sV <| cT (fun _ s _ _ => or_move (s.1.trans e74_5)) <| cT (fun f _ hE hg => or_call cf13 (args1 (f.2.1.1 hg)) (pack_Pack_Blobs_w _ r64.1 cA65 64 A66 cA66 A67 cA67 A68 cA68 (BlkO.zero_ (be_ hE b74_cA65)) (RdO.zero (RwO.rd (re_ hE b74_A66))) (RdO.zero (RwO.rd (re_ hE b74_A67))) (RdO.zero (RwO.rd (re_ hE b74_A68))) r88 (gd_t hr88 hg)) post_val) <| cT (fun f _ _ hg => or_eql (f.2.1.1 hg) rfl rfl) <| sF (fun f => or_and f.1 (fun hx => f.2.1.1 hx) rfl (osome hx89).symm) <| sA <| steps_nil
 intro o90 a90 w90 d90 z90 hk90 hf90 hE90
 have e90_0 := gv (hf90 [32] rfl) rfl
 have hX90 := es_ hX74 hE90
 refine fl_ret ?_
 obtain rfl := (osome hs).symm
 exact hret _ _ _ _ (.inl rfl) d90 (results1_ rfl (RVal.tmp_ e90_0)) ⟨o90, rfl, hX90⟩
theorem pack_Pack_Get_nil_w (w : World) (t2 : Int × Int × Int) (r : (List Int) × Bool) (hs : pack_Pack_Get_nil t2 = some r) :
  Calls Try.prog 22 #[.pointer none, .agg #[Zi t2.1, Zi t2.2.1, Zi t2.2.2]] w fun e w' => ∃ (own' : Own) (x : Option Addr × Nat), e = .returned (.tuple #[.slice x.1 r.1.length x.2, .bool r.2]) ∧ Evo [] (fun _ => 0) own' w w' ∧ RwO own' 1 [] w' 5 R5 x.1 x.2 r.1 := by
 refine fl_enter (n := 50) rfl rfl rfl (Nat.le_of_ble_eq_true rfl) ?_
 intro a0 Q d0 z0 harg hret
 have ha0 := harg 0 _ rfl
 have ha1 := harg 1 _ rfl
 clear harg
 have hE0 : Evo [] (fun _ => 0) (fun _ => 0) w w := Evo.refl _ _ _
 refine rq_seq 50 (fun _ => 0) [0, 0, 0, 4] [⟨[], [0], [], Fct.blk 20 2 (fun g => pt g 0) 36 #[.pointer none]⟩, ⟨[], [1], [], Fct.blk 22 3 (fun g => pt g 0) 28 #[Zi t2.1, Zi t2.2.1, Zi t2.2.2]⟩, dv [] [] 4 (.slice none 0 0), dv [] [] 5 (.bool false)] z0 d0 ?_ ?_
 ·exact sS (fun s => nw1 (s.1.trans ha0)) <| sS (fun s => nw1 (s.1.trans ha1)) <| sO (or_assign rfl) <| sO (or_assign rfl) <| steps_nil
 intro o23 a23 w23 d23 z23 hk23 hf23 hE23
 obtain ⟨⟨g19, (e23_2 : a23.eval (.tmp 2) = pt g19 0), (b23_g19 : BlkO o23 20 w23 g19 36 #[.pointer none])⟩, ⟨g21, (e23_3 : a23.eval (.tmp 3) = pt g21 0), (b23_g21 : BlkO o23 22 w23 g21 28 #[Zi t2.1, Zi t2.2.1, Zi t2.2.2])⟩, -⟩ := hf23 [0, 1] rfl
 have hX23 := es_ hE0 hE23
 refine fl_seq (fun Q24 hn24 hp24 => ?_)
 refine rq_seq 50 o23 (bz 2) [dv [] [2] 7 (.pointer none), dv [0] [] 8 (.bool true)] z23 d23 ?_ ?_
 ·exact sL1 to36 e23_2 b23_g19 <| sF (fun f => ok1 f.1) <| steps_nil
 intro o25 a25 w25 d25 z25 hk25 hf25 hE25
 obtain ⟨e25_2, e25_3⟩ := kt2 hk25 e23_2 e23_3
 have e25_8 := gv (hf25 [1] rfl) rfl
 have hX25 := es_ hX23 hE25
 obtain ⟨b25_g19, b25_g21⟩ := be2 hE25 b23_g19 b23_g21
 refine fl_t e25_8 ?_
 refine rq_seq 50 o25 (bz 2) [dv [] [] 4 (.slice none 0 0), dv [] [] 5 (.bool false)] z25 d25 ?_ ?_
 ·exact sO (or_assign rfl) <| sO (or_assign rfl) <| steps_nil
 intro o26 a26 w26 d26 z26 hk26 hf26 hE26
 have e26_4 := gv (hf26 [0] rfl) rfl
 have e26_5 := gv (hf26 [1] rfl) rfl
 have hX26 := es_ hX25 hE26
 refine fl_ret ?_
 refine hp24 _ _ _ rfl ?_
 obtain rfl := osome hs
 exact hret _ _ _ _ (.inl rfl) d26 (results2_ rfl (RVal.tmp_ e26_4) (RVal.tmp_ e26_5)) ⟨o26, (none, 0), rfl, hX26, RwO.nil_⟩
theorem pack_Pack_Head_nil_w (w : World) (r : List Int) (hs : pack_Pack_Head_nil = some r) :
  Calls Try.prog 20 #[.pointer none] w fun e w' => ∃ (own' : Own) (x : Option Addr × Nat), e = .returned (.slice x.1 r.length x.2) ∧ Evo [] (fun _ => 0) own' w w' ∧ RwO own' 1 [] w' 5 R5 x.1 x.2 r := by
 refine fl_enter (n := 10) rfl rfl rfl (Nat.le_of_ble_eq_true rfl) ?_
 intro a0 Q d0 z0 harg hret
 have ha0 := harg 0 _ rfl
 clear harg
 have hE0 : Evo [] (fun _ => 0) (fun _ => 0) w w := Evo.refl _ _ _
 refine rq_seq 10 (fun _ => 0) (bz 1) [dv [] [] 2 (.slice none 0 0)] z0 d0 ?_ ?_
 ·exact sO (or_assign rfl) <| steps_nil
 intro o15 a15 w15 d15 z15 hk15 hf15 hE15
 have e15_0 := kt hk15 ha0
 have hX15 := es_ hE0 hE15
 refine fl_seq (fun Q16 hn16 hp16 => ?_)
 refine rq_seq 10 o15 (bz 2) [dv [] [0] 3 (.pointer none), dv [0] [] 4 (.bool true)] z15 d15 ?_ ?_
 ·exact sM e15_0 <| sF (fun f => ok1 f.1) <| steps_nil
 intro o17 a17 w17 d17 z17 hk17 hf17 hE17
 have e17_0 := kt hk17 e15_0
 have e17_4 := gv (hf17 [1] rfl) rfl
 have hX17 := es_ hX15 hE17
 refine fl_t e17_4 ?_
 refine rq_seq 10 o17 (bz 1) [dv [] [] 2 (.slice none 0 0)] z17 d17 ?_ ?_
 ·exact sO (or_assign rfl) <| steps_nil
 intro o18 a18 w18 d18 z18 hk18 hf18 hE18
 have e18_2 := gv (hf18 [0] rfl) rfl
 have hX18 := es_ hX17 hE18
 refine fl_ret ?_
 refine hp16 _ _ _ rfl ?_
 obtain rfl := osome hs
 exact hret _ _ _ _ (.inl rfl) d18 (results1_ rfl (RVal.tmp_ e18_2)) ⟨o18, (none, 0), rfl, hX18, RwO.nil_⟩
theorem pack_Pack_Entries_nil_w (w : World) (r : List ((Int × Int × Int) × (List Int))) (hs : pack_Pack_Entries_nil = some r) :
  Calls Try.prog 21 #[.pointer none] w fun e w' => ∃ (own' : Own) (x : Option Addr × Nat), e = .returned (.slice x.1 r.length x.2) ∧ Evo [] (fun _ => 0) own' w w' ∧ RwO own' 1 [2] w' 30 R30 x.1 x.2 r := by
 refine fl_enter (n := 34) rfl rfl rfl (Nat.le_of_ble_eq_true rfl) ?_
 intro a0 Q d0 z0 harg hret
 have ha0 := harg 0 _ rfl
 clear harg
 have hE0 : Evo [] (fun _ => 0) (fun _ => 0) w w := Evo.refl _ _ _
 refine rq_seq 34 (fun _ => 0) (bz 1) [dv [] [] 2 (.slice none 0 0)] z0 d0 ?_ ?_
 ·exact sO (or_assign rfl) <| steps_nil
 intro o15 a15 w15 d15 z15 hk15 hf15 hE15
 have e15_0 := kt hk15 ha0
 have hX15 := es_ hE0 hE15
 refine fl_seq (fun Q16 hn16 hp16 => ?_)
 refine rq_seq 34 o15 (bz 2) [dv [] [0] 6 (.pointer none), dv [0] [] 7 (.bool true)] z15 d15 ?_ ?_
 ·exact sM e15_0 <| sF (fun f => ok1 f.1) <| steps_nil
 intro o17 a17 w17 d17 z17 hk17 hf17 hE17
 have e17_0 := kt hk17 e15_0
 have e17_7 := gv (hf17 [1] rfl) rfl
 have hX17 := es_ hX15 hE17
 refine fl_t e17_7 ?_
 refine rq_seq 34 o17 (bz 1) [dv [] [] 2 (.slice none 0 0)] z17 d17 ?_ ?_
 ·exact sO (or_assign rfl) <| steps_nil
 intro o18 a18 w18 d18 z18 hk18 hf18 hE18
 have e18_2 := gv (hf18 [0] rfl) rfl
 have hX18 := es_ hX17 hE18
 refine fl_ret ?_
 refine hp16 _ _ _ rfl ?_
 obtain rfl := osome hs
 exact hret _ _ _ _ (.inl rfl) d18 (results1_ rfl (RVal.tmp_ e18_2)) ⟨o18, (none, 0), rfl, hX18, RwO.nil_⟩
theorem pack_Pack_Len_nil_w (w : World) (r : Int) (hs : pack_Pack_Len_nil = some r) :
  Calls Try.prog 14 #[.pointer none] w fun e w' => ∃ own' : Own, e = .returned (Zi r) ∧ Evo [] (fun _ => 0) own' w w' := by
 refine fl_enter (n := 10) rfl rfl rfl (Nat.le_of_ble_eq_true rfl) ?_
 intro a0 Q d0 z0 harg hret
 have ha0 := harg 0 _ rfl
 clear harg
 have hE0 : Evo [] (fun _ => 0) (fun _ => 0) w w := Evo.refl _ _ _
 refine rq_seq 10 (fun _ => 0) (bz 1) [dv [] [] 2 (Zi 0)] z0 d0 ?_ ?_
 ·exact sO (or_assign rfl) <| steps_nil
 intro o15 a15 w15 d15 z15 hk15 hf15 hE15
 have e15_0 := kt hk15 ha0
 have hX15 := es_ hE0 hE15
 refine fl_seq (fun Q16 hn16 hp16 => ?_)
 refine rq_seq 10 o15 (bz 2) [dv [] [0] 3 (.pointer none), dv [0] [] 4 (.bool true)] z15 d15 ?_ ?_
 ·exact sM e15_0 <| sF (fun f => ok1 f.1) <| steps_nil
 intro o17 a17 w17 d17 z17 hk17 hf17 hE17
 have e17_0 := kt hk17 e15_0
 have e17_4 := gv (hf17 [1] rfl) rfl
 have hX17 := es_ hX15 hE17
 refine fl_t e17_4 ?_
 refine rq_seq 10 o17 (bz 1) [dv [] [] 2 (Zi 0)] z17 d17 ?_ ?_
 ·exact sO (or_assign rfl) <| steps_nil
 intro o18 a18 w18 d18 z18 hk18 hf18 hE18
 have e18_2 := gv (hf18 [0] rfl) rfl
 have hX18 := es_ hX17 hE18
 refine fl_ret ?_
 refine hp16 _ _ _ rfl ?_
 obtain rfl := osome hs
 exact hret _ _ _ _ (.inl rfl) d18 (results1_ rfl (RVal.tmp_ e18_2)) ⟨o18, rfl, hX18⟩
theorem pack_Pack_Blobs_nil_w (w : World) (r : Int) (hs : pack_Pack_Blobs_nil = some r) :
  Calls Try.prog 13 #[.pointer none] w fun e w' => ∃ own' : Own, e = .returned (Zi r) ∧ Evo [] (fun _ => 0) own' w w' := by
 refine fl_enter (n := 10) rfl rfl rfl (Nat.le_of_ble_eq_true rfl) ?_
 intro a0 Q d0 z0 harg hret
 have ha0 := harg 0 _ rfl
 clear harg
 have hE0 : Evo [] (fun _ => 0) (fun _ => 0) w w := Evo.refl _ _ _
 refine rq_seq 10 (fun _ => 0) (bz 1) [dv [] [] 2 (Zi 0)] z0 d0 ?_ ?_
 ·exact sO (or_assign rfl) <| steps_nil
 intro o15 a15 w15 d15 z15 hk15 hf15 hE15
 have e15_0 := kt hk15 ha0
 have hX15 := es_ hE0 hE15
 refine fl_seq (fun Q16 hn16 hp16 => ?_)
 refine rq_seq 10 o15 (bz 2) [dv [] [0] 3 (.pointer none), dv [0] [] 4 (.bool true)] z15 d15 ?_ ?_
 ·exact sM e15_0 <| sF (fun f => ok1 f.1) <| steps_nil
 intro o17 a17 w17 d17 z17 hk17 hf17 hE17
 have e17_0 := kt hk17 e15_0
 have e17_4 := gv (hf17 [1] rfl) rfl
 have hX17 := es_ hX15 hE17
 refine fl_t e17_4 ?_
 refine rq_seq 10 o17 (bz 1) [dv [] [] 2 (Zi 0)] z17 d17 ?_ ?_
 ·exact sO (or_assign rfl) <| steps_nil
 intro o18 a18 w18 d18 z18 hk18 hf18 hE18
 have e18_2 := gv (hf18 [0] rfl) rfl
 have hX18 := es_ hX17 hE18
 refine fl_ret ?_
 refine hp16 _ _ _ rfl ?_
 obtain rfl := osome hs
 exact hret _ _ _ _ (.inl rfl) d18 (results1_ rfl (RVal.tmp_ e18_2)) ⟨o18, rfl, hX18⟩
theorem law27_PackNil_w (w : World) (t1 : Int × Int × Int) (r : Bool) (hs : law27_PackNil t1 = some r) :
  Calls Try.prog 7 #[.agg #[Zi t1.1, Zi t1.2.1, Zi t1.2.2]] w fun e w' => ∃ own' : Own, e = .returned (.bool r) ∧ Evo [] (fun _ => 0) own' w w' := by
 refine fl_enter (n := 44) rfl rfl rfl (Nat.le_of_ble_eq_true rfl) ?_
 intro a0 Q d0 z0 harg hret
 have ha0 := harg 0 _ rfl
 clear harg
 have hE0 : Evo [] (fun _ => 0) (fun _ => 0) w w := Evo.refl _ _ _
 refine rq_seq 44 (fun _ => 0) [0, 0] [⟨[], [0], [], Fct.blk 30 1 (fun g => pt g 0) 28 #[Zi t1.1, Zi t1.2.1, Zi t1.2.2]⟩, dv [] [] 2 (.bool false)] z0 d0 ?_ ?_
 ·exact sS (fun s => nw1 (s.1.trans ha0)) <| sO (or_assign rfl) <| steps_nil
 intro o31 a31 w31 d31 z31 hk31 hf31 hE31
 obtain ⟨⟨g29, (e31_1 : a31.eval (.tmp 1) = pt g29 0), (b31_g29 : BlkO o31 30 w31 g29 28 #[Zi t1.1, Zi t1.2.1, Zi t1.2.2])⟩, -⟩ := hf31 [0] rfl
 have hX31 := es_ hE0 hE31
 refine rq_seq 44 o31 (bz 1) [dv [] [] 3 (.pointer none)] z31 d31 ?_ ?_
 ·exact sO (or_assign rfl) <| steps_nil
 intro o32 a32 w32 d32 z32 hk32 hf32 hE32
 have e32_1 := kt hk32 e31_1
 have e32_3 := gv (hf32 [0] rfl) rfl
 have hX32 := es_ hX31 hE32
 have b32_g29 := be_ hE32 b31_g29
 refine rq_seq 44 o32 [0, 0, 3, 7, 15, 15, 31, 127] [dv [] [3] 7 (.pointer none), dv [] [1] 8 (.agg #[Zi t1.1, Zi t1.2.1, Zi t1.2.2]), ⟨[0, 1], [], [], Fct.mems [34] 9 (fun (x : Option Addr × Nat) => .tuple #[.slice x.1 ((([] : List Int), false).1).length x.2, .bool ((([] : List Int), false).2)]) (fun (x : Option Addr × Nat) own w => RwO own 34 [] w 5 R5 x.1 x.2 ((([] : List Int), false).1)) (fun hk he h => RwO.evo (hits_sub hk (by decide)) he h)⟩, ⟨[2], [], [], Fct.rel [6, 9] (fun l => ∀ (A33 : Option Addr) (cA33 : Nat), l.getD 1 undef = .tuple #[.slice A33 ((([] : List Int), false).1).length cA33, .bool ((([] : List Int), false).2)] → l.getD 0 undef = .tuple #[.slice A33 ((([] : List Int), false).1).length cA33, .bool ((([] : List Int), false).2)])⟩, ⟨[3, 2], [], [], Fct.rel [10, 9] (fun l => ∀ (A33 : Option Addr) (cA33 : Nat), l.getD 1 undef = .tuple #[.slice A33 ((([] : List Int), false).1).length cA33, .bool ((([] : List Int), false).2)] → l.getD 0 undef = .slice A33 ((([] : List Int), false).1).length cA33)⟩, dv [3, 2] [] 11 (.bool ((([] : List Int), false).2)), ⟨[4, 2], [], [], Fct.rel [4, 9] (fun l => ∀ (A33 : Option Addr) (cA33 : Nat), l.getD 1 undef = .tuple #[.slice A33 ((([] : List Int), false).1).length cA33, .bool ((([] : List Int), false).2)] → l.getD 0 undef = .slice A33 ((([] : List Int), false).1).length cA33)⟩, dv [5] [] 5 (.bool ((([] : List Int), false).2))] z32 d32 ?_ ?_
 ·refine sM e32_3 <| sL ta28 e32_1 b32_g29 <| sF (fun f => or_call cf22 (args2 f.1 f.2.1) (pack_Pack_Get_nil_w _ t1  (([] : List Int), false) rfl) (post_mems (m := (fun _ => 0)) (m' := (look0 [(1, 34)])) (fun _ _ => .inl rfl) (fun own' w' a' x h1 h => ⟨x, h1, RwO.back_ h (by decide) (.inl (Rep.fl_flat _))⟩))) ?_
  refine sc (fun own a wx hf hsl hE => ?_) ?_
  ·obtain ⟨⟨⟨A33, cA33⟩, (f_9 : a.eval (.tmp 9) = .tuple #[.slice A33 ((([] : List Int), false).1).length cA33, .bool ((([] : List Int), false).2)]), b_A33⟩, -⟩ := hf
   exact px (or_mono (f := Fct.val 6 (.tuple #[.slice A33 ((([] : List Int), false).1).length cA33, .bool ((([] : List Int), false).2)])) (or_move f_9) (fun own' a' w' v' hp h => fun _ _ h0' => by cases (f_9.symm.trans ((hp.2 9 (by decide)).symm.trans h0')); exact h))
  refine sc (fun own a wx hf hsl hE => ?_) ?_
  ·obtain ⟨(q_6 : ∀ (A33 : Option Addr) (cA33 : Nat), a.eval (.tmp 9) = .tuple #[.slice A33 ((([] : List Int), false).1).length cA33, .bool ((([] : List Int), false).2)] → a.eval (.tmp 6) = .tuple #[.slice A33 ((([] : List Int), false).1).length cA33, .bool ((([] : List Int), false).2)]), ⟨⟨A33, cA33⟩, (f_9 : a.eval (.tmp 9) = .tuple #[.slice A33 ((([] : List Int), false).1).length cA33, .bool ((([] : List Int), false).2)]), b_A33⟩, -⟩ := hf
   have f_6 := q_6 _ _ f_9
   exact px (or_mono (f := Fct.val 10 (.slice A33 ((([] : List Int), false).1).length cA33)) (ok1 f_6) (fun own' a' w' v' hp h => fun _ _ h0' => by cases (f_9.symm.trans ((hp.2 9 (by decide)).symm.trans h0')); exact h))
  refine sc (fun own a wx hf hsl hE => ?_) ?_
  ·obtain ⟨(q_6 : ∀ (A33 : Option Addr) (cA33 : Nat), a.eval (.tmp 9) = .tuple #[.slice A33 ((([] : List Int), false).1).length cA33, .bool ((([] : List Int), false).2)] → a.eval (.tmp 6) = .tuple #[.slice A33 ((([] : List Int), false).1).length cA33, .bool ((([] : List Int), false).2)]), ⟨⟨A33, cA33⟩, f_9, b_A33⟩, -⟩ := hf
   have f_6 := q_6 _ _ f_9
   exact px (ok1 f_6)
  refine sc (fun own a wx hf hsl hE => ?_) ?_
  ·obtain ⟨(q_10 : ∀ (A33 : Option Addr) (cA33 : Nat), a.eval (.tmp 9) = .tuple #[.slice A33 ((([] : List Int), false).1).length cA33, .bool ((([] : List Int), false).2)] → a.eval (.tmp 10) = .slice A33 ((([] : List Int), false).1).length cA33), ⟨⟨A33, cA33⟩, (f_9 : a.eval (.tmp 9) = .tuple #[.slice A33 ((([] : List Int), false).1).length cA33, .bool ((([] : List Int), false).2)]), b_A33⟩, -⟩ := hf
   have f_10 := q_10 _ _ f_9
   exact px (or_mono (f := Fct.val 4 (.slice A33 ((([] : List Int), false).1).length cA33)) (or_assign f_10) (fun own' a' w' v' hp h => fun _ _ h0' => by cases (f_9.symm.trans ((hp.2 9 (by decide)).symm.trans h0')); exact h))
  exact sA <| steps_nil
 intro o35 a35 w35 d35 z35 hk35 hf35 hE35
 have e35_3 := kt hk35 e32_3
 have e35_5 := gv (hf35 [7] rfl) rfl
 obtain ⟨⟨⟨A33, cA33⟩, (f_9 : a35.eval (.tmp 9) = .tuple #[.slice A33 ((([] : List Int), false).1).length cA33, .bool ((([] : List Int), false).2)]), (b35_A33 : RwO o35 34 [] w35 5 R5 A33 cA33 ((([] : List Int), false).1))⟩, (q_4 : ∀ (A33 : Option Addr) (cA33 : Nat), a35.eval (.tmp 9) = .tuple #[.slice A33 ((([] : List Int), false).1).length cA33, .bool ((([] : List Int), false).2)] → a35.eval (.tmp 4) = .slice A33 ((([] : List Int), false).1).length cA33), -⟩ := hf35 [2, 6] rfl
 have e35_4 := q_4 _ _ f_9
 have hX35 := es_ hX32 hE35
 obtain ⟨r36, hr36, hs⟩ := obind hs
 obtain ⟨x39, hx39, hs⟩ := obind hs
 obtain ⟨x40, hx40, hs⟩ := obind hs
 obtain ⟨x41, hx41, hs⟩ := obind hs
 obtain ⟨x45, hx45, hs⟩ := obind hs
 refine rq_seq 44 o35 (bz 33) [dv [] [] 12 (.bool r36), dv [0] [] 13 (.bool r36), dc [1] [3] r36 14 (.pointer none), ⟨[1, 2], [], [], Fct.cond r36 (some 15) (Fct.row 38 [] 15 5 R5 ([] : List Int))⟩, dc [1, 3] [] r36 16 (Zi (([] : List Int).length : Int)), dc [1, 4] [] r36 17 (.bool (decide ((([] : List Int).length : Int) = 0))), dv [1, 5] [] 18 (.bool x39), dv [6] [] 19 (.bool x39), dc [7] [4] x39 20 (.slice A33 ((([] : List Int), false).1).length cA33), dc [7, 8] [] x39 21 (Zi (((([] : List Int), false).1).length : Int)), dc [7, 9] [] x39 22 (.bool (decide ((((([] : List Int), false).1).length : Int) = 0))), dv [7, 10] [] 23 (.bool x40), dv [11] [] 24 (.bool x40), dc [12] [5] x40 25 (.bool ((([] : List Int), false).2)), dc [12, 13] [] x40 26 (.bool (!((([] : List Int), false).2))), dv [12, 14] [] 27 (.bool x41), dv [15] [] 28 (.bool x41), dc [16] [3] x41 29 (.pointer none), ⟨[16, 17], [], [], Fct.cond x41 (some 30) (Fct.row 43 [44] 30 30 R30 ([] : List ((Int × Int × Int) × (List Int))))⟩, dc [16, 18] [] x41 31 (Zi (([] : List ((Int × Int × Int) × (List Int))).length : Int)), dc [16, 19] [] x41 32 (.bool (decide ((([] : List ((Int × Int × Int) × (List Int))).length : Int) = 0))), dv [16, 20] [] 33 (.bool x45), dv [21] [] 34 (.bool x45), dc [22] [3] x45 35 (.pointer none), dc [22, 23] [] x45 36 (Zi 0), dc [22, 24] [] x45 37 (.bool true), dv [22, 25] [] 38 (.bool (x45 && true)), dv [26] [] 39 (.bool (x45 && true)), dc [27] [3] (x45 && true) 40 (.pointer none), dc [27, 28] [] (x45 && true) 41 (Zi 0), dc [27, 29] [] (x45 && true) 42 (.bool true), dv [27, 30] [] 43 (.bool ((x45 && true) && true)), dv [31] [] 2 (.bool ((x45 && true) && true))] z35 d35 ?_ ?_
 ·refine sO (or_call cf9 (args0) (law27_known_w _   r36 hr36) post_val) <| sV <| cT (fun _ s _ _ => or_move (s.1.trans e35_3)) <| cT (fun f _ _ hg => or_call cf20 (args1 (f.2.1.1 hg)) (pack_Pack_Head_nil_w _   ([] : List Int) rfl) (post_row (m' := (look0 [(1, 38)])) (.inl (Rep.fl_flat _)) rfl rfl (fun _ => rfl))) ?_
  refine sc (fun own a wx hf hsl hE => ?_) ?_
  ·obtain ⟨f_13, c_15, -⟩ := hf
   refine sg_t rfl rfl rfl f_13 (fun hg => ?_)
   obtain ⟨⟨A37, cA37⟩, f_15, b_A37⟩ := c_15.1 hg
   exact or_len tu22 f_15 rfl
  refine cT (fun f _ _ hg => or_eql (f.2.1.1 hg) rfl rfl) <| sF (fun f => or_and f.1 (fun hx => f.2.1.1 hx) rfl (osome hx39).symm) <| sV <| cT (fun _ s _ _ => or_move (s.1.trans e35_4)) <| cT (fun f _ _ hg => or_len tu22 (f.2.1.1 hg) rfl) <| cT (fun f _ _ hg => or_eql (f.2.1.1 hg) rfl rfl) <| sF (fun f => or_and f.1 (fun hx => f.2.1.1 hx) rfl (osome hx40).symm) <| sV <| cT (fun _ s _ _ => or_move (s.1.trans e35_5)) <| cT (fun f _ _ hg => or_not (f.2.1.1 hg) rfl) <| sF (fun f => or_and f.1 (fun hx => f.2.1.1 hx) rfl (osome hx41).symm) <| sV <| cT (fun _ s _ _ => or_move (s.1.trans e35_3)) <| cT (fun f _ _ hg => or_call cf21 (args1 (f.2.1.1 hg)) (pack_Pack_Entries_nil_w _   ([] : List ((Int × Int × Int) × (List Int))) rfl) (post_row (m' := (look0 [(1, 43), (2, 44)])) (.inr (by decide)) rfl rfl (fun _ => rfl))) ?_
  refine sc (fun own a wx hf hsl hE => ?_) ?_
  ·obtain ⟨f_28, c_30, -⟩ := hf
   refine sg_t rfl rfl rfl f_28 (fun hg => ?_)
   obtain ⟨⟨A42, cA42⟩, f_30, b_A42⟩ := c_30.1 hg
   exact or_len tu23 f_30 rfl
  exact cT (fun f _ _ hg => or_eql (f.2.1.1 hg) rfl rfl) <| sF (fun f => or_and f.1 (fun hx => f.2.1.1 hx) rfl (osome hx45).symm) <| sV <| cT (fun _ s _ _ => or_move (s.1.trans e35_3)) <| cT (fun f _ _ hg => or_call cf14 (args1 (f.2.1.1 hg)) (pack_Pack_Len_nil_w _   0 rfl) post_val) <| cT (fun f _ _ hg => or_eql (f.2.1.1 hg) rfl (by decide)) <| sF (fun f => or_and f.1 (fun hx => f.2.1.1 hx) rfl rfl) <| sV <| cT (fun _ s _ _ => or_move (s.1.trans e35_3)) <| cT (fun f _ _ hg => or_call cf13 (args1 (f.2.1.1 hg)) (pack_Pack_Blobs_nil_w _   0 rfl) post_val) <| cT (fun f _ _ hg => or_eql (f.2.1.1 hg) rfl (by decide)) <| sF (fun f => or_and f.1 (fun hx => f.2.1.1 hx) rfl rfl) <| sA <| steps_nil
 intro o46 a46 w46 d46 z46 hk46 hf46 hE46
 have e46_2 := gv (hf46 [32] rfl) rfl
 have hX46 := es_ hX35 hE46
 refine fl_ret ?_
 obtain rfl := osome hs
 exact hret _ _ _ _ (.inl rfl) d46 (results1_ rfl (RVal.tmp_ e46_2)) ⟨o46, rfl, hX46⟩
end Go.Proofs.Ytnmkonlfnpcoiaa
