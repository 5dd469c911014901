import Derived.Test.YtnmkonlfnpcoiaaWp5
import Derived.Test.YtnmkonlfnpcoiaaSp6
namespace Go.Proofs.Ytnmkonlfnpcoiaa
open Go.RowKit
set_option linter.unusedVariables false
set_option maxRecDepth 10000
theorem pack_Pack_Blobs_w (w : World) (p1 : (List Int) × (List (List Int)) × (List ((Int × Int × Int) × Int))) (gp1 : Nat) (tp1 : TypeId) (Ap1_0 : Option Addr) (cp1_0 : Nat) (Ap1_1 : Option Addr) (cp1_1 : Nat) (Ap1_2 : Option Addr) (cp1_2 : Nat) (hgp1 : BlkO (fun _ => 0) 0 w gp1 tp1 #[sl Ap1_0 p1.1 cp1_0, sl Ap1_1 p1.2.1 cp1_1, sl Ap1_2 p1.2.2 cp1_2]) (hAp1_0 : RdO (fun _ => 0) [0] w R5 Ap1_0 cp1_0 p1.1) (hAp1_1 : RdO (fun _ => 0) [0] w R22 Ap1_1 cp1_1 p1.2.1) (hAp1_2 : RdO (fun _ => 0) [0] w R66 Ap1_2 cp1_2 p1.2.2) (r : Int) (hs : pack_Pack_Blobs p1 = some r) :
  Calls Try.prog 13 #[pt gp1 0] w fun e w' => ∃ own' : Own, e = .returned (Zi r) ∧ Evo [] (fun _ => 0) own' w w' := by
 refine fl_enter (n := 10) rfl rfl rfl (Nat.le_of_ble_eq_true rfl) ?_
 intro a0 Q d0 z0 harg hret
 have ha0 := harg 0 _ rfl
 clear harg
 have hE0 : Evo [] (fun _ => 0) (fun _ => 0) w w := Evo.refl _ _ _
 refine rq_seq 10 (fun _ => 0) (bz 1) [dv [] [] 2 (Zi 0)] z0 d0 ?_ ?_
 ·exact sO (or_assign rfl) <| steps_nil
 intro o15 a15 w15 d15 z15 hk15 hf15 hE15
 have e15_0 := kt hk15 ha0
 have hX15 := es_ hE0 hE15
 refine fl_seq (fun Q16 hn16 hp16 => ?_)
 refine rq_seq 10 o15 (bz 2) [dv [] [0] 3 (pt gp1 0), dv [0] [] 4 (.bool false)] z15 d15 ?_ ?_
 ·exact sM e15_0 <| sF (fun f => ok1 f.1) <| steps_nil
 intro o17 a17 w17 d17 z17 hk17 hf17 hE17
 have e17_0 := kt hk17 e15_0
 have e17_4 := gv (hf17 [1] rfl) rfl
 have hX17 := es_ hX15 hE17
 refine fl_f e17_4 ?_
 refine fl_skip ?_
 refine hn16 _ _ ?_
 refine rq_seq 10 o17 (bz 6) [dv [] [0] 5 (pt gp1 0), dv [0] [] 6 (pt gp1 0), dv [1] [] 7 (pt gp1 1), dv [2] [] 8 (sl Ap1_1 p1.2.1 cp1_1), dv [3] [] 9 (Zi (p1.2.1.length : Int)), dv [4] [] 2 (Zi (p1.2.1.length : Int))] z17 d17 ?_ ?_
 ·exact sM e17_0 <| sF (fun f => ok1 f.1) <| sF (fun f => or_field fo64_1 f.1 (by rfl)) <| sG to61 (be_ hX17 hgp1) <| sF (fun f => or_len tu61 f.1 rfl) <| sA <| steps_nil
 intro o18 a18 w18 d18 z18 hk18 hf18 hE18
 have e18_2 := gv (hf18 [5] rfl) rfl
 have hX18 := es_ hX17 hE18
 refine fl_ret ?_
 obtain rfl := osome hs
 exact hret _ _ _ _ (.inl rfl) d18 (results1_ rfl (RVal.tmp_ e18_2)) ⟨o18, rfl, hX18⟩
theorem pack_Pack_Len_w (w : World) (p1 : (List Int) × (List (List Int)) × (List ((Int × Int × Int) × Int))) (gp1 : Nat) (tp1 : TypeId) (Ap1_0 : Option Addr) (cp1_0 : Nat) (Ap1_1 : Option Addr) (cp1_1 : Nat) (Ap1_2 : Option Addr) (cp1_2 : Nat) (hgp1 : BlkO (fun _ => 0) 0 w gp1 tp1 #[sl Ap1_0 p1.1 cp1_0, sl Ap1_1 p1.2.1 cp1_1, sl Ap1_2 p1.2.2 cp1_2]) (hAp1_0 : RdO (fun _ => 0) [0] w R5 Ap1_0 cp1_0 p1.1) (hAp1_1 : RdO (fun _ => 0) [0] w R22 Ap1_1 cp1_1 p1.2.1) (hAp1_2 : RdO (fun _ => 0) [0] w R66 Ap1_2 cp1_2 p1.2.2) (r : Int) (hs : pack_Pack_Len p1 = some r) :
  Calls Try.prog 14 #[pt gp1 0] w fun e w' => ∃ own' : Own, e = .returned (Zi r) ∧ Evo [] (fun _ => 0) own' w w' := by
 refine fl_enter (n := 10) rfl rfl rfl (Nat.le_of_ble_eq_true rfl) ?_
 intro a0 Q d0 z0 harg hret
 have ha0 := harg 0 _ rfl
 clear harg
 have hE0 : Evo [] (fun _ => 0) (fun _ => 0) w w := Evo.refl _ _ _
 refine rq_seq 10 (fun _ => 0) (bz 1) [dv [] [] 2 (Zi 0)] z0 d0 ?_ ?_
 ·exact sO (or_assign rfl) <| steps_nil
 intro o15 a15 w15 d15 z15 hk15 hf15 hE15
 have e15_0 := kt hk15 ha0
 have hX15 := es_ hE0 hE15
 refine fl_seq (fun Q16 hn16 hp16 => ?_)
 refine rq_seq 10 o15 (bz 2) [dv [] [0] 3 (pt gp1 0), dv [0] [] 4 (.bool false)] z15 d15 ?_ ?_
 ·exact sM e15_0 <| sF (fun f => ok1 f.1) <| steps_nil
 intro o17 a17 w17 d17 z17 hk17 hf17 hE17
 have e17_0 := kt hk17 e15_0
 have e17_4 := gv (hf17 [1] rfl) rfl
 have hX17 := es_ hX15 hE17
 refine fl_f e17_4 ?_
 refine fl_skip ?_
 refine hn16 _ _ ?_
 refine rq_seq 10 o17 (bz 6) [dv [] [0] 5 (pt gp1 0), dv [0] [] 6 (pt gp1 0), dv [1] [] 7 (pt gp1 2), dv [2] [] 8 (sl Ap1_2 p1.2.2 cp1_2), dv [3] [] 9 (Zi (p1.2.2.length : Int)), dv [4] [] 2 (Zi (p1.2.2.length : Int))] z17 d17 ?_ ?_
 ·exact sM e17_0 <| sF (fun f => ok1 f.1) <| sF (fun f => or_field fo64_2 f.1 (by rfl)) <| sG to62 (be_ hX17 hgp1) <| sF (fun f => or_len tu62 f.1 rfl) <| sA <| steps_nil
 intro o18 a18 w18 d18 z18 hk18 hf18 hE18
 have e18_2 := gv (hf18 [5] rfl) rfl
 have hX18 := es_ hX17 hE18
 refine fl_ret ?_
 obtain rfl := osome hs
 exact hret _ _ _ _ (.inl rfl) d18 (results1_ rfl (RVal.tmp_ e18_2)) ⟨o18, rfl, hX18⟩
theorem pack_Pack_Len_nil_w (w : World) (r : Int) (hs : pack_Pack_Len_nil = some r) :
  Calls Try.prog 14 #[.pointer none] w fun e w' => ∃ own' : Own, e = .returned (Zi r) ∧ Evo [] (fun _ => 0) own' w w' := by
 refine fl_enter (n := 10) rfl rfl rfl (Nat.le_of_ble_eq_true rfl) ?_
 intro a0 Q d0 z0 harg hret
 have ha0 := harg 0 _ rfl
 clear harg
 have hE0 : Evo [] (fun _ => 0) (fun _ => 0) w w := Evo.refl _ _ _
 refine rq_seq 10 (fun _ => 0) (bz 1) [dv [] [] 2 (Zi 0)] z0 d0 ?_ ?_
 ·exact sO (or_assign rfl) <| steps_nil
 intro o15 a15 w15 d15 z15 hk15 hf15 hE15
 have e15_0 := kt hk15 ha0
 have hX15 := es_ hE0 hE15
 refine fl_seq (fun Q16 hn16 hp16 => ?_)
 refine rq_seq 10 o15 (bz 2) [dv [] [0] 3 (.pointer none), dv [0] [] 4 (.bool true)] z15 d15 ?_ ?_
 ·exact sM e15_0 <| sF (fun f => ok1 f.1) <| steps_nil
 intro o17 a17 w17 d17 z17 hk17 hf17 hE17
 have e17_0 := kt hk17 e15_0
 have e17_4 := gv (hf17 [1] rfl) rfl
 have hX17 := es_ hX15 hE17
 refine fl_t e17_4 ?_
 refine rq_seq 10 o17 (bz 1) [dv [] [] 2 (Zi 0)] z17 d17 ?_ ?_
 ·exact sO (or_assign rfl) <| steps_nil
 intro o18 a18 w18 d18 z18 hk18 hf18 hE18
 have e18_2 := gv (hf18 [0] rfl) rfl
 have hX18 := es_ hX17 hE18
 refine fl_ret ?_
 refine hp16 _ _ _ rfl ?_
 obtain rfl := osome hs
 exact hret _ _ _ _ (.inl rfl) d18 (results1_ rfl (RVal.tmp_ e18_2)) ⟨o18, rfl, hX18⟩
theorem law27_known_w (w : World) (r : Bool) (hs : law27_known = some r) :
  Calls Try.prog 9 #[] w fun e w' => ∃ own' : Own, e = .returned (.bool r) ∧ Evo [] (fun _ => 0) own' w w' := by
 refine fl_enter (n := 55) rfl rfl rfl (Nat.le_of_ble_eq_true rfl) ?_
 intro a0 Q d0 z0 harg hret
 clear harg
 have hE0 : Evo [] (fun _ => 0) (fun _ => 0) w w := Evo.refl _ _ _
 refine rq_seq 55 (fun _ => 0) (bz 1) [dv [] [] 0 (.bool false)] z0 d0 ?_ ?_
 ·exact sO (or_assign rfl) <| steps_nil
 intro o66 a66 w66 d66 z66 hk66 hf66 hE66
 have hX66 := es_ hE0 hE66
 obtain ⟨r67, hr67, hs⟩ := obind hs
 refine rq_seq 55 o66 [0, 1, 3, 3, 7, 31] [⟨[], [], [], Fct.mems [69] 8 (fun (x : Option Addr × Nat) => .tuple #[.slice x.1 r67.1.length x.2, Zi r67.2]) (fun (x : Option Addr × Nat) own w => RwO own 69 [] w 5 R5 x.1 x.2 r67.1) (fun hk he h => RwO.evo (hits_sub hk (by decide)) he h)⟩, ⟨[0], [], [], Fct.rel [7, 8] (fun l => ∀ (A68 : Option Addr) (cA68 : Nat), l.getD 1 undef = .tuple #[sl A68 r67.1 cA68, Zi r67.2] → l.getD 0 undef = .tuple #[sl A68 r67.1 cA68, Zi r67.2])⟩, ⟨[1, 0], [], [], Fct.rel [9, 8] (fun l => ∀ (A68 : Option Addr) (cA68 : Nat), l.getD 1 undef = .tuple #[sl A68 r67.1 cA68, Zi r67.2] → l.getD 0 undef = sl A68 r67.1 cA68)⟩, dv [1, 0] [] 10 (Zi r67.2), ⟨[2, 0], [], [], Fct.rel [1, 8] (fun l => ∀ (A68 : Option Addr) (cA68 : Nat), l.getD 1 undef = .tuple #[sl A68 r67.1 cA68, Zi r67.2] → l.getD 0 undef = sl A68 r67.1 cA68)⟩, dv [3] [] 2 (Zi r67.2)] z66 d66 ?_ ?_
 ·refine sO (or_call cf10 (args2 rfl rfl) (pack_Write_w _ ([] : List Int) none 0 ([] : List ((Int × Int × Int) × (List Int))) none 0 RdO.nil_ RdO.nil_ r67 hr67) (post_mems (m := (fun _ => 0)) (m' := (look0 [(1, 69)])) (fun _ _ => .inl rfl) (fun own' w' a' x h1 h => ⟨x, h1, RwO.back_ h (by decide) (.inl (Rep.fl_flat _))⟩))) ?_
  refine sc (fun own a wx hf hsl hE => ?_) ?_
  ·obtain ⟨⟨⟨A68, cA68⟩, (f_8 : a.eval (.tmp 8) = .tuple #[sl A68 r67.1 cA68, Zi r67.2]), b_A68⟩, -⟩ := hf
   exact px (or_mono (f := Fct.val 7 (.tuple #[sl A68 r67.1 cA68, Zi r67.2])) (or_move f_8) (fun own' a' w' v' hp h => fun _ _ h0' => by cases (f_8.symm.trans ((hp.2 8 (by decide)).symm.trans h0')); exact h))
  refine sc (fun own a wx hf hsl hE => ?_) ?_
  ·obtain ⟨(q_7 : ∀ (A68 : Option Addr) (cA68 : Nat), a.eval (.tmp 8) = .tuple #[sl A68 r67.1 cA68, Zi r67.2] → a.eval (.tmp 7) = .tuple #[sl A68 r67.1 cA68, Zi r67.2]), ⟨⟨A68, cA68⟩, (f_8 : a.eval (.tmp 8) = .tuple #[sl A68 r67.1 cA68, Zi r67.2]), b_A68⟩, -⟩ := hf
   have f_7 := q_7 _ _ f_8
   exact px (or_mono (f := Fct.val 9 (sl A68 r67.1 cA68)) (ok1 f_7) (fun own' a' w' v' hp h => fun _ _ h0' => by cases (f_8.symm.trans ((hp.2 8 (by decide)).symm.trans h0')); exact h))
  refine sc (fun own a wx hf hsl hE => ?_) ?_
  ·obtain ⟨(q_7 : ∀ (A68 : Option Addr) (cA68 : Nat), a.eval (.tmp 8) = .tuple #[sl A68 r67.1 cA68, Zi r67.2] → a.eval (.tmp 7) = .tuple #[sl A68 r67.1 cA68, Zi r67.2]), ⟨⟨A68, cA68⟩, f_8, b_A68⟩, -⟩ := hf
   have f_7 := q_7 _ _ f_8
   exact px (ok1 f_7)
  refine sc (fun own a wx hf hsl hE => ?_) ?_
  ·obtain ⟨(q_9 : ∀ (A68 : Option Addr) (cA68 : Nat), a.eval (.tmp 8) = .tuple #[sl A68 r67.1 cA68, Zi r67.2] → a.eval (.tmp 9) = sl A68 r67.1 cA68), ⟨⟨A68, cA68⟩, (f_8 : a.eval (.tmp 8) = .tuple #[sl A68 r67.1 cA68, Zi r67.2]), b_A68⟩, -⟩ := hf
   have f_9 := q_9 _ _ f_8
   exact px (or_mono (f := Fct.val 1 (sl A68 r67.1 cA68)) (or_assign f_9) (fun own' a' w' v' hp h => fun _ _ h0' => by cases (f_8.symm.trans ((hp.2 8 (by decide)).symm.trans h0')); exact h))
  exact sA <| steps_nil
 intro o70 a70 w70 d70 z70 hk70 hf70 hE70
 have e70_2 := gv (hf70 [5] rfl) rfl
 obtain ⟨⟨⟨A68, cA68⟩, (f_8 : a70.eval (.tmp 8) = .tuple #[sl A68 r67.1 cA68, Zi r67.2]), (b70_A68 : RwO o70 69 [] w70 5 R5 A68 cA68 r67.1)⟩, (q_1 : ∀ (A68 : Option Addr) (cA68 : Nat), a70.eval (.tmp 8) = .tuple #[sl A68 r67.1 cA68, Zi r67.2] → a70.eval (.tmp 1) = sl A68 r67.1 cA68), -⟩ := hf70 [0, 4] rfl
 have e70_1 := q_1 _ _ f_8
 have hX70 := es_ hX66 hE70
 obtain ⟨r75, hr75, hs⟩ := obind hs
 refine rq_seq 55 o70 [0, 1, 3, 7, 15, 31, 31, 63, 255] [⟨[], [], [], Fct.row 72 [] 12 5 R5 [7]⟩, ⟨[0], [], [], Fct.rel [13, 12] (fun l => ∀ (A71 : Option Addr) (cA71 : Nat), l.getD 1 undef = .slice A71 [7].length cA71 → l.getD 0 undef = .agg #[Zi 0, Zi 0, Zi 0, .slice A71 [7].length cA71])⟩, ⟨[1, 0], [], [], Fct.row 74 [72] 14 30 R30 [((0, 0, 0), [7])]⟩, ⟨[2], [], [], Fct.mems [77] 15 (fun (x : Option Addr × Nat) => .tuple #[.slice x.1 r75.1.length x.2, Zi r75.2]) (fun (x : Option Addr × Nat) own w => RwO own 77 [] w 5 R5 x.1 x.2 r75.1) (fun hk he h => RwO.evo (hits_sub hk (by decide)) he h)⟩, ⟨[3], [], [], Fct.rel [11, 15] (fun l => ∀ (A76 : Option Addr) (cA76 : Nat), l.getD 1 undef = .tuple #[sl A76 r75.1 cA76, Zi r75.2] → l.getD 0 undef = .tuple #[sl A76 r75.1 cA76, Zi r75.2])⟩, ⟨[4, 3], [], [], Fct.rel [16, 15] (fun l => ∀ (A76 : Option Addr) (cA76 : Nat), l.getD 1 undef = .tuple #[sl A76 r75.1 cA76, Zi r75.2] → l.getD 0 undef = sl A76 r75.1 cA76)⟩, dv [4, 3] [] 17 (Zi r75.2), ⟨[5, 3], [], [], Fct.rel [3, 15] (fun l => ∀ (A76 : Option Addr) (cA76 : Nat), l.getD 1 undef = .tuple #[sl A76 r75.1 cA76, Zi r75.2] → l.getD 0 undef = sl A76 r75.1 cA76)⟩, dv [6] [] 4 (Zi r75.2)] z70 d70 ?_ ?_
 ·refine sO (or_lit (lab := 72) (e := 5) (cs := #[.int .u8 7]) (F := E5) (nw0) rfl rfl (show 1 ≤ maxLen by decide)) ?_
  refine sc (fun own a wx hf hsl hE => ?_) ?_
  ·obtain ⟨⟨⟨A71, cA71⟩, (f_12 : a.eval (.tmp 12) = .slice A71 [7].length cA71), b_A71⟩, -⟩ := hf
   exact px (or_mono (f := Fct.val 13 (.agg #[Zi 0, Zi 0, Zi 0, .slice A71 [7].length cA71])) (ok1 f_12) (fun own' a' w' v' hp h => fun _ _ h0' => by cases (f_12.symm.trans ((hp.2 12 (by decide)).symm.trans h0')); exact h))
  refine sc (fun own a wx hf hsl hE => ?_) ?_
  ·obtain ⟨(q_13 : ∀ (A71 : Option Addr) (cA71 : Nat), a.eval (.tmp 12) = .slice A71 [7].length cA71 → a.eval (.tmp 13) = .agg #[Zi 0, Zi 0, Zi 0, .slice A71 [7].length cA71]), ⟨⟨A71, cA71⟩, f_12, b_A71⟩, -⟩ := hf
   have f_13 := q_13 _ _ f_12
   exact px (or_litN (R := R30) (lab := 74) (L := [72]) (e := 30) (cs := #[Zi 0, Zi 0, Zi 0, .slice A71 [7].length cA71]) (l := [((0, 0, 0), [7])]) (n := 1) [(13, .agg #[Zi 0, Zi 0, Zi 0, .slice A71 [7].length cA71])] rfl rfl ⟨f_13, trivial⟩ (by kernel_rfl) rfl (by decide) ⟨(Ex.iff X30).2 ⟨((), (A71, cA71)), rfl, ⟨trivial, (RwO.rd b_A71)⟩⟩, rfl⟩ rfl)
  refine sc (fun own a wx hf hsl hE => ?_) ?_
  ·obtain ⟨⟨⟨A73, cA73⟩, f_14, b_A73⟩, -⟩ := hf
   exact px (or_call cf10 (args2 rfl f_14) (pack_Write_w _ ([] : List Int) none 0 [((0, 0, 0), [7])] A73 cA73 RdO.nil_ (RdO.zero (RwO.rd b_A73)) r75 hr75) (post_mems (m := (fun _ => 0)) (m' := (look0 [(1, 77)])) (fun _ _ => .inl rfl) (fun own' w' a' x h1 h => ⟨x, h1, RwO.back_ h (by decide) (.inl (Rep.fl_flat _))⟩)))
  refine sc (fun own a wx hf hsl hE => ?_) ?_
  ·obtain ⟨⟨⟨A76, cA76⟩, (f_15 : a.eval (.tmp 15) = .tuple #[sl A76 r75.1 cA76, Zi r75.2]), b_A76⟩, -⟩ := hf
   exact px (or_mono (f := Fct.val 11 (.tuple #[sl A76 r75.1 cA76, Zi r75.2])) (or_move f_15) (fun own' a' w' v' hp h => fun _ _ h0' => by cases (f_15.symm.trans ((hp.2 15 (by decide)).symm.trans h0')); exact h))
  refine sc (fun own a wx hf hsl hE => ?_) ?_
  ·obtain ⟨(q_11 : ∀ (A76 : Option Addr) (cA76 : Nat), a.eval (.tmp 15) = .tuple #[sl A76 r75.1 cA76, Zi r75.2] → a.eval (.tmp 11) = .tuple #[sl A76 r75.1 cA76, Zi r75.2]), ⟨⟨A76, cA76⟩, (f_15 : a.eval (.tmp 15) = .tuple #[sl A76 r75.1 cA76, Zi r75.2]), b_A76⟩, -⟩ := hf
   have f_11 := q_11 _ _ f_15
   exact px (or_mono (f := Fct.val 16 (sl A76 r75.1 cA76)) (ok1 f_11) (fun own' a' w' v' hp h => fun _ _ h0' => by cases (f_15.symm.trans ((hp.2 15 (by decide)).symm.trans h0')); exact h))
  refine sc (fun own a wx hf hsl hE => ?_) ?_
  ·obtain ⟨(q_11 : ∀ (A76 : Option Addr) (cA76 : Nat), a.eval (.tmp 15) = .tuple #[sl A76 r75.1 cA76, Zi r75.2] → a.eval (.tmp 11) = .tuple #[sl A76 r75.1 cA76, Zi r75.2]), ⟨⟨A76, cA76⟩, f_15, b_A76⟩, -⟩ := hf
   have f_11 := q_11 _ _ f_15
   exact px (ok1 f_11)
  refine sc (fun own a wx hf hsl hE => ?_) ?_
  ·obtain ⟨(q_16 : ∀ (A76 : Option Addr) (cA76 : Nat), a.eval (.tmp 15) = .tuple #[sl A76 r75.1 cA76, Zi r75.2] → a.eval (.tmp 16) = sl A76 r75.1 cA76), ⟨⟨A76, cA76⟩, (f_15 : a.eval (.tmp 15) = .tuple #[sl A76 r75.1 cA76, Zi r75.2]), b_A76⟩, -⟩ := hf
   have f_16 := q_16 _ _ f_15
   exact px (or_mono (f := Fct.val 3 (sl A76 r75.1 cA76)) (or_assign f_16) (fun own' a' w' v' hp h => fun _ _ h0' => by cases (f_15.symm.trans ((hp.2 15 (by decide)).symm.trans h0')); exact h))
  exact sA <| steps_nil
 intro o78 a78 w78 d78 z78 hk78 hf78 hE78
 obtain ⟨e78_1, e78_2⟩ := kt2 hk78 e70_1 e70_2
 have e78_4 := gv (hf78 [8] rfl) rfl
 obtain ⟨⟨⟨A76, cA76⟩, (f_15 : a78.eval (.tmp 15) = .tuple #[sl A76 r75.1 cA76, Zi r75.2]), (b78_A76 : RwO o78 77 [] w78 5 R5 A76 cA76 r75.1)⟩, (q_3 : ∀ (A76 : Option Addr) (cA76 : Nat), a78.eval (.tmp 15) = .tuple #[sl A76 r75.1 cA76, Zi r75.2] → a78.eval (.tmp 3) = sl A76 r75.1 cA76), -⟩ := hf78 [3, 7] rfl
 have e78_3 := q_3 _ _ f_15
 have hX78 := es_ hX70 hE78
 have b78_A68 := re_ hE78 b70_A68
 refine rngO_cases hs (fun n89 hn89 hs => ?_) (fun r79 hr79 hs => ?_)
 ·refine rq_seq 55 o78 [0, 1, 3, 7, 7, 15, 63] [dv [] [3] 19 (sl A76 r75.1 cA76), dv [0] [] 20 (.tuple #[.pointer none, Zi n89.2]), dv [1] [] 18 (.tuple #[.pointer none, Zi n89.2]), dv [2] [] 21 (.pointer none), dv [2] [] 22 (Zi n89.2), dv [3] [] 5 (.pointer none), dv [4] [] 6 (Zi n89.2)] z78 d78 ?_ ?_
  ·exact sM e78_3 <| sFE (fun f hE => or_call cf12 (args1 f.1) (pack_Open_n _ r75.1 A76 cA76 (RdO.zero (RwO.rd (re_ hE b78_A76))) n89 hn89) post_val) <| sV <| sF (fun f => ok1 f.1) <| sF (fun f => ok1 f.1) <| sA <| sA <| steps_nil
  intro o90 a90 w90 d90 z90 hk90 hf90 hE90
  obtain ⟨e90_1, e90_2, e90_3, e90_4⟩ := kt4 hk90 e78_1 e78_2 e78_3 e78_4
  have e90_5 := gv (hf90 [5] rfl) rfl
  have e90_6 := gv (hf90 [6] rfl) rfl
  have hX90 := es_ hX78 hE90
  have b90_A68 := re_ hE90 b78_A68
  have b90_A76 := re_ hE90 b78_A76
  obtain ⟨x91, hx91, hs⟩ := obind hs
  obtain ⟨r96, hr96, hs⟩ := obind hs
  obtain ⟨x97, hx97, hs⟩ := obind hs
  obtain ⟨r102, hr102, hs⟩ := obind hs
  refine rp_seq 55 o90 [93, 99] [0, 1, 3, 7, 15, 31, 63, 127, 255, 511, 1023, 2047, 2047, 6143, 16383, 32767, 65535, 131071, 131071, 393215, 1048575, 2097151, 4194303, 8388607, 16777215, 33554431, 67108863, 134217727, 268435455, 536870911, 1073741823, 2147483647, 4294967295] [dv [] [2] 23 (Zi r67.2), dv [0] [] 24 (.bool (decide (r67.2 = 0))), dv [1] [] 25 (.bool (decide (r67.2 = 0))), dc [2] [4] (decide (r67.2 = 0)) 26 (Zi r75.2), dc [2, 3] [] (decide (r67.2 = 0)) 27 (.bool (decide (r75.2 = 0))), dv [2, 4] [] 28 (.bool x91), dv [5] [] 29 (.bool x91), dc [6] [6] x91 30 (Zi n89.2), dc [6, 7] [] x91 31 (.bool (decide (n89.2 = 0))), dv [6, 8] [] 32 (.bool (x91 && (decide (n89.2 = 0)))), dv [9] [] 33 (.bool (x91 && (decide (n89.2 = 0)))), dc [10] [1] (x91 && (decide (n89.2 = 0))) 34 (sl A68 r67.1 cA68), ⟨[10], [], [], Fct.cond (x91 && (decide (n89.2 = 0))) (some 35) (Fct.rowF 93 35 5 R5 [71, 82, 84, 49, 0, 0, 0])⟩, ⟨[10, 12], [], [93], Fct.cond (x91 && (decide (n89.2 = 0))) (some 36) (Fct.viewF [94] 36 R5 [71, 82, 84, 49, 0, 0, 0])⟩, dc [10, 11, 13] [] (x91 && (decide (n89.2 = 0))) 37 (.bool r96), dv [10, 14] [] 38 (.bool x97), dv [15] [] 39 (.bool x97), dc [16] [3] x97 40 (sl A76 r75.1 cA76), ⟨[16], [], [], Fct.cond x97 (some 41) (Fct.rowF 99 41 5 R5 [71, 82, 84, 49, 0, 1, 1, 7, 1, 0, 0, 0, 0])⟩, ⟨[16, 18], [], [99], Fct.cond x97 (some 42) (Fct.viewF [100] 42 R5 [71, 82, 84, 49, 0, 1, 1, 7, 1, 0, 0, 0, 0])⟩, dc [16, 17, 19] [] x97 43 (.bool r102), dv [16, 20] [] 44 (.bool (x97 && r102)), dv [21] [] 45 (.bool (x97 && r102)), dc [22] [5] (x97 && r102) 46 (.pointer none), dc [22, 23] [] (x97 && r102) 47 (Zi 0), dc [22, 24] [] (x97 && r102) 48 (.bool false), dv [22, 25] [] 49 (.bool false), dv [26] [] 50 (.bool false), dc [27] [] false 51 (.pointer none), dc [27] [] false 52 (Zi 0), dc [27] [] false 53 (.bool false), dv [27, 30] [] 54 (.bool false), dv [31] [] 0 (.bool false)] z90 d90 ?_ ?_
  ·refine sM e90_2 <| sF (fun f => or_eql f.1 rfl rfl) <| sV <| cT (fun _ s _ _ => or_move (s.1.trans e90_4)) <| cT (fun f _ _ hg => or_eql (f.2.1.1 hg) rfl rfl) <| sF (fun f => or_and f.1 (fun hx => f.2.1.1 hx) rfl (osome hx91).symm) <| sV <| cT (fun _ s _ _ => or_move (s.1.trans e90_6)) <| cT (fun f _ _ hg => or_eql (f.2.1.1 hg) rfl rfl) <| sF (fun f => or_and f.1 (fun hx => f.2.1.1 hx) rfl rfl) <| sV <| cT (fun _ s _ _ => or_move (s.1.trans e90_1)) <| cT (fun _ _ _ _ => or_litF (lab := 93) (e := 5) (cs := #[.int .u8 71, .int .u8 82, .int .u8 84, .int .u8 49, .int .u8 0, .int .u8 0, .int .u8 0]) (F := E5) (nw0) rfl rfl (show 7 ≤ maxLen by decide)) ?_
   refine sc (fun own a wx hf hsl hE => ?_) ?_
   ·obtain ⟨f_33, c_35, -⟩ := hf
    refine sg_t rfl rfl rfl f_33 (fun hg => ?_)
    obtain ⟨A92, f_35, b_A92⟩ := c_35.1 hg
    exact or_convM (lab := 93) (lab2 := 94) tu22 tn5 f_35 b_A92 (mem_of rfl) (by decide) (by simp)
   refine sc (fun own a wx hf hsl hE => ?_) ?_
   ·obtain ⟨f_33, c_34, c_36, -⟩ := hf
    refine sg_t rfl rfl rfl f_33 (fun hg => ?_)
    have f_34 := c_34.1 hg
    obtain ⟨A95, f_36, b_A95⟩ := c_36.1 hg
    exact or_call cf11 (args2 f_34 f_36) (ref07_Same_w _ r67.1 A68 cA68 [71, 82, 84, 49, 0, 0, 0] A95 ([71, 82, 84, 49, 0, 0, 0].length) (RdO.zero (RwO.rd (re_ hE b90_A68))) (RdO.zero b_A95) r96 (gd_t hr96 hg)) post_val
   refine sF (fun f => or_and f.1 (fun hx => f.2.1.1 hx) rfl (osome hx97).symm) <| sV <| cT (fun _ s _ _ => or_move (s.1.trans e90_3)) <| cT (fun _ _ _ _ => or_litF (lab := 99) (e := 5) (cs := #[.int .u8 71, .int .u8 82, .int .u8 84, .int .u8 49, .int .u8 0, .int .u8 1, .int .u8 1, .int .u8 7, .int .u8 1, .int .u8 0, .int .u8 0, .int .u8 0, .int .u8 0]) (F := E5) (nw0) rfl rfl (show 13 ≤ maxLen by decide)) ?_
   refine sc (fun own a wx hf hsl hE => ?_) ?_
   ·obtain ⟨f_39, c_41, -⟩ := hf
    refine sg_t rfl rfl rfl f_39 (fun hg => ?_)
    obtain ⟨A98, f_41, b_A98⟩ := c_41.1 hg
    exact or_convM (lab := 99) (lab2 := 100) tu22 tn5 f_41 b_A98 (mem_of rfl) (by decide) (by simp)
   refine sc (fun own a wx hf hsl hE => ?_) ?_
   ·obtain ⟨f_39, c_40, c_42, -⟩ := hf
    refine sg_t rfl rfl rfl f_39 (fun hg => ?_)
    have f_40 := c_40.1 hg
    obtain ⟨A101, f_42, b_A101⟩ := c_42.1 hg
    exact or_call cf11 (args2 f_40 f_42) (ref07_Same_w _ r75.1 A76 cA76 [71, 82, 84, 49, 0, 1, 1, 7, 1, 0, 0, 0, 0] A101 ([71, 82, 84, 49, 0, 1, 1, 7, 1, 0, 0, 0, 0].length) (RdO.zero (RwO.rd (re_ hE b90_A76))) (RdO.zero b_A101) r102 (gd_t hr102 hg)) post_val
   refine sF (fun f => or_and f.1 (fun hx => f.2.1.1 hx) rfl rfl) <| sV <| cT (fun _ s _ _ => or_move (s.1.trans e90_5)) <| cT (fun f _ _ hg => or_call cf14 (args1 (f.2.1.1 hg)) (pack_Pack_Len_nil_w _   0 rfl) post_val) <| cT (fun f _ _ hg => or_eql (f.2.1.1 hg) rfl (by decide)) <| sF (fun f => or_and f.1 (fun hx => f.2.1.1 hx) rfl (Bool.and_false _)) <| sV ?_
   refine sc (fun own a wx hf hsl hE => ?_) ?_
   ·obtain ⟨f_50, -⟩ := hf
    refine sg_t rfl rfl rfl f_50 (fun hg => ?_)
    exact absurd hg (by simp)
   refine sc (fun own a wx hf hsl hE => ?_) ?_
   ·obtain ⟨f_50, -⟩ := hf
    refine sg_t rfl rfl rfl f_50 (fun hg => ?_)
    exact absurd hg (by simp)
   refine sc (fun own a wx hf hsl hE => ?_) ?_
   ·obtain ⟨f_50, -⟩ := hf
    refine sg_t rfl rfl rfl f_50 (fun hg => ?_)
    exact absurd hg (by simp)
   exact sF (fun f => or_and f.1 (fun hx => f.2.1.1 hx) rfl rfl) <| sA <| steps_nil
  intro o103 a103 w103 d103 z103 hk103 hf103 hE103
  have e103_0 := gv (hf103 [32] rfl) rfl
  have hX103 := es_ hX90 hE103
  refine fl_ret ?_
  obtain rfl := osome hs
  exact hret _ _ _ _ (.inl rfl) d103 (results1_ rfl (RVal.tmp_ e103_0)) ⟨o103, rfl, hX103⟩
 refine rq_seq 55 o78 [0, 1, 3, 7, 7, 15, 63] [dv [] [3] 19 (sl A76 r75.1 cA76), ⟨[0], [], [], Fct.mems [84, 85, 86, 87, 88] 20 (fun (x : (Option Addr × Nat) × (Option Addr × Nat) × (Option Addr × Nat) × (Option Addr × Nat)) => .tuple #[.pointer (some ⟨x.1.2, 0, none⟩), Zi r79.2]) (fun (x : (Option Addr × Nat) × (Option Addr × Nat) × (Option Addr × Nat) × (Option Addr × Nat)) own w => RwO own 84 [] w 5 R5 x.2.1.1 x.2.1.2 r79.1.1 ∧ RwO own 85 [86] w 22 R22 x.2.2.1.1 x.2.2.1.2 r79.1.2.1 ∧ RwO own 87 [] w 66 R66 x.2.2.2.1 x.2.2.2.2 r79.1.2.2 ∧ BlkO own 88 w x.1.2 64 #[.slice x.2.1.1 r79.1.1.length x.2.1.2, .slice x.2.2.1.1 r79.1.2.1.length x.2.2.1.2, .slice x.2.2.2.1 r79.1.2.2.length x.2.2.2.2]) (fun hk he h => ⟨RwO.evo (hits_sub hk (by decide)) he h.1, RwO.evo (hits_sub hk (by decide)) he h.2.1, RwO.evo (hits_sub hk (by decide)) he h.2.2.1, BlkO.evo (not_hit hk (by decide)) he h.2.2.2⟩)⟩, ⟨[1], [], [], Fct.rel [18, 20] (fun l => ∀ (cA80 : Nat), l.getD 1 undef = .tuple #[pt cA80 0, Zi r79.2] → l.getD 0 undef = .tuple #[pt cA80 0, Zi r79.2])⟩, ⟨[2, 1], [], [], Fct.rel [21, 20] (fun l => ∀ (cA80 : Nat), l.getD 1 undef = .tuple #[pt cA80 0, Zi r79.2] → l.getD 0 undef = pt cA80 0)⟩, dv [2, 1] [] 22 (Zi r79.2), ⟨[3, 1], [], [], Fct.rel [5, 20] (fun l => ∀ (cA80 : Nat), l.getD 1 undef = .tuple #[pt cA80 0, Zi r79.2] → l.getD 0 undef = pt cA80 0)⟩, dv [4] [] 6 (Zi r79.2)] z78 d78 ?_ ?_
 ·refine sM e78_3 <| sFE (fun f hE => or_call cf12 (args1 f.1) (pack_Open_w _ r75.1 A76 cA76 (RdO.zero (RwO.rd (re_ hE b78_A76))) r79 hr79) (post_mems (m := (fun _ => 0)) (m' := (look0 [(1, 88), (2, 84), (3, 85), (4, 86), (5, 87)])) (fun _ _ => .inl rfl) (fun own' w' a' x h1 h => ⟨x, h1, ⟨RwO.back_ h.1 (by decide) (.inl (Rep.fl_flat _)), RwO.back_ h.2.1 (by decide) (.inr (by decide)), RwO.back_ h.2.2.1 (by decide) (.inl (Rep.fl_flat _)), BlkO.back_ h.2.2.2 (by decide)⟩⟩))) ?_
  refine sc (fun own a wx hf hsl hE => ?_) ?_
  ·obtain ⟨⟨⟨⟨A80, cA80⟩, ⟨A81, cA81⟩, ⟨A82, cA82⟩, ⟨A83, cA83⟩⟩, (f_20 : a.eval (.tmp 20) = .tuple #[pt cA80 0, Zi r79.2]), b_A81, b_A82, b_A83, b_cA80⟩, -⟩ := hf
   exact px (or_mono (f := Fct.val 18 (.tuple #[pt cA80 0, Zi r79.2])) (or_move f_20) (fun own' a' w' v' hp h => fun _ h0' => by cases (f_20.symm.trans ((hp.2 20 (by decide)).symm.trans h0')); exact h))
  refine sc (fun own a wx hf hsl hE => ?_) ?_
  ·obtain ⟨(q_18 : ∀ (cA80 : Nat), a.eval (.tmp 20) = .tuple #[pt cA80 0, Zi r79.2] → a.eval (.tmp 18) = .tuple #[pt cA80 0, Zi r79.2]), ⟨⟨⟨A80, cA80⟩, ⟨A81, cA81⟩, ⟨A82, cA82⟩, ⟨A83, cA83⟩⟩, (f_20 : a.eval (.tmp 20) = .tuple #[pt cA80 0, Zi r79.2]), b_A81, b_A82, b_A83, b_cA80⟩, -⟩ := hf
   have f_18 := q_18 _ f_20
   exact px (or_mono (f := Fct.val 21 (pt cA80 0)) (ok1 f_18) (fun own' a' w' v' hp h => fun _ h0' => by cases (f_20.symm.trans ((hp.2 20 (by decide)).symm.trans h0')); exact h))
  refine sc (fun own a wx hf hsl hE => ?_) ?_
  ·obtain ⟨(q_18 : ∀ (cA80 : Nat), a.eval (.tmp 20) = .tuple #[pt cA80 0, Zi r79.2] → a.eval (.tmp 18) = .tuple #[pt cA80 0, Zi r79.2]), ⟨⟨⟨A80, cA80⟩, ⟨A81, cA81⟩, ⟨A82, cA82⟩, ⟨A83, cA83⟩⟩, f_20, b_A81, b_A82, b_A83, b_cA80⟩, -⟩ := hf
   have f_18 := q_18 _ f_20
   exact px (ok1 f_18)
  refine sc (fun own a wx hf hsl hE => ?_) ?_
  ·obtain ⟨(q_21 : ∀ (cA80 : Nat), a.eval (.tmp 20) = .tuple #[pt cA80 0, Zi r79.2] → a.eval (.tmp 21) = pt cA80 0), ⟨⟨⟨A80, cA80⟩, ⟨A81, cA81⟩, ⟨A82, cA82⟩, ⟨A83, cA83⟩⟩, (f_20 : a.eval (.tmp 20) = .tuple #[pt cA80 0, Zi r79.2]), b_A81, b_A82, b_A83, b_cA80⟩, -⟩ := hf
   have f_21 := q_21 _ f_20
   exact px (or_mono (f := Fct.val 5 (pt cA80 0)) (or_assign f_21) (fun own' a' w' v' hp h => fun _ h0' => by cases (f_20.symm.trans ((hp.2 20 (by decide)).symm.trans h0')); exact h))
  exact sA <| steps_nil
 intro o104 a104 w104 d104 z104 hk104 hf104 hE104
 obtain ⟨e104_1, e104_2, e104_3, e104_4⟩ := kt4 hk104 e78_1 e78_2 e78_3 e78_4
 have e104_6 := gv (hf104 [6] rfl) rfl
 obtain ⟨⟨⟨⟨A80, cA80⟩, ⟨A81, cA81⟩, ⟨A82, cA82⟩, ⟨A83, cA83⟩⟩, (f_20 : a104.eval (.tmp 20) = .tuple #[pt cA80 0, Zi r79.2]), (b104_A81 : RwO o104 84 [] w104 5 R5 A81 cA81 r79.1.1), (b104_A82 : RwO o104 85 [86] w104 22 R22 A82 cA82 r79.1.2.1), (b104_A83 : RwO o104 87 [] w104 66 R66 A83 cA83 r79.1.2.2), (b104_cA80 : BlkO o104 88 w104 cA80 64 #[sl A81 r79.1.1 cA81, sl A82 r79.1.2.1 cA82, sl A83 r79.1.2.2 cA83])⟩, (q_5 : ∀ (cA80 : Nat), a104.eval (.tmp 20) = .tuple #[pt cA80 0, Zi r79.2] → a104.eval (.tmp 5) = pt cA80 0), -⟩ := hf104 [1, 5] rfl
 have e104_5 := q_5 _ f_20
 have hX104 := es_ hX78 hE104
 have b104_A68 := re_ hE104 b78_A68
 have b104_A76 := re_ hE104 b78_A76
 obtain ⟨x105, hx105, hs⟩ := obind hs
 obtain ⟨r110, hr110, hs⟩ := obind hs
 obtain ⟨x111, hx111, hs⟩ := obind hs
 obtain ⟨r116, hr116, hs⟩ := obind hs
 obtain ⟨r117, hr117, hs⟩ := obind hs
 obtain ⟨x118, hx118, hs⟩ := obind hs
 obtain ⟨r119, hr119, hs⟩ := obind hs
 refine rp_seq 55 o104 [107, 113] [0, 1, 3, 7, 15, 31, 63, 127, 255, 511, 1023, 2047, 2047, 6143, 16383, 32767, 65535, 131071, 131071, 393215, 1048575, 2097151, 4194303, 8388607, 16777215, 33554431, 67108863, 134217727, 268435455, 536870911, 1073741823, 2147483647, 4294967295] [dv [] [2] 23 (Zi r67.2), dv [0] [] 24 (.bool (decide (r67.2 = 0))), dv [1] [] 25 (.bool (decide (r67.2 = 0))), dc [2] [4] (decide (r67.2 = 0)) 26 (Zi r75.2), dc [2, 3] [] (decide (r67.2 = 0)) 27 (.bool (decide (r75.2 = 0))), dv [2, 4] [] 28 (.bool x105), dv [5] [] 29 (.bool x105), dc [6] [6] x105 30 (Zi r79.2), dc [6, 7] [] x105 31 (.bool (decide (r79.2 = 0))), dv [6, 8] [] 32 (.bool (x105 && (decide (r79.2 = 0)))), dv [9] [] 33 (.bool (x105 && (decide (r79.2 = 0)))), dc [10] [1] (x105 && (decide (r79.2 = 0))) 34 (sl A68 r67.1 cA68), ⟨[10], [], [], Fct.cond (x105 && (decide (r79.2 = 0))) (some 35) (Fct.rowF 107 35 5 R5 [71, 82, 84, 49, 0, 0, 0])⟩, ⟨[10, 12], [], [107], Fct.cond (x105 && (decide (r79.2 = 0))) (some 36) (Fct.viewF [108] 36 R5 [71, 82, 84, 49, 0, 0, 0])⟩, dc [10, 11, 13] [] (x105 && (decide (r79.2 = 0))) 37 (.bool r110), dv [10, 14] [] 38 (.bool x111), dv [15] [] 39 (.bool x111), dc [16] [3] x111 40 (sl A76 r75.1 cA76), ⟨[16], [], [], Fct.cond x111 (some 41) (Fct.rowF 113 41 5 R5 [71, 82, 84, 49, 0, 1, 1, 7, 1, 0, 0, 0, 0])⟩, ⟨[16, 18], [], [113], Fct.cond x111 (some 42) (Fct.viewF [114] 42 R5 [71, 82, 84, 49, 0, 1, 1, 7, 1, 0, 0, 0, 0])⟩, dc [16, 17, 19] [] x111 43 (.bool r116), dv [16, 20] [] 44 (.bool (x111 && r116)), dv [21] [] 45 (.bool (x111 && r116)), dc [22] [5] (x111 && r116) 46 (pt cA80 0), dc [22, 23] [] (x111 && r116) 47 (Zi r117), dc [22, 24] [] (x111 && r116) 48 (.bool (decide (r117 = 1))), dv [22, 25] [] 49 (.bool x118), dv [26] [] 50 (.bool x118), dc [27] [5] x118 51 (pt cA80 0), dc [27, 28] [] x118 52 (Zi r119), dc [27, 29] [] x118 53 (.bool (decide (r119 = 1))), dv [27, 30] [] 54 (.bool (x118 && (decide (r119 = 1)))), dv [31] [] 0 (.bool (x118 && (decide (r119 = 1))))] z104 d104 ?_ ?_
 ·refine sM e104_2 <| sF (fun f => or_eql f.1 rfl rfl) <| sV <| cT (fun _ s _ _ => or_move (s.1.trans e104_4)) <| cT (fun f _ _ hg => or_eql (f.2.1.1 hg) rfl rfl) <| sF (fun f => or_and f.1 (fun hx => f.2.1.1 hx) rfl (osome hx105).symm) <| sV <| cT (fun _ s _ _ => or_move (s.1.trans e104_6)) <| cT (fun f _ _ hg => or_eql (f.2.1.1 hg) rfl rfl) <| sF (fun f => or_and f.1 (fun hx => f.2.1.1 hx) rfl rfl) <| sV <| cT (fun _ s _ _ => or_move (s.1.trans e104_1)) <| cT (fun _ _ _ _ => or_litF (lab := 107) (e := 5) (cs := #[.int .u8 71, .int .u8 82, .int .u8 84, .int .u8 49, .int .u8 0, .int .u8 0, .int .u8 0]) (F := E5) (nw0) rfl rfl (show 7 ≤ maxLen by decide)) ?_
  refine sc (fun own a wx hf hsl hE => ?_) ?_
  ·obtain ⟨f_33, c_35, -⟩ := hf
   refine sg_t rfl rfl rfl f_33 (fun hg => ?_)
   obtain ⟨A106, f_35, b_A106⟩ := c_35.1 hg
   exact or_convM (lab := 107) (lab2 := 108) tu22 tn5 f_35 b_A106 (mem_of rfl) (by decide) (by simp)
  refine sc (fun own a wx hf hsl hE => ?_) ?_
  ·obtain ⟨f_33, c_34, c_36, -⟩ := hf
   refine sg_t rfl rfl rfl f_33 (fun hg => ?_)
   have f_34 := c_34.1 hg
   obtain ⟨A109, f_36, b_A109⟩ := c_36.1 hg
   exact or_call cf11 (args2 f_34 f_36) (ref07_Same_w _ r67.1 A68 cA68 [71, 82, 84, 49, 0, 0, 0] A109 ([71, 82, 84, 49, 0, 0, 0].length) (RdO.zero (RwO.rd (re_ hE b104_A68))) (RdO.zero b_A109) r110 (gd_t hr110 hg)) post_val
  refine sF (fun f => or_and f.1 (fun hx => f.2.1.1 hx) rfl (osome hx111).symm) <| sV <| cT (fun _ s _ _ => or_move (s.1.trans e104_3)) <| cT (fun _ _ _ _ => or_litF (lab := 113) (e := 5) (cs := #[.int .u8 71, .int .u8 82, .int .u8 84, .int .u8 49, .int .u8 0, .int .u8 1, .int .u8 1, .int .u8 7, .int .u8 1, .int .u8 0, .int .u8 0, .int .u8 0, .int .u8 0]) (F := E5) (nw0) rfl rfl (show 13 ≤ maxLen by decide)) ?_
  refine sc (fun own a wx hf hsl hE => ?_) ?_
  ·obtain ⟨f_39, c_41, -⟩ := hf
   refine sg_t rfl rfl rfl f_39 (fun hg => ?_)
   obtain ⟨A112, f_41, b_A112⟩ := c_41.1 hg
   exact or_convM (lab := 113) (lab2 := 114) tu22 tn5 f_41 b_A112 (mem_of rfl) (by decide) (by simp)
  refine sc (fun own a wx hf hsl hE => ?_) ?_
  ·obtain ⟨f_39, c_40, c_42, -⟩ := hf
   refine sg_t rfl rfl rfl f_39 (fun hg => ?_)
   have f_40 := c_40.1 hg
   obtain ⟨A115, f_42, b_A115⟩ := c_42.1 hg
   exact or_call cf11 (args2 f_40 f_42) (ref07_Same_w _ r75.1 A76 cA76 [71, 82, 84, 49, 0, 1, 1, 7, 1, 0, 0, 0, 0] A115 ([71, 82, 84, 49, 0, 1, 1, 7, 1, 0, 0, 0, 0].length) (RdO.zero (RwO.rd (re_ hE b104_A76))) (RdO.zero b_A115) r116 (gd_t hr116 hg)) post_val
  exact sF (fun f => or_and f.1 (fun hx => f.2.1.1 hx) rfl rfl) <| sV <| cT (fun _ s _ _ => or_move (s.1.trans e104_5)) <| cT (fun f _ hE hg => or_call cf14 (args1 (f.2.1.1 hg)) (pack_Pack_Len_w _ r79.1 cA80 64 A81 cA81 A82 cA82 A83 cA83 (BlkO.zero_ (be_ hE b104_cA80)) (RdO.zero (RwO.rd (re_ hE b104_A81))) (RdO.zero (RwO.rd (re_ hE b104_A82))) (RdO.zero (RwO.rd (re_ hE b104_A83))) r117 (gd_t hr117 hg)) post_val) <| cT (fun f _ _ hg => or_eql (f.2.1.1 hg) rfl rfl) <| sF (fun f => or_and f.1 (fun hx => f.2.1.1 hx) rfl (osome hx118).symm) <| sV <| cT (fun _ s _ _ => or_move (s.1.trans e104_5)) <| cT (fun f _ hE hg => or_call cf13 (args1 (f.2.1.1 hg)) (pack_Pack_Blobs_w _ r79.1 cA80 64 A81 cA81 A82 cA82 A83 cA83 (BlkO.zero_ (be_ hE b104_cA80)) (RdO.zero (RwO.rd (re_ hE b104_A81))) (RdO.zero (RwO.rd (re_ hE b104_A82))) (RdO.zero (RwO.rd (re_ hE b104_A83))) r119 (gd_t hr119 hg)) post_val) <| cT (fun f _ _ hg => or_eql (f.2.1.1 hg) rfl rfl) <| sF (fun f => or_and f.1 (fun hx => f.2.1.1 hx) rfl rfl) <| sA <| steps_nil
 intro o120 a120 w120 d120 z120 hk120 hf120 hE120
 have e120_0 := gv (hf120 [32] rfl) rfl
 have hX120 := es_ hX104 hE120
 refine fl_ret ?_
 obtain rfl := osome hs
 exact hret _ _ _ _ (.inl rfl) d120 (results1_ rfl (RVal.tmp_ e120_0)) ⟨o120, rfl, hX120⟩
end Go.Proofs.Ytnmkonlfnpcoiaa
