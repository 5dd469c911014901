import Derived.Test.YtoccfdohlefifaaWp2
import Derived.Test.YtoccfdohlefifaaSp3
namespace Go.Proofs.Ytoccfdohlefifaa
open Go.RowKit
set_option linter.unusedVariables false
set_option maxRecDepth 10000
theorem slices_Clone_int_int_w (w : World) (s1 : List Int) (As1 : Option Addr) (cs1 : Nat) (hs1 : RdO (fun _ => 0) [0] w R3 As1 cs1 s1) (r : List Int) (hs : slices_Clone_int_int s1 = some r) :
  Calls Try.prog 72 #[sl As1 s1 cs1] w fun e w' => ∃ (own' : Own) (x : Option Addr × Nat), e = .returned (.slice x.1 r.length x.2) ∧ Evo [] (fun _ => 0) own' w w' ∧ RwO own' 1 [] w' 3 R3 x.1 x.2 r := by
 refine fl_enter (n := 8) rfl rfl rfl (Nat.le_of_ble_eq_true rfl) ?_
 intro a0 Q d0 z0 harg hret
 have ha0 := harg 0 _ rfl
 clear harg
 have hE0 : Evo [] (fun _ => 0) (fun _ => 0) w w := Evo.refl _ _ _
 refine rq_seq 8 (fun _ => 0) (bz 1) [dv [] [] 2 (.slice none 0 0)] z0 d0 ?_ ?_
 ·exact sO (or_assign rfl) <| steps_nil
 intro o22 a22 w22 d22 z22 hk22 hf22 hE22
 have e22_0 := kt hk22 ha0
 have hX22 := es_ hE0 hE22
 refine fl_seq (fun Q23 hn23 hp23 => ?_)
 refine rq_seq 8 o22 (bz 2) [dv [] [0] 3 (sl As1 s1 cs1), dv [0] [] 4 (.bool As1.isNone)] z22 d22 ?_ ?_
 ·exact sM e22_0 <| sF (fun f => or_eqlNil tu22 f.1 rfl) <| steps_nil
 intro o24 a24 w24 d24 z24 hk24 hf24 hE24
 have e24_0 := kt hk24 e22_0
 have e24_4 := gv (hf24 [1] rfl) rfl
 have hX24 := es_ hX22 hE24
 refine wpIn_cond_split e24_4 (fun hA25 => ?_) (fun hA25 => ?_)
 ·have hl25 : s1 = [] := RdO.nil_of (RdO.evo rfl hX24 hs1) hA25
  have hs0 : ((app ([] : List Int) s1).bind fun x28 => some x28) = some r := hs
  have hs : (some ([] : List Int)) = some r := by simpa [hl25, app, cut, capB] using hs0
  refine rq_seq 8 o24 (bz 1) [dv [] [] 2 (.slice none 0 0)] z24 d24 ?_ ?_
  ·exact sO (or_assign rfl) <| steps_nil
  intro o32 a32 w32 d32 z32 hk32 hf32 hE32
  have e32_2 := gv (hf32 [0] rfl) rfl
  have hX32 := es_ hX24 hE32
  refine fl_ret ?_
  refine hp23 _ _ _ rfl ?_
  obtain rfl := osome hs
  exact hret _ _ _ _ (.inl rfl) d32 (results1_ rfl (RVal.tmp_ e32_2)) ⟨o32, (none, 0), rfl, hX32, RwO.nil_⟩
 refine fl_skip ?_
 refine hn23 _ _ ?_
 obtain ⟨x28, hx28, hs⟩ := obind hs
 refine rp_seq 8 o24 [27] [0, 0, 3, 7] [⟨[], [], [], Fct.row 27 [] 5 3 R3 ([] : List Int)⟩, dv [] [0] 6 (sl As1 s1 cs1), ⟨[0, 1], [], [27], Fct.row 29 [] 7 3 R3 x28⟩, ⟨[2], [], [], Fct.rel [2, 7] (fun l => ∀ (A30 : Option Addr) (cA30 : Nat), l.getD 1 undef = sl A30 x28 cA30 → l.getD 0 undef = sl A30 x28 cA30)⟩] z24 d24 ?_ ?_
 ·refine sO (or_lit (lab := 27) (e := 3) (cs := #[]) (F := E3) (nw0) rfl rfl (show 0 ≤ maxLen by decide)) <| sM e24_0 ?_
  refine sc (fun own a wx hf hsl hE => ?_) ?_
  ·obtain ⟨⟨⟨A26, cA26⟩, f_5, b_A26⟩, f_6, -⟩ := hf
   exact px (or_append (R := R3) (lab := 27) (lab2 := 29) (L := []) (L3 := []) tp22 f_5 b_A26 (by decide) f_6 (RdO.evo rfl hE (RdO.evo rfl hX24 hs1)) hx28 (by decide) (by decide) (mem_of rfl) (.inl (Rep.fl_flat _)))
  refine sc (fun own a wx hf hsl hE => ?_) ?_
  ·obtain ⟨⟨⟨A30, cA30⟩, (f_7 : a.eval (.tmp 7) = sl A30 x28 cA30), b_A30⟩, -⟩ := hf
   exact px (or_mono (f := Fct.val 2 (sl A30 x28 cA30)) (or_assign f_7) (fun own' a' w' v' hp h => fun _ _ h0' => by cases (f_7.symm.trans ((hp.2 7 (by decide)).symm.trans h0')); exact h))
  exact steps_nil
 intro o31 a31 w31 d31 z31 hk31 hf31 hE31
 obtain ⟨⟨⟨A30, cA30⟩, (f_7 : a31.eval (.tmp 7) = sl A30 x28 cA30), (b31_A30 : RwO o31 29 [] w31 3 R3 A30 cA30 x28)⟩, (q_2 : ∀ (A30 : Option Addr) (cA30 : Nat), a31.eval (.tmp 7) = sl A30 x28 cA30 → a31.eval (.tmp 2) = sl A30 x28 cA30), -⟩ := hf31 [2, 3] rfl
 have e31_2 := q_2 _ _ f_7
 have hX31 := es_ hX24 hE31
 refine fl_ret ?_
 obtain rfl := (osome hs).symm
 exact hret _ _ _ _ (.inl rfl) d31 (results1_ rfl (RVal.tmp_ e31_2)) ⟨(rl [(29, 1)] o31), (A30, cA30), rfl, (Evo.rl_ hX31 (fun _ => Nat.le_refl 0) rfl), (RwO.rl_ b31_A30)⟩
theorem order_Uniq_1_w (w : World) (x1 : Int) (y2 : Int) (r : Bool) (hs : order_Uniq_1 x1 y2 = some r) :
  Calls Try.prog 68 #[Zi x1, Zi y2] w fun e w' => ∃ own' : Own, e = .returned (.bool r) ∧ Evo [] (fun _ => 0) own' w w' := by
 refine fl_enter (n := 8) rfl rfl rfl (Nat.le_of_ble_eq_true rfl) ?_
 intro a0 Q d0 z0 harg hret
 have ha0 := harg 0 _ rfl
 have ha1 := harg 1 _ rfl
 clear harg
 have hE0 : Evo [] (fun _ => 0) (fun _ => 0) w w := Evo.refl _ _ _
 refine rq_seq 8 (fun _ => 0) (bz 1) [dv [] [] 4 (.bool false)] z0 d0 ?_ ?_
 ·exact sO (or_assign rfl) <| steps_nil
 intro o13 a13 w13 d13 z13 hk13 hf13 hE13
 obtain ⟨e13_0, e13_1⟩ := kt2 hk13 ha0 ha1
 have hX13 := es_ hE0 hE13
 refine rq_seq 8 o13 [0, 0, 3, 7] [dv [] [0] 5 (Zi x1), dv [] [1] 6 (Zi y2), dv [0, 1] [] 7 (.bool (decide (x1 < y2))), dv [2] [] 4 (.bool (decide (x1 < y2)))] z13 d13 ?_ ?_
 ·exact sM e13_0 <| sM e13_1 <| sF (fun f => or_lss f.1 f.2.1 rfl) <| sA <| steps_nil
 intro o14 a14 w14 d14 z14 hk14 hf14 hE14
 have e14_4 := gv (hf14 [3] rfl) rfl
 have hX14 := es_ hX13 hE14
 refine fl_ret ?_
 obtain rfl := osome hs
 exact hret _ _ _ _ (.inl rfl) d14 (results1_ rfl (RVal.tmp_ e14_4)) ⟨o14, rfl, hX14⟩
theorem order_merged_int_Uniq_1_w (w : World) (x1 : List Int) (Ax1 : Option Addr) (cx1 : Nat) (b2 : List Int) (Ab2 : Option Addr) (cb2 : Nat) (hx1 : RdO (fun _ => 0) [0] w R3 Ax1 cx1 x1) (hb2 : RdO (fun _ => 0) [0] w R3 Ab2 cb2 b2) (r : List Int) (hs : order_merged_int_Uniq_1 x1 b2 = some r) :
  Calls Try.prog 73 #[sl Ax1 x1 cx1, sl Ab2 b2 cb2, .func (.func 68) #[] #[]] w fun e w' => ∃ (own' : Own) (x : Option Addr × Nat), e = .returned (.slice x.1 r.length x.2) ∧ Evo [] (fun _ => 0) own' w w' ∧ RwO own' 1 [] w' 3 R3 x.1 x.2 r := by
 refine fl_enter (n := 51) rfl rfl rfl (Nat.le_of_ble_eq_true rfl) ?_
 intro a0 Q d0 z0 harg hret
 have ha0 := harg 0 _ rfl
 have ha1 := harg 1 _ rfl
 have ha2 := harg 2 _ rfl
 clear harg
 have hE0 : Evo [] (fun _ => 0) (fun _ => 0) w w := Evo.refl _ _ _
 refine rq_seq 51 (fun _ => 0) (bz 1) [dv [] [] 6 (.slice none 0 0)] z0 d0 ?_ ?_
 ·exact sO (or_assign rfl) <| steps_nil
 intro o204 a204 w204 d204 z204 hk204 hf204 hE204
 obtain ⟨e204_0, e204_1, e204_2⟩ := kt3 hk204 ha0 ha1 ha2
 have hX204 := es_ hE0 hE204
 refine fl_scope (S := ((List Int) × (List Int) × (List Int))) (body := (fun s => order_merged_int_Uniq_1_b1_0 s.1 s.2.1 s.2.2)) (z := r) (fun _ => 0) ?_ (fun s a wx => ((fun (s : (List Int) × (List Int) × (List Int)) => match s with | (x254, b257, out260) => ∃ (ox : Own) (A252 : Option Addr) (c253 : Nat) (A255 : Option Addr) (c256 : Nat) (A258 : Option Addr) (c259 : Nat), a.defers = [] ∧ a.tmps.size = 51 ∧ a.eval (.tmp 0) = sl A252 x254 c253 ∧ a.eval (.tmp 1) = sl A255 b257 c256 ∧ a.eval (.tmp 2) = .func (.func 68) #[] #[] ∧ a.eval (.tmp 7) = sl A258 out260 c259 ∧ Evo [] (fun _ => 0) ox w wx ∧ RdO ox [0] wx R3 A252 c253 x254 ∧ RdO ox [0] wx R3 A255 c256 b257 ∧ RwO ox 261 [] wx 3 R3 A258 c259 out260) : (((List Int) × (List Int) × (List Int))) → Prop) s) ?_ ?_
 ·intro s; rfl
 ·intro Q305 hj305 hp305
  obtain ⟨x350, hx350, hs⟩ := obind hs
  obtain ⟨x351, hx351, hs⟩ := obind hs
  refine rq_seq 51 o204 [0, 1, 0, 4, 15, 31, 63] [dv [] [0] 8 (sl Ax1 x1 cx1), dv [0] [] 9 (Zi (x1.length : Int)), dv [] [1] 10 (sl Ab2 b2 cb2), dv [2] [] 11 (Zi (b2.length : Int)), dv [1, 3] [] 12 (Zi x350), ⟨[4], [], [], Fct.row 353 [] 13 3 R3 x351⟩, ⟨[5], [], [], Fct.rel [7, 13] (fun l => ∀ (A352 : Option Addr) (cA352 : Nat), l.getD 1 undef = sl A352 x351 cA352 → l.getD 0 undef = sl A352 x351 cA352)⟩] z204 d204 ?_ ?_
  ·refine sM e204_0 <| sF (fun f => or_len tu22 f.1 rfl) <| sM e204_1 <| sF (fun f => or_len tu22 f.1 rfl) <| sF (fun f => or_add f.1 f.2.1 (osome hx350).symm) <| sF (fun f => or_make (R := R3) (lab := 353) tp22 rfl f.1 hx351 (by decide)) ?_
   refine sc (fun own a wx hf hsl hE => ?_) ?_
   ·obtain ⟨⟨⟨A352, cA352⟩, (f_13 : a.eval (.tmp 13) = sl A352 x351 cA352), b_A352⟩, -⟩ := hf
    exact px (or_mono (f := Fct.val 7 (sl A352 x351 cA352)) (or_assign f_13) (fun own' a' w' v' hp h => fun _ _ h0' => by cases (f_13.symm.trans ((hp.2 13 (by decide)).symm.trans h0')); exact h))
   exact steps_nil
  intro o354 a354 w354 d354 z354 hk354 hf354 hE354
  obtain ⟨e354_0, e354_1, e354_2⟩ := kt3 hk354 e204_0 e204_1 e204_2
  obtain ⟨⟨⟨A352, cA352⟩, (f_13 : a354.eval (.tmp 13) = sl A352 x351 cA352), (b354_A352 : RwO o354 353 [] w354 3 R3 A352 cA352 x351)⟩, (q_7 : ∀ (A352 : Option Addr) (cA352 : Nat), a354.eval (.tmp 13) = sl A352 x351 cA352 → a354.eval (.tmp 7) = sl A352 x351 cA352), -⟩ := hf354 [5, 6] rfl
  have e354_7 := q_7 _ _ f_13
  have hX354 := es_ hX204 hE354
  refine fl_seq (fun Q355 hn355 hp355 => ?_)
  refine fl_label ?_
  refine hn355 _ _ ?_
  refine fl_seq (fun Q356 hn356 hp356 => ?_)
  obtain ⟨x357, hx357, hs⟩ := obind hs
  refine rq_seq 51 o354 (bz 8) [dv [] [0] 14 (sl Ax1 x1 cx1), dv [0] [] 15 (Zi (x1.length : Int)), dv [1] [] 16 (.bool (decide ((x1.length : Int) = 0))), dv [2] [] 17 (.bool (decide ((x1.length : Int) = 0))), dc [3] [1] (!(decide ((x1.length : Int) = 0))) 18 (sl Ab2 b2 cb2), dc [3, 4] [] (!(decide ((x1.length : Int) = 0))) 19 (Zi (b2.length : Int)), dc [3, 5] [] (!(decide ((x1.length : Int) = 0))) 20 (.bool (decide ((b2.length : Int) = 0))), dv [3, 6] [] 21 (.bool x357)] z354 d354 ?_ ?_
  ·exact sM e354_0 <| sF (fun f => or_len tu22 f.1 rfl) <| sF (fun f => or_eql f.1 rfl rfl) <| sV <| cF (fun _ s _ _ => or_move (s.1.trans e354_1)) <| cF (fun f _ _ hg => or_len tu22 (f.2.1.1 hg) rfl) <| cF (fun f _ _ hg => or_eql (f.2.1.1 hg) rfl rfl) <| sF (fun f => or_or f.1 rfl (fun hx => f.2.1.1 hx) (osome hx357).symm) <| steps_nil
  intro o358 a358 w358 d358 z358 hk358 hf358 hE358
  obtain ⟨e358_0, e358_1, e358_2, e358_7⟩ := kt4 hk358 e354_0 e354_1 e354_2 e354_7
  have e358_21 := gv (hf358 [7] rfl) rfl
  have hX358 := es_ hX354 hE358
  have b358_A352 := re_ hE358 b354_A352
  refine fl_cond e358_21 hs (fun c359 hs => ?_) (fun c359 hs => ?_)
  ·obtain ⟨x360, hx360, hs⟩ := obind hs
   obtain ⟨x363, hx363, hs⟩ := obind hs
   refine rr_seq 51 [Fct.rowAt 353 [] 3 R3 A352 cA352 x351] o358 [353, 361] [0, 0, 3, 0, 15, 31] [dv [] [7] 22 (sl A352 x351 cA352), dv [] [0] 23 (sl Ax1 x1 cx1), ⟨[0, 1, 6], [], [353], Fct.row 361 [] 24 3 R3 x360⟩, dv [] [1] 25 (sl Ab2 b2 cb2), ⟨[2, 3], [], [361], Fct.row 364 [] 26 3 R3 x363⟩, ⟨[4], [], [], Fct.rel [6, 26] (fun l => ∀ (A365 : Option Addr) (cA365 : Nat), l.getD 1 undef = sl A365 x363 cA365 → l.getD 0 undef = sl A365 x363 cA365)⟩] z358 d358 (fm1 b358_A352) ?_ ?_
   ·refine sM e358_7 <| sM e358_0 ?_
    refine sc (fun own a wx hf hsl hE => ?_) ?_
    ·obtain ⟨f_22, f_23, b_A352, -⟩ := hf
     exact px (or_append (R := R3) (lab := 353) (lab2 := 361) (L := []) (L3 := []) tp22 f_22 b_A352 (by decide) f_23 (RdO.evo rfl hE (RdO.evo rfl hX358 hx1)) hx360 (by decide) (by decide) (mem_of rfl) (.inl (Rep.fl_flat _)))
    refine sM e358_1 ?_
    refine sc (fun own a wx hf hsl hE => ?_) ?_
    ·obtain ⟨⟨⟨A362, cA362⟩, f_24, b_A362⟩, f_25, -⟩ := hf
     exact px (or_append (R := R3) (lab := 361) (lab2 := 364) (L := []) (L3 := []) tp22 f_24 b_A362 (by decide) f_25 (RdO.evo rfl hE (RdO.evo rfl hX358 hb2)) hx363 (by decide) (by decide) (mem_of rfl) (.inl (Rep.fl_flat _)))
    refine sc (fun own a wx hf hsl hE => ?_) ?_
    ·obtain ⟨⟨⟨A365, cA365⟩, (f_26 : a.eval (.tmp 26) = sl A365 x363 cA365), b_A365⟩, -⟩ := hf
     exact px (or_mono (f := Fct.val 6 (sl A365 x363 cA365)) (or_assign f_26) (fun own' a' w' v' hp h => fun _ _ h0' => by cases (f_26.symm.trans ((hp.2 26 (by decide)).symm.trans h0')); exact h))
    exact steps_nil
   intro o366 a366 w366 d366 z366 hk366 hf366 hE366
   obtain ⟨⟨⟨A365, cA365⟩, (f_26 : a366.eval (.tmp 26) = sl A365 x363 cA365), (b366_A365 : RwO o366 364 [] w366 3 R3 A365 cA365 x363)⟩, (q_6 : ∀ (A365 : Option Addr) (cA365 : Nat), a366.eval (.tmp 26) = sl A365 x363 cA365 → a366.eval (.tmp 6) = sl A365 x363 cA365), -⟩ := hf366 [4, 5] rfl
   have e366_6 := q_6 _ _ f_26
   have hX366 := es_ hX358 hE366
   refine fl_ret ?_
   refine hp356 _ _ _ rfl ?_
   refine hp305.leaves _ _ _ rfl ?_
   obtain rfl := (osome hs).symm
   exact hret _ _ _ _ (.inl rfl) d366 (results1_ rfl (RVal.tmp_ e366_6)) ⟨(rl [(364, 1)] o366), (A365, cA365), rfl, (Evo.rl_ hX366 (fun _ => Nat.le_refl 0) rfl), (RwO.rl_ b366_A365)⟩
  refine fl_skip ?_
  refine hn356 _ _ ?_
  refine fl_seq (fun Q367 hn367 hp367 => ?_)
  obtain ⟨x368, hx368, hs⟩ := obind hs
  obtain ⟨x369, hx369, hs⟩ := obind hs
  obtain ⟨r370, hr370, hs⟩ := obind hs
  refine rd_seq g_mixed 51 [] o358 [] [0, 0, 2, 6, 0, 16, 48, 127] [dv [] [2] 27 (.func (.func 68) #[] #[]), dv [] [1] 28 (sl Ab2 b2 cb2), dv [1] [] 29 (.pointer (some ((adr Ab2).add ((0 : Int).toNat * R3.s)))), dv [2] [] 30 (Zi x368), dv [] [0] 31 (sl Ax1 x1 cx1), dv [4] [] 32 (.pointer (some ((adr Ax1).add ((0 : Int).toNat * R3.s)))), dv [5] [] 33 (Zi x369), dv [0, 3, 6] [] 34 (.bool r370)] z358 d358 nm_ ?_ ?_
  ·exact sM e358_2 <| sM e358_1 <| sF (fun f => or_index (R := R3) (l := b2) tl22 f.1 rfl (RdO.some_ (RdO.evo rfl hX358 hb2) hx368) hx368) <| sFE (fun f hE => or_load1 to3 f.1 (CellsAt.zero (RdO.cells (F := E3) (RdO.evo rfl hE (RdO.evo rfl hX358 hb2)) hx368) rfl)) <| sM e358_0 <| sF (fun f => or_index (R := R3) (l := x1) tl22 f.1 rfl (RdO.some_ (RdO.evo rfl hX358 hx1) hx369) hx369) <| sFE (fun f hE => or_load1 to3 f.1 (CellsAt.zero (RdO.cells (F := E3) (RdO.evo rfl hE (RdO.evo rfl hX358 hx1)) hx369) rfl)) <| sF (fun f => or_callf cf68 f.1 (args2 f.2.1 f.2.2.1) rfl (order_Uniq_1_w _ x368 x369  r370 hr370) post_val) <| steps_nil
  intro o371 a371 w371 d371 z371 hk371 hf371 hE371
  obtain ⟨e371_0, e371_1, e371_2, e371_7⟩ := kt4 hk371 e358_0 e358_1 e358_2 e358_7
  have e371_34 := gv (hf371 [7] rfl) rfl
  have hX371 := es_ hX358 hE371
  have b371_A352 := re_ hE371 b358_A352
  refine fl_cond e371_34 hs (fun c372 hs => ?_) (fun c372 hs => ?_)
  ·obtain ⟨x376, hx376, hs⟩ := obind hs
   obtain ⟨x379, hx379, hs⟩ := obind hs
   obtain ⟨x382, hx382, hs⟩ := obind hs
   refine rd_seq g_mixed 51 [Fct.rowAt 353 [] 3 R3 A352 cA352 x351] o371 [353] [0, 0, 2, 6, 14, 31, 0, 64, 63, 511] [dv [] [7] 35 (sl A352 x351 cA352), dv [] [1] 36 (sl Ab2 b2 cb2), dv [1] [] 37 (.pointer (some ((adr Ab2).add ((0 : Int).toNat * R3.s)))), dv [2] [] 38 (Zi x376), ⟨[3], [], [], Fct.row 378 [] 39 3 R3 [x376]⟩, ⟨[0, 4, 10], [], [353], Fct.row 380 [] 40 3 R3 x379⟩, dv [] [1] 41 (sl Ab2 b2 cb2), ⟨[6], [], [], Fct.view [0] 42 R3 x382⟩, ⟨[5], [], [], Fct.rel [7, 40] (fun l => ∀ (A381 : Option Addr) (cA381 : Nat), l.getD 1 undef = sl A381 x379 cA381 → l.getD 0 undef = sl A381 x379 cA381)⟩, ⟨[7], [], [], Fct.rel [1, 42] (fun l => ∀ (A383 : Option Addr) (cA383 : Nat), l.getD 1 undef = sl A383 x382 cA383 → l.getD 0 undef = sl A383 x382 cA383)⟩] z371 d371 (fm1 b371_A352) ?_ ?_
   ·refine sM e371_7 <| sM e371_1 <| sF (fun f => or_index (R := R3) (l := b2) tl22 f.1 rfl (RdO.some_ (RdO.evo rfl hX371 hb2) hx376) hx376) <| sFE (fun f hE => or_load1 to3 f.1 (CellsAt.zero (RdO.cells (F := E3) (RdO.evo rfl hE (RdO.evo rfl hX371 hb2)) hx376) rfl)) <| sF (fun f => or_lit (lab := 378) (e := 3) (cs := #[Zi x376]) (F := E3) (nw1 f.1) rfl rfl (show 1 ≤ maxLen by decide)) ?_
    refine sc (fun own a wx hf hsl hE => ?_) ?_
    ·obtain ⟨f_35, ⟨⟨A377, cA377⟩, f_39, b_A377⟩, b_A352, -⟩ := hf
     exact px (or_append (R := R3) (lab := 353) (lab2 := 380) (L := []) (L3 := []) tp22 f_35 b_A352 (by decide) f_39 (RwO.rd b_A377) hx379 (by decide) (by decide) (mem_of rfl) (.inl (Rep.fl_flat _)))
    refine sM e371_1 <| sFE (fun f hE => or_view (R := R3) (l := b2) (L := [0]) tu22 ts3 f.1 (Bnd.some_ rfl) Bnd.none_ Bnd.none_ (RdO.evo rfl hE (RdO.evo rfl hX371 hb2)) hx382 (.inl rfl) (by simp)) ?_
    refine sc (fun own a wx hf hsl hE => ?_) ?_
    ·obtain ⟨⟨⟨A381, cA381⟩, (f_40 : a.eval (.tmp 40) = sl A381 x379 cA381), b_A381⟩, -⟩ := hf
     exact px (or_mono (f := Fct.val 7 (sl A381 x379 cA381)) (or_assign f_40) (fun own' a' w' v' hp h => fun _ _ h0' => by cases (f_40.symm.trans ((hp.2 40 (by decide)).symm.trans h0')); exact h))
    refine sc (fun own a wx hf hsl hE => ?_) ?_
    ·obtain ⟨⟨⟨A383, cA383⟩, (f_42 : a.eval (.tmp 42) = sl A383 x382 cA383), b_A383⟩, -⟩ := hf
     exact px (or_mono (f := Fct.val 1 (sl A383 x382 cA383)) (or_assign f_42) (fun own' a' w' v' hp h => fun _ _ h0' => by cases (f_42.symm.trans ((hp.2 42 (by decide)).symm.trans h0')); exact h))
    exact steps_nil
   intro o384 a384 w384 d384 z384 hk384 hf384 hE384
   obtain ⟨e384_0, e384_2⟩ := kt2 hk384 e371_0 e371_2
   obtain ⟨⟨⟨A381, cA381⟩, (f_40 : a384.eval (.tmp 40) = sl A381 x379 cA381), (b384_A381 : RwO o384 380 [] w384 3 R3 A381 cA381 x379)⟩, (q_7 : ∀ (A381 : Option Addr) (cA381 : Nat), a384.eval (.tmp 40) = sl A381 x379 cA381 → a384.eval (.tmp 7) = sl A381 x379 cA381), ⟨⟨A383, cA383⟩, (f_42 : a384.eval (.tmp 42) = sl A383 x382 cA383), (b384_A383 : RdO o384 [0] w384 R3 A383 cA383 x382)⟩, (q_1 : ∀ (A383 : Option Addr) (cA383 : Nat), a384.eval (.tmp 42) = sl A383 x382 cA383 → a384.eval (.tmp 1) = sl A383 x382 cA383), -⟩ := hf384 [5, 8, 7, 9] rfl
   have e384_7 := q_7 _ _ f_40
   have e384_1 := q_1 _ _ f_42
   have hX384 := es_ hX371 hE384
   refine fl_goto ?_
   refine hp367 _ _ _ rfl ?_
   exact hj305 (x1, x382, x379) _ _ (show loopO _ _ = _ from hs) ⟨(rl [(380, 261)] o384), Ax1, cx1, A383, cA383, A381, cA381, d384, z384, e384_0, e384_1, e384_2, e384_7, (Evo.rl_ hX384 (fun _ => Nat.le_refl 0) rfl), (RdO.rl_ (RdO.evo rfl hX384 hx1)), (RdO.rl_ b384_A383), (RwO.rl_ b384_A381)⟩
  refine fl_skip ?_
  refine hn367 _ _ ?_
  obtain ⟨x388, hx388, hs⟩ := obind hs
  obtain ⟨x391, hx391, hs⟩ := obind hs
  obtain ⟨x394, hx394, hs⟩ := obind hs
  refine rd_seq g_mixed 51 [Fct.rowAt 353 [] 3 R3 A352 cA352 x351] o371 [353] [0, 0, 2, 6, 14, 31, 0, 64, 63, 511] [dv [] [7] 43 (sl A352 x351 cA352), dv [] [0] 44 (sl Ax1 x1 cx1), dv [1] [] 45 (.pointer (some ((adr Ax1).add ((0 : Int).toNat * R3.s)))), dv [2] [] 46 (Zi x388), ⟨[3], [], [], Fct.row 390 [] 47 3 R3 [x388]⟩, ⟨[0, 4, 10], [], [353], Fct.row 392 [] 48 3 R3 x391⟩, dv [] [0] 49 (sl Ax1 x1 cx1), ⟨[6], [], [], Fct.view [0] 50 R3 x394⟩, ⟨[5], [], [], Fct.rel [7, 48] (fun l => ∀ (A393 : Option Addr) (cA393 : Nat), l.getD 1 undef = sl A393 x391 cA393 → l.getD 0 undef = sl A393 x391 cA393)⟩, ⟨[7], [], [], Fct.rel [0, 50] (fun l => ∀ (A395 : Option Addr) (cA395 : Nat), l.getD 1 undef = sl A395 x394 cA395 → l.getD 0 undef = sl A395 x394 cA395)⟩] z371 d371 (fm1 b371_A352) ?_ ?_
  ·refine sM e371_7 <| sM e371_0 <| sF (fun f => or_index (R := R3) (l := x1) tl22 f.1 rfl (RdO.some_ (RdO.evo rfl hX371 hx1) hx388) hx388) <| sFE (fun f hE => or_load1 to3 f.1 (CellsAt.zero (RdO.cells (F := E3) (RdO.evo rfl hE (RdO.evo rfl hX371 hx1)) hx388) rfl)) <| sF (fun f => or_lit (lab := 390) (e := 3) (cs := #[Zi x388]) (F := E3) (nw1 f.1) rfl rfl (show 1 ≤ maxLen by decide)) ?_
   refine sc (fun own a wx hf hsl hE => ?_) ?_
   ·obtain ⟨f_43, ⟨⟨A389, cA389⟩, f_47, b_A389⟩, b_A352, -⟩ := hf
    exact px (or_append (R := R3) (lab := 353) (lab2 := 392) (L := []) (L3 := []) tp22 f_43 b_A352 (by decide) f_47 (RwO.rd b_A389) hx391 (by decide) (by decide) (mem_of rfl) (.inl (Rep.fl_flat _)))
   refine sM e371_0 <| sFE (fun f hE => or_view (R := R3) (l := x1) (L := [0]) tu22 ts3 f.1 (Bnd.some_ rfl) Bnd.none_ Bnd.none_ (RdO.evo rfl hE (RdO.evo rfl hX371 hx1)) hx394 (.inl rfl) (by simp)) ?_
   refine sc (fun own a wx hf hsl hE => ?_) ?_
   ·obtain ⟨⟨⟨A393, cA393⟩, (f_48 : a.eval (.tmp 48) = sl A393 x391 cA393), b_A393⟩, -⟩ := hf
    exact px (or_mono (f := Fct.val 7 (sl A393 x391 cA393)) (or_assign f_48) (fun own' a' w' v' hp h => fun _ _ h0' => by cases (f_48.symm.trans ((hp.2 48 (by decide)).symm.trans h0')); exact h))
   refine sc (fun own a wx hf hsl hE => ?_) ?_
   ·obtain ⟨⟨⟨A395, cA395⟩, (f_50 : a.eval (.tmp 50) = sl A395 x394 cA395), b_A395⟩, -⟩ := hf
    exact px (or_mono (f := Fct.val 0 (sl A395 x394 cA395)) (or_assign f_50) (fun own' a' w' v' hp h => fun _ _ h0' => by cases (f_50.symm.trans ((hp.2 50 (by decide)).symm.trans h0')); exact h))
   exact steps_nil
  intro o396 a396 w396 d396 z396 hk396 hf396 hE396
  obtain ⟨e396_1, e396_2⟩ := kt2 hk396 e371_1 e371_2
  obtain ⟨⟨⟨A393, cA393⟩, (f_48 : a396.eval (.tmp 48) = sl A393 x391 cA393), (b396_A393 : RwO o396 392 [] w396 3 R3 A393 cA393 x391)⟩, (q_7 : ∀ (A393 : Option Addr) (cA393 : Nat), a396.eval (.tmp 48) = sl A393 x391 cA393 → a396.eval (.tmp 7) = sl A393 x391 cA393), ⟨⟨A395, cA395⟩, (f_50 : a396.eval (.tmp 50) = sl A395 x394 cA395), (b396_A395 : RdO o396 [0] w396 R3 A395 cA395 x394)⟩, (q_0 : ∀ (A395 : Option Addr) (cA395 : Nat), a396.eval (.tmp 50) = sl A395 x394 cA395 → a396.eval (.tmp 0) = sl A395 x394 cA395), -⟩ := hf396 [5, 8, 7, 9] rfl
  have e396_7 := q_7 _ _ f_48
  have e396_0 := q_0 _ _ f_50
  have hX396 := es_ hX371 hE396
  refine fl_goto ?_
  exact hj305 (x394, b2, x391) _ _ (show loopO _ _ = _ from hs) ⟨(rl [(392, 261)] o396), A395, cA395, Ab2, cb2, A393, cA393, d396, z396, e396_0, e396_1, e396_2, e396_7, (Evo.rl_ hX396 (fun _ => Nat.le_refl 0) rfl), (RdO.rl_ b396_A395), (RdO.rl_ (RdO.evo rfl hX396 hb2)), (RwO.rl_ b396_A393)⟩
 ·rintro ⟨x254, b257, out260⟩
  rintro zz305 a306 w306 ⟨o306, A252, c253, A255, c256, A258, c259, d307, z307, e307_0, e307_1, e307_2, e307_7, hE307, b307_A252, b307_A255, b307_A258⟩ hs Q306 hj306 hp306 z306
  have hs : order_merged_int_Uniq_1_b1_0 x254 b257 out260 = some zz305 := hs
  conv => arg 4; whnf
  refine fl_seq (fun Q308 hn308 hp308 => ?_)
  refine fl_skip ?_
  refine hn308 _ _ ?_
  refine fl_seq (fun Q309 hn309 hp309 => ?_)
  obtain ⟨x310, hx310, hs⟩ := obind hs
  refine rq_seq 51 o306 (bz 8) [dv [] [0] 14 (sl A252 x254 c253), dv [0] [] 15 (Zi (x254.length : Int)), dv [1] [] 16 (.bool (decide ((x254.length : Int) = 0))), dv [2] [] 17 (.bool (decide ((x254.length : Int) = 0))), dc [3] [1] (!(decide ((x254.length : Int) = 0))) 18 (sl A255 b257 c256), dc [3, 4] [] (!(decide ((x254.length : Int) = 0))) 19 (Zi (b257.length : Int)), dc [3, 5] [] (!(decide ((x254.length : Int) = 0))) 20 (.bool (decide ((b257.length : Int) = 0))), dv [3, 6] [] 21 (.bool x310)] z307 d307 ?_ ?_
  ·exact sM e307_0 <| sF (fun f => or_len tu22 f.1 rfl) <| sF (fun f => or_eql f.1 rfl rfl) <| sV <| cF (fun _ s _ _ => or_move (s.1.trans e307_1)) <| cF (fun f _ _ hg => or_len tu22 (f.2.1.1 hg) rfl) <| cF (fun f _ _ hg => or_eql (f.2.1.1 hg) rfl rfl) <| sF (fun f => or_or f.1 rfl (fun hx => f.2.1.1 hx) (osome hx310).symm) <| steps_nil
  intro o311 a311 w311 d311 z311 hk311 hf311 hE311
  obtain ⟨e311_0, e311_1, e311_2, e311_7⟩ := kt4 hk311 e307_0 e307_1 e307_2 e307_7
  have e311_21 := gv (hf311 [7] rfl) rfl
  have hX311 := es_ hE307 hE311
  have b311_A252 := RdO.evo rfl hE311 b307_A252
  have b311_A255 := RdO.evo rfl hE311 b307_A255
  have b311_A258 := re_ hE311 b307_A258
  refine fl_cond e311_21 hs (fun c312 hs => ?_) (fun c312 hs => ?_)
  ·obtain ⟨x313, hx313, hs⟩ := obind hs
   obtain ⟨x316, hx316, hs⟩ := obind hs
   refine rr_seq 51 [Fct.rowAt 261 [] 3 R3 A258 c259 out260] o311 [261, 314] [0, 0, 3, 0, 15, 31] [dv [] [7] 22 (sl A258 out260 c259), dv [] [0] 23 (sl A252 x254 c253), ⟨[0, 1, 6], [], [261], Fct.row 314 [] 24 3 R3 x313⟩, dv [] [1] 25 (sl A255 b257 c256), ⟨[2, 3], [], [314], Fct.row 317 [] 26 3 R3 x316⟩, ⟨[4], [], [], Fct.rel [6, 26] (fun l => ∀ (A318 : Option Addr) (cA318 : Nat), l.getD 1 undef = sl A318 x316 cA318 → l.getD 0 undef = sl A318 x316 cA318)⟩] z311 d311 (fm1 b311_A258) ?_ ?_
   ·refine sM e311_7 <| sM e311_0 ?_
    refine sc (fun own a wx hf hsl hE => ?_) ?_
    ·obtain ⟨f_22, f_23, b_A258, -⟩ := hf
     exact px (or_append (R := R3) (lab := 261) (lab2 := 314) (L := []) (L3 := []) tp22 f_22 b_A258 (by decide) f_23 (RdO.evo rfl hE b311_A252) hx313 (by decide) (by decide) (mem_of rfl) (.inl (Rep.fl_flat _)))
    refine sM e311_1 ?_
    refine sc (fun own a wx hf hsl hE => ?_) ?_
    ·obtain ⟨⟨⟨A315, cA315⟩, f_24, b_A315⟩, f_25, -⟩ := hf
     exact px (or_append (R := R3) (lab := 314) (lab2 := 317) (L := []) (L3 := []) tp22 f_24 b_A315 (by decide) f_25 (RdO.evo rfl hE b311_A255) hx316 (by decide) (by decide) (mem_of rfl) (.inl (Rep.fl_flat _)))
    refine sc (fun own a wx hf hsl hE => ?_) ?_
    ·obtain ⟨⟨⟨A318, cA318⟩, (f_26 : a.eval (.tmp 26) = sl A318 x316 cA318), b_A318⟩, -⟩ := hf
     exact px (or_mono (f := Fct.val 6 (sl A318 x316 cA318)) (or_assign f_26) (fun own' a' w' v' hp h => fun _ _ h0' => by cases (f_26.symm.trans ((hp.2 26 (by decide)).symm.trans h0')); exact h))
    exact steps_nil
   intro o319 a319 w319 d319 z319 hk319 hf319 hE319
   obtain ⟨⟨⟨A318, cA318⟩, (f_26 : a319.eval (.tmp 26) = sl A318 x316 cA318), (b319_A318 : RwO o319 317 [] w319 3 R3 A318 cA318 x316)⟩, (q_6 : ∀ (A318 : Option Addr) (cA318 : Nat), a319.eval (.tmp 26) = sl A318 x316 cA318 → a319.eval (.tmp 6) = sl A318 x316 cA318), -⟩ := hf319 [4, 5] rfl
   have e319_6 := q_6 _ _ f_26
   have hX319 := es_ hX311 hE319
   refine fl_ret ?_
   refine hp309 _ _ _ rfl ?_
   replace hs := z306 _ hs
   refine hp306.leaves _ _ _ rfl ?_
   obtain rfl := (osome hs).symm
   exact hret _ _ _ _ (.inl rfl) d319 (results1_ rfl (RVal.tmp_ e319_6)) ⟨(rl [(317, 1)] o319), (A318, cA318), rfl, (Evo.rl_ hX319 (fun _ => Nat.le_refl 0) rfl), (RwO.rl_ b319_A318)⟩
  refine fl_skip ?_
  refine hn309 _ _ ?_
  refine fl_seq (fun Q320 hn320 hp320 => ?_)
  obtain ⟨x321, hx321, hs⟩ := obind hs
  obtain ⟨x322, hx322, hs⟩ := obind hs
  obtain ⟨r323, hr323, hs⟩ := obind hs
  refine rd_seq g_mixed 51 [] o311 [] [0, 0, 2, 6, 0, 16, 48, 127] [dv [] [2] 27 (.func (.func 68) #[] #[]), dv [] [1] 28 (sl A255 b257 c256), dv [1] [] 29 (.pointer (some ((adr A255).add ((0 : Int).toNat * R3.s)))), dv [2] [] 30 (Zi x321), dv [] [0] 31 (sl A252 x254 c253), dv [4] [] 32 (.pointer (some ((adr A252).add ((0 : Int).toNat * R3.s)))), dv [5] [] 33 (Zi x322), dv [0, 3, 6] [] 34 (.bool r323)] z311 d311 nm_ ?_ ?_
  ·exact sM e311_2 <| sM e311_1 <| sF (fun f => or_index (R := R3) (l := b257) tl22 f.1 rfl (RdO.some_ b311_A255 hx321) hx321) <| sFE (fun f hE => or_load1 to3 f.1 (CellsAt.zero (RdO.cells (F := E3) (RdO.evo rfl hE b311_A255) hx321) rfl)) <| sM e311_0 <| sF (fun f => or_index (R := R3) (l := x254) tl22 f.1 rfl (RdO.some_ b311_A252 hx322) hx322) <| sFE (fun f hE => or_load1 to3 f.1 (CellsAt.zero (RdO.cells (F := E3) (RdO.evo rfl hE b311_A252) hx322) rfl)) <| sF (fun f => or_callf cf68 f.1 (args2 f.2.1 f.2.2.1) rfl (order_Uniq_1_w _ x321 x322  r323 hr323) post_val) <| steps_nil
  intro o324 a324 w324 d324 z324 hk324 hf324 hE324
  obtain ⟨e324_0, e324_1, e324_2, e324_7⟩ := kt4 hk324 e311_0 e311_1 e311_2 e311_7
  have e324_34 := gv (hf324 [7] rfl) rfl
  have hX324 := es_ hX311 hE324
  have b324_A252 := RdO.evo rfl hE324 b311_A252
  have b324_A255 := RdO.evo rfl hE324 b311_A255
  have b324_A258 := re_ hE324 b311_A258
  refine fl_cond e324_34 hs (fun c325 hs => ?_) (fun c325 hs => ?_)
  ·obtain ⟨x329, hx329, hs⟩ := obind hs
   obtain ⟨x332, hx332, hs⟩ := obind hs
   obtain ⟨x335, hx335, hs⟩ := obind hs
   refine rd_seq g_mixed 51 [Fct.rowAt 261 [] 3 R3 A258 c259 out260] o324 [261] [0, 0, 2, 6, 14, 31, 0, 64, 63, 511] [dv [] [7] 35 (sl A258 out260 c259), dv [] [1] 36 (sl A255 b257 c256), dv [1] [] 37 (.pointer (some ((adr A255).add ((0 : Int).toNat * R3.s)))), dv [2] [] 38 (Zi x329), ⟨[3], [], [], Fct.row 331 [] 39 3 R3 [x329]⟩, ⟨[0, 4, 10], [], [261], Fct.row 333 [] 40 3 R3 x332⟩, dv [] [1] 41 (sl A255 b257 c256), ⟨[6], [], [], Fct.view [0] 42 R3 x335⟩, ⟨[5], [], [], Fct.rel [7, 40] (fun l => ∀ (A334 : Option Addr) (cA334 : Nat), l.getD 1 undef = sl A334 x332 cA334 → l.getD 0 undef = sl A334 x332 cA334)⟩, ⟨[7], [], [], Fct.rel [1, 42] (fun l => ∀ (A336 : Option Addr) (cA336 : Nat), l.getD 1 undef = sl A336 x335 cA336 → l.getD 0 undef = sl A336 x335 cA336)⟩] z324 d324 (fm1 b324_A258) ?_ ?_
   ·refine sM e324_7 <| sM e324_1 <| sF (fun f => or_index (R := R3) (l := b257) tl22 f.1 rfl (RdO.some_ b324_A255 hx329) hx329) <| sFE (fun f hE => or_load1 to3 f.1 (CellsAt.zero (RdO.cells (F := E3) (RdO.evo rfl hE b324_A255) hx329) rfl)) <| sF (fun f => or_lit (lab := 331) (e := 3) (cs := #[Zi x329]) (F := E3) (nw1 f.1) rfl rfl (show 1 ≤ maxLen by decide)) ?_
    refine sc (fun own a wx hf hsl hE => ?_) ?_
    ·obtain ⟨f_35, ⟨⟨A330, cA330⟩, f_39, b_A330⟩, b_A258, -⟩ := hf
     exact px (or_append (R := R3) (lab := 261) (lab2 := 333) (L := []) (L3 := []) tp22 f_35 b_A258 (by decide) f_39 (RwO.rd b_A330) hx332 (by decide) (by decide) (mem_of rfl) (.inl (Rep.fl_flat _)))
    refine sM e324_1 <| sFE (fun f hE => or_view (R := R3) (l := b257) (L := [0]) tu22 ts3 f.1 (Bnd.some_ rfl) Bnd.none_ Bnd.none_ (RdO.evo rfl hE b324_A255) hx335 (.inl rfl) (by simp)) ?_
    refine sc (fun own a wx hf hsl hE => ?_) ?_
    ·obtain ⟨⟨⟨A334, cA334⟩, (f_40 : a.eval (.tmp 40) = sl A334 x332 cA334), b_A334⟩, -⟩ := hf
     exact px (or_mono (f := Fct.val 7 (sl A334 x332 cA334)) (or_assign f_40) (fun own' a' w' v' hp h => fun _ _ h0' => by cases (f_40.symm.trans ((hp.2 40 (by decide)).symm.trans h0')); exact h))
    refine sc (fun own a wx hf hsl hE => ?_) ?_
    ·obtain ⟨⟨⟨A336, cA336⟩, (f_42 : a.eval (.tmp 42) = sl A336 x335 cA336), b_A336⟩, -⟩ := hf
     exact px (or_mono (f := Fct.val 1 (sl A336 x335 cA336)) (or_assign f_42) (fun own' a' w' v' hp h => fun _ _ h0' => by cases (f_42.symm.trans ((hp.2 42 (by decide)).symm.trans h0')); exact h))
    exact steps_nil
   intro o337 a337 w337 d337 z337 hk337 hf337 hE337
   obtain ⟨e337_0, e337_2⟩ := kt2 hk337 e324_0 e324_2
   obtain ⟨⟨⟨A334, cA334⟩, (f_40 : a337.eval (.tmp 40) = sl A334 x332 cA334), (b337_A334 : RwO o337 333 [] w337 3 R3 A334 cA334 x332)⟩, (q_7 : ∀ (A334 : Option Addr) (cA334 : Nat), a337.eval (.tmp 40) = sl A334 x332 cA334 → a337.eval (.tmp 7) = sl A334 x332 cA334), ⟨⟨A336, cA336⟩, (f_42 : a337.eval (.tmp 42) = sl A336 x335 cA336), (b337_A336 : RdO o337 [0] w337 R3 A336 cA336 x335)⟩, (q_1 : ∀ (A336 : Option Addr) (cA336 : Nat), a337.eval (.tmp 42) = sl A336 x335 cA336 → a337.eval (.tmp 1) = sl A336 x335 cA336), -⟩ := hf337 [5, 8, 7, 9] rfl
   have e337_7 := q_7 _ _ f_40
   have e337_1 := q_1 _ _ f_42
   have hX337 := es_ hX324 hE337
   have b337_A252 := RdO.evo rfl hE337 b324_A252
   refine fl_goto ?_
   refine hp320 _ _ _ rfl ?_
   exact hj306 (x254, x335, x332) _ _ hs ⟨(rl [(333, 261)] o337), A252, c253, A336, cA336, A334, cA334, d337, z337, e337_0, e337_1, e337_2, e337_7, (Evo.rl_ hX337 (fun _ => Nat.le_refl 0) rfl), (RdO.rl_ b337_A252), (RdO.rl_ b337_A336), (RwO.rl_ b337_A334)⟩
  refine fl_skip ?_
  refine hn320 _ _ ?_
  obtain ⟨x341, hx341, hs⟩ := obind hs
  obtain ⟨x344, hx344, hs⟩ := obind hs
  obtain ⟨x347, hx347, hs⟩ := obind hs
  refine rd_seq g_mixed 51 [Fct.rowAt 261 [] 3 R3 A258 c259 out260] o324 [261] [0, 0, 2, 6, 14, 31, 0, 64, 63, 511] [dv [] [7] 43 (sl A258 out260 c259), dv [] [0] 44 (sl A252 x254 c253), dv [1] [] 45 (.pointer (some ((adr A252).add ((0 : Int).toNat * R3.s)))), dv [2] [] 46 (Zi x341), ⟨[3], [], [], Fct.row 343 [] 47 3 R3 [x341]⟩, ⟨[0, 4, 10], [], [261], Fct.row 345 [] 48 3 R3 x344⟩, dv [] [0] 49 (sl A252 x254 c253), ⟨[6], [], [], Fct.view [0] 50 R3 x347⟩, ⟨[5], [], [], Fct.rel [7, 48] (fun l => ∀ (A346 : Option Addr) (cA346 : Nat), l.getD 1 undef = sl A346 x344 cA346 → l.getD 0 undef = sl A346 x344 cA346)⟩, ⟨[7], [], [], Fct.rel [0, 50] (fun l => ∀ (A348 : Option Addr) (cA348 : Nat), l.getD 1 undef = sl A348 x347 cA348 → l.getD 0 undef = sl A348 x347 cA348)⟩] z324 d324 (fm1 b324_A258) ?_ ?_
  ·refine sM e324_7 <| sM e324_0 <| sF (fun f => or_index (R := R3) (l := x254) tl22 f.1 rfl (RdO.some_ b324_A252 hx341) hx341) <| sFE (fun f hE => or_load1 to3 f.1 (CellsAt.zero (RdO.cells (F := E3) (RdO.evo rfl hE b324_A252) hx341) rfl)) <| sF (fun f => or_lit (lab := 343) (e := 3) (cs := #[Zi x341]) (F := E3) (nw1 f.1) rfl rfl (show 1 ≤ maxLen by decide)) ?_
   refine sc (fun own a wx hf hsl hE => ?_) ?_
   ·obtain ⟨f_43, ⟨⟨A342, cA342⟩, f_47, b_A342⟩, b_A258, -⟩ := hf
    exact px (or_append (R := R3) (lab := 261) (lab2 := 345) (L := []) (L3 := []) tp22 f_43 b_A258 (by decide) f_47 (RwO.rd b_A342) hx344 (by decide) (by decide) (mem_of rfl) (.inl (Rep.fl_flat _)))
   refine sM e324_0 <| sFE (fun f hE => or_view (R := R3) (l := x254) (L := [0]) tu22 ts3 f.1 (Bnd.some_ rfl) Bnd.none_ Bnd.none_ (RdO.evo rfl hE b324_A252) hx347 (.inl rfl) (by simp)) ?_
   refine sc (fun own a wx hf hsl hE => ?_) ?_
   ·obtain ⟨⟨⟨A346, cA346⟩, (f_48 : a.eval (.tmp 48) = sl A346 x344 cA346), b_A346⟩, -⟩ := hf
    exact px (or_mono (f := Fct.val 7 (sl A346 x344 cA346)) (or_assign f_48) (fun own' a' w' v' hp h => fun _ _ h0' => by cases (f_48.symm.trans ((hp.2 48 (by decide)).symm.trans h0')); exact h))
   refine sc (fun own a wx hf hsl hE => ?_) ?_
   ·obtain ⟨⟨⟨A348, cA348⟩, (f_50 : a.eval (.tmp 50) = sl A348 x347 cA348), b_A348⟩, -⟩ := hf
    exact px (or_mono (f := Fct.val 0 (sl A348 x347 cA348)) (or_assign f_50) (fun own' a' w' v' hp h => fun _ _ h0' => by cases (f_50.symm.trans ((hp.2 50 (by decide)).symm.trans h0')); exact h))
   exact steps_nil
  intro o349 a349 w349 d349 z349 hk349 hf349 hE349
  obtain ⟨e349_1, e349_2⟩ := kt2 hk349 e324_1 e324_2
  obtain ⟨⟨⟨A346, cA346⟩, (f_48 : a349.eval (.tmp 48) = sl A346 x344 cA346), (b349_A346 : RwO o349 345 [] w349 3 R3 A346 cA346 x344)⟩, (q_7 : ∀ (A346 : Option Addr) (cA346 : Nat), a349.eval (.tmp 48) = sl A346 x344 cA346 → a349.eval (.tmp 7) = sl A346 x344 cA346), ⟨⟨A348, cA348⟩, (f_50 : a349.eval (.tmp 50) = sl A348 x347 cA348), (b349_A348 : RdO o349 [0] w349 R3 A348 cA348 x347)⟩, (q_0 : ∀ (A348 : Option Addr) (cA348 : Nat), a349.eval (.tmp 50) = sl A348 x347 cA348 → a349.eval (.tmp 0) = sl A348 x347 cA348), -⟩ := hf349 [5, 8, 7, 9] rfl
  have e349_7 := q_7 _ _ f_48
  have e349_0 := q_0 _ _ f_50
  have hX349 := es_ hX324 hE349
  have b349_A255 := RdO.evo rfl hE349 b324_A255
  refine fl_goto ?_
  exact hj306 (x347, b257, x344) _ _ hs ⟨(rl [(345, 261)] o349), A348, cA348, A255, c256, A346, cA346, d349, z349, e349_0, e349_1, e349_2, e349_7, (Evo.rl_ hX349 (fun _ => Nat.le_refl 0) rfl), (RdO.rl_ b349_A348), (RdO.rl_ b349_A255), (RwO.rl_ b349_A346)⟩
theorem order_sorted_int_Uniq_1_w (w : World) (l1 : List Int) (Al1 : Option Addr) (cl1 : Nat) (hl1 : RdO (fun _ => 0) [0] w R3 Al1 cl1 l1) (r : List Int) (hs : order_sorted_int_Uniq_1 l1 = some r) :
  Calls Try.prog 67 #[sl Al1 l1 cl1, .func (.func 68) #[] #[]] w fun e w' => ∃ (own' : Own) (x : Option Addr × Nat), e = .returned (.slice x.1 r.length x.2) ∧ Evo [] (fun _ => 0) own' w w' ∧ RwO own' 1 [] w' 3 R3 x.1 x.2 r := by
 refine fl_enter (n := 54) rfl rfl rfl (Nat.le_of_ble_eq_true rfl) ?_
 intro a0 Q d0 z0 harg hret
 have ha0 := harg 0 _ rfl
 have ha1 := harg 1 _ rfl
 clear harg
 have hE0 : Evo [] (fun _ => 0) (fun _ => 0) w w := Evo.refl _ _ _
 refine rq_seq 54 (fun _ => 0) (bz 1) [dv [] [] 4 (.slice none 0 0)] z0 d0 ?_ ?_
 ·exact sO (or_assign rfl) <| steps_nil
 intro o339 a339 w339 d339 z339 hk339 hf339 hE339
 obtain ⟨e339_0, e339_1⟩ := kt2 hk339 ha0 ha1
 have hX339 := es_ hE0 hE339
 obtain ⟨r340, hr340, hs⟩ := obind hs
 refine rq_seq 54 o339 (bz 3) [dv [] [0] 9 (sl Al1 l1 cl1), ⟨[0], [], [], Fct.row 342 [] 10 3 R3 r340⟩, ⟨[1], [], [], Fct.rel [5, 10] (fun l => ∀ (A341 : Option Addr) (cA341 : Nat), l.getD 1 undef = sl A341 r340 cA341 → l.getD 0 undef = sl A341 r340 cA341)⟩] z339 d339 ?_ ?_
 ·refine sM e339_0 <| sFE (fun f hE => or_call cf72 (args1 f.1) (slices_Clone_int_int_w _ l1 Al1 cl1 (RdO.zero (RdO.evo rfl hE (RdO.evo rfl hX339 hl1))) r340 hr340) (post_row (m' := (look0 [(1, 342)])) (.inl (Rep.fl_flat _)) rfl rfl (fun _ => rfl))) ?_
  refine sc (fun own a wx hf hsl hE => ?_) ?_
  ·obtain ⟨⟨⟨A341, cA341⟩, (f_10 : a.eval (.tmp 10) = sl A341 r340 cA341), b_A341⟩, -⟩ := hf
   exact px (or_mono (f := Fct.val 5 (sl A341 r340 cA341)) (or_assign f_10) (fun own' a' w' v' hp h => fun _ _ h0' => by cases (f_10.symm.trans ((hp.2 10 (by decide)).symm.trans h0')); exact h))
  exact steps_nil
 intro o343 a343 w343 d343 z343 hk343 hf343 hE343
 have e343_1 := kt hk343 e339_1
 obtain ⟨⟨⟨A341, cA341⟩, (f_10 : a343.eval (.tmp 10) = sl A341 r340 cA341), (b343_A341 : RwO o343 342 [] w343 3 R3 A341 cA341 r340)⟩, (q_5 : ∀ (A341 : Option Addr) (cA341 : Nat), a343.eval (.tmp 10) = sl A341 r340 cA341 → a343.eval (.tmp 5) = sl A341 r340 cA341), -⟩ := hf343 [1, 2] rfl
 have e343_5 := q_5 _ _ f_10
 have hX343 := es_ hX339 hE343
 refine fl_seq (fun Q344 hn344 hp344 => ?_)
 refine rq_seq 54 o343 (bz 1) [dv [] [] 6 (Zi 1)] z343 d343 ?_ ?_
 ·exact sO (or_assign rfl) <| steps_nil
 intro o345 a345 w345 d345 z345 hk345 hf345 hE345
 obtain ⟨e345_1, e345_5⟩ := kt2 hk345 e343_1 e343_5
 have e345_6 := gv (hf345 [0] rfl) rfl
 have hX345 := es_ hX343 hE345
 have b345_A341 := re_ hE345 b343_A341
 refine fl_block (fun Q346 hn346 hx346 hp346 => ?_)
 refine fl_loop (body := (fun s => order_sorted_int_Uniq_1_b1 s.1 s.2)) (z := r) (show loopO _ _ = _ from hs) (fun (s : (List Int) × Int) a wx => match s with | (out450, run452) => ∃ (ox : Own), a.defers = [] ∧ a.tmps.size = 54 ∧ a.eval (.tmp 1) = .func (.func 68) #[] #[] ∧ a.eval (.tmp 5) = sl A341 out450 cA341 ∧ a.eval (.tmp 6) = Zi run452 ∧ Evo [] (fun _ => 0) ox w wx ∧ RwO ox 451 [] wx 3 R3 A341 cA341 out450) ?_ ?_
 ·exact ⟨(rl [(342, 451)] o345), d345, z345, e345_1, e345_5, e345_6, (Evo.rl_ hX345 (fun _ => Nat.le_refl 0) rfl), (RwO.rl_ b345_A341)⟩
 ·rintro ⟨out450, run452⟩ zz559 a559 w559 ⟨o559, d560, z560, e560_1, e560_5, e560_6, hE560, b560_A341⟩ hs Q559 hn559 hp559 z559
  have hs : order_sorted_int_Uniq_1_b1 out450 run452 = some zz559 := hs
  refine fl_seq (fun Q561 hn561 hp561 => ?_)
  refine rq_seq 54 o559 [0, 0, 2, 7] [dv [] [6] 11 (Zi run452), dv [] [5] 12 (sl A341 out450 cA341), dv [1] [] 13 (Zi (out450.length : Int)), dv [0, 2] [] 14 (.bool (decide (run452 < (out450.length : Int))))] z560 d560 ?_ ?_
  ·exact sM e560_6 <| sM e560_5 <| sF (fun f => or_len tu22 f.1 rfl) <| sF (fun f => or_lss f.1 f.2.1 rfl) <| steps_nil
  intro o562 a562 w562 d562 z562 hk562 hf562 hE562
  obtain ⟨e562_1, e562_5, e562_6⟩ := kt3 hk562 e560_1 e560_5 e560_6
  have e562_14 := gv (hf562 [3] rfl) rfl
  have hX562 := es_ hE560 hE562
  have b562_A341 := re_ hE562 b560_A341
  refine fl_cond e562_14 hs (fun c563 hs => ?_) (fun c563 hs => ?_)
  ·refine fl_skip ?_
   refine hn561 _ _ ?_
   refine fl_seq (fun Q564 hn564 hp564 => ?_)
   refine fl_block (fun Q565 hn565 hx565 hp565 => ?_)
   refine rq_seq 54 o562 (bz 1) [dv [] [] 7 (Zi 0)] z562 d562 ?_ ?_
   ·exact sO (or_assign rfl) <| steps_nil
   intro o566 a566 w566 d566 z566 hk566 hf566 hE566
   obtain ⟨e566_1, e566_5, e566_6⟩ := kt3 hk566 e562_1 e562_5 e562_6
   have e566_7 := gv (hf566 [0] rfl) rfl
   have hX566 := es_ hX562 hE566
   have b566_A341 := re_ hE566 b562_A341
   refine fl_block (fun Q567 hn567 hx567 hp567 => ?_)
   refine fl_loop (body := (fun s => order_sorted_int_Uniq_1_b2 run452 s.1 s.2)) (z := zz559) (show loopO _ _ = _ from hs) (fun (s : (List Int) × Int) a wx => match s with | (out599, x601) => ∃ (ox : Own), a.defers = [] ∧ a.tmps.size = 54 ∧ a.eval (.tmp 1) = .func (.func 68) #[] #[] ∧ a.eval (.tmp 5) = sl A341 out599 cA341 ∧ a.eval (.tmp 6) = Zi run452 ∧ a.eval (.tmp 7) = Zi x601 ∧ Evo [] (fun _ => 0) ox w wx ∧ RwO ox 600 [] wx 3 R3 A341 cA341 out599) ?_ ?_
   ·exact ⟨(rl [(451, 600)] o566), d566, z566, e566_1, e566_5, e566_6, e566_7, (Evo.rl_ hX566 (fun _ => Nat.le_refl 0) rfl), (RwO.rl_ b566_A341)⟩
   ·rintro ⟨out599, x601⟩ zz633 a633 w633 ⟨o633, d634, z634, e634_1, e634_5, e634_6, e634_7, hE634, b634_A341⟩ hs Q633 hn633 hp633 z633
    have hs : order_sorted_int_Uniq_1_b2 run452 out599 x601 = some zz633 := hs
    refine fl_seq (fun Q635 hn635 hp635 => ?_)
    refine rq_seq 54 o633 [0, 0, 3, 0, 8, 31] [dv [] [7] 17 (Zi x601), dv [] [6] 18 (Zi run452), dv [0, 1] [] 19 (Zi (ad x601 run452)), dv [] [5] 20 (sl A341 out599 cA341), dv [3] [] 21 (Zi (out599.length : Int)), dv [2, 4] [] 22 (.bool (decide ((ad x601 run452) < (out599.length : Int))))] z634 d634 ?_ ?_
    ·exact sM e634_7 <| sM e634_6 <| sF (fun f => or_add f.1 f.2.1 rfl) <| sM e634_5 <| sF (fun f => or_len tu22 f.1 rfl) <| sF (fun f => or_lss f.1 f.2.1 rfl) <| steps_nil
    intro o636 a636 w636 d636 z636 hk636 hf636 hE636
    obtain ⟨e636_1, e636_5, e636_6, e636_7⟩ := kt4 hk636 e634_1 e634_5 e634_6 e634_7
    have e636_22 := gv (hf636 [5] rfl) rfl
    have hX636 := es_ hE634 hE636
    have b636_A341 := re_ hE636 b634_A341
    refine fl_cond e636_22 hs (fun c637 hs => ?_) (fun c637 hs => ?_)
    ·refine fl_skip ?_
     refine hn635 _ _ ?_
     refine fl_seq (fun Q638 hn638 hp638 => ?_)
     refine fl_block (fun Q639 hn639 hx639 hp639 => ?_)
     obtain ⟨x640, hx640, hs⟩ := obind hs
     refine rq_seq 54 o636 [0, 0, 2, 7, 0, 16, 63, 127] [dv [] [7] 27 (Zi x601), dv [] [6] 28 (Zi run452), dv [1] [] 29 (Zi (ml 2 run452)), dv [0, 2] [] 30 (Zi (ad x601 (ml 2 run452))), dv [] [5] 31 (sl A341 out599 cA341), dv [4] [] 32 (Zi (out599.length : Int)), dv [3, 5] [] 33 (Zi x640), dv [6] [] 8 (Zi x640)] z636 d636 ?_ ?_
     ·exact sM e636_7 <| sM e636_6 <| sF (fun f => or_mul rfl f.1 rfl) <| sF (fun f => or_add f.1 f.2.1 rfl) <| sM e636_5 <| sF (fun f => or_len tu22 f.1 rfl) <| sF (fun f => or_eq_ (osome hx640).symm (or_min f.1 f.2.1)) <| sA <| steps_nil
     intro o641 a641 w641 d641 z641 hk641 hf641 hE641
     obtain ⟨e641_1, e641_5, e641_6, e641_7⟩ := kt4 hk641 e636_1 e636_5 e636_6 e636_7
     have e641_8 := gv (hf641 [7] rfl) rfl
     have hX641 := es_ hX636 hE641
     have b641_A341 := re_ hE641 b636_A341
     obtain ⟨x651, hx651, hs⟩ := obind hs
     obtain ⟨x653, hx653, hs⟩ := obind hs
     obtain ⟨x655, hx655, hs⟩ := obind hs
     obtain ⟨r657, hr657, hs⟩ := obind hs
     obtain ⟨l660, hl660, hs⟩ := obind hs
     refine rd_ g_mixed 54 [Fct.rowAt 600 [] 3 R3 A341 cA341 out599] o641 [600] [0, 0, 0, 7, 0, 0, 0, 0, 192, 496, 0, 0, 0, 6144, 0, 31744, 0, 131056, 262143] [dv [] [5] 34 (sl A341 out599 cA341), dv [] [7] 35 (Zi x601), dv [] [8] 36 (Zi x640), dv [0, 1, 2, 19] [] 37 (.slice (if (cA341 : Int).toNat = (x601 : Int).toNat then A341 else A341.map (·.add ((x601 : Int).toNat * R3.s))) ((x640 : Int).toNat - (x601 : Int).toNat) ((cA341 : Int).toNat - (x601 : Int).toNat)), dv [] [5] 38 (sl A341 out599 cA341), dv [] [7] 39 (Zi x601), dv [] [7] 40 (Zi x601), dv [] [6] 41 (Zi run452), dv [6, 7] [] 42 (Zi (ad x601 run452)), ⟨[4, 5, 8, 19], [], [], Fct.view [600] 43 R3 x653⟩, dv [] [5] 44 (sl A341 out599 cA341), dv [] [7] 45 (Zi x601), dv [] [6] 46 (Zi run452), dv [11, 12] [] 47 (Zi (ad x601 run452)), dv [] [8] 48 (Zi x640), ⟨[10, 13, 14, 19], [], [], Fct.view [600] 49 R3 x655⟩, dv [] [1] 50 (.func (.func 68) #[] #[]), ⟨[9, 15, 16], [], [], Fct.row 659 [] 51 3 R3 r657⟩, ⟨[3, 17, 19], [], [600], Fct.rowAt 661 [] 3 R3 A341 cA341 l660⟩] z641 d641 (fm1 b641_A341) ?_ ?_
     ·refine sM e641_5 <| sM e641_7 <| sM e641_8 ?_
      refine sc (fun own a wx hf hsl hE => ?_) ?_
      ·obtain ⟨f_34, f_35, f_36, b_A341, -⟩ := hf
       exact px (or_piece (R := R3) tu22 ts3 f_34 (Bnd.some_ f_35) (Bnd.some_ f_36) b_A341 (cut_some hx651).1 (cut_some hx651).2.1 (cut_some hx651).2.2.1)
      refine sM e641_5 <| sM e641_7 <| sM e641_7 <| sM e641_6 <| sF (fun f => or_add f.1 f.2.1 rfl) ?_
      refine sc (fun own a wx hf hsl hE => ?_) ?_
      ·obtain ⟨f_38, f_39, f_42, b_A341, -⟩ := hf
       exact px (or_view (R := R3) (l := out599) (L := [600]) tu22 ts3 f_38 (Bnd.some_ f_39) (Bnd.some_ f_42) Bnd.none_ (RwO.rd b_A341) hx653 (.inl rfl) (by simp))
      refine sM e641_5 <| sM e641_7 <| sM e641_6 <| sF (fun f => or_add f.1 f.2.1 rfl) <| sM e641_8 ?_
      refine sc (fun own a wx hf hsl hE => ?_) ?_
      ·obtain ⟨f_44, f_47, f_48, b_A341, -⟩ := hf
       exact px (or_view (R := R3) (l := out599) (L := [600]) tu22 ts3 f_44 (Bnd.some_ f_47) (Bnd.some_ f_48) Bnd.none_ (RwO.rd b_A341) hx655 (.inl rfl) (by simp))
      refine sM e641_1 ?_
      refine sc (fun own a wx hf hsl hE => ?_) ?_
      ·obtain ⟨⟨⟨A654, cA654⟩, f_43, b_A654⟩, ⟨⟨A656, cA656⟩, f_49, b_A656⟩, f_50, -⟩ := hf
       exact px (or_call cf73 (args3 f_43 f_49 f_50) (order_merged_int_Uniq_1_w _ x653 A654 cA654 x655 A656 cA656 (RdO.zero b_A654) (RdO.zero b_A656) r657 hr657) (post_row (m' := (look0 [(1, 659)])) (.inl (Rep.fl_flat _)) rfl rfl (fun _ => rfl)))
      refine sc (fun own a wx hf hsl hE => ?_) ?_
      ·obtain ⟨f_37, ⟨⟨A658, cA658⟩, f_51, b_A658⟩, b_A341, -⟩ := hf
       exact px (or_copy (R := R3) (lab := 600) (lab2 := 661) tu22 rfl f_37 f_51 b_A341 (RwO.rd b_A658) hl660 (Rep.fl_flat _) (mem_of rfl) (by decide) (fun own' a' w' hb => hb))
      exact steps_nil
     intro o662 a662 w662 d662 z662 hk662 hf662 hE662
     obtain ⟨e662_1, e662_5, e662_6, e662_7⟩ := kt4 hk662 e641_1 e641_5 e641_6 e641_7
     obtain ⟨(b662_A341 : RwO o662 661 [] w662 3 R3 A341 cA341 l660), -⟩ := hf662 [18] rfl
     have hX662 := es_ hX641 hE662
     have m663_5 : a662.eval (.tmp 5) = sl A341 l660 cA341 := e662_5.trans (by (try unfold sl); rw [cpy_len hl660])
     refine hn639 _ _ ?_
     refine hn638 _ _ ?_
     refine rq 54 o662 [0, 0, 2, 7, 15] [dv [] [7] 23 (Zi x601), dv [] [6] 24 (Zi run452), dv [1] [] 25 (Zi (ml 2 run452)), dv [0, 2] [] 26 (Zi (ad x601 (ml 2 run452))), dv [3] [] 7 (Zi (ad x601 (ml 2 run452)))] z662 d662 ?_ ?_
     ·exact sM e662_7 <| sM e662_6 <| sF (fun f => or_mul rfl f.1 rfl) <| sF (fun f => or_add f.1 f.2.1 rfl) <| sA <| steps_nil
     intro o664 a664 w664 d664 z664 hk664 hf664 hE664
     obtain ⟨e664_1, e664_5, e664_6⟩ := kt3 hk664 e662_1 m663_5 e662_6
     have e664_7 := gv (hf664 [4] rfl) rfl
     have hX664 := es_ hX662 hE664
     have b664_A341 := re_ hE664 b662_A341
     exact hn633 _ _ _ hs ⟨(rl [(661, 600)] o664), d664, z664, e664_1, e664_5, e664_6, e664_7, (Evo.rl_ hX664 (fun _ => Nat.le_refl 0) rfl), (RwO.rl_ b664_A341)⟩
    refine fl_exit ?_
    refine hp635 _ _ _ rfl ?_
    replace hs := z633 _ hs
    refine hp633 _ _ _ rfl ?_
    refine hx567 _ _ ?_
    refine hn565 _ _ ?_
    refine hn564 _ _ ?_
    refine rq 54 o636 (bz 3) [dv [] [6] 15 (Zi run452), dv [0] [] 16 (Zi (ml run452 2)), dv [1] [] 6 (Zi (ml run452 2))] z636 d636 ?_ ?_
    ·exact sM e636_6 <| sF (fun f => or_mul f.1 rfl rfl) <| sA <| steps_nil
    intro o665 a665 w665 d665 z665 hk665 hf665 hE665
    obtain ⟨e665_1, e665_5⟩ := kt2 hk665 e636_1 e636_5
    have e665_6 := gv (hf665 [2] rfl) rfl
    have hX665 := es_ hX636 hE665
    have b665_A341 := re_ hE665 b636_A341
    exact hn559 _ _ _ hs ⟨(rl [(600, 451)] o665), d665, z665, e665_1, e665_5, e665_6, (Evo.rl_ hX665 (fun _ => Nat.le_refl 0) rfl), (RwO.rl_ b665_A341)⟩
  refine fl_exit ?_
  refine hp561 _ _ _ rfl ?_
  replace hs := z559 _ hs
  refine hp559 _ _ _ rfl ?_
  refine hx346 _ _ ?_
  refine hn344 _ _ ?_
  refine rq_seq 54 o562 (bz 2) [dv [] [5] 53 (sl A341 out450 cA341), dv [0] [] 4 (sl A341 out450 cA341)] z562 d562 ?_ ?_
  ·exact sM e562_5 <| sA <| steps_nil
  intro o666 a666 w666 d666 z666 hk666 hf666 hE666
  have e666_4 := gv (hf666 [1] rfl) rfl
  have hX666 := es_ hX562 hE666
  have b666_A341 := re_ hE666 b562_A341
  refine fl_ret ?_
  obtain rfl := (osome hs).symm
  exact hret _ _ _ _ (.inl rfl) d666 (results1_ rfl (RVal.tmp_ e666_4)) ⟨(rl [(451, 1)] o666), (A341, cA341), rfl, (Evo.rl_ hX666 (fun _ => Nat.le_refl 0) rfl), (RwO.rl_ b666_A341)⟩
theorem order_Uniq_w (w : World) (l1 : List Int) (Al1 : Option Addr) (cl1 : Nat) (hl1 : RdO (fun _ => 0) [0] w R3 Al1 cl1 l1) (r : List Int) (hs : order_Uniq l1 = some r) :
  Calls Try.prog 56 #[sl Al1 l1 cl1] w fun e w' => ∃ (own' : Own) (x : Option Addr × Nat), e = .returned (.slice x.1 r.length x.2) ∧ Evo [] (fun _ => 0) own' w w' ∧ RwO own' 1 [] w' 3 R3 x.1 x.2 r := by
 refine fl_enter (n := 6) rfl rfl rfl (Nat.le_of_ble_eq_true rfl) ?_
 intro a0 Q d0 z0 harg hret
 have ha0 := harg 0 _ rfl
 clear harg
 have hE0 : Evo [] (fun _ => 0) (fun _ => 0) w w := Evo.refl _ _ _
 refine rq_seq 6 (fun _ => 0) (bz 1) [dv [] [] 2 (.slice none 0 0)] z0 d0 ?_ ?_
 ·exact sO (or_assign rfl) <| steps_nil
 intro o19 a19 w19 d19 z19 hk19 hf19 hE19
 have e19_0 := kt hk19 ha0
 have hX19 := es_ hE0 hE19
 obtain ⟨r20, hr20, hs⟩ := obind hs
 obtain ⟨r23, hr23, hs⟩ := obind hs
 refine rp_seq 6 o19 [22] (bz 4) [dv [] [0] 3 (sl Al1 l1 cl1), ⟨[0], [], [], Fct.row 22 [] 4 3 R3 r20⟩, ⟨[1], [], [22], Fct.mems [25] 5 (fun (x : Option Addr × Nat) => .slice x.1 r23.length x.2) (fun (x : Option Addr × Nat) own w => RwO own 25 [] w 3 R3 x.1 x.2 r23) (fun hk he h => RwO.evo (hits_sub hk (by decide)) he h)⟩, ⟨[2], [], [], Fct.rel [2, 5] (fun l => ∀ (A24 : Option Addr) (cA24 : Nat), l.getD 1 undef = sl A24 r23 cA24 → l.getD 0 undef = sl A24 r23 cA24)⟩] z19 d19 ?_ ?_
 ·refine sM e19_0 <| sFE (fun f hE => or_call cf67 (args2 f.1 rfl) (order_sorted_int_Uniq_1_w _ l1 Al1 cl1 (RdO.zero (RdO.evo rfl hE (RdO.evo rfl hX19 hl1))) r20 hr20) (post_row (m' := (look0 [(1, 22)])) (.inl (Rep.fl_flat _)) rfl rfl (fun _ => rfl))) ?_
  refine sc (fun own a wx hf hsl hE => ?_) ?_
  ·obtain ⟨⟨⟨A21, cA21⟩, f_4, b_A21⟩, -⟩ := hf
   exact px (or_call cf66 (args1 f_4) (slices_Compact_int_int_w _ (forth own (look0 [(22, 1)])) r20 A21 cA21 (look0_le rfl) (RwO.forth_ (m := (look0 [(22, 1)])) b_A21) r23 hr23) (post_mems (m := (look0 [(22, 1)])) (m' := (look0 [(2, 25)])) (hm_of rfl) (fun own' w' a' x h1 h => ⟨x, h1, RwO.back_ h (by decide) (.inl (Rep.fl_flat _))⟩)))
  refine sc (fun own a wx hf hsl hE => ?_) ?_
  ·obtain ⟨⟨⟨A24, cA24⟩, (f_5 : a.eval (.tmp 5) = sl A24 r23 cA24), b_A24⟩, -⟩ := hf
   exact px (or_mono (f := Fct.val 2 (sl A24 r23 cA24)) (or_assign f_5) (fun own' a' w' v' hp h => fun _ _ h0' => by cases (f_5.symm.trans ((hp.2 5 (by decide)).symm.trans h0')); exact h))
  exact steps_nil
 intro o26 a26 w26 d26 z26 hk26 hf26 hE26
 obtain ⟨⟨⟨A24, cA24⟩, (f_5 : a26.eval (.tmp 5) = sl A24 r23 cA24), (b26_A24 : RwO o26 25 [] w26 3 R3 A24 cA24 r23)⟩, (q_2 : ∀ (A24 : Option Addr) (cA24 : Nat), a26.eval (.tmp 5) = sl A24 r23 cA24 → a26.eval (.tmp 2) = sl A24 r23 cA24), -⟩ := hf26 [2, 3] rfl
 have e26_2 := q_2 _ _ f_5
 have hX26 := es_ hX19 hE26
 refine fl_ret ?_
 obtain rfl := (osome hs).symm
 exact hret _ _ _ _ (.inl rfl) d26 (results1_ rfl (RVal.tmp_ e26_2)) ⟨(rl [(25, 1)] o26), (A24, cA24), rfl, (Evo.rl_ hX26 (fun _ => Nat.le_refl 0) rfl), (RwO.rl_ b26_A24)⟩
set_option maxHeartbeats 2000000 in
theorem rows_Index_Find_w (w : World) (x1 : (List ((Int × Int) × (Int × Int))) × (List ((Int × Int) × (List Int))) × (List Int)) (gx1 : Nat) (tx1 : TypeId) (Ax1_0 : Option Addr) (cx1_0 : Nat) (mx1_1 : Nat) (Ax1_2 : Option Addr) (cx1_2 : Nat) (b2 : (Int × Int) × (Int × Int)) (hgx1 : BlkO (fun _ => 0) 0 w gx1 tx1 #[sl Ax1_0 x1.1 cx1_0, .map (some mx1_1), sl Ax1_2 x1.2.2 cx1_2]) (hAx1_0 : RdO (fun _ => 0) [0] w R80 Ax1_0 cx1_0 x1.1) (hmx1_1 : MpN (fun _ => 0) 0 0 [0] w mx1_1 vv111 3 R3 x1.2.1) (hAx1_2 : RdO (fun _ => 0) [0] w R3 Ax1_2 cx1_2 x1.2.2) (r : List Int) (hs : rows_Index_Find x1 b2 = some r) :
  Calls Try.prog 35 #[pt gx1 0, .agg #[Zi b2.1.1, Zi b2.1.2, Zi b2.2.1, Zi b2.2.2]] w fun e w' => ∃ (own' : Own) (x : Option Addr × Nat), e = .returned (.slice x.1 r.length x.2) ∧ Evo [] (fun _ => 0) own' w w' ∧ RwO own' 1 [] w' 3 R3 x.1 x.2 r := by
 refine fl_enterM (n := 104) (kD := 11) (by decide) rfl rfl rfl (Nat.le_of_ble_eq_true rfl) ?_
 intro a0 Q d0 z0 harg hret
 have ha0 := harg 0 _ rfl
 have ha1 := harg 1 _ rfl
 clear harg
 have hE0 : Evo [] (fun _ => 0) (fun _ => 0) w w := Evo.refl _ _ _
 have hmk0 : MkO (fun _ => 0) 11 w [] := MkO.nil_
 refine rq_seq 104 (fun _ => 0) [0, 0, 0] [⟨[], [0], [], Fct.blk 3090 2 (fun g => pt g 0) 70 #[pt gx1 0]⟩, ⟨[], [1], [], Fct.blk 3092 3 (fun g => pt g 0) 80 #[Zi b2.1.1, Zi b2.1.2, Zi b2.2.1, Zi b2.2.2]⟩, dv [] [] 4 (.slice none 0 0)] z0 d0 ?_ ?_
 ·exact sS (fun s => nw1 (s.1.trans ha0)) <| sS (fun s => nw1 (s.1.trans ha1)) <| sO (or_assign rfl) <| steps_nil
 intro o3093 a3093 w3093 d3093 z3093 hk3093 hf3093 hE3093
 obtain ⟨⟨g3089, (e3093_2 : a3093.eval (.tmp 2) = pt g3089 0), (b3093_g3089 : BlkO o3093 3090 w3093 g3089 70 #[pt gx1 0])⟩, ⟨g3091, (e3093_3 : a3093.eval (.tmp 3) = pt g3091 0), (b3093_g3091 : BlkO o3093 3092 w3093 g3091 80 #[Zi b2.1.1, Zi b2.1.2, Zi b2.2.1, Zi b2.2.2])⟩, -⟩ := hf3093 [0, 1] rfl
 have hX3093 := es_ hE0 hE3093
 have b3093_mk := MkO.evo (by decide) hE3093 hmk0
 refine fl_seq (fun Q3094 hn3094 hp3094 => ?_)
 obtain ⟨r3095, hr3095, hs⟩ := obind hs
 refine rq_seq 104 o3093 (bz 7) [dv [] [2] 14 (pt gx1 0), dv [0] [] 15 (.bool false), dv [1] [] 16 (.bool false), dc [2] [3] (!false) 17 (.agg #[Zi b2.1.1, Zi b2.1.2, Zi b2.2.1, Zi b2.2.2]), dc [2, 3] [] (!false) 18 (.bool r3095), dc [2, 4] [] (!false) 19 (.bool (!r3095)), dv [2, 5] [] 20 (.bool (false || (!r3095)))] z3093 d3093 ?_ ?_
 ·exact sL1 to70 e3093_2 b3093_g3089 <| sF (fun f => ok1 f.1) <| sV <| cFL ta80 e3093_3 b3093_g3091 <| cF (fun f _ _ hg => or_call cf48 (args1 (f.2.1.1 hg)) (rows_Right_w _ b2  r3095 (gd_t hr3095 hg)) post_val) <| cF (fun f _ _ hg => or_not (f.2.1.1 hg) rfl) <| sF (fun f => or_or f.1 rfl (fun hx => f.2.1.1 hx) rfl) <| steps_nil
 intro o3096 a3096 w3096 d3096 z3096 hk3096 hf3096 hE3096
 obtain ⟨e3096_2, e3096_3⟩ := kt2 hk3096 e3093_2 e3093_3
 have e3096_20 := gv (hf3096 [6] rfl) rfl
 have hX3096 := es_ hX3093 hE3096
 have b3096_mk := MkO.evo (by decide) hE3096 b3093_mk
 obtain ⟨b3096_g3089, b3096_g3091⟩ := be2 hE3096 b3093_g3089 b3093_g3091
 refine fl_cond e3096_20 hs (fun c3097 hs => ?_) (fun c3097 hs => ?_)
 ·refine rq_seq 104 o3096 (bz 1) [dv [] [] 4 (.slice none 0 0)] z3096 d3096 ?_ ?_
  ·exact sO (or_assign rfl) <| steps_nil
  intro o3098 a3098 w3098 d3098 z3098 hk3098 hf3098 hE3098
  have e3098_4 := gv (hf3098 [0] rfl) rfl
  have hX3098 := es_ hX3096 hE3098
  have b3098_mk := MkO.evo (by decide) hE3098 b3096_mk
  refine fl_ret ?_
  refine hp3094 _ _ _ rfl ?_
  refine hret _ _ _ _ _ (.inl rfl) d3098 b3098_mk (fun o3099 w3099 hE3099 => ?_)
  have hX3100 := es_ hX3098 hE3099
  obtain rfl := osome hs
  exact ⟨_, results1_ rfl (RVal.tmp_ e3098_4), ⟨o3099, (none, 0), rfl, hX3100, RwO.nil_⟩⟩
 refine fl_skip ?_
 refine hn3094 _ _ ?_
 refine rq_seq 104 o3096 (bz 1) [⟨[], [], [], Fct.blk 3102 5 (fun g => pt g 0) 22 #[.slice none 0 0]⟩] z3096 d3096 ?_ ?_
 ·exact sO (nw0) <| steps_nil
 intro o3103 a3103 w3103 d3103 z3103 hk3103 hf3103 hE3103
 obtain ⟨e3103_2, e3103_3⟩ := kt2 hk3103 e3096_2 e3096_3
 obtain ⟨⟨g3101, (e3103_5 : a3103.eval (.tmp 5) = pt g3101 0), (b3103_g3101 : BlkO o3103 3102 w3103 g3101 22 #[.slice none 0 0])⟩, -⟩ := hf3103 [0] rfl
 have hX3103 := es_ hX3096 hE3103
 have b3103_mk := MkO.evo (by decide) hE3103 b3096_mk
 obtain ⟨b3103_g3089, b3103_g3091⟩ := be2 hE3103 b3096_g3089 b3096_g3091
 refine fl_seq (fun Q3104 hn3104 hp3104 => ?_)
 obtain ⟨r3105, hr3105, hs⟩ := obind hs
 refine rq_seq 104 o3103 (bz 2) [dv [] [3] 21 (.agg #[Zi b2.1.1, Zi b2.1.2, Zi b2.2.1, Zi b2.2.2]), dv [0] [] 22 (.bool r3105)] z3103 d3103 ?_ ?_
 ·exact sL ta80 e3103_3 b3103_g3091 <| sF (fun f => or_call cf49 (args1 f.1) (rows_great_w _ b2  r3105 hr3105) post_val) <| steps_nil
 intro o3106 a3106 w3106 d3106 z3106 hk3106 hf3106 hE3106
 obtain ⟨e3106_2, e3106_3, e3106_5⟩ := kt3 hk3106 e3103_2 e3103_3 e3103_5
 have e3106_22 := gv (hf3106 [1] rfl) rfl
 have hX3106 := es_ hX3103 hE3106
 have b3106_mk := MkO.evo (by decide) hE3106 b3103_mk
 obtain ⟨b3106_g3089, b3106_g3091, b3106_g3101⟩ := be3 hE3106 b3103_g3089 b3103_g3091 b3103_g3101
 refine fl_cond e3106_22 hs (fun c3107 hs => ?_) (fun c3107 hs => ?_)
 ·refine fl_seq (fun Q3108 hn3108 hp3108 => ?_)
  refine rq_seq 104 o3106 [0, 1, 3, 7, 15, 0] [dv [] [2] 23 (pt gx1 0), dv [0] [] 24 (pt gx1 0), dv [1] [] 25 (pt gx1 0), dv [2] [] 26 (sl Ax1_0 x1.1 cx1_0), dv [3] [] 27 (Zi (x1.1.length : Int)), dv [] [] 28 (Zi 0)] z3106 d3106 ?_ ?_
  ·exact sL1 to70 e3106_2 b3106_g3089 <| sF (fun f => ok1 f.1) <| sF (fun f => or_field fo106_0 f.1 (by rfl)) <| sG to103 (be_ hX3106 hgx1) <| sF (fun f => or_len tu103 f.1 rfl) <| sO (or_move rfl) <| steps_nil
  intro o3109 a3109 w3109 d3109 z3109 hk3109 hf3109 hE3109
  obtain ⟨e3109_3, e3109_5⟩ := kt2 hk3109 e3106_3 e3106_5
  have e3109_26 := gv (hf3109 [3] rfl) rfl
  have e3109_27 := gv (hf3109 [4] rfl) rfl
  have e3109_28 := gv (hf3109 [5] rfl) rfl
  have hX3109 := es_ hX3106 hE3109
  have b3109_mk := MkO.evo (by decide) hE3109 b3106_mk
  obtain ⟨b3109_g3091, b3109_g3101⟩ := be2 hE3109 b3106_g3091 b3106_g3101
  refine fl_block (fun Q3110 hn3110 hx3110 hp3110 => ?_)
  refine fl_loop (body := (fun s => rows_Index_Find_b1 x1 b2 s.1 s.2)) (z := r) (show loopO _ _ = _ from hs) (fun (s : (List Int) × Int) a wx => match s with | (out3224, x3226) => ∃ (ox : Own) (A3222 : Option Addr) (c3223 : Nat), a.defers = mkD [] ∧ a.tmps.size = 104 ∧ a.eval (.tmp 3) = pt g3091 0 ∧ a.eval (.tmp 5) = pt g3101 0 ∧ a.eval (.tmp 26) = sl Ax1_0 x1.1 cx1_0 ∧ a.eval (.tmp 27) = Zi (x1.1.length : Int) ∧ a.eval (.tmp 28) = Zi x3226 ∧ Evo [] (fun _ => 0) ox w wx ∧ BlkO ox 3092 wx g3091 80 #[Zi b2.1.1, Zi b2.1.2, Zi b2.2.1, Zi b2.2.2] ∧ BlkO ox 3221 wx g3101 22 #[sl A3222 out3224 c3223] ∧ RwO ox 3225 [] wx 3 R3 A3222 c3223 out3224 ∧ MkO ox 11 wx []) ?_ ?_
  ·exact ⟨(rl [(3102, 3221)] o3109), none, 0, d3109, z3109, e3109_3, e3109_5, e3109_26, e3109_27, e3109_28, (Evo.rl_ hX3109 (fun _ => Nat.le_refl 0) rfl), (BlkO.rl_ b3109_g3091), (BlkO.rl_ b3109_g3101), RwO.nil_, (MkO.rl_ b3109_mk)⟩
  ·rintro ⟨out3224, x3226⟩ zz3337 a3337 w3337 ⟨o3337, A3222, c3223, d3338, z3338, e3338_3, e3338_5, e3338_26, e3338_27, e3338_28, hE3338, b3338_g3091, b3338_g3101, b3338_A3222, b3338_mk⟩ hs Q3337 hn3337 hp3337 z3337
   have hs : rows_Index_Find_b1 x1 b2 out3224 x3226 = some zz3337 := hs
   refine rq_seq 104 o3337 (bz 1) [dv [] [28, 27] 29 (.bool (decide (x3226 < (x1.1.length : Int))))] z3338 d3338 ?_ ?_
   ·exact sS (fun s => or_lss (s.1.trans e3338_28) (s.2.1.trans e3338_27) rfl) <| steps_nil
   intro o3339 a3339 w3339 d3339 z3339 hk3339 hf3339 hE3339
   obtain ⟨e3339_3, e3339_5, e3339_26, e3339_27, e3339_28⟩ := kt5 hk3339 e3338_3 e3338_5 e3338_26 e3338_27 e3338_28
   have e3339_29 := gv (hf3339 [0] rfl) rfl
   have hX3339 := es_ hE3338 hE3339
   obtain ⟨b3339_g3091, b3339_g3101⟩ := be2 hE3339 b3338_g3091 b3338_g3101
   have b3339_A3222 := re_ hE3339 b3338_A3222
   have b3339_mk := MkO.evo (by decide) hE3339 b3338_mk
   refine fl_seq (fun Q3340 hn3340 hp3340 => ?_)
   refine fl_cond e3339_29 hs (fun c3341 hs => ?_) (fun c3341 hs => ?_)
   ·refine fl_skip ?_
    refine hn3340 _ _ ?_
    refine fl_seq (fun Q3342 hn3342 hp3342 => ?_)
    refine fl_block (fun Q3395 hn3395 hx3395 hp3395 => ?_)
    have K3423 : ∀ (a3423 : Act) (w3423 : World) (o3423 : Own) (out3421 : List Int) (A3419 : Option Addr) (c3420 : Nat), a3423.defers = mkD [] → a3423.tmps.size = 104 → a3423.eval (.tmp 3) = pt g3091 0 → a3423.eval (.tmp 5) = pt g3101 0 → a3423.eval (.tmp 26) = sl Ax1_0 x1.1 cx1_0 → a3423.eval (.tmp 27) = Zi (x1.1.length : Int) → a3423.eval (.tmp 28) = Zi x3226 → Evo [] (fun _ => 0) o3423 w w3423 → BlkO o3423 3092 w3423 g3091 80 #[Zi b2.1.1, Zi b2.1.2, Zi b2.2.1, Zi b2.2.2] → BlkO o3423 3418 w3423 g3101 22 #[sl A3419 out3421 c3420] → RwO o3423 3422 [] w3423 3 R3 A3419 c3420 out3421 → MkO o3423 11 w3423 [] → rows_Index_Find_k2 x3226 out3421 = some zz3337 → (Q3395 .normal a3423 w3423 ∧ Q3395 (.exit 1) a3423 w3423) := by
     intro a3423 w3423 o3423 out3421 A3419 c3420 d3424 z3424 e3424_3 e3424_5 e3424_26 e3424_27 e3424_28 hE3424 b3424_g3091 b3424_g3101 b3424_A3419 b3424_mk hs
     refine and_both (hn3395 _ _) (hx3395 _ _) ?_
     refine hn3342 _ _ ?_
     refine rq 104 o3423 (bz 2) [dv [] [28] 40 (Zi (ad x3226 1)), dv [0] [] 28 (Zi (ad x3226 1))] z3424 d3424 ?_ ?_
     ·exact sS (fun s => or_add (s.1.trans e3424_28) rfl rfl) <| sV <| steps_nil
     intro o3425 a3425 w3425 d3425 z3425 hk3425 hf3425 hE3425
     obtain ⟨e3425_3, e3425_5, e3425_26, e3425_27⟩ := kt4 hk3425 e3424_3 e3424_5 e3424_26 e3424_27
     have e3425_28 := gv (hf3425 [1] rfl) rfl
     have hX3425 := es_ hE3424 hE3425
     obtain ⟨b3425_g3091, b3425_g3101⟩ := be2 hE3425 b3424_g3091 b3424_g3101
     have b3425_A3419 := re_ hE3425 b3424_A3419
     have b3425_mk := MkO.evo (by decide) hE3425 b3424_mk
     exact hn3337 _ _ _ hs ⟨(rl [(3418, 3221), (3422, 3225)] o3425), A3419, c3420, d3425, z3425, e3425_3, e3425_5, e3425_26, e3425_27, e3425_28, (Evo.rl_ hX3425 (fun _ => Nat.le_refl 0) rfl), (BlkO.rl_ b3425_g3091), (BlkO.rl_ b3425_g3101), (RwO.rl_ b3425_A3419), (MkO.rl_ b3425_mk)⟩
    obtain ⟨x3426, hx3426, hs⟩ := obind hs
    refine rp_seq 104 o3339 [3428] [0, 0, 2, 0, 15, 31] [dv [] [28] 30 (Zi x3226), dv [] [26, 28] 31 (.pointer (some ((adr Ax1_0).add ((x3226 : Int).toNat * R80.s)))), dv [1] [] 32 (.agg #[Zi x3426.1.1, Zi x3426.1.2, Zi x3426.2.1, Zi x3426.2.2]), ⟨[], [], [], Fct.blk 3428 7 (fun g => pt g 0) 80 #[Zi 0, Zi 0, Zi 0, Zi 0]⟩, dv [0] [] 6 (Zi x3226), ⟨[3, 2], [], [3428], Fct.blk 3429 7 (fun g => pt g 0) 80 #[Zi x3426.1.1, Zi x3426.1.2, Zi x3426.2.1, Zi x3426.2.2]⟩] z3339 d3339 ?_ ?_
    ·refine sM e3339_28 <| sS (fun s => or_index (R := R80) (l := x1.1) tl103 (s.1.trans e3339_26) (s.2.1.trans e3339_28) (RdO.some_ (RdO.evo rfl hX3339 hAx1_0) hx3426) hx3426) <| sFE (fun f hE => or_load (l := E80.f x3426) ta80 f.1 (RdO.cells (F := E80) (RdO.evo rfl hE (RdO.evo rfl hX3339 hAx1_0)) hx3426) rfl) <| sO (nw0) <| sA ?_
     refine sc (fun own a wx hf hsl hE => ?_) ?_
     ·obtain ⟨⟨g3427, f_7, b_g3427⟩, f_32, -⟩ := hf
      exact px (or_store (l := #[Zi x3426.1.1, Zi x3426.1.2, Zi x3426.2.1, Zi x3426.2.2]) (lab := 3428) (lab2 := 3429) ts80 f_7 f_32 b_g3427 (by simp) (by kernel_rfl) (mem_of rfl) (by decide) (by kernel_rfl) (fun own' a' w' ha hb => ⟨_, (ha 7).trans f_7, hb⟩))
     exact steps_nil
    intro o3430 a3430 w3430 d3430 z3430 hk3430 hf3430 hE3430
    obtain ⟨e3430_3, e3430_5, e3430_26, e3430_27, e3430_28⟩ := kt5 hk3430 e3339_3 e3339_5 e3339_26 e3339_27 e3339_28
    have e3430_6 := gv (hf3430 [4] rfl) rfl
    obtain ⟨⟨g3427, (e3430_7 : a3430.eval (.tmp 7) = pt g3427 0), (b3430_g3427 : BlkO o3430 3429 w3430 g3427 80 #[Zi x3426.1.1, Zi x3426.1.2, Zi x3426.2.1, Zi x3426.2.2])⟩, -⟩ := hf3430 [5] rfl
    have hX3430 := es_ hX3339 hE3430
    obtain ⟨b3430_g3091, b3430_g3101⟩ := be2 hE3430 b3339_g3091 b3339_g3101
    have b3430_A3222 := re_ hE3430 b3339_A3222
    have b3430_mk := MkO.evo (by decide) hE3430 b3339_mk
    obtain ⟨r3431, hr3431, hs⟩ := obind hs
    refine rq_seq 104 o3430 [0, 0, 3] [dv [] [3] 33 (.agg #[Zi b2.1.1, Zi b2.1.2, Zi b2.2.1, Zi b2.2.2]), dv [] [7] 34 (.agg #[Zi x3426.1.1, Zi x3426.1.2, Zi x3426.2.1, Zi x3426.2.2]), dv [0, 1] [] 35 (.bool r3431)] z3430 d3430 ?_ ?_
    ·exact sL ta80 e3430_3 b3430_g3091 <| sL ta80 e3430_7 b3430_g3427 <| sF (fun f => or_call cf55 (args2 f.1 f.2.1) (rows_Meet_w _ b2 x3426  r3431 hr3431) post_val) <| steps_nil
    intro o3432 a3432 w3432 d3432 z3432 hk3432 hf3432 hE3432
    obtain ⟨e3432_3, e3432_5, e3432_6, e3432_26, e3432_27, e3432_28⟩ := kt6 hk3432 e3430_3 e3430_5 e3430_6 e3430_26 e3430_27 e3430_28
    have e3432_35 := gv (hf3432 [2] rfl) rfl
    have hX3432 := es_ hX3430 hE3432
    obtain ⟨b3432_g3091, b3432_g3101⟩ := be2 hE3432 b3430_g3091 b3430_g3101
    have b3432_A3222 := re_ hE3432 b3430_A3222
    have b3432_mk := MkO.evo (by decide) hE3432 b3430_mk
    refine fl_cond e3432_35 hs (fun c3433 hs => ?_) (fun c3433 hs => ?_)
    ·obtain ⟨x3443, hx3443, hs⟩ := obind hs
     refine rr 104 [Fct.rowAt 3225 [] 3 R3 A3222 c3223 out3224, Fct.at_ 3221 g3101 22 #[sl A3222 out3224 c3223]] o3432 [3225, 3221] [0, 0, 2, 7, 15] [dv [6] [5] 36 (sl A3222 out3224 c3223), dv [] [6] 37 (Zi x3226), ⟨[1], [], [], Fct.row 3442 [] 38 3 R3 [x3226]⟩, ⟨[0, 2, 5], [], [3225], Fct.row 3444 [] 39 3 R3 x3443⟩, ⟨[3, 6], [5], [3221], Fct.by_ [3446] [39] (fun l own w => ∀ (A3445 : Option Addr) (cA3445 : Nat), l.getD 0 undef = sl A3445 x3443 cA3445 → BlkO own 3446 w g3101 22 #[sl A3445 x3443 cA3445]) (fun hk he h _ _ h0' => BlkO.evo (not_hit hk (by decide)) he (h _ _ h0'))⟩] z3432 d3432 (fm2 b3432_A3222 b3432_g3101) ?_ ?_
     ·refine sc (fun own a wx hf hsl hE => ?_) ?_
      ·obtain ⟨(b_g3101 : BlkO own 3221 wx g3101 22 #[sl A3222 out3224 c3223]), -⟩ := hf
       obtain ⟨s_5, -⟩ := hsl
       exact px (ld1 to22 (s_5.trans e3432_5) b_g3101)
      refine sM e3432_6 <| sF (fun f => or_lit (lab := 3442) (e := 3) (cs := #[Zi x3226]) (F := E3) (nw1 f.1) rfl rfl (show 1 ≤ maxLen by decide)) ?_
      refine sc (fun own a wx hf hsl hE => ?_) ?_
      ·obtain ⟨f_36, ⟨⟨A3441, cA3441⟩, f_38, b_A3441⟩, b_A3222, -⟩ := hf
       exact px (or_append (R := R3) (lab := 3225) (lab2 := 3444) (L := []) (L3 := []) tp22 f_36 b_A3222 (by decide) f_38 (RwO.rd b_A3441) hx3443 (by decide) (by decide) (mem_of rfl) (.inl (Rep.fl_flat _)))
      refine sc (fun own a wx hf hsl hE => ?_) ?_
      ·obtain ⟨⟨⟨A3445, cA3445⟩, (f_39 : a.eval (.tmp 39) = sl A3445 x3443 cA3445), b_A3445⟩, b_g3101, -⟩ := hf
       obtain ⟨s_5, -⟩ := hsl
       exact px (or_store1 (lab := 3221) (lab2 := 3446) ts22 (s_5.trans e3432_5) f_39 b_g3101 (by simp) rfl (mem_of rfl) (by decide) rfl (fun own' a' w' ha hb => fun _ _ h0' => by cases (f_39.symm.trans ((ha 39).symm.trans h0')); exact hb))
      exact steps_nil
     intro o3447 a3447 w3447 d3447 z3447 hk3447 hf3447 hE3447
     obtain ⟨e3447_3, e3447_5, e3447_26, e3447_27, e3447_28⟩ := kt5 hk3447 e3432_3 e3432_5 e3432_26 e3432_27 e3432_28
     obtain ⟨⟨⟨A3445, cA3445⟩, (f_39 : a3447.eval (.tmp 39) = sl A3445 x3443 cA3445), (b3447_A3445 : RwO o3447 3444 [] w3447 3 R3 A3445 cA3445 x3443)⟩, (bq_g3101 : ∀ (A3445 : Option Addr) (cA3445 : Nat), a3447.eval (.tmp 39) = sl A3445 x3443 cA3445 → BlkO o3447 3446 w3447 g3101 22 #[sl A3445 x3443 cA3445]), -⟩ := hf3447 [3, 4] rfl
     have b3447_g3101 := bq_g3101 _ _ f_39
     have hX3447 := es_ hX3432 hE3447
     have b3447_g3091 := be_ hE3447 b3432_g3091
     have b3447_mk := MkO.evo (by decide) hE3447 b3432_mk
     exact (K3423 _ _ (rl [(3444, 3422), (3446, 3418)] o3447) _ A3445 cA3445 d3447 z3447 e3447_3 e3447_5 e3447_26 e3447_27 e3447_28 (Evo.rl_ hX3447 (fun _ => Nat.le_refl 0) rfl) (BlkO.rl_ b3447_g3091) (BlkO.rl_ b3447_g3101) (RwO.rl_ b3447_A3445) (MkO.rl_ b3447_mk) hs).1
    refine fl_skip ?_
    exact (K3423 _ _ (rl [(3221, 3418), (3225, 3422)] o3432) _ A3222 c3223 d3432 z3432 e3432_3 e3432_5 e3432_26 e3432_27 e3432_28 (Evo.rl_ hX3432 (fun _ => Nat.le_refl 0) rfl) (BlkO.rl_ b3432_g3091) (BlkO.rl_ b3432_g3101) (RwO.rl_ b3432_A3222) (MkO.rl_ b3432_mk) hs).1
   refine fl_exit ?_
   refine hp3340 _ _ _ rfl ?_
   replace hs := z3337 _ hs
   refine hp3337 _ _ _ rfl ?_
   refine hx3110 _ _ ?_
   refine hn3108 _ _ ?_
   refine rq_seq 104 o3339 (bz 2) [dv [] [5] 41 (sl A3222 out3224 c3223), dv [0] [] 4 (sl A3222 out3224 c3223)] z3339 d3339 ?_ ?_
   ·exact sL1 to22 e3339_5 b3339_g3101 <| sA <| steps_nil
   intro o3448 a3448 w3448 d3448 z3448 hk3448 hf3448 hE3448
   have e3448_4 := gv (hf3448 [1] rfl) rfl
   have hX3448 := es_ hX3339 hE3448
   have b3448_A3222 := re_ hE3448 b3339_A3222
   have b3448_mk := MkO.evo (by decide) hE3448 b3339_mk
   refine fl_ret ?_
   refine hp3104 _ _ _ rfl ?_
   refine hret _ _ _ _ _ (.inl rfl) d3448 b3448_mk (fun o3449 w3449 hE3449 => ?_)
   have hX3450 := es_ hX3448 hE3449
   have b3450_A3222 := re_ hE3449 b3448_A3222
   obtain rfl := (osome hs).symm
   exact ⟨_, results1_ rfl (RVal.tmp_ e3448_4), ⟨(rl [(3225, 1)] o3449), (A3222, c3223), rfl, (Evo.rl_ hX3450 (fun _ => Nat.le_refl 0) rfl), (RwO.rl_ b3450_A3222)⟩⟩
 refine fl_skip ?_
 refine hn3104 _ _ ?_
 refine fl_seq (fun Q3451 hn3451 hp3451 => ?_)
 refine rq_seq 104 o3106 [0, 1, 3, 7, 15, 0] [dv [] [2] 42 (pt gx1 0), dv [0] [] 43 (pt gx1 0), dv [1] [] 44 (pt gx1 2), dv [2] [] 45 (sl Ax1_2 x1.2.2 cx1_2), dv [3] [] 46 (Zi (x1.2.2.length : Int)), dv [] [] 47 (Zi 0)] z3106 d3106 ?_ ?_
 ·exact sL1 to70 e3106_2 b3106_g3089 <| sF (fun f => ok1 f.1) <| sF (fun f => or_field fo106_2 f.1 (by rfl)) <| sG to22 (be_ hX3106 hgx1) <| sF (fun f => or_len tu22 f.1 rfl) <| sO (or_move rfl) <| steps_nil
 intro o3452 a3452 w3452 d3452 z3452 hk3452 hf3452 hE3452
 obtain ⟨e3452_2, e3452_3, e3452_5⟩ := kt3 hk3452 e3106_2 e3106_3 e3106_5
 have e3452_45 := gv (hf3452 [3] rfl) rfl
 have e3452_46 := gv (hf3452 [4] rfl) rfl
 have e3452_47 := gv (hf3452 [5] rfl) rfl
 have hX3452 := es_ hX3106 hE3452
 have b3452_mk := MkO.evo (by decide) hE3452 b3106_mk
 obtain ⟨b3452_g3089, b3452_g3091, b3452_g3101⟩ := be3 hE3452 b3106_g3089 b3106_g3091 b3106_g3101
 refine fl_block (fun Q3453 hn3453 hx3453 hp3453 => ?_)
 refine fl_loop (body := (fun s => rows_Index_Find_b3 x1 b2 s.1 s.2)) (z := r) (show loopO _ _ = _ from hs) (fun (s : (List Int) × Int) a wx => match s with | (out3559, x3561) => ∃ (ox : Own) (A3557 : Option Addr) (c3558 : Nat), a.defers = mkD [] ∧ a.tmps.size = 104 ∧ a.eval (.tmp 2) = pt g3089 0 ∧ a.eval (.tmp 3) = pt g3091 0 ∧ a.eval (.tmp 5) = pt g3101 0 ∧ a.eval (.tmp 45) = sl Ax1_2 x1.2.2 cx1_2 ∧ a.eval (.tmp 46) = Zi (x1.2.2.length : Int) ∧ a.eval (.tmp 47) = Zi x3561 ∧ Evo [] (fun _ => 0) ox w wx ∧ BlkO ox 3090 wx g3089 70 #[pt gx1 0] ∧ BlkO ox 3092 wx g3091 80 #[Zi b2.1.1, Zi b2.1.2, Zi b2.2.1, Zi b2.2.2] ∧ BlkO ox 3556 wx g3101 22 #[sl A3557 out3559 c3558] ∧ RwO ox 3560 [] wx 3 R3 A3557 c3558 out3559 ∧ MkO ox 11 wx []) ?_ ?_
 ·exact ⟨(rl [(3102, 3556)] o3452), none, 0, d3452, z3452, e3452_2, e3452_3, e3452_5, e3452_45, e3452_46, e3452_47, (Evo.rl_ hX3452 (fun _ => Nat.le_refl 0) rfl), (BlkO.rl_ b3452_g3089), (BlkO.rl_ b3452_g3091), (BlkO.rl_ b3452_g3101), RwO.nil_, (MkO.rl_ b3452_mk)⟩
 ·rintro ⟨out3559, x3561⟩ zz3664 a3664 w3664 ⟨o3664, A3557, c3558, d3665, z3665, e3665_2, e3665_3, e3665_5, e3665_45, e3665_46, e3665_47, hE3665, b3665_g3089, b3665_g3091, b3665_g3101, b3665_A3557, b3665_mk⟩ hs Q3664 hn3664 hp3664 z3664
  have hs : rows_Index_Find_b3 x1 b2 out3559 x3561 = some zz3664 := hs
  refine rq_seq 104 o3664 (bz 1) [dv [] [47, 46] 48 (.bool (decide (x3561 < (x1.2.2.length : Int))))] z3665 d3665 ?_ ?_
  ·exact sS (fun s => or_lss (s.1.trans e3665_47) (s.2.1.trans e3665_46) rfl) <| steps_nil
  intro o3666 a3666 w3666 d3666 z3666 hk3666 hf3666 hE3666
  obtain ⟨e3666_2, e3666_3, e3666_5, e3666_45, e3666_46, e3666_47⟩ := kt6 hk3666 e3665_2 e3665_3 e3665_5 e3665_45 e3665_46 e3665_47
  have e3666_48 := gv (hf3666 [0] rfl) rfl
  have hX3666 := es_ hE3665 hE3666
  obtain ⟨b3666_g3089, b3666_g3091, b3666_g3101⟩ := be3 hE3666 b3665_g3089 b3665_g3091 b3665_g3101
  have b3666_A3557 := re_ hE3666 b3665_A3557
  have b3666_mk := MkO.evo (by decide) hE3666 b3665_mk
  refine fl_seq (fun Q3667 hn3667 hp3667 => ?_)
  refine fl_cond e3666_48 hs (fun c3668 hs => ?_) (fun c3668 hs => ?_)
  ·refine fl_skip ?_
   refine hn3667 _ _ ?_
   refine fl_seq (fun Q3669 hn3669 hp3669 => ?_)
   refine fl_block (fun Q3718 hn3718 hx3718 hp3718 => ?_)
   have K3744 : ∀ (a3744 : Act) (w3744 : World) (o3744 : Own) (out3742 : List Int) (A3740 : Option Addr) (c3741 : Nat), a3744.defers = mkD [] → a3744.tmps.size = 104 → a3744.eval (.tmp 2) = pt g3089 0 → a3744.eval (.tmp 3) = pt g3091 0 → a3744.eval (.tmp 5) = pt g3101 0 → a3744.eval (.tmp 45) = sl Ax1_2 x1.2.2 cx1_2 → a3744.eval (.tmp 46) = Zi (x1.2.2.length : Int) → a3744.eval (.tmp 47) = Zi x3561 → Evo [] (fun _ => 0) o3744 w w3744 → BlkO o3744 3090 w3744 g3089 70 #[pt gx1 0] → BlkO o3744 3092 w3744 g3091 80 #[Zi b2.1.1, Zi b2.1.2, Zi b2.2.1, Zi b2.2.2] → BlkO o3744 3739 w3744 g3101 22 #[sl A3740 out3742 c3741] → RwO o3744 3743 [] w3744 3 R3 A3740 c3741 out3742 → MkO o3744 11 w3744 [] → rows_Index_Find_k4 x3561 out3742 = some zz3664 → (Q3718 .normal a3744 w3744 ∧ Q3718 (.exit 3) a3744 w3744) := by
    intro a3744 w3744 o3744 out3742 A3740 c3741 d3745 z3745 e3745_2 e3745_3 e3745_5 e3745_45 e3745_46 e3745_47 hE3745 b3745_g3089 b3745_g3091 b3745_g3101 b3745_A3740 b3745_mk hs
    refine and_both (hn3718 _ _) (hx3718 _ _) ?_
    refine hn3669 _ _ ?_
    refine rq 104 o3744 (bz 2) [dv [] [47] 64 (Zi (ad x3561 1)), dv [0] [] 47 (Zi (ad x3561 1))] z3745 d3745 ?_ ?_
    ·exact sS (fun s => or_add (s.1.trans e3745_47) rfl rfl) <| sV <| steps_nil
    intro o3746 a3746 w3746 d3746 z3746 hk3746 hf3746 hE3746
    obtain ⟨e3746_2, e3746_3, e3746_5, e3746_45, e3746_46⟩ := kt5 hk3746 e3745_2 e3745_3 e3745_5 e3745_45 e3745_46
    have e3746_47 := gv (hf3746 [1] rfl) rfl
    have hX3746 := es_ hE3745 hE3746
    obtain ⟨b3746_g3089, b3746_g3091, b3746_g3101⟩ := be3 hE3746 b3745_g3089 b3745_g3091 b3745_g3101
    have b3746_A3740 := re_ hE3746 b3745_A3740
    have b3746_mk := MkO.evo (by decide) hE3746 b3745_mk
    exact hn3664 _ _ _ hs ⟨(rl [(3739, 3556), (3743, 3560)] o3746), A3740, c3741, d3746, z3746, e3746_2, e3746_3, e3746_5, e3746_45, e3746_46, e3746_47, (Evo.rl_ hX3746 (fun _ => Nat.le_refl 0) rfl), (BlkO.rl_ b3746_g3089), (BlkO.rl_ b3746_g3091), (BlkO.rl_ b3746_g3101), (RwO.rl_ b3746_A3740), (MkO.rl_ b3746_mk)⟩
   obtain ⟨x3747, hx3747, hs⟩ := obind hs
   refine rq_seq 104 o3666 (bz 3) [dv [] [45, 47] 49 (.pointer (some ((adr Ax1_2).add ((x3561 : Int).toNat * R3.s)))), dv [0] [] 50 (Zi x3747), dv [1] [] 9 (Zi x3747)] z3666 d3666 ?_ ?_
   ·exact sS (fun s => or_index (R := R3) (l := x1.2.2) tl22 (s.1.trans e3666_45) (s.2.1.trans e3666_47) (RdO.some_ (RdO.evo rfl hX3666 hAx1_2) hx3747) hx3747) <| sFE (fun f hE => or_load1 to3 f.1 (CellsAt.zero (RdO.cells (F := E3) (RdO.evo rfl hE (RdO.evo rfl hX3666 hAx1_2)) hx3747) rfl)) <| sA <| steps_nil
   intro o3748 a3748 w3748 d3748 z3748 hk3748 hf3748 hE3748
   obtain ⟨e3748_2, e3748_3, e3748_5, e3748_45, e3748_46, e3748_47⟩ := kt6 hk3748 e3666_2 e3666_3 e3666_5 e3666_45 e3666_46 e3666_47
   have e3748_9 := gv (hf3748 [2] rfl) rfl
   have hX3748 := es_ hX3666 hE3748
   obtain ⟨b3748_g3089, b3748_g3091, b3748_g3101⟩ := be3 hE3748 b3666_g3089 b3666_g3091 b3666_g3101
   have b3748_A3557 := re_ hE3748 b3666_A3557
   have b3748_mk := MkO.evo (by decide) hE3748 b3666_mk
   obtain ⟨x3749, hx3749, hs⟩ := obind hs
   obtain ⟨r3750, hr3750, hs⟩ := obind hs
   refine rd_seq g_mixed 104 [] o3748 [] [0, 0, 2, 6, 14, 0, 62, 126, 255] [dv [] [3] 51 (.agg #[Zi b2.1.1, Zi b2.1.2, Zi b2.2.1, Zi b2.2.2]), dv [] [2] 52 (pt gx1 0), dv [1] [] 53 (pt gx1 0), dv [2] [] 54 (pt gx1 0), dv [3] [] 55 (sl Ax1_0 x1.1 cx1_0), dv [] [9] 56 (Zi x3747), dv [4, 5] [] 57 (.pointer (some ((adr Ax1_0).add ((x3747 : Int).toNat * R80.s)))), dv [6] [] 58 (.agg #[Zi x3749.1.1, Zi x3749.1.2, Zi x3749.2.1, Zi x3749.2.2]), dv [0, 7] [] 59 (.bool r3750)] z3748 d3748 nm_ ?_ ?_
   ·exact sL ta80 e3748_3 b3748_g3091 <| sL1 to70 e3748_2 b3748_g3089 <| sF (fun f => ok1 f.1) <| sF (fun f => or_field fo106_0 f.1 (by rfl)) <| sG to103 (be_ hX3748 hgx1) <| sM e3748_9 <| sF (fun f => or_index (R := R80) (l := x1.1) tl103 f.1 f.2.1 (RdO.some_ (RdO.evo rfl hX3748 hAx1_0) hx3749) hx3749) <| sFE (fun f hE => or_load (l := E80.f x3749) ta80 f.1 (RdO.cells (F := E80) (RdO.evo rfl hE (RdO.evo rfl hX3748 hAx1_0)) hx3749) rfl) <| sF (fun f => or_call cf55 (args2 f.1 f.2.1) (rows_Meet_w _ b2 x3749  r3750 hr3750) post_val) <| steps_nil
   intro o3751 a3751 w3751 d3751 z3751 hk3751 hf3751 hE3751
   obtain ⟨e3751_2, e3751_3, e3751_5, e3751_9, e3751_45, e3751_46, e3751_47⟩ := kt7 hk3751 e3748_2 e3748_3 e3748_5 e3748_9 e3748_45 e3748_46 e3748_47
   have e3751_59 := gv (hf3751 [8] rfl) rfl
   have hX3751 := es_ hX3748 hE3751
   obtain ⟨b3751_g3089, b3751_g3091, b3751_g3101⟩ := be3 hE3751 b3748_g3089 b3748_g3091 b3748_g3101
   have b3751_A3557 := re_ hE3751 b3748_A3557
   have b3751_mk := MkO.evo (by decide) hE3751 b3748_mk
   refine fl_cond e3751_59 hs (fun c3752 hs => ?_) (fun c3752 hs => ?_)
   ·obtain ⟨x3762, hx3762, hs⟩ := obind hs
    refine rr 104 [Fct.rowAt 3560 [] 3 R3 A3557 c3558 out3559, Fct.at_ 3556 g3101 22 #[sl A3557 out3559 c3558]] o3751 [3560, 3556] [0, 0, 2, 7, 15] [dv [6] [5] 60 (sl A3557 out3559 c3558), dv [] [9] 61 (Zi x3747), ⟨[1], [], [], Fct.row 3761 [] 62 3 R3 [x3747]⟩, ⟨[0, 2, 5], [], [3560], Fct.row 3763 [] 63 3 R3 x3762⟩, ⟨[3, 6], [5], [3556], Fct.by_ [3765] [63] (fun l own w => ∀ (A3764 : Option Addr) (cA3764 : Nat), l.getD 0 undef = sl A3764 x3762 cA3764 → BlkO own 3765 w g3101 22 #[sl A3764 x3762 cA3764]) (fun hk he h _ _ h0' => BlkO.evo (not_hit hk (by decide)) he (h _ _ h0'))⟩] z3751 d3751 (fm2 b3751_A3557 b3751_g3101) ?_ ?_
    ·refine sc (fun own a wx hf hsl hE => ?_) ?_
     ·obtain ⟨(b_g3101 : BlkO own 3556 wx g3101 22 #[sl A3557 out3559 c3558]), -⟩ := hf
      obtain ⟨s_5, -⟩ := hsl
      exact px (ld1 to22 (s_5.trans e3751_5) b_g3101)
     refine sM e3751_9 <| sF (fun f => or_lit (lab := 3761) (e := 3) (cs := #[Zi x3747]) (F := E3) (nw1 f.1) rfl rfl (show 1 ≤ maxLen by decide)) ?_
     refine sc (fun own a wx hf hsl hE => ?_) ?_
     ·obtain ⟨f_60, ⟨⟨A3760, cA3760⟩, f_62, b_A3760⟩, b_A3557, -⟩ := hf
      exact px (or_append (R := R3) (lab := 3560) (lab2 := 3763) (L := []) (L3 := []) tp22 f_60 b_A3557 (by decide) f_62 (RwO.rd b_A3760) hx3762 (by decide) (by decide) (mem_of rfl) (.inl (Rep.fl_flat _)))
     refine sc (fun own a wx hf hsl hE => ?_) ?_
     ·obtain ⟨⟨⟨A3764, cA3764⟩, (f_63 : a.eval (.tmp 63) = sl A3764 x3762 cA3764), b_A3764⟩, b_g3101, -⟩ := hf
      obtain ⟨s_5, -⟩ := hsl
      exact px (or_store1 (lab := 3556) (lab2 := 3765) ts22 (s_5.trans e3751_5) f_63 b_g3101 (by simp) rfl (mem_of rfl) (by decide) rfl (fun own' a' w' ha hb => fun _ _ h0' => by cases (f_63.symm.trans ((ha 63).symm.trans h0')); exact hb))
     exact steps_nil
    intro o3766 a3766 w3766 d3766 z3766 hk3766 hf3766 hE3766
    obtain ⟨e3766_2, e3766_3, e3766_5, e3766_45, e3766_46, e3766_47⟩ := kt6 hk3766 e3751_2 e3751_3 e3751_5 e3751_45 e3751_46 e3751_47
    obtain ⟨⟨⟨A3764, cA3764⟩, (f_63 : a3766.eval (.tmp 63) = sl A3764 x3762 cA3764), (b3766_A3764 : RwO o3766 3763 [] w3766 3 R3 A3764 cA3764 x3762)⟩, (bq_g3101 : ∀ (A3764 : Option Addr) (cA3764 : Nat), a3766.eval (.tmp 63) = sl A3764 x3762 cA3764 → BlkO o3766 3765 w3766 g3101 22 #[sl A3764 x3762 cA3764]), -⟩ := hf3766 [3, 4] rfl
    have b3766_g3101 := bq_g3101 _ _ f_63
    have hX3766 := es_ hX3751 hE3766
    obtain ⟨b3766_g3089, b3766_g3091⟩ := be2 hE3766 b3751_g3089 b3751_g3091
    have b3766_mk := MkO.evo (by decide) hE3766 b3751_mk
    exact (K3744 _ _ (rl [(3763, 3743), (3765, 3739)] o3766) _ A3764 cA3764 d3766 z3766 e3766_2 e3766_3 e3766_5 e3766_45 e3766_46 e3766_47 (Evo.rl_ hX3766 (fun _ => Nat.le_refl 0) rfl) (BlkO.rl_ b3766_g3089) (BlkO.rl_ b3766_g3091) (BlkO.rl_ b3766_g3101) (RwO.rl_ b3766_A3764) (MkO.rl_ b3766_mk) hs).1
   refine fl_skip ?_
   exact (K3744 _ _ (rl [(3556, 3739), (3560, 3743)] o3751) _ A3557 c3558 d3751 z3751 e3751_2 e3751_3 e3751_5 e3751_45 e3751_46 e3751_47 (Evo.rl_ hX3751 (fun _ => Nat.le_refl 0) rfl) (BlkO.rl_ b3751_g3089) (BlkO.rl_ b3751_g3091) (BlkO.rl_ b3751_g3101) (RwO.rl_ b3751_A3557) (MkO.rl_ b3751_mk) hs).1
  refine fl_exit ?_
  refine hp3667 _ _ _ rfl ?_
  replace hs := z3664 _ hs
  refine hp3664 _ _ _ rfl ?_
  refine hx3453 _ _ ?_
  refine hn3451 _ _ ?_
  refine rp_seq 104 o3666 [3770] [0, 0, 3] [⟨[], [], [], Fct.map_ 3768 65 vv3 vv4 ([] : List (Int × Bool))⟩, ⟨[], [], [], Fct.blk 3770 10 (fun g => pt g 0) 118 #[.map none]⟩, ⟨[1, 0], [], [3770], Fct.by_ [3771] [10, 65] (fun l own w => ∃ g3769 : Nat, l.getD 0 undef = pt g3769 0 ∧ (∀ (g3767 : Nat), l.getD 1 undef = .map (some g3767) → BlkO own 3771 w g3769 118 #[.map (some g3767)])) (fun hk he h => by obtain ⟨g, e, h⟩ := h; exact ⟨g, e, fun _ h0' => BlkO.evo (not_hit hk (by decide)) he (h _ h0')⟩)⟩] z3666 d3666 ?_ ?_
  ·refine sO (or_makeMap) <| sO (nw0) ?_
   refine sc (fun own a wx hf hsl hE => ?_) ?_
   ·obtain ⟨⟨g3769, f_10, b_g3769⟩, ⟨g3767, (f_65 : a.eval (.tmp 65) = .map (some g3767)), b_g3767⟩, -⟩ := hf
    exact px (or_store1 (lab := 3770) (lab2 := 3771) ts118 f_10 f_65 b_g3769 (by simp) rfl (mem_of rfl) (by decide) rfl (fun own' a' w' ha hb => ⟨_, (ha 10).trans f_10, fun _ h0' => by cases (f_65.symm.trans ((ha 65).symm.trans h0')); exact hb⟩))
   exact steps_nil
  intro o3772 a3772 w3772 d3772 z3772 hk3772 hf3772 hE3772
  obtain ⟨e3772_2, e3772_3, e3772_5⟩ := kt3 hk3772 e3666_2 e3666_3 e3666_5
  obtain ⟨⟨g3767, (f_65 : a3772.eval (.tmp 65) = .map (some g3767)), (b3772_g3767 : MpO o3772 3768 w3772 g3767 vv3 vv4 ([] : List (Int × Bool)))⟩, ⟨g3769, (e3772_10 : a3772.eval (.tmp 10) = pt g3769 0), (bq_g3769 : ∀ (g3767 : Nat), a3772.eval (.tmp 65) = .map (some g3767) → BlkO o3772 3771 w3772 g3769 118 #[.map (some g3767)])⟩, -⟩ := hf3772 [0, 2] rfl
  have b3772_g3769 := bq_g3769 _ f_65
  have hX3772 := es_ hX3666 hE3772
  obtain ⟨b3772_g3089, b3772_g3091, b3772_g3101⟩ := be3 hE3772 b3666_g3089 b3666_g3091 b3666_g3101
  have b3772_A3557 := re_ hE3772 b3666_A3557
  have b3772_mk := MkO.evo (by decide) hE3772 b3666_mk
  refine fl_seq (fun Q3773 hn3773 hp3773 => ?_)
  refine rq_seq 104 o3772 (bz 2) [dv [] [3] 66 (.agg #[Zi b2.1.1, Zi b2.1.2, Zi b2.2.1, Zi b2.2.2]), ⟨[0], [], [], Fct.mems [3775] 67 (fun (x : Option Addr × Nat) => .func (.func 64) #[] #[.pointer (some ⟨x.2, 0, none⟩)]) (fun (x : Option Addr × Nat) own w => BlkO own 3775 w x.2 80 #[Zi b2.1.1, Zi b2.1.2, Zi b2.2.1, Zi b2.2.2]) (fun hk he h => BlkO.evo (not_hit hk (by decide)) he h)⟩] z3772 d3772 ?_ ?_
  ·exact sL ta80 e3772_3 b3772_g3091 <| sF (fun f => or_call cf50 (args1 f.1) (rows_fields_w _ b2  () rfl) (post_mems (m := (fun _ => 0)) (m' := (look0 [(1, 3775)])) (fun _ _ => .inl rfl) (fun own' w' a' x h1 h => ⟨x, h1, BlkO.back_ h (by decide)⟩))) <| steps_nil
  intro o3776 a3776 w3776 d3776 z3776 hk3776 hf3776 hE3776
  obtain ⟨e3776_2, e3776_3, e3776_5, e3776_10⟩ := kt4 hk3776 e3772_2 e3772_3 e3772_5 e3772_10
  obtain ⟨⟨⟨A3774, cA3774⟩, (e3776_67 : a3776.eval (.tmp 67) = .func (.func 64) #[] #[pt cA3774 0]), (b3776_cA3774 : BlkO o3776 3775 w3776 cA3774 80 #[Zi b2.1.1, Zi b2.1.2, Zi b2.2.1, Zi b2.2.2])⟩, -⟩ := hf3776 [1] rfl
  have hX3776 := es_ hX3772 hE3776
  obtain ⟨b3776_g3089, b3776_g3091, b3776_g3101⟩ := be3 hE3776 b3772_g3089 b3772_g3091 b3772_g3101
  have b3776_A3557 := re_ hE3776 b3772_A3557
  have b3776_mk := MkO.evo (by decide) hE3776 b3772_mk
  have b3776_g3769 := be_ hE3776 b3772_g3769
  have b3776_g3767 := MpO.evo (by decide) hE3776 b3772_g3767
  refine fl_block (fun Q3777 hn3777 hx3777 hp3777 => ?_)
  have b3778_gx1 := be_ hX3776 hgx1
  have b3778_Ax1_2 := RdO.evo rfl hX3776 hAx1_2
  have b3778_Ax1_0 := RdO.evo rfl hX3776 hAx1_0
  have b3778_mx1_1 := MpN.evo rfl hX3776 hmx1_1
  obtain ⟨zz5369, hzz5369, hs⟩ := rngO_some hs
  refine fl_range (S := (List Int) × (List (Int × Bool))) (D := Empty) (X := (Int × Int)) (encs := (fun (x : (Int × Int)) => #[P2 x])) (n := 104) [3556, 3560, 3768, 5376, 5904, 5908, 5909, 6130, 6134, 6135, 6149, 6161, 6163] 5370 11 rfl
    (fun (sr : (List Int) × (List (Int × Bool))) (ox : Own) (wx : World) => match sr with | (out4574, met4576) => ∃ (A4572 : Option Addr) (c4573 : Nat), Evo [] (fun _ => 0) ox w wx ∧ BlkO ox 3090 wx g3089 70 #[pt gx1 0] ∧ BlkO ox 0 wx gx1 tx1 #[sl Ax1_0 x1.1 cx1_0, .map (some mx1_1), sl Ax1_2 x1.2.2 cx1_2] ∧ RdO ox [0] wx R80 Ax1_0 cx1_0 x1.1 ∧ MpN ox 0 0 [0] wx mx1_1 vv111 3 R3 x1.2.1 ∧ RdO ox [0] wx R3 Ax1_2 cx1_2 x1.2.2 ∧ BlkO ox 3092 wx g3091 80 #[Zi b2.1.1, Zi b2.1.2, Zi b2.2.1, Zi b2.2.2] ∧ BlkO ox 3556 wx g3101 22 #[sl A4572 out4574 c4573] ∧ RwO ox 3560 [] wx 3 R3 A4572 c4573 out4574 ∧ BlkO ox 3771 wx g3769 118 #[.map (some g3767)] ∧ MpO ox 3768 wx g3767 vv3 vv4 met4576 ∧ BlkO ox 3775 wx cA3774 80 #[Zi b2.1.1, Zi b2.1.2, Zi b2.2.1, Zi b2.2.2])
    (fun (e : Empty) (_ : Own) (_ : World) => nomatch e)
    (fun (e : Empty) => nomatch e) (fun (sr : (List Int) × (List (Int × Bool))) (xr : (Int × Int)) => rows_Index_Find_b7 x1 b2 sr.1 sr.2 xr) z3776 rfl e3776_67 cf64 (cargs := fun l => #[.func (.yield l) #[] #[], pt cA3774 0]) (fun _ => by simp) (fun _ => rfl) d3776 b3776_mk ?_ ?_ (out3559, ([] : List (Int × Bool))) zz5369 ⟨A3557, c3558, hX3776, b3776_g3089, b3778_gx1, b3778_Ax1_0, b3778_mx1_1, b3778_Ax1_2, b3776_g3091, b3776_g3101, b3776_A3557, b3776_g3769, b3776_g3767, b3776_cA3774⟩ ?_ ?_ ?_ ?_
  ·rintro ⟨out4574, met4576⟩ ox ox1 wx wx1 hEs ⟨A4572, c4573, h5369_0, h5369_1, h5369_2, h5369_3, h5369_4, h5369_5, h5369_6, h5369_7, h5369_8, h5369_9, h5369_10, h5369_11⟩
   exact ⟨A4572, c4573, (es_ h5369_0 hEs), (be_ hEs h5369_1), (be_ hEs h5369_2), (RdO.evo rfl hEs h5369_3), (MpN.evo rfl hEs h5369_4), (RdO.evo rfl hEs h5369_5), (be_ hEs h5369_6), (be_ hEs h5369_7), (re_ hEs h5369_8), (be_ hEs h5369_9), (MpO.evo (by decide) hEs h5369_10), (be_ hEs h5369_11)⟩
  ·intro e; exact nomatch e
  ·intro l5369 o1 w1 J5369 hE1 hJ1 hR1
   exact (rows_fields_1_w w1 (forth o1 (look0 (kj 5370 [3556, 3560, 3768, 5376, 5904, 5908, 5909, 6130, 6134, 6135, 6149, 6161, 6163]))) (((List Int) × (List (Int × Bool))) ⊕ Empty) (yb (fun (sr : (List Int) × (List (Int × Bool))) (xr : (Int × Int)) => rows_Index_Find_b7 x1 b2 sr.1 sr.2 xr)) J5369 l5369 (Sum.inl (out3559, ([] : List (Int × Bool)))) b2 cA3774 80 (look0_le rfl) hR1 hJ1 (BlkO.forth_ (be_ hE1 b3776_cA3774)) zz5369 hzz5369).mono fun e wz ⟨oz, he, _, hJz⟩ => ⟨_, oz, he, hJz⟩
  ·rintro l5373 ⟨out4574, met4576⟩ x5372 zz2 o5373 a5373 w5373 Ds5373 ⟨A4572, c4573, hE5374, b5374_g3089, b5374_gx1, b5374_Ax1_0, b5374_mx1_1, b5374_Ax1_2, b5374_g3091, b5374_g3101, b5374_A4572, b5374_g3769, b5374_g3767, b5374_cA3774⟩ - hrc5373 hs ⟨d5373, z5373, hkp5373, hpar5373⟩ Q5373 hn5373
   have hs : rows_Index_Find_b7 x1 b2 out4574 met4576 x5372 = some zz2 := hs
   replace z5373 := z5373.trans z3776
   have e5373_2 : a5373.eval (.tmp 2) = pt g3089 0 := (hkp5373 2 rfl).trans e3776_2
   have e5373_3 : a5373.eval (.tmp 3) = pt g3091 0 := (hkp5373 3 rfl).trans e3776_3
   have e5373_5 : a5373.eval (.tmp 5) = pt g3101 0 := (hkp5373 5 rfl).trans e3776_5
   have e5373_10 : a5373.eval (.tmp 10) = pt g3769 0 := (hkp5373 10 rfl).trans e3776_10
   have e5373_67 : a5373.eval (.tmp 67) = .func (.func 64) #[] #[pt cA3774 0] := (hkp5373 67 rfl).trans e3776_67
   have e5373_68 : a5373.eval (.tmp 68) = P2 x5372 := hpar5373 0 68 _ rfl rfl
   have hE5373 := Evo.refl [3556, 3560, 3768, 5376, 5904, 5908, 5909, 6130, 6134, 6135, 6149, 6161, 6163] o5373 w5373
   have hrc0_5373 := hrc5373
   refine rp 104 o5373 [5376] (bz 2) [⟨[], [], [], Fct.blk 5376 11 (fun g => pt g 0) 111 #[Zi 0, Zi 0]⟩, ⟨[0], [68], [5376], Fct.blk 5377 11 (fun g => pt g 0) 111 #[Zi x5372.1, Zi x5372.2]⟩] z5373 d5373 ?_ ?_
   ·refine sO (nw0) ?_
    refine sc (fun own a wx hf hsl hE => ?_) ?_
    ·obtain ⟨⟨g5375, f_11, b_g5375⟩, -⟩ := hf
     obtain ⟨s_68, -⟩ := hsl
     exact px (or_store (l := #[Zi x5372.1, Zi x5372.2]) (lab := 5376) (lab2 := 5377) ts111 f_11 (s_68.trans e5373_68) b_g5375 (by simp) (by kernel_rfl) (mem_of rfl) (by decide) (by kernel_rfl) (fun own' a' w' ha hb => ⟨_, (ha 11).trans f_11, hb⟩))
    exact steps_nil
   intro o5378 a5378 w5378 d5378 z5378 hk5378 hf5378 hE5378
   obtain ⟨e5378_2, e5378_3, e5378_5, e5378_10, e5378_67⟩ := kt5 hk5378 e5373_2 e5373_3 e5373_5 e5373_10 e5373_67
   obtain ⟨⟨g5375, (e5378_11 : a5378.eval (.tmp 11) = pt g5375 0), (b5378_g5375 : BlkO o5378 5377 w5378 g5375 111 #[Zi x5372.1, Zi x5372.2])⟩, -⟩ := hf5378 [1] rfl
   have hX5378 := Evo.stepK hE5373 hE5378 rfl
   obtain ⟨b5378_g3089, b5378_gx1, b5378_g3091, b5378_g3101, b5378_g3769, b5378_cA3774⟩ := be6 hE5378 b5374_g3089 b5374_gx1 b5374_g3091 b5374_g3101 b5374_g3769 b5374_cA3774
   have b5378_Ax1_0 := RdO.evo rfl hE5378 b5374_Ax1_0
   have b5378_mx1_1 := MpN.evo rfl hE5378 b5374_mx1_1
   have b5378_Ax1_2 := RdO.evo rfl hE5378 b5374_Ax1_2
   have b5378_A4572 := re_ hE5378 b5374_A4572
   have b5378_g3767 := MpO.evo (by decide) hE5378 b5374_g3767
   refine hn5373 _ _ _ hX5378 (fun w5379 o5379 hE5379 hrc5379 => ?_)
   obtain ⟨b5379_g3089, b5379_gx1, b5379_g3091, b5379_g3101, b5379_g3769, b5379_cA3774, b5379_g5375⟩ := be7 hE5379 b5378_g3089 b5378_gx1 b5378_g3091 b5378_g3101 b5378_g3769 b5378_cA3774 b5378_g5375
   have b5379_Ax1_0 := RdO.evo rfl hE5379 b5378_Ax1_0
   have b5379_mx1_1 := MpN.evo rfl hE5379 b5378_mx1_1
   have b5379_Ax1_2 := RdO.evo rfl hE5379 b5378_Ax1_2
   have b5379_A4572 := re_ hE5379 b5378_A4572
   have b5379_g3767 := MpO.evo (by decide) hE5379 b5378_g3767
   have hU5379 := es_ (es_ hE5374 hX5378) hE5379
   have hX5379 := Evo.refl [3556, 3560, 3768, 5376, 5904, 5908, 5909, 6130, 6134, 6135, 6149, 6161, 6163] o5379 w5379
   have hmk5379 : MkO o5379 11 w5379 [] := MkO.nil_
   refine fl_block (fun Q5380 hn5380 hx5380 hp5380 => ?_)
   refine fl_fwd (l := 0) rfl ?_
   intro Q5773 hj5773 hp5773
   refine fl_seq (fun Q5774 hn5774 hp5774 => ?_)
   refine fl_label ?_
   refine hn5774 _ _ ?_
   refine rd_seq g_mixed 104 [] o5379 [] [0, 1, 3, 7, 0, 31, 63, 0] [dv [] [2] 69 (pt gx1 0), dv [0] [] 70 (pt gx1 0), dv [1] [] 71 (pt gx1 1), dv [2] [] 72 (.map (some mx1_1)), dv [] [11] 73 (P2 x5372), ⟨[3, 4], [], [], Fct.view [0, 0] 74 R3 ((lkM x1.2.1 x5372).getD [])⟩, dv [5] [] 75 (Zi (((lkM x1.2.1 x5372).getD []).length : Int)), dv [] [] 76 (Zi 0)] z5378 d5378 nm_ ?_ ?_
   ·refine sL1 to70 e5378_2 b5379_g3089 <| sF (fun f => ok1 f.1) <| sF (fun f => or_field fo106_1 f.1 (by rfl)) <| sG to104 b5379_gx1 <| sL ta111 e5378_11 b5379_g5375 <| sFE (fun f hE => or_mview (k := x5372) ko111 tm104 tzv104 f.1 f.2.1 (MpN.evo rfl hE b5379_mx1_1) rfl) ?_
    refine sc (fun own a wx hf hsl hE => ?_) ?_
    ·obtain ⟨⟨⟨A5775, cA5775⟩, f_74, b_A5775⟩, -⟩ := hf
     exact px (or_len tu22 f_74 rfl)
    exact sO (or_move rfl) <| steps_nil
   intro o5776 a5776 w5776 d5776 z5776 hk5776 hf5776 hE5776
   obtain ⟨e5776_2, e5776_3, e5776_5, e5776_10, e5776_67⟩ := kt5 hk5776 e5378_2 e5378_3 e5378_5 e5378_10 e5378_67
   have e5776_75 := gv (hf5776 [6] rfl) rfl
   have e5776_76 := gv (hf5776 [7] rfl) rfl
   obtain ⟨⟨⟨A5775, cA5775⟩, (e5776_74 : a5776.eval (.tmp 74) = .slice A5775 ((lkM x1.2.1 x5372).getD []).length cA5775), (b5776_A5775 : RdO o5776 [0, 0] w5776 R3 A5775 cA5775 ((lkM x1.2.1 x5372).getD []))⟩, -⟩ := hf5776 [5] rfl
   have hX5776 := Evo.stepK hX5379 hE5776 rfl
   obtain ⟨b5776_g3089, b5776_gx1, b5776_g3091, b5776_g3101, b5776_g3769, b5776_cA3774⟩ := be6 hE5776 b5379_g3089 b5379_gx1 b5379_g3091 b5379_g3101 b5379_g3769 b5379_cA3774
   have b5776_Ax1_0 := RdO.evo rfl hE5776 b5379_Ax1_0
   have b5776_mx1_1 := MpN.evo rfl hE5776 b5379_mx1_1
   have b5776_Ax1_2 := RdO.evo rfl hE5776 b5379_Ax1_2
   have b5776_A4572 := re_ hE5776 b5379_A4572
   have b5776_g3767 := MpO.evo (by decide) hE5776 b5379_g3767
   have b5776_rc := RcO.evo (by decide) hE5776 hrc5379
   have b5776_mk := MkO.evo (by decide) hE5776 hmk5379
   refine fl_block (fun Q5777 hn5777 hx5777 hp5777 => ?_)
   refine fl_loop (body := (fun s => rows_Index_Find_b5 x1 b2 x5372 s.1 s.2.1 s.2.2)) (z := zz2) (show loopO _ _ = _ from hs) (fun (s : (List Int) × (List (Int × Bool)) × Int) a wx => match s with | (out5907, met5910, x5911) => ∃ (ox : Own) (A5905 : Option Addr) (c5906 : Nat), a.defers = mkD [] ∧ a.tmps.size = 104 ∧ a.eval (.tmp 2) = pt g3089 0 ∧ a.eval (.tmp 3) = pt g3091 0 ∧ a.eval (.tmp 5) = pt g3101 0 ∧ a.eval (.tmp 10) = pt g3769 0 ∧ a.eval (.tmp 67) = .func (.func 64) #[] #[pt cA3774 0] ∧ a.eval (.tmp 74) = .slice A5775 ((lkM x1.2.1 x5372).getD []).length cA5775 ∧ a.eval (.tmp 75) = Zi (((lkM x1.2.1 x5372).getD []).length : Int) ∧ a.eval (.tmp 76) = Zi x5911 ∧ Evo [3556, 3560, 3768, 5376, 5904, 5908, 5909, 6130, 6134, 6135, 6149, 6161, 6163] o5379 ox w5379 wx ∧ BlkO ox 3090 wx g3089 70 #[pt gx1 0] ∧ BlkO ox 0 wx gx1 tx1 #[sl Ax1_0 x1.1 cx1_0, .map (some mx1_1), sl Ax1_2 x1.2.2 cx1_2] ∧ RdO ox [0] wx R80 Ax1_0 cx1_0 x1.1 ∧ MpN ox 0 0 [0] wx mx1_1 vv111 3 R3 x1.2.1 ∧ RdO ox [0] wx R3 Ax1_2 cx1_2 x1.2.2 ∧ BlkO ox 3092 wx g3091 80 #[Zi b2.1.1, Zi b2.1.2, Zi b2.2.1, Zi b2.2.2] ∧ BlkO ox 5904 wx g3101 22 #[sl A5905 out5907 c5906] ∧ RwO ox 5908 [] wx 3 R3 A5905 c5906 out5907 ∧ BlkO ox 3771 wx g3769 118 #[.map (some g3767)] ∧ MpO ox 5909 wx g3767 vv3 vv4 met5910 ∧ BlkO ox 3775 wx cA3774 80 #[Zi b2.1.1, Zi b2.1.2, Zi b2.2.1, Zi b2.2.2] ∧ RdO ox [0, 0] wx R3 A5775 cA5775 ((lkM x1.2.1 x5372).getD []) ∧ MkO ox 11 wx [] ∧ RcO ox 5370 wx l5373) ?_ ?_
   ·exact ⟨(rl [(3556, 5904), (3560, 5908), (3768, 5909)] o5776), A4572, c4573, d5776, z5776, e5776_2, e5776_3, e5776_5, e5776_10, e5776_67, e5776_74, e5776_75, e5776_76, (Evo.rlK hX5776 rfl), (BlkO.rl_ b5776_g3089), (BlkO.rl_ b5776_gx1), (RdO.rl_ b5776_Ax1_0), (MpN.rl_ b5776_mx1_1), (RdO.rl_ b5776_Ax1_2), (BlkO.rl_ b5776_g3091), (BlkO.rl_ b5776_g3101), (RwO.rl_ b5776_A4572), (BlkO.rl_ b5776_g3769), (MpO.rl_ b5776_g3767), (BlkO.rl_ b5776_cA3774), (RdO.rl_ b5776_A5775), (MkO.rl_ b5776_mk), (RcO.rl_ b5776_rc)⟩
   ·rintro ⟨out5907, met5910, x5911⟩ zz6038 a6038 w6038 ⟨o6038, A5905, c5906, d6039, z6039, e6039_2, e6039_3, e6039_5, e6039_10, e6039_67, e6039_74, e6039_75, e6039_76, hE6039, b6039_g3089, b6039_gx1, b6039_Ax1_0, b6039_mx1_1, b6039_Ax1_2, b6039_g3091, b6039_g3101, b6039_A5905, b6039_g3769, b6039_g3767, b6039_cA3774, b6039_A5775, b6039_mk, b6039_rc⟩ hs Q6038 hn6038 hp6038 z6038
    have hs : rows_Index_Find_b5 x1 b2 x5372 out5907 met5910 x5911 = some zz6038 := hs
    refine rq_seq 104 o6038 (bz 1) [dv [] [76, 75] 77 (.bool (decide (x5911 < (((lkM x1.2.1 x5372).getD []).length : Int))))] z6039 d6039 ?_ ?_
    ·exact sS (fun s => or_lss (s.1.trans e6039_76) (s.2.1.trans e6039_75) rfl) <| steps_nil
    intro o6040 a6040 w6040 d6040 z6040 hk6040 hf6040 hE6040
    obtain ⟨e6040_2, e6040_3, e6040_5, e6040_10, e6040_67, e6040_74, e6040_75, e6040_76⟩ := kt8 hk6040 e6039_2 e6039_3 e6039_5 e6039_10 e6039_67 e6039_74 e6039_75 e6039_76
    have e6040_77 := gv (hf6040 [0] rfl) rfl
    have hX6040 := Evo.stepK hE6039 hE6040 rfl
    obtain ⟨b6040_g3089, b6040_gx1, b6040_g3091, b6040_g3101, b6040_g3769, b6040_cA3774⟩ := be6 hE6040 b6039_g3089 b6039_gx1 b6039_g3091 b6039_g3101 b6039_g3769 b6039_cA3774
    have b6040_Ax1_0 := RdO.evo rfl hE6040 b6039_Ax1_0
    have b6040_mx1_1 := MpN.evo rfl hE6040 b6039_mx1_1
    have b6040_Ax1_2 := RdO.evo rfl hE6040 b6039_Ax1_2
    have b6040_A5905 := re_ hE6040 b6039_A5905
    have b6040_g3767 := MpO.evo (by decide) hE6040 b6039_g3767
    have b6040_A5775 := RdO.evo rfl hE6040 b6039_A5775
    have b6040_mk := MkO.evo (by decide) hE6040 b6039_mk
    have b6040_rc := RcO.evo (by decide) hE6040 b6039_rc
    refine fl_seq (fun Q6041 hn6041 hp6041 => ?_)
    refine fl_cond e6040_77 hs (fun c6042 hs => ?_) (fun c6042 hs => ?_)
    ·refine fl_skip ?_
     refine hn6041 _ _ ?_
     refine fl_seq (fun Q6043 hn6043 hp6043 => ?_)
     refine fl_block (fun Q6104 hn6104 hx6104 hp6104 => ?_)
     have K6137 : ∀ (a6137 : Act) (w6137 : World) (o6137 : Own) (out6133 : List Int) (met6136 : List (Int × Bool)) (A6131 : Option Addr) (c6132 : Nat), a6137.defers = mkD [] → a6137.tmps.size = 104 → a6137.eval (.tmp 2) = pt g3089 0 → a6137.eval (.tmp 3) = pt g3091 0 → a6137.eval (.tmp 5) = pt g3101 0 → a6137.eval (.tmp 10) = pt g3769 0 → a6137.eval (.tmp 67) = .func (.func 64) #[] #[pt cA3774 0] → a6137.eval (.tmp 74) = .slice A5775 ((lkM x1.2.1 x5372).getD []).length cA5775 → a6137.eval (.tmp 75) = Zi (((lkM x1.2.1 x5372).getD []).length : Int) → a6137.eval (.tmp 76) = Zi x5911 → Evo [3556, 3560, 3768, 5376, 5904, 5908, 5909, 6130, 6134, 6135, 6149, 6161, 6163] o5379 o6137 w5379 w6137 → BlkO o6137 3090 w6137 g3089 70 #[pt gx1 0] → BlkO o6137 0 w6137 gx1 tx1 #[sl Ax1_0 x1.1 cx1_0, .map (some mx1_1), sl Ax1_2 x1.2.2 cx1_2] → RdO o6137 [0] w6137 R80 Ax1_0 cx1_0 x1.1 → MpN o6137 0 0 [0] w6137 mx1_1 vv111 3 R3 x1.2.1 → RdO o6137 [0] w6137 R3 Ax1_2 cx1_2 x1.2.2 → BlkO o6137 3092 w6137 g3091 80 #[Zi b2.1.1, Zi b2.1.2, Zi b2.2.1, Zi b2.2.2] → BlkO o6137 6130 w6137 g3101 22 #[sl A6131 out6133 c6132] → RwO o6137 6134 [] w6137 3 R3 A6131 c6132 out6133 → BlkO o6137 3771 w6137 g3769 118 #[.map (some g3767)] → MpO o6137 6135 w6137 g3767 vv3 vv4 met6136 → BlkO o6137 3775 w6137 cA3774 80 #[Zi b2.1.1, Zi b2.1.2, Zi b2.2.1, Zi b2.2.2] → RdO o6137 [0, 0] w6137 R3 A5775 cA5775 ((lkM x1.2.1 x5372).getD []) → MkO o6137 11 w6137 [] → RcO o6137 5370 w6137 l5373 → rows_Index_Find_k6 x5911 out6133 met6136 = some zz6038 → (Q6104 .normal a6137 w6137 ∧ Q6104 (.exit 7) a6137 w6137) := by
      intro a6137 w6137 o6137 out6133 met6136 A6131 c6132 d6138 z6138 e6138_2 e6138_3 e6138_5 e6138_10 e6138_67 e6138_74 e6138_75 e6138_76 hE6138 b6138_g3089 b6138_gx1 b6138_Ax1_0 b6138_mx1_1 b6138_Ax1_2 b6138_g3091 b6138_g3101 b6138_A6131 b6138_g3769 b6138_g3767 b6138_cA3774 b6138_A5775 b6138_mk b6138_rc hs
      refine and_both (hn6104 _ _) (hx6104 _ _) ?_
      refine hn6043 _ _ ?_
      refine rq 104 o6137 (bz 2) [dv [] [76] 101 (Zi (ad x5911 1)), dv [0] [] 76 (Zi (ad x5911 1))] z6138 d6138 ?_ ?_
      ·exact sS (fun s => or_add (s.1.trans e6138_76) rfl rfl) <| sV <| steps_nil
      intro o6139 a6139 w6139 d6139 z6139 hk6139 hf6139 hE6139
      obtain ⟨e6139_2, e6139_3, e6139_5, e6139_10, e6139_67, e6139_74, e6139_75⟩ := kt7 hk6139 e6138_2 e6138_3 e6138_5 e6138_10 e6138_67 e6138_74 e6138_75
      have e6139_76 := gv (hf6139 [1] rfl) rfl
      have hX6139 := Evo.stepK hE6138 hE6139 rfl
      obtain ⟨b6139_g3089, b6139_gx1, b6139_g3091, b6139_g3101, b6139_g3769, b6139_cA3774⟩ := be6 hE6139 b6138_g3089 b6138_gx1 b6138_g3091 b6138_g3101 b6138_g3769 b6138_cA3774
      have b6139_Ax1_0 := RdO.evo rfl hE6139 b6138_Ax1_0
      have b6139_mx1_1 := MpN.evo rfl hE6139 b6138_mx1_1
      have b6139_Ax1_2 := RdO.evo rfl hE6139 b6138_Ax1_2
      have b6139_A6131 := re_ hE6139 b6138_A6131
      have b6139_g3767 := MpO.evo (by decide) hE6139 b6138_g3767
      have b6139_A5775 := RdO.evo rfl hE6139 b6138_A5775
      have b6139_mk := MkO.evo (by decide) hE6139 b6138_mk
      have b6139_rc := RcO.evo (by decide) hE6139 b6138_rc
      exact hn6038 _ _ _ hs ⟨(rl [(6130, 5904), (6134, 5908), (6135, 5909)] o6139), A6131, c6132, d6139, z6139, e6139_2, e6139_3, e6139_5, e6139_10, e6139_67, e6139_74, e6139_75, e6139_76, (Evo.rlK hX6139 rfl), (BlkO.rl_ b6139_g3089), (BlkO.rl_ b6139_gx1), (RdO.rl_ b6139_Ax1_0), (MpN.rl_ b6139_mx1_1), (RdO.rl_ b6139_Ax1_2), (BlkO.rl_ b6139_g3091), (BlkO.rl_ b6139_g3101), (RwO.rl_ b6139_A6131), (BlkO.rl_ b6139_g3769), (MpO.rl_ b6139_g3767), (BlkO.rl_ b6139_cA3774), (RdO.rl_ b6139_A5775), (MkO.rl_ b6139_mk), (RcO.rl_ b6139_rc)⟩
     obtain ⟨x6140, hx6140, hs⟩ := obind hs
     refine rq_seq 104 o6040 (bz 3) [dv [] [74, 76] 78 (.pointer (some ((adr A5775).add ((x5911 : Int).toNat * R3.s)))), dv [0] [] 79 (Zi x6140), dv [1] [] 13 (Zi x6140)] z6040 d6040 ?_ ?_
     ·exact sS (fun s => or_index (R := R3) (l := ((lkM x1.2.1 x5372).getD [])) tl22 (s.1.trans e6040_74) (s.2.1.trans e6040_76) (RdO.some_ b6040_A5775 hx6140) hx6140) <| sFE (fun f hE => or_load1 to3 f.1 (CellsAt.zero (RdO.cells (F := E3) (RdO.evo rfl hE b6040_A5775) hx6140) rfl)) <| sA <| steps_nil
     intro o6141 a6141 w6141 d6141 z6141 hk6141 hf6141 hE6141
     obtain ⟨e6141_2, e6141_3, e6141_5, e6141_10, e6141_67, e6141_74, e6141_75, e6141_76⟩ := kt8 hk6141 e6040_2 e6040_3 e6040_5 e6040_10 e6040_67 e6040_74 e6040_75 e6040_76
     have e6141_13 := gv (hf6141 [2] rfl) rfl
     have hX6141 := Evo.stepK hX6040 hE6141 rfl
     obtain ⟨b6141_g3089, b6141_gx1, b6141_g3091, b6141_g3101, b6141_g3769, b6141_cA3774⟩ := be6 hE6141 b6040_g3089 b6040_gx1 b6040_g3091 b6040_g3101 b6040_g3769 b6040_cA3774
     have b6141_Ax1_0 := RdO.evo rfl hE6141 b6040_Ax1_0
     have b6141_mx1_1 := MpN.evo rfl hE6141 b6040_mx1_1
     have b6141_Ax1_2 := RdO.evo rfl hE6141 b6040_Ax1_2
     have b6141_A5905 := re_ hE6141 b6040_A5905
     have b6141_g3767 := MpO.evo (by decide) hE6141 b6040_g3767
     have b6141_A5775 := RdO.evo rfl hE6141 b6040_A5775
     have b6141_mk := MkO.evo (by decide) hE6141 b6040_mk
     have b6141_rc := RcO.evo (by decide) hE6141 b6040_rc
     refine fl_seq (fun Q6142 hn6142 hp6142 => ?_)
     obtain ⟨x6143, hx6143, hs⟩ := obind hs
     obtain ⟨r6144, hr6144, hs⟩ := obind hs
     obtain ⟨x6145, hx6145, hs⟩ := obind hs
     refine rd_seq g_mixed 104 [] o6141 [] [0, 0, 3, 7, 15, 15, 47, 111, 239, 15, 1007, 2031, 4095, 8191, 16383] [dv [] [10] 80 (.map (some g3767)), dv [] [13] 81 (Zi x6140), dv [0, 1] [] 82 (.bool ((lkM met5910 x6140).getD false)), dv [2] [] 83 (.bool ((lkM met5910 x6140).getD false)), dc [3] [3] (!((lkM met5910 x6140).getD false)) 84 (.agg #[Zi b2.1.1, Zi b2.1.2, Zi b2.2.1, Zi b2.2.2]), dc [3] [2] (!((lkM met5910 x6140).getD false)) 85 (pt gx1 0), dc [3, 5] [] (!((lkM met5910 x6140).getD false)) 86 (pt gx1 0), dc [3, 6] [] (!((lkM met5910 x6140).getD false)) 87 (pt gx1 0), dc [3, 7] [] (!((lkM met5910 x6140).getD false)) 88 (sl Ax1_0 x1.1 cx1_0), dc [3] [13] (!((lkM met5910 x6140).getD false)) 89 (Zi x6140), dc [3, 8, 9] [] (!((lkM met5910 x6140).getD false)) 90 (.pointer (some ((adr Ax1_0).add ((x6140 : Int).toNat * R80.s)))), dc [3, 10] [] (!((lkM met5910 x6140).getD false)) 91 (.agg #[Zi x6143.1.1, Zi x6143.1.2, Zi x6143.2.1, Zi x6143.2.2]), dc [3, 4, 11] [] (!((lkM met5910 x6140).getD false)) 92 (.bool r6144), dc [3, 12] [] (!((lkM met5910 x6140).getD false)) 93 (.bool (!r6144)), dv [3, 13] [] 94 (.bool x6145)] z6141 d6141 nm_ ?_ ?_
     ·exact sL1 to118 e6141_10 b6141_g3769 <| sM e6141_13 <| sFE (fun f hE => or_lookupE (kf := vv3) (vf := vv4) (k := x6140) (dv := false) ko3 tm118 tzv118 f.1 f.2.1 (MpO.evo (by decide) hE b6141_g3767) rfl) <| sV <| cFL ta80 e6141_3 b6141_g3091 <| cF (fun _ s hE _ => ld1 to70 (s.1.trans e6141_2) (be_ hE b6141_g3089)) <| cF (fun f _ _ hg => ok1 (f.2.1.1 hg)) <| cF (fun f _ _ hg => or_field fo106_0 (f.2.1.1 hg) (by rfl)) <| cF (fun f _ hE hg => ld1 to103 (f.2.1.1 hg) (be_ hE b6141_gx1)) <| cF (fun _ s _ _ => or_move (s.1.trans e6141_13)) <| cF (fun f _ _ hg => or_index (R := R80) (l := x1.1) tl103 (f.2.1.1 hg) (f.2.2.1.1 hg) (RdO.some_ b6141_Ax1_0 (gd_t hx6143 hg)) (gd_t hx6143 hg)) <| cF (fun f _ hE hg => or_load (l := E80.f x6143) ta80 (f.2.1.1 hg) (RdO.cells (F := E80) (RdO.evo rfl hE b6141_Ax1_0) (gd_t hx6143 hg)) rfl) <| cF (fun f _ _ hg => or_call cf55 (args2 (f.2.1.1 hg) (f.2.2.1.1 hg)) (rows_Meet_w _ b2 x6143  r6144 (gd_t hr6144 hg)) post_val) <| cF (fun f _ _ hg => or_not (f.2.1.1 hg) rfl) <| sF (fun f => or_or f.1 rfl (fun hx => f.2.1.1 hx) (osome hx6145).symm) <| steps_nil
     intro o6146 a6146 w6146 d6146 z6146 hk6146 hf6146 hE6146
     obtain ⟨e6146_2, e6146_3, e6146_5, e6146_10, e6146_13, e6146_67, e6146_74, e6146_75⟩ := kt8 hk6146 e6141_2 e6141_3 e6141_5 e6141_10 e6141_13 e6141_67 e6141_74 e6141_75
     have e6146_76 := kt hk6146 e6141_76
     have e6146_94 := gv (hf6146 [14] rfl) rfl
     have hX6146 := Evo.stepK hX6141 hE6146 rfl
     obtain ⟨b6146_g3089, b6146_gx1, b6146_g3091, b6146_g3101, b6146_g3769, b6146_cA3774⟩ := be6 hE6146 b6141_g3089 b6141_gx1 b6141_g3091 b6141_g3101 b6141_g3769 b6141_cA3774
     have b6146_Ax1_0 := RdO.evo rfl hE6146 b6141_Ax1_0
     have b6146_mx1_1 := MpN.evo rfl hE6146 b6141_mx1_1
     have b6146_Ax1_2 := RdO.evo rfl hE6146 b6141_Ax1_2
     have b6146_A5905 := re_ hE6146 b6141_A5905
     have b6146_g3767 := MpO.evo (by decide) hE6146 b6141_g3767
     have b6146_A5775 := RdO.evo rfl hE6146 b6141_A5775
     have b6146_mk := MkO.evo (by decide) hE6146 b6141_mk
     have b6146_rc := RcO.evo (by decide) hE6146 b6141_rc
     refine fl_cond e6146_94 hs (fun c6147 hs => ?_) (fun c6147 hs => ?_)
     ·refine fl_exit ?_
      refine hp6142 _ _ _ rfl ?_
      exact (K6137 _ _ (rl [(5904, 6130), (5908, 6134), (5909, 6135)] o6146) _ _ A5905 c5906 d6146 z6146 e6146_2 e6146_3 e6146_5 e6146_10 e6146_67 e6146_74 e6146_75 e6146_76 (Evo.rlK hX6146 rfl) (BlkO.rl_ b6146_g3089) (BlkO.rl_ b6146_gx1) (RdO.rl_ b6146_Ax1_0) (MpN.rl_ b6146_mx1_1) (RdO.rl_ b6146_Ax1_2) (BlkO.rl_ b6146_g3091) (BlkO.rl_ b6146_g3101) (RwO.rl_ b6146_A5905) (BlkO.rl_ b6146_g3769) (MpO.rl_ b6146_g3767) (BlkO.rl_ b6146_cA3774) (RdO.rl_ b6146_A5775) (MkO.rl_ b6146_mk) (RcO.rl_ b6146_rc) hs).2
     refine fl_skip ?_
     refine hn6142 _ _ ?_
     obtain ⟨D6148, hD6148, hs⟩ := obind hs
     refine rr_seq 104 [Fct.mapAt 5909 g3767 vv3 vv4 met5910] o6146 [5909] [0, 0, 3] [dv [] [10] 95 (.map (some g3767)), dv [] [13] 96 (Zi x6140), ⟨[0, 1, 3], [], [5909], Fct.mapAt 6149 g3767 vv3 vv4 D6148⟩] z6146 d6146 (fm1 b6146_g3767) ?_ ?_
     ·refine sL1 to118 e6146_10 b6146_g3769 <| sM e6146_13 ?_
      refine sc (fun own a wx hf hsl hE => ?_) ?_
      ·obtain ⟨f_95, f_96, b_g3767, -⟩ := hf
       exact px (or_mapUpdate (kf := vv3) (vf := vv4) (k := x6140) (v := true) (lab := 5909) (lab2 := 6149) ko3 tm118 f_95 f_96 rfl b_g3767 (osome hD6148).symm (mem_of rfl) (by decide) (fun own' a' w' hb => hb))
      exact steps_nil
     intro o6150 a6150 w6150 d6150 z6150 hk6150 hf6150 hE6150
     obtain ⟨e6150_2, e6150_3, e6150_5, e6150_10, e6150_13, e6150_67, e6150_74, e6150_75⟩ := kt8 hk6150 e6146_2 e6146_3 e6146_5 e6146_10 e6146_13 e6146_67 e6146_74 e6146_75
     have e6150_76 := kt hk6150 e6146_76
     obtain ⟨(b6150_g3767 : MpO o6150 6149 w6150 g3767 vv3 vv4 D6148), -⟩ := hf6150 [2] rfl
     have hX6150 := Evo.stepK hX6146 hE6150 rfl
     obtain ⟨b6150_g3089, b6150_gx1, b6150_g3091, b6150_g3101, b6150_g3769, b6150_cA3774⟩ := be6 hE6150 b6146_g3089 b6146_gx1 b6146_g3091 b6146_g3101 b6146_g3769 b6146_cA3774
     have b6150_Ax1_0 := RdO.evo rfl hE6150 b6146_Ax1_0
     have b6150_mx1_1 := MpN.evo rfl hE6150 b6146_mx1_1
     have b6150_Ax1_2 := RdO.evo rfl hE6150 b6146_Ax1_2
     have b6150_A5905 := re_ hE6150 b6146_A5905
     have b6150_A5775 := RdO.evo rfl hE6150 b6146_A5775
     have b6150_mk := MkO.evo (by decide) hE6150 b6146_mk
     have b6150_rc := RcO.evo (by decide) hE6150 b6146_rc
     obtain ⟨x6160, hx6160, hs⟩ := obind hs
     refine rr 104 [Fct.rowAt 5908 [] 3 R3 A5905 c5906 out5907, Fct.at_ 5904 g3101 22 #[sl A5905 out5907 c5906]] o6150 [5908, 5904] [0, 0, 2, 7, 15] [dv [6] [5] 97 (sl A5905 out5907 c5906), dv [] [13] 98 (Zi x6140), ⟨[1], [], [], Fct.row 6159 [] 99 3 R3 [x6140]⟩, ⟨[0, 2, 5], [], [5908], Fct.row 6161 [] 100 3 R3 x6160⟩, ⟨[3, 6], [5], [5904], Fct.by_ [6163] [100] (fun l own w => ∀ (A6162 : Option Addr) (cA6162 : Nat), l.getD 0 undef = sl A6162 x6160 cA6162 → BlkO own 6163 w g3101 22 #[sl A6162 x6160 cA6162]) (fun hk he h _ _ h0' => BlkO.evo (not_hit hk (by decide)) he (h _ _ h0'))⟩] z6150 d6150 (fm2 b6150_A5905 b6150_g3101) ?_ ?_
     ·refine sc (fun own a wx hf hsl hE => ?_) ?_
      ·obtain ⟨(b_g3101 : BlkO own 5904 wx g3101 22 #[sl A5905 out5907 c5906]), -⟩ := hf
       obtain ⟨s_5, -⟩ := hsl
       exact px (ld1 to22 (s_5.trans e6150_5) b_g3101)
      refine sM e6150_13 <| sF (fun f => or_lit (lab := 6159) (e := 3) (cs := #[Zi x6140]) (F := E3) (nw1 f.1) rfl rfl (show 1 ≤ maxLen by decide)) ?_
      refine sc (fun own a wx hf hsl hE => ?_) ?_
      ·obtain ⟨f_97, ⟨⟨A6158, cA6158⟩, f_99, b_A6158⟩, b_A5905, -⟩ := hf
       exact px (or_append (R := R3) (lab := 5908) (lab2 := 6161) (L := []) (L3 := []) tp22 f_97 b_A5905 (by decide) f_99 (RwO.rd b_A6158) hx6160 (by decide) (by decide) (mem_of rfl) (.inl (Rep.fl_flat _)))
      refine sc (fun own a wx hf hsl hE => ?_) ?_
      ·obtain ⟨⟨⟨A6162, cA6162⟩, (f_100 : a.eval (.tmp 100) = sl A6162 x6160 cA6162), b_A6162⟩, b_g3101, -⟩ := hf
       obtain ⟨s_5, -⟩ := hsl
       exact px (or_store1 (lab := 5904) (lab2 := 6163) ts22 (s_5.trans e6150_5) f_100 b_g3101 (by simp) rfl (mem_of rfl) (by decide) rfl (fun own' a' w' ha hb => fun _ _ h0' => by cases (f_100.symm.trans ((ha 100).symm.trans h0')); exact hb))
      exact steps_nil
     intro o6164 a6164 w6164 d6164 z6164 hk6164 hf6164 hE6164
     obtain ⟨e6164_2, e6164_3, e6164_5, e6164_10, e6164_67, e6164_74, e6164_75, e6164_76⟩ := kt8 hk6164 e6150_2 e6150_3 e6150_5 e6150_10 e6150_67 e6150_74 e6150_75 e6150_76
     obtain ⟨⟨⟨A6162, cA6162⟩, (f_100 : a6164.eval (.tmp 100) = sl A6162 x6160 cA6162), (b6164_A6162 : RwO o6164 6161 [] w6164 3 R3 A6162 cA6162 x6160)⟩, (bq_g3101 : ∀ (A6162 : Option Addr) (cA6162 : Nat), a6164.eval (.tmp 100) = sl A6162 x6160 cA6162 → BlkO o6164 6163 w6164 g3101 22 #[sl A6162 x6160 cA6162]), -⟩ := hf6164 [3, 4] rfl
     have b6164_g3101 := bq_g3101 _ _ f_100
     have hX6164 := Evo.stepK hX6150 hE6164 rfl
     obtain ⟨b6164_g3089, b6164_gx1, b6164_g3091, b6164_g3769, b6164_cA3774⟩ := be5 hE6164 b6150_g3089 b6150_gx1 b6150_g3091 b6150_g3769 b6150_cA3774
     have b6164_Ax1_0 := RdO.evo rfl hE6164 b6150_Ax1_0
     have b6164_mx1_1 := MpN.evo rfl hE6164 b6150_mx1_1
     have b6164_Ax1_2 := RdO.evo rfl hE6164 b6150_Ax1_2
     have b6164_A5775 := RdO.evo rfl hE6164 b6150_A5775
     have b6164_mk := MkO.evo (by decide) hE6164 b6150_mk
     have b6164_rc := RcO.evo (by decide) hE6164 b6150_rc
     have b6164_g3767 := MpO.evo (by decide) hE6164 b6150_g3767
     exact (K6137 _ _ (rl [(6149, 6135), (6161, 6134), (6163, 6130)] o6164) _ _ A6162 cA6162 d6164 z6164 e6164_2 e6164_3 e6164_5 e6164_10 e6164_67 e6164_74 e6164_75 e6164_76 (Evo.rlK hX6164 rfl) (BlkO.rl_ b6164_g3089) (BlkO.rl_ b6164_gx1) (RdO.rl_ b6164_Ax1_0) (MpN.rl_ b6164_mx1_1) (RdO.rl_ b6164_Ax1_2) (BlkO.rl_ b6164_g3091) (BlkO.rl_ b6164_g3101) (RwO.rl_ b6164_A6162) (BlkO.rl_ b6164_g3769) (MpO.rl_ b6164_g3767) (BlkO.rl_ b6164_cA3774) (RdO.rl_ b6164_A5775) (MkO.rl_ b6164_mk) (RcO.rl_ b6164_rc) hs).1
    refine fl_exit ?_
    refine hp6041 _ _ _ rfl ?_
    replace hs := z6038 _ hs
    refine hp6038 _ _ _ rfl ?_
    refine hx5777 _ _ ?_
    refine hp5773.normal _ _ ?_
    refine hn5380 _ _ ?_
    exact ⟨_, (rl [(5904, 3556), (5908, 3560), (5909, 3768)] o6040), osome hs, (Evo.rlK hX6040 rfl), A5905, c5906, (es_ hU5379 (Evo.rlK hX6040 rfl)), (BlkO.rl_ b6040_g3089), (BlkO.rl_ b6040_gx1), (RdO.rl_ b6040_Ax1_0), (MpN.rl_ b6040_mx1_1), (RdO.rl_ b6040_Ax1_2), (BlkO.rl_ b6040_g3091), (BlkO.rl_ b6040_g3101), (RwO.rl_ b6040_A5905), (BlkO.rl_ b6040_g3769), (MpO.rl_ b6040_g3767), (BlkO.rl_ b6040_cA3774)⟩
  ·rintro ⟨out4574, met4576⟩ a6165 o6165 w6165 Ds6165 hzz6165 d6165 z6165 hkp6165 hmk6165 ⟨A4572, c4573, hE6165, b6165_g3089, b6165_gx1, b6165_Ax1_0, b6165_mx1_1, b6165_Ax1_2, b6165_g3091, b6165_g3101, b6165_A4572, b6165_g3769, b6165_g3767, b6165_cA3774⟩
   subst hzz6165
   have hs : rows_Index_Find_b8 out4574 met4576 = some r := hs
   have e6165_2 : a6165.eval (.tmp 2) = pt g3089 0 := (hkp6165 2).trans e3776_2
   have e6165_3 : a6165.eval (.tmp 3) = pt g3091 0 := (hkp6165 3).trans e3776_3
   have e6165_5 : a6165.eval (.tmp 5) = pt g3101 0 := (hkp6165 5).trans e3776_5
   have e6165_10 : a6165.eval (.tmp 10) = pt g3769 0 := (hkp6165 10).trans e3776_10
   have e6165_67 : a6165.eval (.tmp 67) = .func (.func 64) #[] #[pt cA3774 0] := (hkp6165 67).trans e3776_67
   refine hn3777 _ _ ?_
   refine hn3773 _ _ ?_
   obtain ⟨r6166, hr6166, hs⟩ := obind hs
   refine rq_seq 104 o6165 (bz 3) [dv [] [5] 102 (sl A4572 out4574 c4573), ⟨[0], [], [], Fct.row 6168 [] 103 3 R3 r6166⟩, ⟨[1], [], [], Fct.rel [4, 103] (fun l => ∀ (A6167 : Option Addr) (cA6167 : Nat), l.getD 1 undef = sl A6167 r6166 cA6167 → l.getD 0 undef = sl A6167 r6166 cA6167)⟩] z6165 d6165 ?_ ?_
   ·refine sL1 to22 e6165_5 b6165_g3101 <| sFE (fun f hE => or_call cf56 (args1 f.1) (order_Uniq_w _ out4574 A4572 c4573 (RdO.zero (RwO.rd (re_ hE b6165_A4572))) r6166 hr6166) (post_row (m' := (look0 [(1, 6168)])) (.inl (Rep.fl_flat _)) rfl rfl (fun _ => rfl))) ?_
    refine sc (fun own a wx hf hsl hE => ?_) ?_
    ·obtain ⟨⟨⟨A6167, cA6167⟩, (f_103 : a.eval (.tmp 103) = sl A6167 r6166 cA6167), b_A6167⟩, -⟩ := hf
     exact px (or_mono (f := Fct.val 4 (sl A6167 r6166 cA6167)) (or_assign f_103) (fun own' a' w' v' hp h => fun _ _ h0' => by cases (f_103.symm.trans ((hp.2 103 (by decide)).symm.trans h0')); exact h))
    exact steps_nil
   intro o6169 a6169 w6169 d6169 z6169 hk6169 hf6169 hE6169
   obtain ⟨⟨⟨A6167, cA6167⟩, (f_103 : a6169.eval (.tmp 103) = sl A6167 r6166 cA6167), (b6169_A6167 : RwO o6169 6168 [] w6169 3 R3 A6167 cA6167 r6166)⟩, (q_4 : ∀ (A6167 : Option Addr) (cA6167 : Nat), a6169.eval (.tmp 103) = sl A6167 r6166 cA6167 → a6169.eval (.tmp 4) = sl A6167 r6166 cA6167), -⟩ := hf6169 [1, 2] rfl
   have e6169_4 := q_4 _ _ f_103
   have hX6169 := es_ hE6165 hE6169
   have b6169_mk := MkO.evo (by decide) hE6169 hmk6165
   refine fl_ret ?_
   refine hret _ _ _ _ _ (.inl rfl) d6169 b6169_mk (fun o6170 w6170 hE6170 => ?_)
   have hX6171 := es_ hX6169 hE6170
   have b6171_A6167 := re_ hE6170 b6169_A6167
   obtain rfl := (osome hs).symm
   exact ⟨_, results1_ rfl (RVal.tmp_ e6169_4), ⟨(rl [(6168, 1)] o6170), (A6167, cA6167), rfl, (Evo.rl_ hX6171 (fun _ => Nat.le_refl 0) rfl), (RwO.rl_ b6171_A6167)⟩⟩
  ·intro e; exact nomatch e
theorem exact_Cross_w (w : World) (x1 : Int × Int) (b2 : Int × Int) (c3 : Int × Int) (r : Int) (hs : exact_Cross x1 b2 c3 = some r) :
  Calls Try.prog 63 #[P2 x1, P2 b2, P2 c3] w fun e w' => ∃ own' : Own, e = .returned (Zi r) ∧ Evo [] (fun _ => 0) own' w w' := by
 refine fl_enter (n := 36) rfl rfl rfl (Nat.le_of_ble_eq_true rfl) ?_
 intro a0 Q d0 z0 harg hret
 have ha0 := harg 0 _ rfl
 have ha1 := harg 1 _ rfl
 have ha2 := harg 2 _ rfl
 clear harg
 have hE0 : Evo [] (fun _ => 0) (fun _ => 0) w w := Evo.refl _ _ _
 refine rq_seq 36 (fun _ => 0) [0, 0, 0, 0] [⟨[], [0], [], Fct.blk 28 3 (fun g => pt g 0) 25 #[Zi x1.1, Zi x1.2]⟩, ⟨[], [1], [], Fct.blk 30 4 (fun g => pt g 0) 25 #[Zi b2.1, Zi b2.2]⟩, ⟨[], [2], [], Fct.blk 32 5 (fun g => pt g 0) 25 #[Zi c3.1, Zi c3.2]⟩, dv [] [] 6 (Zi 0)] z0 d0 ?_ ?_
 ·exact sS (fun s => nw1 (s.1.trans ha0)) <| sS (fun s => nw1 (s.1.trans ha1)) <| sS (fun s => nw1 (s.1.trans ha2)) <| sO (or_assign rfl) <| steps_nil
 intro o33 a33 w33 d33 z33 hk33 hf33 hE33
 obtain ⟨⟨g27, (e33_3 : a33.eval (.tmp 3) = pt g27 0), (b33_g27 : BlkO o33 28 w33 g27 25 #[Zi x1.1, Zi x1.2])⟩, ⟨g29, (e33_4 : a33.eval (.tmp 4) = pt g29 0), (b33_g29 : BlkO o33 30 w33 g29 25 #[Zi b2.1, Zi b2.2])⟩, ⟨g31, (e33_5 : a33.eval (.tmp 5) = pt g31 0), (b33_g31 : BlkO o33 32 w33 g31 25 #[Zi c3.1, Zi c3.2])⟩, -⟩ := hf33 [0, 1, 2] rfl
 have hX33 := es_ hE0 hE33
 refine fl_seq (fun Q34 hn34 hp34 => ?_)
 obtain ⟨r37, hr37, hs⟩ := obind hs
 refine rq_seq 36 o33 [0, 0, 0, 7, 15, 31] [dv [] [3] 7 (P2 x1), dv [] [4] 8 (P2 b2), dv [] [5] 9 (P2 c3), ⟨[0, 1, 2], [], [], Fct.row 36 [] 10 25 R25 [x1, b2, c3]⟩, dv [3] [] 11 (.bool r37), dv [4] [] 12 (.bool (!r37))] z33 d33 ?_ ?_
 ·refine sL ta25 e33_3 b33_g27 <| sL ta25 e33_4 b33_g29 <| sL ta25 e33_5 b33_g31 <| sF (fun f => or_lit (lab := 36) (e := 25) (cs := #[Zi x1.1, Zi x1.2, Zi b2.1, Zi b2.2, Zi c3.1, Zi c3.2]) (F := E25) (nw3 f.1 f.2.1 f.2.2.1) rfl rfl (show 3 ≤ maxLen by decide)) ?_
  refine sc (fun own a wx hf hsl hE => ?_) ?_
  ·obtain ⟨⟨⟨A35, cA35⟩, f_10, b_A35⟩, -⟩ := hf
   exact px (or_call cf32 (args1 f_10) (exact_Right_w _ [x1, b2, c3] A35 cA35 (RdO.zero (RwO.rd b_A35)) r37 hr37) post_val)
  exact sF (fun f => or_not f.1 rfl) <| steps_nil
 intro o38 a38 w38 d38 z38 hk38 hf38 hE38
 obtain ⟨e38_3, e38_4, e38_5⟩ := kt3 hk38 e33_3 e33_4 e33_5
 have e38_12 := gv (hf38 [5] rfl) rfl
 have hX38 := es_ hX33 hE38
 obtain ⟨b38_g27, b38_g29, b38_g31⟩ := be3 hE38 b33_g27 b33_g29 b33_g31
 refine fl_cond e38_12 hs (fun c39 hs => ?_) (fun c39 hs => ?_)
 ·refine rq_seq 36 o38 (bz 1) [dv [] [] 6 (Zi 0)] z38 d38 ?_ ?_
  ·exact sO (or_assign rfl) <| steps_nil
  intro o40 a40 w40 d40 z40 hk40 hf40 hE40
  have e40_6 := gv (hf40 [0] rfl) rfl
  have hX40 := es_ hX38 hE40
  refine fl_ret ?_
  refine hp34 _ _ _ rfl ?_
  obtain rfl := osome hs
  exact hret _ _ _ _ (.inl rfl) d40 (results1_ rfl (RVal.tmp_ e40_6)) ⟨o40, rfl, hX40⟩
 refine fl_skip ?_
 refine hn34 _ _ ?_
 obtain ⟨x41, hx41, hs⟩ := obind hs
 refine rq_seq 36 o38 [0, 1, 0, 4, 15, 0, 32, 0, 128, 480, 1023, 0, 2048, 0, 8192, 30720, 0, 65536, 0, 262144, 983040, 2095104, 4194303, 8388607] [dv [] [4] 13 (pt g29 0), dv [0] [] 14 (Zi b2.1), dv [] [3] 15 (pt g27 0), dv [2] [] 16 (Zi x1.1), dv [1, 3] [] 17 (Zi (sb b2.1 x1.1)), dv [] [5] 18 (pt g31 1), dv [5] [] 19 (Zi c3.2), dv [] [3] 20 (pt g27 1), dv [7] [] 21 (Zi x1.2), dv [6, 8] [] 22 (Zi (sb c3.2 x1.2)), dv [4, 9] [] 23 (Zi (ml (sb b2.1 x1.1) (sb c3.2 x1.2))), dv [] [4] 24 (pt g29 1), dv [11] [] 25 (Zi b2.2), dv [] [3] 26 (pt g27 1), dv [13] [] 27 (Zi x1.2), dv [12, 14] [] 28 (Zi (sb b2.2 x1.2)), dv [] [5] 29 (pt g31 0), dv [16] [] 30 (Zi c3.1), dv [] [3] 31 (pt g27 0), dv [18] [] 32 (Zi x1.1), dv [17, 19] [] 33 (Zi (sb c3.1 x1.1)), dv [15, 20] [] 34 (Zi (ml (sb b2.2 x1.2) (sb c3.1 x1.1))), dv [10, 21] [] 35 (Zi x41), dv [22] [] 6 (Zi x41)] z38 d38 ?_ ?_
 ·exact sS (fun s => or_field fo25_0 (s.1.trans e38_4) (by rfl)) <| sG to3 b38_g29 <| sS (fun s => or_field fo25_0 (s.1.trans e38_3) (by rfl)) <| sG to3 b38_g27 <| sF (fun f => or_sub f.1 f.2.1 rfl) <| sS (fun s => or_field fo25_1 (s.1.trans e38_5) (by rfl)) <| sG to3 b38_g31 <| sS (fun s => or_field fo25_1 (s.1.trans e38_3) (by rfl)) <| sG to3 b38_g27 <| sF (fun f => or_sub f.1 f.2.1 rfl) <| sF (fun f => or_mul f.1 f.2.1 rfl) <| sS (fun s => or_field fo25_1 (s.1.trans e38_4) (by rfl)) <| sG to3 b38_g29 <| sS (fun s => or_field fo25_1 (s.1.trans e38_3) (by rfl)) <| sG to3 b38_g27 <| sF (fun f => or_sub f.1 f.2.1 rfl) <| sS (fun s => or_field fo25_0 (s.1.trans e38_5) (by rfl)) <| sG to3 b38_g31 <| sS (fun s => or_field fo25_0 (s.1.trans e38_3) (by rfl)) <| sG to3 b38_g27 <| sF (fun f => or_sub f.1 f.2.1 rfl) <| sF (fun f => or_mul f.1 f.2.1 rfl) <| sF (fun f => or_sub f.1 f.2.1 (osome hx41).symm) <| sA <| steps_nil
 intro o42 a42 w42 d42 z42 hk42 hf42 hE42
 have e42_6 := gv (hf42 [23] rfl) rfl
 have hX42 := es_ hX38 hE42
 refine fl_ret ?_
 obtain rfl := (osome hs).symm
 exact hret _ _ _ _ (.inl rfl) d42 (results1_ rfl (RVal.tmp_ e42_6)) ⟨o42, rfl, hX42⟩
end Go.Proofs.Ytoccfdohlefifaa
