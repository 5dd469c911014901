import Derived.Test.YtnmkonlfnpcoiaaWp6
import Derived.Test.YtnmkonlfnpcoiaaWp7
import Derived.Test.YtnmkonlfnpcoiaaSp9
namespace Go.Proofs.Ytnmkonlfnpcoiaa
open Go.RowKit
set_option linter.unusedVariables false
set_option maxRecDepth 10000
theorem pack_Pack_Blobs_nil_w (w : World) (r : Int) (hs : pack_Pack_Blobs_nil = some r) :
  Calls Try.prog 13 #[.pointer none] w fun e w' => ∃ own' : Own, e = .returned (Zi r) ∧ Evo [] (fun _ => 0) own' w w' := by
 refine fl_enter (n := 10) rfl rfl rfl (Nat.le_of_ble_eq_true rfl) ?_
 intro a0 Q d0 z0 harg hret
 have ha0 := harg 0 _ rfl
 clear harg
 have hE0 : Evo [] (fun _ => 0) (fun _ => 0) w w := Evo.refl _ _ _
 refine rq_seq 10 (fun _ => 0) (bz 1) [dv [] [] 2 (Zi 0)] z0 d0 ?_ ?_
 ·exact sO (or_assign rfl) <| steps_nil
 intro o15 a15 w15 d15 z15 hk15 hf15 hE15
 have e15_0 := kt hk15 ha0
 have hX15 := es_ hE0 hE15
 refine fl_seq (fun Q16 hn16 hp16 => ?_)
 refine rq_seq 10 o15 (bz 2) [dv [] [0] 3 (.pointer none), dv [0] [] 4 (.bool true)] z15 d15 ?_ ?_
 ·exact sM e15_0 <| sF (fun f => ok1 f.1) <| steps_nil
 intro o17 a17 w17 d17 z17 hk17 hf17 hE17
 have e17_0 := kt hk17 e15_0
 have e17_4 := gv (hf17 [1] rfl) rfl
 have hX17 := es_ hX15 hE17
 refine fl_t e17_4 ?_
 refine rq_seq 10 o17 (bz 1) [dv [] [] 2 (Zi 0)] z17 d17 ?_ ?_
 ·exact sO (or_assign rfl) <| steps_nil
 intro o18 a18 w18 d18 z18 hk18 hf18 hE18
 have e18_2 := gv (hf18 [0] rfl) rfl
 have hX18 := es_ hX17 hE18
 refine fl_ret ?_
 refine hp16 _ _ _ rfl ?_
 obtain rfl := osome hs
 exact hret _ _ _ _ (.inl rfl) d18 (results1_ rfl (RVal.tmp_ e18_2)) ⟨o18, rfl, hX18⟩
set_option maxHeartbeats 2000000 in
theorem law27_PackCuts_w (w : World) (head1 : List Int) (Ahead1 : Option Addr) (chead1 : Nat) (l2 : List ((Int × Int × Int) × (List Int))) (Al2 : Option Addr) (cl2 : Nat) (x3 : Int) (more4 : Int) (hhead1 : RdO (fun _ => 0) [0] w R5 Ahead1 chead1 head1) (hl2 : RdO (fun _ => 0) [0] w R30 Al2 cl2 l2) (r : Bool) (hs : law27_PackCuts head1 l2 x3 more4 = some r) :
  Calls Try.prog 4 #[sl Ahead1 head1 chead1, sl Al2 l2 cl2, Zi x3, .int .u8 more4] w fun e w' => ∃ own' : Own, e = .returned (.bool r) ∧ Evo [] (fun _ => 0) own' w w' := by
 refine fl_enter (n := 136) rfl rfl rfl (Nat.le_of_ble_eq_true rfl) ?_
 intro a0 Q d0 z0 harg hret
 have ha0 := harg 0 _ rfl
 have ha1 := harg 1 _ rfl
 have ha2 := harg 2 _ rfl
 have ha3 := harg 3 _ rfl
 clear harg
 have hE0 : Evo [] (fun _ => 0) (fun _ => 0) w w := Evo.refl _ _ _
 refine rq_seq 136 (fun _ => 0) (bz 1) [dv [] [] 8 (.bool false)] z0 d0 ?_ ?_
 ·exact sO (or_assign rfl) <| steps_nil
 intro o1263 a1263 w1263 d1263 z1263 hk1263 hf1263 hE1263
 obtain ⟨e1263_0, e1263_1, e1263_2, e1263_3⟩ := kt4 hk1263 ha0 ha1 ha2 ha3
 have hX1263 := es_ hE0 hE1263
 obtain ⟨x1264, hx1264, hs⟩ := obind hs
 obtain ⟨r1266, hr1266, hs⟩ := obind hs
 refine rd_seq g_mixed 136 [] o1263 [] [0, 0, 2, 6, 15, 0, 32, 127, 255] [dv [] [0] 23 (sl Ahead1 head1 chead1), dv [] [0] 24 (sl Ahead1 head1 chead1), dv [1] [] 25 (Zi (head1.length : Int)), dv [2] [] 26 (Zi (mn (head1.length : Int) 30)), ⟨[0, 3], [], [], Fct.view [0] 27 R5 x1264⟩, dv [] [1] 28 (sl Al2 l2 cl2), ⟨[5], [], [], Fct.mems [1268, 1269, 1270, 0] 29 (fun (x : Option Addr × Nat) => .slice x.1 r1266.length x.2) (fun (x : Option Addr × Nat) own w => RwO own 1268 [1269, 1270, 0] w 30 R30 x.1 x.2 r1266) (fun hk he h => RwO.evo (hits_sub hk (by decide)) he h)⟩, ⟨[4], [], [], Fct.rel [0, 27] (fun l => ∀ (A1265 : Option Addr) (cA1265 : Nat), l.getD 1 undef = sl A1265 x1264 cA1265 → l.getD 0 undef = sl A1265 x1264 cA1265)⟩, ⟨[6], [], [], Fct.rel [1, 29] (fun l => ∀ (A1267 : Option Addr) (cA1267 : Nat), l.getD 1 undef = sl A1267 r1266 cA1267 → l.getD 0 undef = sl A1267 r1266 cA1267)⟩] z1263 d1263 nm_ ?_ ?_
 ·refine sM e1263_0 <| sM e1263_0 <| sF (fun f => or_len tu22 f.1 rfl) <| sF (fun f => or_min f.1 rfl) <| sFE (fun f hE => or_view (R := R5) (l := head1) (L := [0]) tu22 ts5 f.1 Bnd.none_ (Bnd.some_ f.2.1) Bnd.none_ (RdO.evo rfl hE (RdO.evo rfl hX1263 hhead1)) hx1264 (.inl rfl) (by simp)) <| sM e1263_1 ?_
  refine sc (fun own _ _ f _ hE => px (or_call cf8 (args1 f.1) (law27_Cut_w _ (forth own (inL [0])) l2 Al2 cl2 inL_le (RdO.alias_ (La := [0]) (RdO.evo rfl hE (RdO.evo rfl hX1263 hl2)) (by decide)) r1266 hr1266) (post_alias (La := [0]) (m' := (look0 [(1, 1269), (2, 1268), (3, 1270)])) (fun own' w' a' x ho hsz h1 h => ⟨x, h1, RwO.backM_ ho h (by decide) (by decide) (by decide) (by decide)⟩)))) ?_
  refine sc (fun own a wx hf hsl hE => ?_) ?_
  ·obtain ⟨⟨⟨A1265, cA1265⟩, (f_27 : a.eval (.tmp 27) = sl A1265 x1264 cA1265), b_A1265⟩, -⟩ := hf
   exact px (or_mono (f := Fct.val 0 (sl A1265 x1264 cA1265)) (or_assign f_27) (fun own' a' w' v' hp h => fun _ _ h0' => by cases (f_27.symm.trans ((hp.2 27 (by decide)).symm.trans h0')); exact h))
  refine sc (fun own a wx hf hsl hE => ?_) ?_
  ·obtain ⟨⟨⟨A1267, cA1267⟩, (f_29 : a.eval (.tmp 29) = sl A1267 r1266 cA1267), b_A1267⟩, -⟩ := hf
   exact px (or_mono (f := Fct.val 1 (sl A1267 r1266 cA1267)) (or_assign f_29) (fun own' a' w' v' hp h => fun _ _ h0' => by cases (f_29.symm.trans ((hp.2 29 (by decide)).symm.trans h0')); exact h))
  exact steps_nil
 intro o1271 a1271 w1271 d1271 z1271 hk1271 hf1271 hE1271
 obtain ⟨e1271_2, e1271_3⟩ := kt2 hk1271 e1263_2 e1263_3
 obtain ⟨⟨⟨A1265, cA1265⟩, (f_27 : a1271.eval (.tmp 27) = sl A1265 x1264 cA1265), (b1271_A1265 : RdO o1271 [0] w1271 R5 A1265 cA1265 x1264)⟩, (q_0 : ∀ (A1265 : Option Addr) (cA1265 : Nat), a1271.eval (.tmp 27) = sl A1265 x1264 cA1265 → a1271.eval (.tmp 0) = sl A1265 x1264 cA1265), ⟨⟨A1267, cA1267⟩, (f_29 : a1271.eval (.tmp 29) = sl A1267 r1266 cA1267), (b1271_A1267 : RwO o1271 1268 [1269, 1270, 0] w1271 30 R30 A1267 cA1267 r1266)⟩, (q_1 : ∀ (A1267 : Option Addr) (cA1267 : Nat), a1271.eval (.tmp 29) = sl A1267 r1266 cA1267 → a1271.eval (.tmp 1) = sl A1267 r1266 cA1267), -⟩ := hf1271 [4, 7, 6, 8] rfl
 have e1271_0 := q_0 _ _ f_27
 have e1271_1 := q_1 _ _ f_29
 have hX1271 := es_ hX1263 hE1271
 obtain ⟨r1272, hr1272, hs⟩ := obind hs
 refine rq_seq 136 o1271 [0, 0, 3, 7, 15, 15, 31, 127] [dv [] [0] 31 (sl A1265 x1264 cA1265), dv [] [1] 32 (sl A1267 r1266 cA1267), ⟨[0, 1], [], [], Fct.mems [1274] 33 (fun (x : Option Addr × Nat) => .tuple #[.slice x.1 r1272.1.length x.2, Zi r1272.2]) (fun (x : Option Addr × Nat) own w => RwO own 1274 [] w 5 R5 x.1 x.2 r1272.1) (fun hk he h => RwO.evo (hits_sub hk (by decide)) he h)⟩, ⟨[2], [], [], Fct.rel [30, 33] (fun l => ∀ (A1273 : Option Addr) (cA1273 : Nat), l.getD 1 undef = .tuple #[sl A1273 r1272.1 cA1273, Zi r1272.2] → l.getD 0 undef = .tuple #[sl A1273 r1272.1 cA1273, Zi r1272.2])⟩, ⟨[3, 2], [], [], Fct.rel [34, 33] (fun l => ∀ (A1273 : Option Addr) (cA1273 : Nat), l.getD 1 undef = .tuple #[sl A1273 r1272.1 cA1273, Zi r1272.2] → l.getD 0 undef = sl A1273 r1272.1 cA1273)⟩, dv [3, 2] [] 35 (Zi r1272.2), ⟨[4, 2], [], [], Fct.rel [9, 33] (fun l => ∀ (A1273 : Option Addr) (cA1273 : Nat), l.getD 1 undef = .tuple #[sl A1273 r1272.1 cA1273, Zi r1272.2] → l.getD 0 undef = sl A1273 r1272.1 cA1273)⟩, dv [5] [] 10 (Zi r1272.2)] z1271 d1271 ?_ ?_
 ·refine sM e1271_0 <| sM e1271_1 <| sFE (fun f hE => or_call cf10 (args2 f.1 f.2.1) (pack_Write_w _ x1264 A1265 cA1265 r1266 A1267 cA1267 (RdO.zero (RdO.evo rfl hE b1271_A1265)) (RdO.zero (RwO.rd (re_ hE b1271_A1267))) r1272 hr1272) (post_mems (m := (fun _ => 0)) (m' := (look0 [(1, 1274)])) (fun _ _ => .inl rfl) (fun own' w' a' x h1 h => ⟨x, h1, RwO.back_ h (by decide) (.inl (Rep.fl_flat _))⟩))) ?_
  refine sc (fun own a wx hf hsl hE => ?_) ?_
  ·obtain ⟨⟨⟨A1273, cA1273⟩, (f_33 : a.eval (.tmp 33) = .tuple #[sl A1273 r1272.1 cA1273, Zi r1272.2]), b_A1273⟩, -⟩ := hf
   exact px (or_mono (f := Fct.val 30 (.tuple #[sl A1273 r1272.1 cA1273, Zi r1272.2])) (or_move f_33) (fun own' a' w' v' hp h => fun _ _ h0' => by cases (f_33.symm.trans ((hp.2 33 (by decide)).symm.trans h0')); exact h))
  refine sc (fun own a wx hf hsl hE => ?_) ?_
  ·obtain ⟨(q_30 : ∀ (A1273 : Option Addr) (cA1273 : Nat), a.eval (.tmp 33) = .tuple #[sl A1273 r1272.1 cA1273, Zi r1272.2] → a.eval (.tmp 30) = .tuple #[sl A1273 r1272.1 cA1273, Zi r1272.2]), ⟨⟨A1273, cA1273⟩, (f_33 : a.eval (.tmp 33) = .tuple #[sl A1273 r1272.1 cA1273, Zi r1272.2]), b_A1273⟩, -⟩ := hf
   have f_30 := q_30 _ _ f_33
   exact px (or_mono (f := Fct.val 34 (sl A1273 r1272.1 cA1273)) (ok1 f_30) (fun own' a' w' v' hp h => fun _ _ h0' => by cases (f_33.symm.trans ((hp.2 33 (by decide)).symm.trans h0')); exact h))
  refine sc (fun own a wx hf hsl hE => ?_) ?_
  ·obtain ⟨(q_30 : ∀ (A1273 : Option Addr) (cA1273 : Nat), a.eval (.tmp 33) = .tuple #[sl A1273 r1272.1 cA1273, Zi r1272.2] → a.eval (.tmp 30) = .tuple #[sl A1273 r1272.1 cA1273, Zi r1272.2]), ⟨⟨A1273, cA1273⟩, f_33, b_A1273⟩, -⟩ := hf
   have f_30 := q_30 _ _ f_33
   exact px (ok1 f_30)
  refine sc (fun own a wx hf hsl hE => ?_) ?_
  ·obtain ⟨(q_34 : ∀ (A1273 : Option Addr) (cA1273 : Nat), a.eval (.tmp 33) = .tuple #[sl A1273 r1272.1 cA1273, Zi r1272.2] → a.eval (.tmp 34) = sl A1273 r1272.1 cA1273), ⟨⟨A1273, cA1273⟩, (f_33 : a.eval (.tmp 33) = .tuple #[sl A1273 r1272.1 cA1273, Zi r1272.2]), b_A1273⟩, -⟩ := hf
   have f_34 := q_34 _ _ f_33
   exact px (or_mono (f := Fct.val 9 (sl A1273 r1272.1 cA1273)) (or_assign f_34) (fun own' a' w' v' hp h => fun _ _ h0' => by cases (f_33.symm.trans ((hp.2 33 (by decide)).symm.trans h0')); exact h))
  exact sA <| steps_nil
 intro o1275 a1275 w1275 d1275 z1275 hk1275 hf1275 hE1275
 obtain ⟨e1275_1, e1275_2, e1275_3⟩ := kt3 hk1275 e1271_1 e1271_2 e1271_3
 have e1275_10 := gv (hf1275 [7] rfl) rfl
 obtain ⟨⟨⟨A1273, cA1273⟩, (f_33 : a1275.eval (.tmp 33) = .tuple #[sl A1273 r1272.1 cA1273, Zi r1272.2]), (b1275_A1273 : RwO o1275 1274 [] w1275 5 R5 A1273 cA1273 r1272.1)⟩, (q_9 : ∀ (A1273 : Option Addr) (cA1273 : Nat), a1275.eval (.tmp 33) = .tuple #[sl A1273 r1272.1 cA1273, Zi r1272.2] → a1275.eval (.tmp 9) = sl A1273 r1272.1 cA1273), -⟩ := hf1275 [2, 6] rfl
 have e1275_9 := q_9 _ _ f_33
 have hX1275 := es_ hX1271 hE1275
 have b1275_A1267 := re_ hE1275 b1271_A1267
 refine fl_seq (fun Q1276 hn1276 hp1276 => ?_)
 refine rq_seq 136 o1275 (bz 2) [dv [] [10] 36 (Zi r1272.2), dv [0] [] 37 (.bool (!decide (r1272.2 = 0)))] z1275 d1275 ?_ ?_
 ·exact sM e1275_10 <| sF (fun f => or_neq f.1 rfl rfl) <| steps_nil
 intro o1277 a1277 w1277 d1277 z1277 hk1277 hf1277 hE1277
 obtain ⟨e1277_1, e1277_2, e1277_3, e1277_9⟩ := kt4 hk1277 e1275_1 e1275_2 e1275_3 e1275_9
 have e1277_37 := gv (hf1277 [1] rfl) rfl
 have hX1277 := es_ hX1275 hE1277
 have b1277_A1267 := re_ hE1277 b1275_A1267
 have b1277_A1273 := re_ hE1277 b1275_A1273
 refine fl_cond e1277_37 hs (fun c1278 hs => ?_) (fun c1278 hs => ?_)
 ·obtain ⟨r1279, hr1279, hs⟩ := obind hs
  refine rq_seq 136 o1277 (bz 2) [dv [] [] 38 (.bool r1279), dv [0] [] 8 (.bool r1279)] z1277 d1277 ?_ ?_
  ·exact sO (or_call cf9 (args0) (law27_known_w _   r1279 hr1279) post_val) <| sA <| steps_nil
  intro o1280 a1280 w1280 d1280 z1280 hk1280 hf1280 hE1280
  have e1280_8 := gv (hf1280 [1] rfl) rfl
  have hX1280 := es_ hX1277 hE1280
  refine fl_ret ?_
  refine hp1276 _ _ _ rfl ?_
  obtain rfl := (osome hs).symm
  exact hret _ _ _ _ (.inl rfl) d1280 (results1_ rfl (RVal.tmp_ e1280_8)) ⟨o1280, rfl, hX1280⟩
 refine fl_skip ?_
 refine hn1276 _ _ ?_
 refine fl_seq (fun Q1281 hn1281 hp1281 => ?_)
 refine rq_seq 136 o1277 (bz 3) [dv [] [9] 39 (sl A1273 r1272.1 cA1273), dv [0] [] 40 (Zi (r1272.1.length : Int)), dv [1] [] 41 (.bool (decide ((r1272.1.length : Int) = 0)))] z1277 d1277 ?_ ?_
 ·exact sM e1277_9 <| sF (fun f => or_len tu22 f.1 rfl) <| sF (fun f => or_eql f.1 rfl rfl) <| steps_nil
 intro o1282 a1282 w1282 d1282 z1282 hk1282 hf1282 hE1282
 obtain ⟨e1282_1, e1282_2, e1282_3, e1282_9⟩ := kt4 hk1282 e1277_1 e1277_2 e1277_3 e1277_9
 have e1282_41 := gv (hf1282 [2] rfl) rfl
 have hX1282 := es_ hX1277 hE1282
 have b1282_A1267 := re_ hE1282 b1277_A1267
 have b1282_A1273 := re_ hE1282 b1277_A1273
 refine fl_cond e1282_41 hs (fun c1283 hs => ?_) (fun c1283 hs => ?_)
 ·refine rq_seq 136 o1282 (bz 1) [dv [] [] 8 (.bool false)] z1282 d1282 ?_ ?_
  ·exact sO (or_assign rfl) <| steps_nil
  intro o1284 a1284 w1284 d1284 z1284 hk1284 hf1284 hE1284
  have e1284_8 := gv (hf1284 [0] rfl) rfl
  have hX1284 := es_ hX1282 hE1284
  refine fl_ret ?_
  refine hp1281 _ _ _ rfl ?_
  obtain rfl := osome hs
  exact hret _ _ _ _ (.inl rfl) d1284 (results1_ rfl (RVal.tmp_ e1284_8)) ⟨o1284, rfl, hX1284⟩
 refine fl_skip ?_
 refine hn1281 _ _ ?_
 obtain ⟨x1285, hx1285, hs⟩ := obind hs
 obtain ⟨x1286, hx1286, hs⟩ := obind hs
 refine rq_seq 136 o1282 [0, 1, 0, 4, 12, 31, 63, 127] [dv [] [2] 42 (Zi x3), dv [0] [] 43 (.int .u64 (IntKind.u64.wrap x3)), dv [] [9] 44 (sl A1273 r1272.1 cA1273), dv [2] [] 45 (Zi (r1272.1.length : Int)), dv [3] [] 46 (.int .u64 x1285), dv [1, 4] [] 47 (.int .u64 x1286), dv [5] [] 48 (Zi (IntKind.i64.wrap x1286)), dv [6] [] 11 (Zi (IntKind.i64.wrap x1286))] z1282 d1282 ?_ ?_
 ·exact sM e1282_2 <| sF (fun f => or_conv f.1 tn3 tn26 rfl) <| sM e1282_9 <| sF (fun f => or_len tu22 f.1 rfl) <| sF (fun f => or_conv f.1 tn3 tn26 (osome hx1285).symm) <| sF (fun f => or_rem f.1 f.2.1 hx1286) <| sF (fun f => or_conv f.1 tn26 tn3 rfl) <| sA <| steps_nil
 intro o1287 a1287 w1287 d1287 z1287 hk1287 hf1287 hE1287
 obtain ⟨e1287_1, e1287_3, e1287_9⟩ := kt3 hk1287 e1282_1 e1282_3 e1282_9
 have e1287_11 := gv (hf1287 [7] rfl) rfl
 have hX1287 := es_ hX1282 hE1287
 have b1287_A1267 := re_ hE1287 b1282_A1267
 have b1287_A1273 := re_ hE1287 b1282_A1273
 obtain ⟨x1288, hx1288, hs⟩ := obind hs
 refine rngO_cases hs (fun n1300 hn1300 hs => ?_) (fun r1290 hr1290 hs => ?_)
 ·refine rq_seq 136 o1287 [0, 0, 3, 7, 15, 31, 31, 63, 255] [dv [] [9] 50 (sl A1273 r1272.1 cA1273), dv [] [11] 51 (Zi (IntKind.i64.wrap x1286)), ⟨[0, 1], [], [], Fct.view [1274] 52 R5 x1288⟩, dv [2] [] 53 (.tuple #[.pointer none, Zi n1300.2]), dv [3] [] 49 (.tuple #[.pointer none, Zi n1300.2]), dv [4] [] 54 (.pointer none), dv [4] [] 55 (Zi n1300.2), dv [5] [] 12 (.pointer none), dv [6] [] 13 (Zi n1300.2)] z1287 d1287 ?_ ?_
  ·refine sM e1287_9 <| sM e1287_11 <| sFE (fun f hE => or_view (R := R5) (l := r1272.1) (L := [1274]) tu22 ts5 f.1 Bnd.none_ (Bnd.some_ f.2.1) Bnd.none_ (RwO.rd (re_ hE b1287_A1273)) hx1288 (.inl rfl) (by simp)) ?_
   refine sc (fun own a wx hf hsl hE => ?_) ?_
   ·obtain ⟨⟨⟨A1301, cA1301⟩, f_52, b_A1301⟩, -⟩ := hf
    exact px (or_call cf12 (args1 f_52) (pack_Open_n _ x1288 A1301 cA1301 (RdO.zero b_A1301) n1300 hn1300) post_val)
   exact sV <| sF (fun f => ok1 f.1) <| sF (fun f => ok1 f.1) <| sA <| sA <| steps_nil
  intro o1302 a1302 w1302 d1302 z1302 hk1302 hf1302 hE1302
  obtain ⟨e1302_1, e1302_3, e1302_9, e1302_11⟩ := kt4 hk1302 e1287_1 e1287_3 e1287_9 e1287_11
  have e1302_12 := gv (hf1302 [7] rfl) rfl
  have e1302_13 := gv (hf1302 [8] rfl) rfl
  have hX1302 := es_ hX1287 hE1302
  have b1302_A1267 := re_ hE1302 b1287_A1267
  have b1302_A1273 := re_ hE1302 b1287_A1273
  refine rq_seq 136 o1302 (bz 1) [dv [] [] 14 (Zi 4)] z1302 d1302 ?_ ?_
  ·exact sO (or_assign rfl) <| steps_nil
  intro o1303 a1303 w1303 d1303 z1303 hk1303 hf1303 hE1303
  obtain ⟨e1303_1, e1303_3, e1303_9, e1303_11, e1303_12, e1303_13⟩ := kt6 hk1303 e1302_1 e1302_3 e1302_9 e1302_11 e1302_12 e1302_13
  have e1303_14 := gv (hf1303 [0] rfl) rfl
  have hX1303 := es_ hX1302 hE1303
  have b1303_A1267 := re_ hE1303 b1302_A1267
  have b1303_A1273 := re_ hE1303 b1302_A1273
  refine fl_seq (fun Q1304 hn1304 hp1304 => ?_)
  have K1310 : ∀ (a1310 : Act) (w1310 : World) (o1310 : Own) (want1309 : Int), a1310.defers = [] → a1310.tmps.size = 136 → a1310.eval (.tmp 1) = sl A1267 r1266 cA1267 → a1310.eval (.tmp 3) = .int .u8 more4 → a1310.eval (.tmp 9) = sl A1273 r1272.1 cA1273 → a1310.eval (.tmp 12) = .pointer none → a1310.eval (.tmp 13) = Zi n1300.2 → a1310.eval (.tmp 14) = Zi want1309 → Evo [] (fun _ => 0) o1310 w w1310 → RwO o1310 1268 [0, 1308] w1310 30 R30 A1267 cA1267 r1266 → RwO o1310 1274 [] w1310 5 R5 A1273 cA1273 r1272.1 → law27_PackCuts_k1 more4 r1266 r1272 n1300 want1309 = some r → Q1304 .normal a1310 w1310 := by
   intro a1310 w1310 o1310 want1309 d1311 z1311 e1311_1 e1311_3 e1311_9 e1311_12 e1311_13 e1311_14 hE1311 b1311_A1267 b1311_A1273 hs
   refine hn1304 _ _ ?_
   obtain ⟨x1314, hx1314, hs⟩ := obind hs
   obtain ⟨x1319, hx1319, hs⟩ := obind hs
   refine rngO_cases hs (fun n1332 hn1332 hs => ?_) (fun r1322 hr1322 hs => ?_)
   ·refine rp_seq 136 o1310 [1334, 1335] [0, 0, 3, 0, 8, 31, 63, 127, 255, 255, 511, 2047] [⟨[], [], [], Fct.row 1334 [] 59 5 R5 ([] : List Int)⟩, dv [] [9] 60 (sl A1273 r1272.1 cA1273), ⟨[0, 1], [], [1334], Fct.row 1335 [] 61 5 R5 x1314⟩, dv [] [3] 62 (.int .u8 more4), ⟨[3], [], [], Fct.row 1338 [] 63 5 R5 [more4]⟩, ⟨[2, 4], [], [1335], Fct.row 1339 [] 64 5 R5 x1319⟩, dv [5] [] 65 (.tuple #[.pointer none, Zi n1332.2]), dv [6] [] 58 (.tuple #[.pointer none, Zi n1332.2]), dv [7] [] 66 (.pointer none), dv [7] [] 67 (Zi n1332.2), dv [8] [] 15 (.pointer none), dv [9] [] 16 (Zi n1332.2)] z1311 d1311 ?_ ?_
    ·refine sO (or_lit (lab := 1334) (e := 5) (cs := #[]) (F := E5) (nw0) rfl rfl (show 0 ≤ maxLen by decide)) <| sM e1311_9 ?_
     refine sc (fun own a wx hf hsl hE => ?_) ?_
     ·obtain ⟨⟨⟨A1333, cA1333⟩, f_59, b_A1333⟩, f_60, -⟩ := hf
      exact px (or_append (R := R5) (lab := 1334) (lab2 := 1335) (L := []) (L3 := []) tp22 f_59 b_A1333 (by decide) f_60 (RwO.rd (re_ hE b1311_A1273)) hx1314 (by decide) (by decide) (mem_of rfl) (.inl (Rep.fl_flat _)))
     refine sM e1311_3 <| sF (fun f => or_lit (lab := 1338) (e := 5) (cs := #[.int .u8 more4]) (F := E5) (nw1 f.1) rfl rfl (show 1 ≤ maxLen by decide)) ?_
     refine sc (fun own a wx hf hsl hE => ?_) ?_
     ·obtain ⟨⟨⟨A1336, cA1336⟩, f_61, b_A1336⟩, ⟨⟨A1337, cA1337⟩, f_63, b_A1337⟩, -⟩ := hf
      exact px (or_append (R := R5) (lab := 1335) (lab2 := 1339) (L := []) (L3 := []) tp22 f_61 b_A1336 (by decide) f_63 (RwO.rd b_A1337) hx1319 (by decide) (by decide) (mem_of rfl) (.inl (Rep.fl_flat _)))
     refine sc (fun own a wx hf hsl hE => ?_) ?_
     ·obtain ⟨⟨⟨A1340, cA1340⟩, f_64, b_A1340⟩, -⟩ := hf
      exact px (or_call cf12 (args1 f_64) (pack_Open_n _ x1319 A1340 cA1340 (RdO.zero (RwO.rd b_A1340)) n1332 hn1332) post_val)
     exact sV <| sF (fun f => ok1 f.1) <| sF (fun f => ok1 f.1) <| sA <| sA <| steps_nil
    intro o1341 a1341 w1341 d1341 z1341 hk1341 hf1341 hE1341
    obtain ⟨e1341_1, e1341_9, e1341_12, e1341_13, e1341_14⟩ := kt5 hk1341 e1311_1 e1311_9 e1311_12 e1311_13 e1311_14
    have e1341_15 := gv (hf1341 [10] rfl) rfl
    have e1341_16 := gv (hf1341 [11] rfl) rfl
    have hX1341 := es_ hE1311 hE1341
    have b1341_A1267 := re_ hE1341 b1311_A1267
    have b1341_A1273 := re_ hE1341 b1311_A1273
    refine rngO_cases hs (fun n1352 hn1352 hs => ?_) (fun r1342 hr1342 hs => ?_)
    ·refine rq_seq 136 o1341 [0, 1, 3, 7, 7, 15, 63] [dv [] [9] 69 (sl A1273 r1272.1 cA1273), dv [0] [] 70 (.tuple #[.pointer none, Zi n1352.2]), dv [1] [] 68 (.tuple #[.pointer none, Zi n1352.2]), dv [2] [] 71 (.pointer none), dv [2] [] 72 (Zi n1352.2), dv [3] [] 17 (.pointer none), dv [4] [] 18 (Zi n1352.2)] z1341 d1341 ?_ ?_
     ·exact sM e1341_9 <| sFE (fun f hE => or_call cf12 (args1 f.1) (pack_Open_n _ r1272.1 A1273 cA1273 (RdO.zero (RwO.rd (re_ hE b1341_A1273))) n1352 hn1352) post_val) <| sV <| sF (fun f => ok1 f.1) <| sF (fun f => ok1 f.1) <| sA <| sA <| steps_nil
     intro o1353 a1353 w1353 d1353 z1353 hk1353 hf1353 hE1353
     obtain ⟨e1353_1, e1353_12, e1353_13, e1353_14, e1353_15, e1353_16⟩ := kt6 hk1353 e1341_1 e1341_12 e1341_13 e1341_14 e1341_15 e1341_16
     have e1353_17 := gv (hf1353 [5] rfl) rfl
     have e1353_18 := gv (hf1353 [6] rfl) rfl
     have hX1353 := es_ hX1341 hE1353
     have b1353_A1267 := re_ hE1353 b1341_A1267
     refine fl_seq (fun Q1354 hn1354 hp1354 => ?_)
     obtain ⟨x1355, hx1355, hs⟩ := obind hs
     refine rq_seq 136 o1353 [0, 1, 3, 7, 7, 31, 63, 127, 255, 511, 1023, 2047, 4095, 8191, 16383, 32767, 65535, 131071, 262143] [dv [] [12] 73 (.pointer none), dv [0] [] 74 (.bool false), dv [1] [] 75 (.bool false), dc [2] [13] (!false) 76 (Zi n1300.2), dc [2] [14] (!false) 77 (Zi want1309), dc [2, 3, 4] [] (!false) 78 (.bool (!decide (n1300.2 = want1309))), dv [2, 5] [] 79 (.bool (!decide (n1300.2 = want1309))), dv [6] [] 80 (.bool (!decide (n1300.2 = want1309))), dc [7] [15] (!(!decide (n1300.2 = want1309))) 81 (.pointer none), dc [7, 8] [] (!(!decide (n1300.2 = want1309))) 82 (.bool false), dv [7, 9] [] 83 (.bool (!decide (n1300.2 = want1309))), dv [10] [] 84 (.bool (!decide (n1300.2 = want1309))), dc [11] [16] (!(!decide (n1300.2 = want1309))) 85 (Zi n1332.2), dc [11, 12] [] (!(!decide (n1300.2 = want1309))) 86 (.bool (!decide (n1332.2 = 3))), dv [11, 13] [] 87 (.bool x1355), dv [14] [] 88 (.bool x1355), dc [15] [18] (!x1355) 89 (Zi n1352.2), dc [15, 16] [] (!x1355) 90 (.bool (!decide (n1352.2 = 0))), dv [15, 17] [] 91 (.bool (x1355 || (!decide (n1352.2 = 0))))] z1353 d1353 ?_ ?_
     ·exact sM e1353_12 <| sF (fun f => ok1 f.1) <| sV <| cF (fun _ s _ _ => or_move (s.1.trans e1353_13)) <| cF (fun _ s _ _ => or_move (s.1.trans e1353_14)) <| cF (fun f _ _ hg => or_neq (f.2.1.1 hg) (f.2.2.1.1 hg) rfl) <| sF (fun f => or_or f.1 rfl (fun hx => f.2.1.1 hx) rfl) <| sV <| cF (fun _ s _ _ => or_move (s.1.trans e1353_15)) <| cF (fun f _ _ hg => ok1 (f.2.1.1 hg)) <| sF (fun f => or_or f.1 rfl (fun hx => f.2.1.1 hx) (Bool.or_false _)) <| sV <| cF (fun _ s _ _ => or_move (s.1.trans e1353_16)) <| cF (fun f _ _ hg => or_neq (f.2.1.1 hg) rfl rfl) <| sF (fun f => or_or f.1 rfl (fun hx => f.2.1.1 hx) (osome hx1355).symm) <| sV <| cF (fun _ s _ _ => or_move (s.1.trans e1353_18)) <| cF (fun f _ _ hg => or_neq (f.2.1.1 hg) rfl rfl) <| sF (fun f => or_or f.1 rfl (fun hx => f.2.1.1 hx) rfl) <| steps_nil
     intro o1356 a1356 w1356 d1356 z1356 hk1356 hf1356 hE1356
     obtain ⟨e1356_1, e1356_17⟩ := kt2 hk1356 e1353_1 e1353_17
     have e1356_91 := gv (hf1356 [18] rfl) rfl
     have hX1356 := es_ hX1353 hE1356
     have b1356_A1267 := re_ hE1356 b1353_A1267
     refine fl_cond e1356_91 hs (fun c1357 hs => ?_) (fun c1357 hs => ?_)
     ·refine rq_seq 136 o1356 (bz 1) [dv [] [] 8 (.bool false)] z1356 d1356 ?_ ?_
      ·exact sO (or_assign rfl) <| steps_nil
      intro o1358 a1358 w1358 d1358 z1358 hk1358 hf1358 hE1358
      have e1358_8 := gv (hf1358 [0] rfl) rfl
      have hX1358 := es_ hX1356 hE1358
      refine fl_ret ?_
      refine hp1354 _ _ _ rfl ?_
      obtain rfl := osome hs
      exact hret _ _ _ _ (.inl rfl) d1358 (results1_ rfl (RVal.tmp_ e1358_8)) ⟨o1358, rfl, hX1358⟩
     refine fl_skip ?_
     refine hn1354 _ _ ?_
     refine rq_seq 136 o1356 (bz 1) [dv [] [] 19 (Zi 0)] z1356 d1356 ?_ ?_
     ·exact sO (or_assign rfl) <| steps_nil
     intro o1359 a1359 w1359 d1359 z1359 hk1359 hf1359 hE1359
     obtain ⟨e1359_1, e1359_17⟩ := kt2 hk1359 e1356_1 e1356_17
     have e1359_19 := gv (hf1359 [0] rfl) rfl
     have hX1359 := es_ hX1356 hE1359
     have b1359_A1267 := re_ hE1359 b1356_A1267
     refine fl_seq (fun Q1360 hn1360 hp1360 => ?_)
     refine rq_seq 136 o1359 (bz 1) [dv [] [] 20 (Zi 0)] z1359 d1359 ?_ ?_
     ·exact sO (or_assign rfl) <| steps_nil
     intro o1361 a1361 w1361 d1361 z1361 hk1361 hf1361 hE1361
     obtain ⟨e1361_1, e1361_17, e1361_19⟩ := kt3 hk1361 e1359_1 e1359_17 e1359_19
     have e1361_20 := gv (hf1361 [0] rfl) rfl
     have hX1361 := es_ hX1359 hE1361
     have b1361_A1267 := re_ hE1361 b1359_A1267
     refine fl_block (fun Q1362 hn1362 hx1362 hp1362 => ?_)
     refine fl_loop (body := (fun s => law27_PackCuts_b2 r1266 s.1 s.2)) (z := r) (show loopO _ _ = _ from hs) (fun (s : Int × Int) a wx => match s with | (n1429, i1430) => ∃ (ox : Own), a.defers = [] ∧ a.tmps.size = 136 ∧ a.eval (.tmp 1) = sl A1267 r1266 cA1267 ∧ a.eval (.tmp 17) = .pointer none ∧ a.eval (.tmp 19) = Zi n1429 ∧ a.eval (.tmp 20) = Zi i1430 ∧ Evo [] (fun _ => 0) ox w wx ∧ RwO ox 1268 [0, 1428] wx 30 R30 A1267 cA1267 r1266) ?_ ?_
     ·exact ⟨(rl [(1308, 1428)] o1361), d1361, z1361, e1361_1, e1361_17, e1361_19, e1361_20, (Evo.rl_ hX1361 (fun _ => Nat.le_refl 0) rfl), (RwO.rl_ b1361_A1267)⟩
     ·rintro ⟨n1429, i1430⟩ zz1647 a1647 w1647 ⟨o1647, d1648, z1648, e1648_1, e1648_17, e1648_19, e1648_20, hE1648, b1648_A1267⟩ hs Q1647 hn1647 hp1647 z1647
      have hs : law27_PackCuts_b2 r1266 n1429 i1430 = some zz1647 := hs
      refine fl_seq (fun Q1649 hn1649 hp1649 => ?_)
      refine rq_seq 136 o1647 [0, 0, 2, 7] [dv [] [20] 92 (Zi i1430), dv [] [1] 93 (sl A1267 r1266 cA1267), dv [1] [] 94 (Zi (r1266.length : Int)), dv [0, 2] [] 95 (.bool (decide (i1430 < (r1266.length : Int))))] z1648 d1648 ?_ ?_
      ·exact sM e1648_20 <| sM e1648_1 <| sF (fun f => or_len tu23 f.1 rfl) <| sF (fun f => or_lss f.1 f.2.1 rfl) <| steps_nil
      intro o1650 a1650 w1650 d1650 z1650 hk1650 hf1650 hE1650
      obtain ⟨e1650_1, e1650_17, e1650_19, e1650_20⟩ := kt4 hk1650 e1648_1 e1648_17 e1648_19 e1648_20
      have e1650_95 := gv (hf1650 [3] rfl) rfl
      have hX1650 := es_ hE1648 hE1650
      have b1650_A1267 := re_ hE1650 b1648_A1267
      refine fl_cond e1650_95 hs (fun c1651 hs => ?_) (fun c1651 hs => ?_)
      ·refine fl_skip ?_
       refine hn1649 _ _ ?_
       refine fl_seq (fun Q1652 hn1652 hp1652 => ?_)
       refine fl_block (fun Q1758 hn1758 hx1758 hp1758 => ?_)
       have K1811 : ∀ (a1811 : Act) (w1811 : World) (o1811 : Own) (n1810 : Int), a1811.defers = [] → a1811.tmps.size = 136 → a1811.eval (.tmp 1) = sl A1267 r1266 cA1267 → a1811.eval (.tmp 17) = .pointer none → a1811.eval (.tmp 19) = Zi n1810 → a1811.eval (.tmp 20) = Zi i1430 → Evo [] (fun _ => 0) o1811 w w1811 → RwO o1811 1268 [0, 1809] w1811 30 R30 A1267 cA1267 r1266 → law27_PackCuts_k3 i1430 n1810 = some zz1647 → (Q1758 .normal a1811 w1811 ∧ Q1758 (.exit 1) a1811 w1811) := by
        intro a1811 w1811 o1811 n1810 d1812 z1812 e1812_1 e1812_17 e1812_19 e1812_20 hE1812 b1812_A1267 hs
        refine and_both (hn1758 _ _) (hx1758 _ _) ?_
        refine hn1652 _ _ ?_
        refine rq 136 o1811 (bz 3) [dv [] [20] 96 (Zi i1430), dv [0] [] 97 (Zi (ad i1430 1)), dv [1] [] 20 (Zi (ad i1430 1))] z1812 d1812 ?_ ?_
        ·exact sM e1812_20 <| sF (fun f => or_add f.1 rfl rfl) <| sA <| steps_nil
        intro o1813 a1813 w1813 d1813 z1813 hk1813 hf1813 hE1813
        obtain ⟨e1813_1, e1813_17, e1813_19⟩ := kt3 hk1813 e1812_1 e1812_17 e1812_19
        have e1813_20 := gv (hf1813 [2] rfl) rfl
        have hX1813 := es_ hE1812 hE1813
        have b1813_A1267 := re_ hE1813 b1812_A1267
        exact hn1647 _ _ _ hs ⟨(rl [(1809, 1428)] o1813), d1813, z1813, e1813_1, e1813_17, e1813_19, e1813_20, (Evo.rl_ hX1813 (fun _ => Nat.le_refl 0) rfl), (RwO.rl_ b1813_A1267)⟩
       refine rq_seq 136 o1650 (bz 1) [dv [] [] 21 (.bool true)] z1650 d1650 ?_ ?_
       ·exact sO (or_assign rfl) <| steps_nil
       intro o1814 a1814 w1814 d1814 z1814 hk1814 hf1814 hE1814
       obtain ⟨e1814_1, e1814_17, e1814_19, e1814_20⟩ := kt4 hk1814 e1650_1 e1650_17 e1650_19 e1650_20
       have e1814_21 := gv (hf1814 [0] rfl) rfl
       have hX1814 := es_ hX1650 hE1814
       have b1814_A1267 := re_ hE1814 b1650_A1267
       refine fl_seq (fun Q1815 hn1815 hp1815 => ?_)
       refine rq_seq 136 o1814 (bz 1) [dv [] [] 22 (Zi 0)] z1814 d1814 ?_ ?_
       ·exact sO (or_assign rfl) <| steps_nil
       intro o1816 a1816 w1816 d1816 z1816 hk1816 hf1816 hE1816
       obtain ⟨e1816_1, e1816_17, e1816_19, e1816_20, e1816_21⟩ := kt5 hk1816 e1814_1 e1814_17 e1814_19 e1814_20 e1814_21
       have e1816_22 := gv (hf1816 [0] rfl) rfl
       have hX1816 := es_ hX1814 hE1816
       have b1816_A1267 := re_ hE1816 b1814_A1267
       refine fl_block (fun Q1817 hn1817 hx1817 hp1817 => ?_)
       refine fl_loop (body := (fun s => law27_PackCuts_b4 r1266 n1429 i1430 s.1 s.2)) (z := zz1647) (show loopO _ _ = _ from hs) (fun (s : Bool × Int) a wx => match s with | (first1832, j1833) => ∃ (ox : Own), a.defers = [] ∧ a.tmps.size = 136 ∧ a.eval (.tmp 1) = sl A1267 r1266 cA1267 ∧ a.eval (.tmp 17) = .pointer none ∧ a.eval (.tmp 19) = Zi n1429 ∧ a.eval (.tmp 20) = Zi i1430 ∧ a.eval (.tmp 21) = .bool first1832 ∧ a.eval (.tmp 22) = Zi j1833 ∧ Evo [] (fun _ => 0) ox w wx ∧ RwO ox 1268 [0, 1831] wx 30 R30 A1267 cA1267 r1266) ?_ ?_
       ·exact ⟨(rl [(1428, 1831)] o1816), d1816, z1816, e1816_1, e1816_17, e1816_19, e1816_20, e1816_21, e1816_22, (Evo.rl_ hX1816 (fun _ => Nat.le_refl 0) rfl), (RwO.rl_ b1816_A1267)⟩
       ·rintro ⟨first1832, j1833⟩ zz1847 a1847 w1847 ⟨o1847, d1848, z1848, e1848_1, e1848_17, e1848_19, e1848_20, e1848_21, e1848_22, hE1848, b1848_A1267⟩ hs Q1847 hn1847 hp1847 z1847
        have hs : law27_PackCuts_b4 r1266 n1429 i1430 first1832 j1833 = some zz1847 := hs
        refine fl_seq (fun Q1849 hn1849 hp1849 => ?_)
        refine rq_seq 136 o1847 [0, 0, 3] [dv [] [22] 98 (Zi j1833), dv [] [20] 99 (Zi i1430), dv [0, 1] [] 100 (.bool (decide (j1833 < i1430)))] z1848 d1848 ?_ ?_
        ·exact sM e1848_22 <| sM e1848_20 <| sF (fun f => or_lss f.1 f.2.1 rfl) <| steps_nil
        intro o1850 a1850 w1850 d1850 z1850 hk1850 hf1850 hE1850
        obtain ⟨e1850_1, e1850_17, e1850_19, e1850_20, e1850_21, e1850_22⟩ := kt6 hk1850 e1848_1 e1848_17 e1848_19 e1848_20 e1848_21 e1848_22
        have e1850_100 := gv (hf1850 [2] rfl) rfl
        have hX1850 := es_ hE1848 hE1850
        have b1850_A1267 := re_ hE1850 b1848_A1267
        refine fl_cond e1850_100 hs (fun c1851 hs => ?_) (fun c1851 hs => ?_)
        ·refine fl_skip ?_
         refine hn1849 _ _ ?_
         refine fl_seq (fun Q1852 hn1852 hp1852 => ?_)
         refine fl_block (fun Q1853 hn1853 hx1853 hp1853 => ?_)
         obtain ⟨x1854, hx1854, hs⟩ := obind hs
         obtain ⟨x1856, hx1856, hs⟩ := obind hs
         obtain ⟨x1858, hx1858, hs⟩ := obind hs
         refine rd_ g_mixed 136 [] o1850 [] [0, 1, 3, 3, 15, 31, 63, 127, 3, 3, 771, 1795, 3843, 7939, 16383, 32767, 65535] [dv [] [21] 103 (.bool first1832), dv [0] [] 104 (.bool first1832), dc [1] [1] first1832 105 (sl A1267 r1266 cA1267), dc [1] [22] first1832 106 (Zi j1833), dc [1, 2, 3] [] first1832 107 (.pointer (some ((adr A1267).add ((j1833 : Int).toNat * R30.s)))), dc [1, 4] [] first1832 108 (.pointer (some (((adr A1267).add ((j1833 : Int).toNat * R30.s)).add 3))), ⟨[1, 5], [], [], Fct.cond first1832 (some 109) (Fct.nest X30 [1268, 0, 1831] 109 (fun (y : (Unit × (Option Addr × Nat))) => .slice y.2.1 x1854.2.length y.2.2) x1854)⟩, dc [1, 6] [] first1832 110 (.string (bsS x1854.2)), dc [1] [1] first1832 111 (sl A1267 r1266 cA1267), dc [1] [20] first1832 112 (Zi i1430), dc [1, 8, 9] [] first1832 113 (.pointer (some ((adr A1267).add ((i1430 : Int).toNat * R30.s)))), dc [1, 10] [] first1832 114 (.pointer (some (((adr A1267).add ((i1430 : Int).toNat * R30.s)).add 3))), ⟨[1, 11], [], [], Fct.cond first1832 (some 115) (Fct.nest X30 [1268, 0, 1831] 115 (fun (y : (Unit × (Option Addr × Nat))) => .slice y.2.1 x1856.2.length y.2.2) x1856)⟩, dc [1, 12] [] first1832 116 (.string (bsS x1856.2)), dc [1, 7, 13] [] first1832 117 (.bool (!eqS (bsS x1854.2) (bsS x1856.2))), dv [1, 14] [] 118 (.bool x1858), dv [15] [] 21 (.bool x1858)] z1850 d1850 nm_ ?_ ?_
         ·refine sM e1850_21 <| sV <| cT (fun _ s _ _ => or_move (s.1.trans e1850_1)) <| cT (fun _ s _ _ => or_move (s.1.trans e1850_22)) <| cT (fun f _ _ hg => or_index (R := R30) (l := r1266) tl23 (f.2.1.1 hg) (f.2.2.1.1 hg) (RdO.some_ (RwO.rd b1850_A1267) (gd_t hx1854 hg)) (gd_t hx1854 hg)) <| cT (fun f _ _ hg => or_field fo30_1 (f.2.1.1 hg) rfl) <| cT (fun f _ hE hg => or_loadN1 X30 3 to22 (f.2.1.1 hg) rfl (RwO.rd (re_ hE b1850_A1267)) (gd_t hx1854 hg) (fun _ => rfl)) ?_
          refine sc (fun own a wx hf hsl hE => ?_) ?_
          ·obtain ⟨f_104, c_109, -⟩ := hf
           refine sg_t rfl rfl rfl f_104 (fun hg => ?_)
           obtain ⟨⟨_, ⟨A1855, cA1855⟩⟩, f_109, ⟨-, b_A1855⟩⟩ := c_109.1 hg
           exact or_convBS tu22 tn5 tS9 f_109 b_A1855
          refine cT (fun _ s _ _ => or_move (s.1.trans e1850_1)) <| cT (fun _ s _ _ => or_move (s.1.trans e1850_20)) <| cT (fun f _ _ hg => or_index (R := R30) (l := r1266) tl23 (f.2.1.1 hg) (f.2.2.1.1 hg) (RdO.some_ (RwO.rd b1850_A1267) (gd_t hx1856 hg)) (gd_t hx1856 hg)) <| cT (fun f _ _ hg => or_field fo30_1 (f.2.1.1 hg) rfl) <| cT (fun f _ hE hg => or_loadN1 X30 3 to22 (f.2.1.1 hg) rfl (RwO.rd (re_ hE b1850_A1267)) (gd_t hx1856 hg) (fun _ => rfl)) ?_
          refine sc (fun own a wx hf hsl hE => ?_) ?_
          ·obtain ⟨f_104, c_115, -⟩ := hf
           refine sg_t rfl rfl rfl f_104 (fun hg => ?_)
           obtain ⟨⟨_, ⟨A1857, cA1857⟩⟩, f_115, ⟨-, b_A1857⟩⟩ := c_115.1 hg
           exact or_convBS tu22 tn5 tS9 f_115 b_A1857
          exact cT (fun f _ _ hg => or_neqS tS9 (f.2.1.1 hg) (f.2.2.1.1 hg) rfl) <| sF (fun f => or_and f.1 (fun hx => f.2.1.1 hx) rfl (osome hx1858).symm) <| sA <| steps_nil
         intro o1859 a1859 w1859 d1859 z1859 hk1859 hf1859 hE1859
         obtain ⟨e1859_1, e1859_17, e1859_19, e1859_20, e1859_22⟩ := kt5 hk1859 e1850_1 e1850_17 e1850_19 e1850_20 e1850_22
         have e1859_21 := gv (hf1859 [16] rfl) rfl
         have hX1859 := es_ hX1850 hE1859
         have b1859_A1267 := re_ hE1859 b1850_A1267
         refine hn1853 _ _ ?_
         refine hn1852 _ _ ?_
         refine rq 136 o1859 (bz 3) [dv [] [22] 101 (Zi j1833), dv [0] [] 102 (Zi (ad j1833 1)), dv [1] [] 22 (Zi (ad j1833 1))] z1859 d1859 ?_ ?_
         ·exact sM e1859_22 <| sF (fun f => or_add f.1 rfl rfl) <| sA <| steps_nil
         intro o1860 a1860 w1860 d1860 z1860 hk1860 hf1860 hE1860
         obtain ⟨e1860_1, e1860_17, e1860_19, e1860_20, e1860_21⟩ := kt5 hk1860 e1859_1 e1859_17 e1859_19 e1859_20 e1859_21
         have e1860_22 := gv (hf1860 [2] rfl) rfl
         have hX1860 := es_ hX1859 hE1860
         have b1860_A1267 := re_ hE1860 b1859_A1267
         exact hn1847 _ _ _ hs ⟨o1860, d1860, z1860, e1860_1, e1860_17, e1860_19, e1860_20, e1860_21, e1860_22, hX1860, b1860_A1267⟩
        refine fl_exit ?_
        refine hp1849 _ _ _ rfl ?_
        replace hs := z1847 _ hs
        refine hp1847 _ _ _ rfl ?_
        refine hx1817 _ _ ?_
        refine hn1815 _ _ ?_
        refine rq_seq 136 o1850 (bz 1) [dv [] [21] 119 (.bool first1832)] z1850 d1850 ?_ ?_
        ·exact sM e1850_21 <| steps_nil
        intro o1861 a1861 w1861 d1861 z1861 hk1861 hf1861 hE1861
        obtain ⟨e1861_1, e1861_17, e1861_19, e1861_20⟩ := kt4 hk1861 e1850_1 e1850_17 e1850_19 e1850_20
        have e1861_119 := gv (hf1861 [0] rfl) rfl
        have hX1861 := es_ hX1850 hE1861
        have b1861_A1267 := re_ hE1861 b1850_A1267
        refine fl_cond e1861_119 hs (fun c1862 hs => ?_) (fun c1862 hs => ?_)
        ·refine rq 136 o1861 (bz 3) [dv [] [19] 120 (Zi n1429), dv [0] [] 121 (Zi (ad n1429 1)), dv [1] [] 19 (Zi (ad n1429 1))] z1861 d1861 ?_ ?_
         ·exact sM e1861_19 <| sF (fun f => or_add f.1 rfl rfl) <| sA <| steps_nil
         intro o1863 a1863 w1863 d1863 z1863 hk1863 hf1863 hE1863
         obtain ⟨e1863_1, e1863_17, e1863_20⟩ := kt3 hk1863 e1861_1 e1861_17 e1861_20
         have e1863_19 := gv (hf1863 [2] rfl) rfl
         have hX1863 := es_ hX1861 hE1863
         have b1863_A1267 := re_ hE1863 b1861_A1267
         exact (K1811 _ _ (rl [(1831, 1809)] o1863) _ d1863 z1863 e1863_1 e1863_17 e1863_19 e1863_20 (Evo.rl_ hX1863 (fun _ => Nat.le_refl 0) rfl) (RwO.rl_ b1863_A1267) hs).1
        refine fl_skip ?_
        exact (K1811 _ _ (rl [(1831, 1809)] o1861) _ d1861 z1861 e1861_1 e1861_17 e1861_19 e1861_20 (Evo.rl_ hX1861 (fun _ => Nat.le_refl 0) rfl) (RwO.rl_ b1861_A1267) hs).1
      refine fl_exit ?_
      refine hp1649 _ _ _ rfl ?_
      replace hs := z1647 _ hs
      refine hp1647 _ _ _ rfl ?_
      refine hx1362 _ _ ?_
      refine hn1360 _ _ ?_
      obtain ⟨r1864, hr1864, hs⟩ := obind hs
      obtain ⟨x1865, hx1865, hs⟩ := obind hs
      refine rq_seq 136 o1650 [0, 1, 3, 7, 3, 31, 63, 127, 255, 511, 255, 1279, 4095, 8191, 16383] [dv [] [] 122 (.bool r1864), dv [0] [] 123 (.bool r1864), dc [1] [17] r1864 124 (.pointer none), dc [1, 2] [] r1864 125 (Zi 0), dc [1] [19] r1864 126 (Zi n1429), dc [1, 3, 4] [] r1864 127 (.bool (decide (0 = n1429))), dv [1, 5] [] 128 (.bool (r1864 && (decide (0 = n1429)))), dv [6] [] 129 (.bool (r1864 && (decide (0 = n1429)))), dc [7] [17] (r1864 && (decide (0 = n1429))) 130 (.pointer none), dc [7, 8] [] (r1864 && (decide (0 = n1429))) 131 (Zi 0), dc [7] [1] (r1864 && (decide (0 = n1429))) 132 (sl A1267 r1266 cA1267), dc [7, 10] [] (r1864 && (decide (0 = n1429))) 133 (Zi (r1266.length : Int)), dc [7, 9, 11] [] (r1864 && (decide (0 = n1429))) 134 (.bool (decide (0 = (r1266.length : Int)))), dv [7, 12] [] 135 (.bool x1865), dv [13] [] 8 (.bool x1865)] z1650 d1650 ?_ ?_
      ·exact sO (or_call cf9 (args0) (law27_known_w _   r1864 hr1864) post_val) <| sV <| cT (fun _ s _ _ => or_move (s.1.trans e1650_17)) <| cT (fun f _ _ hg => or_call cf13 (args1 (f.2.1.1 hg)) (pack_Pack_Blobs_nil_w _   0 rfl) post_val) <| cT (fun _ s _ _ => or_move (s.1.trans e1650_19)) <| cT (fun f _ _ hg => or_eql (f.2.1.1 hg) (f.2.2.1.1 hg) rfl) <| sF (fun f => or_and f.1 (fun hx => f.2.1.1 hx) rfl rfl) <| sV <| cT (fun _ s _ _ => or_move (s.1.trans e1650_17)) <| cT (fun f _ _ hg => or_call cf14 (args1 (f.2.1.1 hg)) (pack_Pack_Len_nil_w _   0 rfl) post_val) <| cT (fun _ s _ _ => or_move (s.1.trans e1650_1)) <| cT (fun f _ _ hg => or_len tu23 (f.2.1.1 hg) rfl) <| cT (fun f _ _ hg => or_eql (f.2.1.1 hg) (f.2.2.1.1 hg) rfl) <| sF (fun f => or_and f.1 (fun hx => f.2.1.1 hx) rfl (osome hx1865).symm) <| sA <| steps_nil
      intro o1866 a1866 w1866 d1866 z1866 hk1866 hf1866 hE1866
      have e1866_8 := gv (hf1866 [14] rfl) rfl
      have hX1866 := es_ hX1650 hE1866
      refine fl_ret ?_
      obtain rfl := (osome hs).symm
      exact hret _ _ _ _ (.inl rfl) d1866 (results1_ rfl (RVal.tmp_ e1866_8)) ⟨o1866, rfl, hX1866⟩
    refine rq_seq 136 o1341 [0, 1, 3, 7, 7, 15, 63] [dv [] [9] 69 (sl A1273 r1272.1 cA1273), ⟨[0], [], [], Fct.mems [1347, 1348, 1349, 1350, 1351] 70 (fun (x : (Option Addr × Nat) × (Option Addr × Nat) × (Option Addr × Nat) × (Option Addr × Nat)) => .tuple #[.pointer (some ⟨x.1.2, 0, none⟩), Zi r1342.2]) (fun (x : (Option Addr × Nat) × (Option Addr × Nat) × (Option Addr × Nat) × (Option Addr × Nat)) own w => RwO own 1347 [] w 5 R5 x.2.1.1 x.2.1.2 r1342.1.1 ∧ RwO own 1348 [1349] w 22 R22 x.2.2.1.1 x.2.2.1.2 r1342.1.2.1 ∧ RwO own 1350 [] w 66 R66 x.2.2.2.1 x.2.2.2.2 r1342.1.2.2 ∧ BlkO own 1351 w x.1.2 64 #[.slice x.2.1.1 r1342.1.1.length x.2.1.2, .slice x.2.2.1.1 r1342.1.2.1.length x.2.2.1.2, .slice x.2.2.2.1 r1342.1.2.2.length x.2.2.2.2]) (fun hk he h => ⟨RwO.evo (hits_sub hk (by decide)) he h.1, RwO.evo (hits_sub hk (by decide)) he h.2.1, RwO.evo (hits_sub hk (by decide)) he h.2.2.1, BlkO.evo (not_hit hk (by decide)) he h.2.2.2⟩)⟩, ⟨[1], [], [], Fct.rel [68, 70] (fun l => ∀ (cA1343 : Nat), l.getD 1 undef = .tuple #[pt cA1343 0, Zi r1342.2] → l.getD 0 undef = .tuple #[pt cA1343 0, Zi r1342.2])⟩, ⟨[2, 1], [], [], Fct.rel [71, 70] (fun l => ∀ (cA1343 : Nat), l.getD 1 undef = .tuple #[pt cA1343 0, Zi r1342.2] → l.getD 0 undef = pt cA1343 0)⟩, dv [2, 1] [] 72 (Zi r1342.2), ⟨[3, 1], [], [], Fct.rel [17, 70] (fun l => ∀ (cA1343 : Nat), l.getD 1 undef = .tuple #[pt cA1343 0, Zi r1342.2] → l.getD 0 undef = pt cA1343 0)⟩, dv [4] [] 18 (Zi r1342.2)] z1341 d1341 ?_ ?_
    ·refine sM e1341_9 <| sFE (fun f hE => or_call cf12 (args1 f.1) (pack_Open_w _ r1272.1 A1273 cA1273 (RdO.zero (RwO.rd (re_ hE b1341_A1273))) r1342 hr1342) (post_mems (m := (fun _ => 0)) (m' := (look0 [(1, 1351), (2, 1347), (3, 1348), (4, 1349), (5, 1350)])) (fun _ _ => .inl rfl) (fun own' w' a' x h1 h => ⟨x, h1, ⟨RwO.back_ h.1 (by decide) (.inl (Rep.fl_flat _)), RwO.back_ h.2.1 (by decide) (.inr (by decide)), RwO.back_ h.2.2.1 (by decide) (.inl (Rep.fl_flat _)), BlkO.back_ h.2.2.2 (by decide)⟩⟩))) ?_
     refine sc (fun own a wx hf hsl hE => ?_) ?_
     ·obtain ⟨⟨⟨⟨A1343, cA1343⟩, ⟨A1344, cA1344⟩, ⟨A1345, cA1345⟩, ⟨A1346, cA1346⟩⟩, (f_70 : a.eval (.tmp 70) = .tuple #[pt cA1343 0, Zi r1342.2]), b_A1344, b_A1345, b_A1346, b_cA1343⟩, -⟩ := hf
      exact px (or_mono (f := Fct.val 68 (.tuple #[pt cA1343 0, Zi r1342.2])) (or_move f_70) (fun own' a' w' v' hp h => fun _ h0' => by cases (f_70.symm.trans ((hp.2 70 (by decide)).symm.trans h0')); exact h))
     refine sc (fun own a wx hf hsl hE => ?_) ?_
     ·obtain ⟨(q_68 : ∀ (cA1343 : Nat), a.eval (.tmp 70) = .tuple #[pt cA1343 0, Zi r1342.2] → a.eval (.tmp 68) = .tuple #[pt cA1343 0, Zi r1342.2]), ⟨⟨⟨A1343, cA1343⟩, ⟨A1344, cA1344⟩, ⟨A1345, cA1345⟩, ⟨A1346, cA1346⟩⟩, (f_70 : a.eval (.tmp 70) = .tuple #[pt cA1343 0, Zi r1342.2]), b_A1344, b_A1345, b_A1346, b_cA1343⟩, -⟩ := hf
      have f_68 := q_68 _ f_70
      exact px (or_mono (f := Fct.val 71 (pt cA1343 0)) (ok1 f_68) (fun own' a' w' v' hp h => fun _ h0' => by cases (f_70.symm.trans ((hp.2 70 (by decide)).symm.trans h0')); exact h))
     refine sc (fun own a wx hf hsl hE => ?_) ?_
     ·obtain ⟨(q_68 : ∀ (cA1343 : Nat), a.eval (.tmp 70) = .tuple #[pt cA1343 0, Zi r1342.2] → a.eval (.tmp 68) = .tuple #[pt cA1343 0, Zi r1342.2]), ⟨⟨⟨A1343, cA1343⟩, ⟨A1344, cA1344⟩, ⟨A1345, cA1345⟩, ⟨A1346, cA1346⟩⟩, f_70, b_A1344, b_A1345, b_A1346, b_cA1343⟩, -⟩ := hf
      have f_68 := q_68 _ f_70
      exact px (ok1 f_68)
     refine sc (fun own a wx hf hsl hE => ?_) ?_
     ·obtain ⟨(q_71 : ∀ (cA1343 : Nat), a.eval (.tmp 70) = .tuple #[pt cA1343 0, Zi r1342.2] → a.eval (.tmp 71) = pt cA1343 0), ⟨⟨⟨A1343, cA1343⟩, ⟨A1344, cA1344⟩, ⟨A1345, cA1345⟩, ⟨A1346, cA1346⟩⟩, (f_70 : a.eval (.tmp 70) = .tuple #[pt cA1343 0, Zi r1342.2]), b_A1344, b_A1345, b_A1346, b_cA1343⟩, -⟩ := hf
      have f_71 := q_71 _ f_70
      exact px (or_mono (f := Fct.val 17 (pt cA1343 0)) (or_assign f_71) (fun own' a' w' v' hp h => fun _ h0' => by cases (f_70.symm.trans ((hp.2 70 (by decide)).symm.trans h0')); exact h))
     exact sA <| steps_nil
    intro o1867 a1867 w1867 d1867 z1867 hk1867 hf1867 hE1867
    obtain ⟨e1867_1, e1867_12, e1867_13, e1867_14, e1867_15, e1867_16⟩ := kt6 hk1867 e1341_1 e1341_12 e1341_13 e1341_14 e1341_15 e1341_16
    have e1867_18 := gv (hf1867 [6] rfl) rfl
    obtain ⟨⟨⟨⟨A1343, cA1343⟩, ⟨A1344, cA1344⟩, ⟨A1345, cA1345⟩, ⟨A1346, cA1346⟩⟩, (f_70 : a1867.eval (.tmp 70) = .tuple #[pt cA1343 0, Zi r1342.2]), (b1867_A1344 : RwO o1867 1347 [] w1867 5 R5 A1344 cA1344 r1342.1.1), (b1867_A1345 : RwO o1867 1348 [1349] w1867 22 R22 A1345 cA1345 r1342.1.2.1), (b1867_A1346 : RwO o1867 1350 [] w1867 66 R66 A1346 cA1346 r1342.1.2.2), (b1867_cA1343 : BlkO o1867 1351 w1867 cA1343 64 #[sl A1344 r1342.1.1 cA1344, sl A1345 r1342.1.2.1 cA1345, sl A1346 r1342.1.2.2 cA1346])⟩, (q_17 : ∀ (cA1343 : Nat), a1867.eval (.tmp 70) = .tuple #[pt cA1343 0, Zi r1342.2] → a1867.eval (.tmp 17) = pt cA1343 0), -⟩ := hf1867 [1, 5] rfl
    have e1867_17 := q_17 _ f_70
    have hX1867 := es_ hX1341 hE1867
    have b1867_A1267 := re_ hE1867 b1341_A1267
    refine fl_seq (fun Q1868 hn1868 hp1868 => ?_)
    obtain ⟨x1869, hx1869, hs⟩ := obind hs
    refine rq_seq 136 o1867 [0, 1, 3, 7, 7, 31, 63, 127, 255, 511, 1023, 2047, 4095, 8191, 16383, 32767, 65535, 131071, 262143] [dv [] [12] 73 (.pointer none), dv [0] [] 74 (.bool false), dv [1] [] 75 (.bool false), dc [2] [13] (!false) 76 (Zi n1300.2), dc [2] [14] (!false) 77 (Zi want1309), dc [2, 3, 4] [] (!false) 78 (.bool (!decide (n1300.2 = want1309))), dv [2, 5] [] 79 (.bool (!decide (n1300.2 = want1309))), dv [6] [] 80 (.bool (!decide (n1300.2 = want1309))), dc [7] [15] (!(!decide (n1300.2 = want1309))) 81 (.pointer none), dc [7, 8] [] (!(!decide (n1300.2 = want1309))) 82 (.bool false), dv [7, 9] [] 83 (.bool (!decide (n1300.2 = want1309))), dv [10] [] 84 (.bool (!decide (n1300.2 = want1309))), dc [11] [16] (!(!decide (n1300.2 = want1309))) 85 (Zi n1332.2), dc [11, 12] [] (!(!decide (n1300.2 = want1309))) 86 (.bool (!decide (n1332.2 = 3))), dv [11, 13] [] 87 (.bool x1869), dv [14] [] 88 (.bool x1869), dc [15] [18] (!x1869) 89 (Zi r1342.2), dc [15, 16] [] (!x1869) 90 (.bool (!decide (r1342.2 = 0))), dv [15, 17] [] 91 (.bool (x1869 || (!decide (r1342.2 = 0))))] z1867 d1867 ?_ ?_
    ·exact sM e1867_12 <| sF (fun f => ok1 f.1) <| sV <| cF (fun _ s _ _ => or_move (s.1.trans e1867_13)) <| cF (fun _ s _ _ => or_move (s.1.trans e1867_14)) <| cF (fun f _ _ hg => or_neq (f.2.1.1 hg) (f.2.2.1.1 hg) rfl) <| sF (fun f => or_or f.1 rfl (fun hx => f.2.1.1 hx) rfl) <| sV <| cF (fun _ s _ _ => or_move (s.1.trans e1867_15)) <| cF (fun f _ _ hg => ok1 (f.2.1.1 hg)) <| sF (fun f => or_or f.1 rfl (fun hx => f.2.1.1 hx) (Bool.or_false _)) <| sV <| cF (fun _ s _ _ => or_move (s.1.trans e1867_16)) <| cF (fun f _ _ hg => or_neq (f.2.1.1 hg) rfl rfl) <| sF (fun f => or_or f.1 rfl (fun hx => f.2.1.1 hx) (osome hx1869).symm) <| sV <| cF (fun _ s _ _ => or_move (s.1.trans e1867_18)) <| cF (fun f _ _ hg => or_neq (f.2.1.1 hg) rfl rfl) <| sF (fun f => or_or f.1 rfl (fun hx => f.2.1.1 hx) rfl) <| steps_nil
    intro o1870 a1870 w1870 d1870 z1870 hk1870 hf1870 hE1870
    obtain ⟨e1870_1, e1870_17⟩ := kt2 hk1870 e1867_1 e1867_17
    have e1870_91 := gv (hf1870 [18] rfl) rfl
    have hX1870 := es_ hX1867 hE1870
    have b1870_cA1343 := be_ hE1870 b1867_cA1343
    have b1870_A1267 := re_ hE1870 b1867_A1267
    have b1870_A1344 := re_ hE1870 b1867_A1344
    have b1870_A1345 := re_ hE1870 b1867_A1345
    have b1870_A1346 := re_ hE1870 b1867_A1346
    refine fl_cond e1870_91 hs (fun c1871 hs => ?_) (fun c1871 hs => ?_)
    ·refine rq_seq 136 o1870 (bz 1) [dv [] [] 8 (.bool false)] z1870 d1870 ?_ ?_
     ·exact sO (or_assign rfl) <| steps_nil
     intro o1872 a1872 w1872 d1872 z1872 hk1872 hf1872 hE1872
     have e1872_8 := gv (hf1872 [0] rfl) rfl
     have hX1872 := es_ hX1870 hE1872
     refine fl_ret ?_
     refine hp1868 _ _ _ rfl ?_
     obtain rfl := osome hs
     exact hret _ _ _ _ (.inl rfl) d1872 (results1_ rfl (RVal.tmp_ e1872_8)) ⟨o1872, rfl, hX1872⟩
    refine fl_skip ?_
    refine hn1868 _ _ ?_
    refine rq_seq 136 o1870 (bz 1) [dv [] [] 19 (Zi 0)] z1870 d1870 ?_ ?_
    ·exact sO (or_assign rfl) <| steps_nil
    intro o1873 a1873 w1873 d1873 z1873 hk1873 hf1873 hE1873
    obtain ⟨e1873_1, e1873_17⟩ := kt2 hk1873 e1870_1 e1870_17
    have e1873_19 := gv (hf1873 [0] rfl) rfl
    have hX1873 := es_ hX1870 hE1873
    have b1873_cA1343 := be_ hE1873 b1870_cA1343
    have b1873_A1267 := re_ hE1873 b1870_A1267
    have b1873_A1344 := re_ hE1873 b1870_A1344
    have b1873_A1345 := re_ hE1873 b1870_A1345
    have b1873_A1346 := re_ hE1873 b1870_A1346
    refine fl_seq (fun Q1874 hn1874 hp1874 => ?_)
    refine rq_seq 136 o1873 (bz 1) [dv [] [] 20 (Zi 0)] z1873 d1873 ?_ ?_
    ·exact sO (or_assign rfl) <| steps_nil
    intro o1875 a1875 w1875 d1875 z1875 hk1875 hf1875 hE1875
    obtain ⟨e1875_1, e1875_17, e1875_19⟩ := kt3 hk1875 e1873_1 e1873_17 e1873_19
    have e1875_20 := gv (hf1875 [0] rfl) rfl
    have hX1875 := es_ hX1873 hE1875
    have b1875_cA1343 := be_ hE1875 b1873_cA1343
    have b1875_A1267 := re_ hE1875 b1873_A1267
    have b1875_A1344 := re_ hE1875 b1873_A1344
    have b1875_A1345 := re_ hE1875 b1873_A1345
    have b1875_A1346 := re_ hE1875 b1873_A1346
    refine fl_block (fun Q1876 hn1876 hx1876 hp1876 => ?_)
    refine fl_loop (body := (fun s => law27_PackCuts_b5 r1266 r1342 s.1 s.2)) (z := r) (show loopO _ _ = _ from hs) (fun (s : Int × Int) a wx => match s with | (n1949, i1950) => ∃ (ox : Own), a.defers = [] ∧ a.tmps.size = 136 ∧ a.eval (.tmp 1) = sl A1267 r1266 cA1267 ∧ a.eval (.tmp 17) = pt cA1343 0 ∧ a.eval (.tmp 19) = Zi n1949 ∧ a.eval (.tmp 20) = Zi i1950 ∧ Evo [] (fun _ => 0) ox w wx ∧ RwO ox 1268 [0, 1947] wx 30 R30 A1267 cA1267 r1266 ∧ BlkO ox 1351 wx cA1343 64 #[sl A1344 r1342.1.1 cA1344, sl A1345 r1342.1.2.1 cA1345, sl A1346 r1342.1.2.2 cA1346] ∧ RwO ox 1347 [] wx 5 R5 A1344 cA1344 r1342.1.1 ∧ RwO ox 1348 [1948] wx 22 R22 A1345 cA1345 r1342.1.2.1 ∧ RwO ox 1350 [] wx 66 R66 A1346 cA1346 r1342.1.2.2) ?_ ?_
    ·exact ⟨(rl [(1308, 1947), (1349, 1948)] o1875), d1875, z1875, e1875_1, e1875_17, e1875_19, e1875_20, (Evo.rl_ hX1875 (fun _ => Nat.le_refl 0) rfl), (RwO.rl_ b1875_A1267), (BlkO.rl_ b1875_cA1343), (RwO.rl_ b1875_A1344), (RwO.rl_ b1875_A1345), (RwO.rl_ b1875_A1346)⟩
    ·rintro ⟨n1949, i1950⟩ zz2177 a2177 w2177 ⟨o2177, d2178, z2178, e2178_1, e2178_17, e2178_19, e2178_20, hE2178, b2178_A1267, b2178_cA1343, b2178_A1344, b2178_A1345, b2178_A1346⟩ hs Q2177 hn2177 hp2177 z2177
     have hs : law27_PackCuts_b5 r1266 r1342 n1949 i1950 = some zz2177 := hs
     refine fl_seq (fun Q2179 hn2179 hp2179 => ?_)
     refine rq_seq 136 o2177 [0, 0, 2, 7] [dv [] [20] 92 (Zi i1950), dv [] [1] 93 (sl A1267 r1266 cA1267), dv [1] [] 94 (Zi (r1266.length : Int)), dv [0, 2] [] 95 (.bool (decide (i1950 < (r1266.length : Int))))] z2178 d2178 ?_ ?_
     ·exact sM e2178_20 <| sM e2178_1 <| sF (fun f => or_len tu23 f.1 rfl) <| sF (fun f => or_lss f.1 f.2.1 rfl) <| steps_nil
     intro o2180 a2180 w2180 d2180 z2180 hk2180 hf2180 hE2180
     obtain ⟨e2180_1, e2180_17, e2180_19, e2180_20⟩ := kt4 hk2180 e2178_1 e2178_17 e2178_19 e2178_20
     have e2180_95 := gv (hf2180 [3] rfl) rfl
     have hX2180 := es_ hE2178 hE2180
     have b2180_cA1343 := be_ hE2180 b2178_cA1343
     have b2180_A1267 := re_ hE2180 b2178_A1267
     have b2180_A1344 := re_ hE2180 b2178_A1344
     have b2180_A1345 := re_ hE2180 b2178_A1345
     have b2180_A1346 := re_ hE2180 b2178_A1346
     refine fl_cond e2180_95 hs (fun c2181 hs => ?_) (fun c2181 hs => ?_)
     ·refine fl_skip ?_
      refine hn2179 _ _ ?_
      refine fl_seq (fun Q2182 hn2182 hp2182 => ?_)
      refine fl_block (fun Q2293 hn2293 hx2293 hp2293 => ?_)
      have K2349 : ∀ (a2349 : Act) (w2349 : World) (o2349 : Own) (n2348 : Int), a2349.defers = [] → a2349.tmps.size = 136 → a2349.eval (.tmp 1) = sl A1267 r1266 cA1267 → a2349.eval (.tmp 17) = pt cA1343 0 → a2349.eval (.tmp 19) = Zi n2348 → a2349.eval (.tmp 20) = Zi i1950 → Evo [] (fun _ => 0) o2349 w w2349 → RwO o2349 1268 [0, 2346] w2349 30 R30 A1267 cA1267 r1266 → BlkO o2349 1351 w2349 cA1343 64 #[sl A1344 r1342.1.1 cA1344, sl A1345 r1342.1.2.1 cA1345, sl A1346 r1342.1.2.2 cA1346] → RwO o2349 1347 [] w2349 5 R5 A1344 cA1344 r1342.1.1 → RwO o2349 1348 [2347] w2349 22 R22 A1345 cA1345 r1342.1.2.1 → RwO o2349 1350 [] w2349 66 R66 A1346 cA1346 r1342.1.2.2 → law27_PackCuts_k6 i1950 n2348 = some zz2177 → (Q2293 .normal a2349 w2349 ∧ Q2293 (.exit 1) a2349 w2349) := by
       intro a2349 w2349 o2349 n2348 d2350 z2350 e2350_1 e2350_17 e2350_19 e2350_20 hE2350 b2350_A1267 b2350_cA1343 b2350_A1344 b2350_A1345 b2350_A1346 hs
       refine and_both (hn2293 _ _) (hx2293 _ _) ?_
       refine hn2182 _ _ ?_
       refine rq 136 o2349 (bz 3) [dv [] [20] 96 (Zi i1950), dv [0] [] 97 (Zi (ad i1950 1)), dv [1] [] 20 (Zi (ad i1950 1))] z2350 d2350 ?_ ?_
       ·exact sM e2350_20 <| sF (fun f => or_add f.1 rfl rfl) <| sA <| steps_nil
       intro o2351 a2351 w2351 d2351 z2351 hk2351 hf2351 hE2351
       obtain ⟨e2351_1, e2351_17, e2351_19⟩ := kt3 hk2351 e2350_1 e2350_17 e2350_19
       have e2351_20 := gv (hf2351 [2] rfl) rfl
       have hX2351 := es_ hE2350 hE2351
       have b2351_cA1343 := be_ hE2351 b2350_cA1343
       have b2351_A1267 := re_ hE2351 b2350_A1267
       have b2351_A1344 := re_ hE2351 b2350_A1344
       have b2351_A1345 := re_ hE2351 b2350_A1345
       have b2351_A1346 := re_ hE2351 b2350_A1346
       exact hn2177 _ _ _ hs ⟨(rl [(2346, 1947), (2347, 1948)] o2351), d2351, z2351, e2351_1, e2351_17, e2351_19, e2351_20, (Evo.rl_ hX2351 (fun _ => Nat.le_refl 0) rfl), (RwO.rl_ b2351_A1267), (BlkO.rl_ b2351_cA1343), (RwO.rl_ b2351_A1344), (RwO.rl_ b2351_A1345), (RwO.rl_ b2351_A1346)⟩
      refine rq_seq 136 o2180 (bz 1) [dv [] [] 21 (.bool true)] z2180 d2180 ?_ ?_
      ·exact sO (or_assign rfl) <| steps_nil
      intro o2352 a2352 w2352 d2352 z2352 hk2352 hf2352 hE2352
      obtain ⟨e2352_1, e2352_17, e2352_19, e2352_20⟩ := kt4 hk2352 e2180_1 e2180_17 e2180_19 e2180_20
      have e2352_21 := gv (hf2352 [0] rfl) rfl
      have hX2352 := es_ hX2180 hE2352
      have b2352_cA1343 := be_ hE2352 b2180_cA1343
      have b2352_A1267 := re_ hE2352 b2180_A1267
      have b2352_A1344 := re_ hE2352 b2180_A1344
      have b2352_A1345 := re_ hE2352 b2180_A1345
      have b2352_A1346 := re_ hE2352 b2180_A1346
      refine fl_seq (fun Q2353 hn2353 hp2353 => ?_)
      refine rq_seq 136 o2352 (bz 1) [dv [] [] 22 (Zi 0)] z2352 d2352 ?_ ?_
      ·exact sO (or_assign rfl) <| steps_nil
      intro o2354 a2354 w2354 d2354 z2354 hk2354 hf2354 hE2354
      obtain ⟨e2354_1, e2354_17, e2354_19, e2354_20, e2354_21⟩ := kt5 hk2354 e2352_1 e2352_17 e2352_19 e2352_20 e2352_21
      have e2354_22 := gv (hf2354 [0] rfl) rfl
      have hX2354 := es_ hX2352 hE2354
      have b2354_cA1343 := be_ hE2354 b2352_cA1343
      have b2354_A1267 := re_ hE2354 b2352_A1267
      have b2354_A1344 := re_ hE2354 b2352_A1344
      have b2354_A1345 := re_ hE2354 b2352_A1345
      have b2354_A1346 := re_ hE2354 b2352_A1346
      refine fl_block (fun Q2355 hn2355 hx2355 hp2355 => ?_)
      refine fl_loop (body := (fun s => law27_PackCuts_b7 r1266 n1949 i1950 s.1 s.2)) (z := zz2177) (show loopO _ _ = _ from hs) (fun (s : Bool × Int) a wx => match s with | (first2372, j2373) => ∃ (ox : Own), a.defers = [] ∧ a.tmps.size = 136 ∧ a.eval (.tmp 1) = sl A1267 r1266 cA1267 ∧ a.eval (.tmp 17) = pt cA1343 0 ∧ a.eval (.tmp 19) = Zi n1949 ∧ a.eval (.tmp 20) = Zi i1950 ∧ a.eval (.tmp 21) = .bool first2372 ∧ a.eval (.tmp 22) = Zi j2373 ∧ Evo [] (fun _ => 0) ox w wx ∧ RwO ox 1268 [0, 2370] wx 30 R30 A1267 cA1267 r1266 ∧ BlkO ox 1351 wx cA1343 64 #[sl A1344 r1342.1.1 cA1344, sl A1345 r1342.1.2.1 cA1345, sl A1346 r1342.1.2.2 cA1346] ∧ RwO ox 1347 [] wx 5 R5 A1344 cA1344 r1342.1.1 ∧ RwO ox 1348 [2371] wx 22 R22 A1345 cA1345 r1342.1.2.1 ∧ RwO ox 1350 [] wx 66 R66 A1346 cA1346 r1342.1.2.2) ?_ ?_
      ·exact ⟨(rl [(1947, 2370), (1948, 2371)] o2354), d2354, z2354, e2354_1, e2354_17, e2354_19, e2354_20, e2354_21, e2354_22, (Evo.rl_ hX2354 (fun _ => Nat.le_refl 0) rfl), (RwO.rl_ b2354_A1267), (BlkO.rl_ b2354_cA1343), (RwO.rl_ b2354_A1344), (RwO.rl_ b2354_A1345), (RwO.rl_ b2354_A1346)⟩
      ·rintro ⟨first2372, j2373⟩ zz2387 a2387 w2387 ⟨o2387, d2388, z2388, e2388_1, e2388_17, e2388_19, e2388_20, e2388_21, e2388_22, hE2388, b2388_A1267, b2388_cA1343, b2388_A1344, b2388_A1345, b2388_A1346⟩ hs Q2387 hn2387 hp2387 z2387
       have hs : law27_PackCuts_b7 r1266 n1949 i1950 first2372 j2373 = some zz2387 := hs
       refine fl_seq (fun Q2389 hn2389 hp2389 => ?_)
       refine rq_seq 136 o2387 [0, 0, 3] [dv [] [22] 98 (Zi j2373), dv [] [20] 99 (Zi i1950), dv [0, 1] [] 100 (.bool (decide (j2373 < i1950)))] z2388 d2388 ?_ ?_
       ·exact sM e2388_22 <| sM e2388_20 <| sF (fun f => or_lss f.1 f.2.1 rfl) <| steps_nil
       intro o2390 a2390 w2390 d2390 z2390 hk2390 hf2390 hE2390
       obtain ⟨e2390_1, e2390_17, e2390_19, e2390_20, e2390_21, e2390_22⟩ := kt6 hk2390 e2388_1 e2388_17 e2388_19 e2388_20 e2388_21 e2388_22
       have e2390_100 := gv (hf2390 [2] rfl) rfl
       have hX2390 := es_ hE2388 hE2390
       have b2390_cA1343 := be_ hE2390 b2388_cA1343
       have b2390_A1267 := re_ hE2390 b2388_A1267
       have b2390_A1344 := re_ hE2390 b2388_A1344
       have b2390_A1345 := re_ hE2390 b2388_A1345
       have b2390_A1346 := re_ hE2390 b2388_A1346
       refine fl_cond e2390_100 hs (fun c2391 hs => ?_) (fun c2391 hs => ?_)
       ·refine fl_skip ?_
        refine hn2389 _ _ ?_
        refine fl_seq (fun Q2392 hn2392 hp2392 => ?_)
        refine fl_block (fun Q2393 hn2393 hx2393 hp2393 => ?_)
        obtain ⟨x2394, hx2394, hs⟩ := obind hs
        obtain ⟨x2396, hx2396, hs⟩ := obind hs
        obtain ⟨x2398, hx2398, hs⟩ := obind hs
        refine rd_ g_mixed 136 [] o2390 [] [0, 1, 3, 3, 15, 31, 63, 127, 3, 3, 771, 1795, 3843, 7939, 16383, 32767, 65535] [dv [] [21] 103 (.bool first2372), dv [0] [] 104 (.bool first2372), dc [1] [1] first2372 105 (sl A1267 r1266 cA1267), dc [1] [22] first2372 106 (Zi j2373), dc [1, 2, 3] [] first2372 107 (.pointer (some ((adr A1267).add ((j2373 : Int).toNat * R30.s)))), dc [1, 4] [] first2372 108 (.pointer (some (((adr A1267).add ((j2373 : Int).toNat * R30.s)).add 3))), ⟨[1, 5], [], [], Fct.cond first2372 (some 109) (Fct.nest X30 [1268, 0, 2370] 109 (fun (y : (Unit × (Option Addr × Nat))) => .slice y.2.1 x2394.2.length y.2.2) x2394)⟩, dc [1, 6] [] first2372 110 (.string (bsS x2394.2)), dc [1] [1] first2372 111 (sl A1267 r1266 cA1267), dc [1] [20] first2372 112 (Zi i1950), dc [1, 8, 9] [] first2372 113 (.pointer (some ((adr A1267).add ((i1950 : Int).toNat * R30.s)))), dc [1, 10] [] first2372 114 (.pointer (some (((adr A1267).add ((i1950 : Int).toNat * R30.s)).add 3))), ⟨[1, 11], [], [], Fct.cond first2372 (some 115) (Fct.nest X30 [1268, 0, 2370] 115 (fun (y : (Unit × (Option Addr × Nat))) => .slice y.2.1 x2396.2.length y.2.2) x2396)⟩, dc [1, 12] [] first2372 116 (.string (bsS x2396.2)), dc [1, 7, 13] [] first2372 117 (.bool (!eqS (bsS x2394.2) (bsS x2396.2))), dv [1, 14] [] 118 (.bool x2398), dv [15] [] 21 (.bool x2398)] z2390 d2390 nm_ ?_ ?_
        ·refine sM e2390_21 <| sV <| cT (fun _ s _ _ => or_move (s.1.trans e2390_1)) <| cT (fun _ s _ _ => or_move (s.1.trans e2390_22)) <| cT (fun f _ _ hg => or_index (R := R30) (l := r1266) tl23 (f.2.1.1 hg) (f.2.2.1.1 hg) (RdO.some_ (RwO.rd b2390_A1267) (gd_t hx2394 hg)) (gd_t hx2394 hg)) <| cT (fun f _ _ hg => or_field fo30_1 (f.2.1.1 hg) rfl) <| cT (fun f _ hE hg => or_loadN1 X30 3 to22 (f.2.1.1 hg) rfl (RwO.rd (re_ hE b2390_A1267)) (gd_t hx2394 hg) (fun _ => rfl)) ?_
         refine sc (fun own a wx hf hsl hE => ?_) ?_
         ·obtain ⟨f_104, c_109, -⟩ := hf
          refine sg_t rfl rfl rfl f_104 (fun hg => ?_)
          obtain ⟨⟨_, ⟨A2395, cA2395⟩⟩, f_109, ⟨-, b_A2395⟩⟩ := c_109.1 hg
          exact or_convBS tu22 tn5 tS9 f_109 b_A2395
         refine cT (fun _ s _ _ => or_move (s.1.trans e2390_1)) <| cT (fun _ s _ _ => or_move (s.1.trans e2390_20)) <| cT (fun f _ _ hg => or_index (R := R30) (l := r1266) tl23 (f.2.1.1 hg) (f.2.2.1.1 hg) (RdO.some_ (RwO.rd b2390_A1267) (gd_t hx2396 hg)) (gd_t hx2396 hg)) <| cT (fun f _ _ hg => or_field fo30_1 (f.2.1.1 hg) rfl) <| cT (fun f _ hE hg => or_loadN1 X30 3 to22 (f.2.1.1 hg) rfl (RwO.rd (re_ hE b2390_A1267)) (gd_t hx2396 hg) (fun _ => rfl)) ?_
         refine sc (fun own a wx hf hsl hE => ?_) ?_
         ·obtain ⟨f_104, c_115, -⟩ := hf
          refine sg_t rfl rfl rfl f_104 (fun hg => ?_)
          obtain ⟨⟨_, ⟨A2397, cA2397⟩⟩, f_115, ⟨-, b_A2397⟩⟩ := c_115.1 hg
          exact or_convBS tu22 tn5 tS9 f_115 b_A2397
         exact cT (fun f _ _ hg => or_neqS tS9 (f.2.1.1 hg) (f.2.2.1.1 hg) rfl) <| sF (fun f => or_and f.1 (fun hx => f.2.1.1 hx) rfl (osome hx2398).symm) <| sA <| steps_nil
        intro o2399 a2399 w2399 d2399 z2399 hk2399 hf2399 hE2399
        obtain ⟨e2399_1, e2399_17, e2399_19, e2399_20, e2399_22⟩ := kt5 hk2399 e2390_1 e2390_17 e2390_19 e2390_20 e2390_22
        have e2399_21 := gv (hf2399 [16] rfl) rfl
        have hX2399 := es_ hX2390 hE2399
        have b2399_cA1343 := be_ hE2399 b2390_cA1343
        have b2399_A1267 := re_ hE2399 b2390_A1267
        have b2399_A1344 := re_ hE2399 b2390_A1344
        have b2399_A1345 := re_ hE2399 b2390_A1345
        have b2399_A1346 := re_ hE2399 b2390_A1346
        refine hn2393 _ _ ?_
        refine hn2392 _ _ ?_
        refine rq 136 o2399 (bz 3) [dv [] [22] 101 (Zi j2373), dv [0] [] 102 (Zi (ad j2373 1)), dv [1] [] 22 (Zi (ad j2373 1))] z2399 d2399 ?_ ?_
        ·exact sM e2399_22 <| sF (fun f => or_add f.1 rfl rfl) <| sA <| steps_nil
        intro o2400 a2400 w2400 d2400 z2400 hk2400 hf2400 hE2400
        obtain ⟨e2400_1, e2400_17, e2400_19, e2400_20, e2400_21⟩ := kt5 hk2400 e2399_1 e2399_17 e2399_19 e2399_20 e2399_21
        have e2400_22 := gv (hf2400 [2] rfl) rfl
        have hX2400 := es_ hX2399 hE2400
        have b2400_cA1343 := be_ hE2400 b2399_cA1343
        have b2400_A1267 := re_ hE2400 b2399_A1267
        have b2400_A1344 := re_ hE2400 b2399_A1344
        have b2400_A1345 := re_ hE2400 b2399_A1345
        have b2400_A1346 := re_ hE2400 b2399_A1346
        exact hn2387 _ _ _ hs ⟨o2400, d2400, z2400, e2400_1, e2400_17, e2400_19, e2400_20, e2400_21, e2400_22, hX2400, b2400_A1267, b2400_cA1343, b2400_A1344, b2400_A1345, b2400_A1346⟩
       refine fl_exit ?_
       refine hp2389 _ _ _ rfl ?_
       replace hs := z2387 _ hs
       refine hp2387 _ _ _ rfl ?_
       refine hx2355 _ _ ?_
       refine hn2353 _ _ ?_
       refine rq_seq 136 o2390 (bz 1) [dv [] [21] 119 (.bool first2372)] z2390 d2390 ?_ ?_
       ·exact sM e2390_21 <| steps_nil
       intro o2401 a2401 w2401 d2401 z2401 hk2401 hf2401 hE2401
       obtain ⟨e2401_1, e2401_17, e2401_19, e2401_20⟩ := kt4 hk2401 e2390_1 e2390_17 e2390_19 e2390_20
       have e2401_119 := gv (hf2401 [0] rfl) rfl
       have hX2401 := es_ hX2390 hE2401
       have b2401_cA1343 := be_ hE2401 b2390_cA1343
       have b2401_A1267 := re_ hE2401 b2390_A1267
       have b2401_A1344 := re_ hE2401 b2390_A1344
       have b2401_A1345 := re_ hE2401 b2390_A1345
       have b2401_A1346 := re_ hE2401 b2390_A1346
       refine fl_cond e2401_119 hs (fun c2402 hs => ?_) (fun c2402 hs => ?_)
       ·refine rq 136 o2401 (bz 3) [dv [] [19] 120 (Zi n1949), dv [0] [] 121 (Zi (ad n1949 1)), dv [1] [] 19 (Zi (ad n1949 1))] z2401 d2401 ?_ ?_
        ·exact sM e2401_19 <| sF (fun f => or_add f.1 rfl rfl) <| sA <| steps_nil
        intro o2403 a2403 w2403 d2403 z2403 hk2403 hf2403 hE2403
        obtain ⟨e2403_1, e2403_17, e2403_20⟩ := kt3 hk2403 e2401_1 e2401_17 e2401_20
        have e2403_19 := gv (hf2403 [2] rfl) rfl
        have hX2403 := es_ hX2401 hE2403
        have b2403_cA1343 := be_ hE2403 b2401_cA1343
        have b2403_A1267 := re_ hE2403 b2401_A1267
        have b2403_A1344 := re_ hE2403 b2401_A1344
        have b2403_A1345 := re_ hE2403 b2401_A1345
        have b2403_A1346 := re_ hE2403 b2401_A1346
        exact (K2349 _ _ (rl [(2370, 2346), (2371, 2347)] o2403) _ d2403 z2403 e2403_1 e2403_17 e2403_19 e2403_20 (Evo.rl_ hX2403 (fun _ => Nat.le_refl 0) rfl) (RwO.rl_ b2403_A1267) (BlkO.rl_ b2403_cA1343) (RwO.rl_ b2403_A1344) (RwO.rl_ b2403_A1345) (RwO.rl_ b2403_A1346) hs).1
       refine fl_skip ?_
       exact (K2349 _ _ (rl [(2370, 2346), (2371, 2347)] o2401) _ d2401 z2401 e2401_1 e2401_17 e2401_19 e2401_20 (Evo.rl_ hX2401 (fun _ => Nat.le_refl 0) rfl) (RwO.rl_ b2401_A1267) (BlkO.rl_ b2401_cA1343) (RwO.rl_ b2401_A1344) (RwO.rl_ b2401_A1345) (RwO.rl_ b2401_A1346) hs).1
     refine fl_exit ?_
     refine hp2179 _ _ _ rfl ?_
     replace hs := z2177 _ hs
     refine hp2177 _ _ _ rfl ?_
     refine hx1876 _ _ ?_
     refine hn1874 _ _ ?_
     obtain ⟨r2404, hr2404, hs⟩ := obind hs
     obtain ⟨r2405, hr2405, hs⟩ := obind hs
     obtain ⟨r2406, hr2406, hs⟩ := obind hs
     obtain ⟨x2407, hx2407, hs⟩ := obind hs
     refine rq_seq 136 o2180 [0, 1, 3, 7, 3, 31, 63, 127, 255, 511, 255, 1279, 4095, 8191, 16383] [dv [] [] 122 (.bool r2404), dv [0] [] 123 (.bool r2404), dc [1] [17] r2404 124 (pt cA1343 0), dc [1, 2] [] r2404 125 (Zi r2405), dc [1] [19] r2404 126 (Zi n1949), dc [1, 3, 4] [] r2404 127 (.bool (decide (r2405 = n1949))), dv [1, 5] [] 128 (.bool (r2404 && (decide (r2405 = n1949)))), dv [6] [] 129 (.bool (r2404 && (decide (r2405 = n1949)))), dc [7] [17] (r2404 && (decide (r2405 = n1949))) 130 (pt cA1343 0), dc [7, 8] [] (r2404 && (decide (r2405 = n1949))) 131 (Zi r2406), dc [7] [1] (r2404 && (decide (r2405 = n1949))) 132 (sl A1267 r1266 cA1267), dc [7, 10] [] (r2404 && (decide (r2405 = n1949))) 133 (Zi (r1266.length : Int)), dc [7, 9, 11] [] (r2404 && (decide (r2405 = n1949))) 134 (.bool (decide (r2406 = (r1266.length : Int)))), dv [7, 12] [] 135 (.bool x2407), dv [13] [] 8 (.bool x2407)] z2180 d2180 ?_ ?_
     ·exact sO (or_call cf9 (args0) (law27_known_w _   r2404 hr2404) post_val) <| sV <| cT (fun _ s _ _ => or_move (s.1.trans e2180_17)) <| cT (fun f _ hE hg => or_call cf13 (args1 (f.2.1.1 hg)) (pack_Pack_Blobs_w _ r1342.1 cA1343 64 A1344 cA1344 A1345 cA1345 A1346 cA1346 (BlkO.zero_ (be_ hE b2180_cA1343)) (RdO.zero (RwO.rd (re_ hE b2180_A1344))) (RdO.zero (RwO.rd (re_ hE b2180_A1345))) (RdO.zero (RwO.rd (re_ hE b2180_A1346))) r2405 (gd_t hr2405 hg)) post_val) <| cT (fun _ s _ _ => or_move (s.1.trans e2180_19)) <| cT (fun f _ _ hg => or_eql (f.2.1.1 hg) (f.2.2.1.1 hg) rfl) <| sF (fun f => or_and f.1 (fun hx => f.2.1.1 hx) rfl rfl) <| sV <| cT (fun _ s _ _ => or_move (s.1.trans e2180_17)) <| cT (fun f _ hE hg => or_call cf14 (args1 (f.2.1.1 hg)) (pack_Pack_Len_w _ r1342.1 cA1343 64 A1344 cA1344 A1345 cA1345 A1346 cA1346 (BlkO.zero_ (be_ hE b2180_cA1343)) (RdO.zero (RwO.rd (re_ hE b2180_A1344))) (RdO.zero (RwO.rd (re_ hE b2180_A1345))) (RdO.zero (RwO.rd (re_ hE b2180_A1346))) r2406 (gd_t hr2406 hg)) post_val) <| cT (fun _ s _ _ => or_move (s.1.trans e2180_1)) <| cT (fun f _ _ hg => or_len tu23 (f.2.1.1 hg) rfl) <| cT (fun f _ _ hg => or_eql (f.2.1.1 hg) (f.2.2.1.1 hg) rfl) <| sF (fun f => or_and f.1 (fun hx => f.2.1.1 hx) rfl (osome hx2407).symm) <| sA <| steps_nil
     intro o2408 a2408 w2408 d2408 z2408 hk2408 hf2408 hE2408
     have e2408_8 := gv (hf2408 [14] rfl) rfl
     have hX2408 := es_ hX2180 hE2408
     refine fl_ret ?_
     obtain rfl := (osome hs).symm
     exact hret _ _ _ _ (.inl rfl) d2408 (results1_ rfl (RVal.tmp_ e2408_8)) ⟨o2408, rfl, hX2408⟩
   refine rp_seq 136 o1310 [1313, 1315] [0, 0, 3, 0, 8, 31, 63, 127, 255, 255, 511, 2047] [⟨[], [], [], Fct.row 1313 [] 59 5 R5 ([] : List Int)⟩, dv [] [9] 60 (sl A1273 r1272.1 cA1273), ⟨[0, 1], [], [1313], Fct.row 1315 [] 61 5 R5 x1314⟩, dv [] [3] 62 (.int .u8 more4), ⟨[3], [], [], Fct.row 1318 [] 63 5 R5 [more4]⟩, ⟨[2, 4], [], [1315], Fct.row 1320 [] 64 5 R5 x1319⟩, ⟨[5], [], [], Fct.mems [1327, 1328, 1329, 1330, 1331] 65 (fun (x : (Option Addr × Nat) × (Option Addr × Nat) × (Option Addr × Nat) × (Option Addr × Nat)) => .tuple #[.pointer (some ⟨x.1.2, 0, none⟩), Zi r1322.2]) (fun (x : (Option Addr × Nat) × (Option Addr × Nat) × (Option Addr × Nat) × (Option Addr × Nat)) own w => RwO own 1327 [] w 5 R5 x.2.1.1 x.2.1.2 r1322.1.1 ∧ RwO own 1328 [1329] w 22 R22 x.2.2.1.1 x.2.2.1.2 r1322.1.2.1 ∧ RwO own 1330 [] w 66 R66 x.2.2.2.1 x.2.2.2.2 r1322.1.2.2 ∧ BlkO own 1331 w x.1.2 64 #[.slice x.2.1.1 r1322.1.1.length x.2.1.2, .slice x.2.2.1.1 r1322.1.2.1.length x.2.2.1.2, .slice x.2.2.2.1 r1322.1.2.2.length x.2.2.2.2]) (fun hk he h => ⟨RwO.evo (hits_sub hk (by decide)) he h.1, RwO.evo (hits_sub hk (by decide)) he h.2.1, RwO.evo (hits_sub hk (by decide)) he h.2.2.1, BlkO.evo (not_hit hk (by decide)) he h.2.2.2⟩)⟩, ⟨[6], [], [], Fct.rel [58, 65] (fun l => ∀ (cA1323 : Nat), l.getD 1 undef = .tuple #[pt cA1323 0, Zi r1322.2] → l.getD 0 undef = .tuple #[pt cA1323 0, Zi r1322.2])⟩, ⟨[7, 6], [], [], Fct.rel [66, 65] (fun l => ∀ (cA1323 : Nat), l.getD 1 undef = .tuple #[pt cA1323 0, Zi r1322.2] → l.getD 0 undef = pt cA1323 0)⟩, dv [7, 6] [] 67 (Zi r1322.2), ⟨[8, 6], [], [], Fct.rel [15, 65] (fun l => ∀ (cA1323 : Nat), l.getD 1 undef = .tuple #[pt cA1323 0, Zi r1322.2] → l.getD 0 undef = pt cA1323 0)⟩, dv [9] [] 16 (Zi r1322.2)] z1311 d1311 ?_ ?_
   ·refine sO (or_lit (lab := 1313) (e := 5) (cs := #[]) (F := E5) (nw0) rfl rfl (show 0 ≤ maxLen by decide)) <| sM e1311_9 ?_
    refine sc (fun own a wx hf hsl hE => ?_) ?_
    ·obtain ⟨⟨⟨A1312, cA1312⟩, f_59, b_A1312⟩, f_60, -⟩ := hf
     exact px (or_append (R := R5) (lab := 1313) (lab2 := 1315) (L := []) (L3 := []) tp22 f_59 b_A1312 (by decide) f_60 (RwO.rd (re_ hE b1311_A1273)) hx1314 (by decide) (by decide) (mem_of rfl) (.inl (Rep.fl_flat _)))
    refine sM e1311_3 <| sF (fun f => or_lit (lab := 1318) (e := 5) (cs := #[.int .u8 more4]) (F := E5) (nw1 f.1) rfl rfl (show 1 ≤ maxLen by decide)) ?_
    refine sc (fun own a wx hf hsl hE => ?_) ?_
    ·obtain ⟨⟨⟨A1316, cA1316⟩, f_61, b_A1316⟩, ⟨⟨A1317, cA1317⟩, f_63, b_A1317⟩, -⟩ := hf
     exact px (or_append (R := R5) (lab := 1315) (lab2 := 1320) (L := []) (L3 := []) tp22 f_61 b_A1316 (by decide) f_63 (RwO.rd b_A1317) hx1319 (by decide) (by decide) (mem_of rfl) (.inl (Rep.fl_flat _)))
    refine sc (fun own a wx hf hsl hE => ?_) ?_
    ·obtain ⟨⟨⟨A1321, cA1321⟩, f_64, b_A1321⟩, -⟩ := hf
     exact px (or_call cf12 (args1 f_64) (pack_Open_w _ x1319 A1321 cA1321 (RdO.zero (RwO.rd b_A1321)) r1322 hr1322) (post_mems (m := (fun _ => 0)) (m' := (look0 [(1, 1331), (2, 1327), (3, 1328), (4, 1329), (5, 1330)])) (fun _ _ => .inl rfl) (fun own' w' a' x h1 h => ⟨x, h1, ⟨RwO.back_ h.1 (by decide) (.inl (Rep.fl_flat _)), RwO.back_ h.2.1 (by decide) (.inr (by decide)), RwO.back_ h.2.2.1 (by decide) (.inl (Rep.fl_flat _)), BlkO.back_ h.2.2.2 (by decide)⟩⟩)))
    refine sc (fun own a wx hf hsl hE => ?_) ?_
    ·obtain ⟨⟨⟨⟨A1323, cA1323⟩, ⟨A1324, cA1324⟩, ⟨A1325, cA1325⟩, ⟨A1326, cA1326⟩⟩, (f_65 : a.eval (.tmp 65) = .tuple #[pt cA1323 0, Zi r1322.2]), b_A1324, b_A1325, b_A1326, b_cA1323⟩, -⟩ := hf
     exact px (or_mono (f := Fct.val 58 (.tuple #[pt cA1323 0, Zi r1322.2])) (or_move f_65) (fun own' a' w' v' hp h => fun _ h0' => by cases (f_65.symm.trans ((hp.2 65 (by decide)).symm.trans h0')); exact h))
    refine sc (fun own a wx hf hsl hE => ?_) ?_
    ·obtain ⟨(q_58 : ∀ (cA1323 : Nat), a.eval (.tmp 65) = .tuple #[pt cA1323 0, Zi r1322.2] → a.eval (.tmp 58) = .tuple #[pt cA1323 0, Zi r1322.2]), ⟨⟨⟨A1323, cA1323⟩, ⟨A1324, cA1324⟩, ⟨A1325, cA1325⟩, ⟨A1326, cA1326⟩⟩, (f_65 : a.eval (.tmp 65) = .tuple #[pt cA1323 0, Zi r1322.2]), b_A1324, b_A1325, b_A1326, b_cA1323⟩, -⟩ := hf
     have f_58 := q_58 _ f_65
     exact px (or_mono (f := Fct.val 66 (pt cA1323 0)) (ok1 f_58) (fun own' a' w' v' hp h => fun _ h0' => by cases (f_65.symm.trans ((hp.2 65 (by decide)).symm.trans h0')); exact h))
    refine sc (fun own a wx hf hsl hE => ?_) ?_
    ·obtain ⟨(q_58 : ∀ (cA1323 : Nat), a.eval (.tmp 65) = .tuple #[pt cA1323 0, Zi r1322.2] → a.eval (.tmp 58) = .tuple #[pt cA1323 0, Zi r1322.2]), ⟨⟨⟨A1323, cA1323⟩, ⟨A1324, cA1324⟩, ⟨A1325, cA1325⟩, ⟨A1326, cA1326⟩⟩, f_65, b_A1324, b_A1325, b_A1326, b_cA1323⟩, -⟩ := hf
     have f_58 := q_58 _ f_65
     exact px (ok1 f_58)
    refine sc (fun own a wx hf hsl hE => ?_) ?_
    ·obtain ⟨(q_66 : ∀ (cA1323 : Nat), a.eval (.tmp 65) = .tuple #[pt cA1323 0, Zi r1322.2] → a.eval (.tmp 66) = pt cA1323 0), ⟨⟨⟨A1323, cA1323⟩, ⟨A1324, cA1324⟩, ⟨A1325, cA1325⟩, ⟨A1326, cA1326⟩⟩, (f_65 : a.eval (.tmp 65) = .tuple #[pt cA1323 0, Zi r1322.2]), b_A1324, b_A1325, b_A1326, b_cA1323⟩, -⟩ := hf
     have f_66 := q_66 _ f_65
     exact px (or_mono (f := Fct.val 15 (pt cA1323 0)) (or_assign f_66) (fun own' a' w' v' hp h => fun _ h0' => by cases (f_65.symm.trans ((hp.2 65 (by decide)).symm.trans h0')); exact h))
    exact sA <| steps_nil
   intro o2409 a2409 w2409 d2409 z2409 hk2409 hf2409 hE2409
   obtain ⟨e2409_1, e2409_9, e2409_12, e2409_13, e2409_14⟩ := kt5 hk2409 e1311_1 e1311_9 e1311_12 e1311_13 e1311_14
   have e2409_16 := gv (hf2409 [11] rfl) rfl
   obtain ⟨⟨⟨⟨A1323, cA1323⟩, ⟨A1324, cA1324⟩, ⟨A1325, cA1325⟩, ⟨A1326, cA1326⟩⟩, (f_65 : a2409.eval (.tmp 65) = .tuple #[pt cA1323 0, Zi r1322.2]), (b2409_A1324 : RwO o2409 1327 [] w2409 5 R5 A1324 cA1324 r1322.1.1), (b2409_A1325 : RwO o2409 1328 [1329] w2409 22 R22 A1325 cA1325 r1322.1.2.1), (b2409_A1326 : RwO o2409 1330 [] w2409 66 R66 A1326 cA1326 r1322.1.2.2), (b2409_cA1323 : BlkO o2409 1331 w2409 cA1323 64 #[sl A1324 r1322.1.1 cA1324, sl A1325 r1322.1.2.1 cA1325, sl A1326 r1322.1.2.2 cA1326])⟩, (q_15 : ∀ (cA1323 : Nat), a2409.eval (.tmp 65) = .tuple #[pt cA1323 0, Zi r1322.2] → a2409.eval (.tmp 15) = pt cA1323 0), -⟩ := hf2409 [6, 10] rfl
   have e2409_15 := q_15 _ f_65
   have hX2409 := es_ hE1311 hE2409
   have b2409_A1267 := re_ hE2409 b1311_A1267
   have b2409_A1273 := re_ hE2409 b1311_A1273
   refine rngO_cases hs (fun n2420 hn2420 hs => ?_) (fun r2410 hr2410 hs => ?_)
   ·refine rq_seq 136 o2409 [0, 1, 3, 7, 7, 15, 63] [dv [] [9] 69 (sl A1273 r1272.1 cA1273), dv [0] [] 70 (.tuple #[.pointer none, Zi n2420.2]), dv [1] [] 68 (.tuple #[.pointer none, Zi n2420.2]), dv [2] [] 71 (.pointer none), dv [2] [] 72 (Zi n2420.2), dv [3] [] 17 (.pointer none), dv [4] [] 18 (Zi n2420.2)] z2409 d2409 ?_ ?_
    ·exact sM e2409_9 <| sFE (fun f hE => or_call cf12 (args1 f.1) (pack_Open_n _ r1272.1 A1273 cA1273 (RdO.zero (RwO.rd (re_ hE b2409_A1273))) n2420 hn2420) post_val) <| sV <| sF (fun f => ok1 f.1) <| sF (fun f => ok1 f.1) <| sA <| sA <| steps_nil
    intro o2421 a2421 w2421 d2421 z2421 hk2421 hf2421 hE2421
    obtain ⟨e2421_1, e2421_12, e2421_13, e2421_14, e2421_15, e2421_16⟩ := kt6 hk2421 e2409_1 e2409_12 e2409_13 e2409_14 e2409_15 e2409_16
    have e2421_17 := gv (hf2421 [5] rfl) rfl
    have e2421_18 := gv (hf2421 [6] rfl) rfl
    have hX2421 := es_ hX2409 hE2421
    have b2421_cA1323 := be_ hE2421 b2409_cA1323
    have b2421_A1267 := re_ hE2421 b2409_A1267
    have b2421_A1324 := re_ hE2421 b2409_A1324
    have b2421_A1325 := re_ hE2421 b2409_A1325
    have b2421_A1326 := re_ hE2421 b2409_A1326
    refine fl_seq (fun Q2422 hn2422 hp2422 => ?_)
    refine rq_seq 136 o2421 [0, 1, 3, 7, 7, 31, 63, 127, 255, 511, 1023, 2047, 4095, 8191, 16383, 32767, 65535, 131071, 262143] [dv [] [12] 73 (.pointer none), dv [0] [] 74 (.bool false), dv [1] [] 75 (.bool false), dc [2] [13] (!false) 76 (Zi n1300.2), dc [2] [14] (!false) 77 (Zi want1309), dc [2, 3, 4] [] (!false) 78 (.bool (!decide (n1300.2 = want1309))), dv [2, 5] [] 79 (.bool (!decide (n1300.2 = want1309))), dv [6] [] 80 (.bool (!decide (n1300.2 = want1309))), dc [7] [15] (!(!decide (n1300.2 = want1309))) 81 (pt cA1323 0), dc [7, 8] [] (!(!decide (n1300.2 = want1309))) 82 (.bool true), dv [7, 9] [] 83 (.bool true), dv [10] [] 84 (.bool true), dc [11] [] (!true) 85 (Zi 0), dc [11] [] (!true) 86 (.bool false), dv [11, 13] [] 87 (.bool true), dv [14] [] 88 (.bool true), dc [15] [] (!true) 89 (Zi 0), dc [15] [] (!true) 90 (.bool false), dv [15, 17] [] 91 (.bool true)] z2421 d2421 ?_ ?_
    ·refine sM e2421_12 <| sF (fun f => ok1 f.1) <| sV <| cF (fun _ s _ _ => or_move (s.1.trans e2421_13)) <| cF (fun _ s _ _ => or_move (s.1.trans e2421_14)) <| cF (fun f _ _ hg => or_neq (f.2.1.1 hg) (f.2.2.1.1 hg) rfl) <| sF (fun f => or_or f.1 rfl (fun hx => f.2.1.1 hx) rfl) <| sV <| cF (fun _ s _ _ => or_move (s.1.trans e2421_15)) <| cF (fun f _ _ hg => ok1 (f.2.1.1 hg)) <| sF (fun f => or_or f.1 rfl (fun hx => f.2.1.1 hx) (Bool.or_true _)) <| sV ?_
     refine sc (fun own a wx hf hsl hE => ?_) ?_
     ·obtain ⟨f_84, -⟩ := hf
      refine sg_f rfl rfl rfl f_84 (fun hg => ?_)
      exact absurd hg (by simp)
     refine sc (fun own a wx hf hsl hE => ?_) ?_
     ·obtain ⟨f_84, -⟩ := hf
      refine sg_f rfl rfl rfl f_84 (fun hg => ?_)
      exact absurd hg (by simp)
     refine sF (fun f => or_or f.1 rfl (fun hx => f.2.1.1 hx) rfl) <| sV ?_
     refine sc (fun own a wx hf hsl hE => ?_) ?_
     ·obtain ⟨f_88, -⟩ := hf
      refine sg_f rfl rfl rfl f_88 (fun hg => ?_)
      exact absurd hg (by simp)
     refine sc (fun own a wx hf hsl hE => ?_) ?_
     ·obtain ⟨f_88, -⟩ := hf
      refine sg_f rfl rfl rfl f_88 (fun hg => ?_)
      exact absurd hg (by simp)
     exact sF (fun f => or_or f.1 rfl (fun hx => f.2.1.1 hx) rfl) <| steps_nil
    intro o2423 a2423 w2423 d2423 z2423 hk2423 hf2423 hE2423
    obtain ⟨e2423_1, e2423_17⟩ := kt2 hk2423 e2421_1 e2421_17
    have e2423_91 := gv (hf2423 [18] rfl) rfl
    have hX2423 := es_ hX2421 hE2423
    have b2423_A1267 := re_ hE2423 b2421_A1267
    refine fl_t e2423_91 ?_
    refine rq_seq 136 o2423 (bz 1) [dv [] [] 8 (.bool false)] z2423 d2423 ?_ ?_
    ·exact sO (or_assign rfl) <| steps_nil
    intro o2424 a2424 w2424 d2424 z2424 hk2424 hf2424 hE2424
    have e2424_8 := gv (hf2424 [0] rfl) rfl
    have hX2424 := es_ hX2423 hE2424
    refine fl_ret ?_
    refine hp2422 _ _ _ rfl ?_
    obtain rfl := osome hs
    exact hret _ _ _ _ (.inl rfl) d2424 (results1_ rfl (RVal.tmp_ e2424_8)) ⟨o2424, rfl, hX2424⟩
   refine rq_seq 136 o2409 [0, 1, 3, 7, 7, 15, 63] [dv [] [9] 69 (sl A1273 r1272.1 cA1273), ⟨[0], [], [], Fct.mems [2415, 2416, 2417, 2418, 2419] 70 (fun (x : (Option Addr × Nat) × (Option Addr × Nat) × (Option Addr × Nat) × (Option Addr × Nat)) => .tuple #[.pointer (some ⟨x.1.2, 0, none⟩), Zi r2410.2]) (fun (x : (Option Addr × Nat) × (Option Addr × Nat) × (Option Addr × Nat) × (Option Addr × Nat)) own w => RwO own 2415 [] w 5 R5 x.2.1.1 x.2.1.2 r2410.1.1 ∧ RwO own 2416 [2417] w 22 R22 x.2.2.1.1 x.2.2.1.2 r2410.1.2.1 ∧ RwO own 2418 [] w 66 R66 x.2.2.2.1 x.2.2.2.2 r2410.1.2.2 ∧ BlkO own 2419 w x.1.2 64 #[.slice x.2.1.1 r2410.1.1.length x.2.1.2, .slice x.2.2.1.1 r2410.1.2.1.length x.2.2.1.2, .slice x.2.2.2.1 r2410.1.2.2.length x.2.2.2.2]) (fun hk he h => ⟨RwO.evo (hits_sub hk (by decide)) he h.1, RwO.evo (hits_sub hk (by decide)) he h.2.1, RwO.evo (hits_sub hk (by decide)) he h.2.2.1, BlkO.evo (not_hit hk (by decide)) he h.2.2.2⟩)⟩, ⟨[1], [], [], Fct.rel [68, 70] (fun l => ∀ (cA2411 : Nat), l.getD 1 undef = .tuple #[pt cA2411 0, Zi r2410.2] → l.getD 0 undef = .tuple #[pt cA2411 0, Zi r2410.2])⟩, ⟨[2, 1], [], [], Fct.rel [71, 70] (fun l => ∀ (cA2411 : Nat), l.getD 1 undef = .tuple #[pt cA2411 0, Zi r2410.2] → l.getD 0 undef = pt cA2411 0)⟩, dv [2, 1] [] 72 (Zi r2410.2), ⟨[3, 1], [], [], Fct.rel [17, 70] (fun l => ∀ (cA2411 : Nat), l.getD 1 undef = .tuple #[pt cA2411 0, Zi r2410.2] → l.getD 0 undef = pt cA2411 0)⟩, dv [4] [] 18 (Zi r2410.2)] z2409 d2409 ?_ ?_
   ·refine sM e2409_9 <| sFE (fun f hE => or_call cf12 (args1 f.1) (pack_Open_w _ r1272.1 A1273 cA1273 (RdO.zero (RwO.rd (re_ hE b2409_A1273))) r2410 hr2410) (post_mems (m := (fun _ => 0)) (m' := (look0 [(1, 2419), (2, 2415), (3, 2416), (4, 2417), (5, 2418)])) (fun _ _ => .inl rfl) (fun own' w' a' x h1 h => ⟨x, h1, ⟨RwO.back_ h.1 (by decide) (.inl (Rep.fl_flat _)), RwO.back_ h.2.1 (by decide) (.inr (by decide)), RwO.back_ h.2.2.1 (by decide) (.inl (Rep.fl_flat _)), BlkO.back_ h.2.2.2 (by decide)⟩⟩))) ?_
    refine sc (fun own a wx hf hsl hE => ?_) ?_
    ·obtain ⟨⟨⟨⟨A2411, cA2411⟩, ⟨A2412, cA2412⟩, ⟨A2413, cA2413⟩, ⟨A2414, cA2414⟩⟩, (f_70 : a.eval (.tmp 70) = .tuple #[pt cA2411 0, Zi r2410.2]), b_A2412, b_A2413, b_A2414, b_cA2411⟩, -⟩ := hf
     exact px (or_mono (f := Fct.val 68 (.tuple #[pt cA2411 0, Zi r2410.2])) (or_move f_70) (fun own' a' w' v' hp h => fun _ h0' => by cases (f_70.symm.trans ((hp.2 70 (by decide)).symm.trans h0')); exact h))
    refine sc (fun own a wx hf hsl hE => ?_) ?_
    ·obtain ⟨(q_68 : ∀ (cA2411 : Nat), a.eval (.tmp 70) = .tuple #[pt cA2411 0, Zi r2410.2] → a.eval (.tmp 68) = .tuple #[pt cA2411 0, Zi r2410.2]), ⟨⟨⟨A2411, cA2411⟩, ⟨A2412, cA2412⟩, ⟨A2413, cA2413⟩, ⟨A2414, cA2414⟩⟩, (f_70 : a.eval (.tmp 70) = .tuple #[pt cA2411 0, Zi r2410.2]), b_A2412, b_A2413, b_A2414, b_cA2411⟩, -⟩ := hf
     have f_68 := q_68 _ f_70
     exact px (or_mono (f := Fct.val 71 (pt cA2411 0)) (ok1 f_68) (fun own' a' w' v' hp h => fun _ h0' => by cases (f_70.symm.trans ((hp.2 70 (by decide)).symm.trans h0')); exact h))
    refine sc (fun own a wx hf hsl hE => ?_) ?_
    ·obtain ⟨(q_68 : ∀ (cA2411 : Nat), a.eval (.tmp 70) = .tuple #[pt cA2411 0, Zi r2410.2] → a.eval (.tmp 68) = .tuple #[pt cA2411 0, Zi r2410.2]), ⟨⟨⟨A2411, cA2411⟩, ⟨A2412, cA2412⟩, ⟨A2413, cA2413⟩, ⟨A2414, cA2414⟩⟩, f_70, b_A2412, b_A2413, b_A2414, b_cA2411⟩, -⟩ := hf
     have f_68 := q_68 _ f_70
     exact px (ok1 f_68)
    refine sc (fun own a wx hf hsl hE => ?_) ?_
    ·obtain ⟨(q_71 : ∀ (cA2411 : Nat), a.eval (.tmp 70) = .tuple #[pt cA2411 0, Zi r2410.2] → a.eval (.tmp 71) = pt cA2411 0), ⟨⟨⟨A2411, cA2411⟩, ⟨A2412, cA2412⟩, ⟨A2413, cA2413⟩, ⟨A2414, cA2414⟩⟩, (f_70 : a.eval (.tmp 70) = .tuple #[pt cA2411 0, Zi r2410.2]), b_A2412, b_A2413, b_A2414, b_cA2411⟩, -⟩ := hf
     have f_71 := q_71 _ f_70
     exact px (or_mono (f := Fct.val 17 (pt cA2411 0)) (or_assign f_71) (fun own' a' w' v' hp h => fun _ h0' => by cases (f_70.symm.trans ((hp.2 70 (by decide)).symm.trans h0')); exact h))
    exact sA <| steps_nil
   intro o2425 a2425 w2425 d2425 z2425 hk2425 hf2425 hE2425
   obtain ⟨e2425_1, e2425_12, e2425_13, e2425_14, e2425_15, e2425_16⟩ := kt6 hk2425 e2409_1 e2409_12 e2409_13 e2409_14 e2409_15 e2409_16
   have e2425_18 := gv (hf2425 [6] rfl) rfl
   obtain ⟨⟨⟨⟨A2411, cA2411⟩, ⟨A2412, cA2412⟩, ⟨A2413, cA2413⟩, ⟨A2414, cA2414⟩⟩, (f_70 : a2425.eval (.tmp 70) = .tuple #[pt cA2411 0, Zi r2410.2]), (b2425_A2412 : RwO o2425 2415 [] w2425 5 R5 A2412 cA2412 r2410.1.1), (b2425_A2413 : RwO o2425 2416 [2417] w2425 22 R22 A2413 cA2413 r2410.1.2.1), (b2425_A2414 : RwO o2425 2418 [] w2425 66 R66 A2414 cA2414 r2410.1.2.2), (b2425_cA2411 : BlkO o2425 2419 w2425 cA2411 64 #[sl A2412 r2410.1.1 cA2412, sl A2413 r2410.1.2.1 cA2413, sl A2414 r2410.1.2.2 cA2414])⟩, (q_17 : ∀ (cA2411 : Nat), a2425.eval (.tmp 70) = .tuple #[pt cA2411 0, Zi r2410.2] → a2425.eval (.tmp 17) = pt cA2411 0), -⟩ := hf2425 [1, 5] rfl
   have e2425_17 := q_17 _ f_70
   have hX2425 := es_ hX2409 hE2425
   have b2425_cA1323 := be_ hE2425 b2409_cA1323
   have b2425_A1267 := re_ hE2425 b2409_A1267
   have b2425_A1324 := re_ hE2425 b2409_A1324
   have b2425_A1325 := re_ hE2425 b2409_A1325
   have b2425_A1326 := re_ hE2425 b2409_A1326
   refine fl_seq (fun Q2426 hn2426 hp2426 => ?_)
   refine rq_seq 136 o2425 [0, 1, 3, 7, 7, 31, 63, 127, 255, 511, 1023, 2047, 4095, 8191, 16383, 32767, 65535, 131071, 262143] [dv [] [12] 73 (.pointer none), dv [0] [] 74 (.bool false), dv [1] [] 75 (.bool false), dc [2] [13] (!false) 76 (Zi n1300.2), dc [2] [14] (!false) 77 (Zi want1309), dc [2, 3, 4] [] (!false) 78 (.bool (!decide (n1300.2 = want1309))), dv [2, 5] [] 79 (.bool (!decide (n1300.2 = want1309))), dv [6] [] 80 (.bool (!decide (n1300.2 = want1309))), dc [7] [15] (!(!decide (n1300.2 = want1309))) 81 (pt cA1323 0), dc [7, 8] [] (!(!decide (n1300.2 = want1309))) 82 (.bool true), dv [7, 9] [] 83 (.bool true), dv [10] [] 84 (.bool true), dc [11] [] (!true) 85 (Zi 0), dc [11] [] (!true) 86 (.bool false), dv [11, 13] [] 87 (.bool true), dv [14] [] 88 (.bool true), dc [15] [] (!true) 89 (Zi 0), dc [15] [] (!true) 90 (.bool false), dv [15, 17] [] 91 (.bool true)] z2425 d2425 ?_ ?_
   ·refine sM e2425_12 <| sF (fun f => ok1 f.1) <| sV <| cF (fun _ s _ _ => or_move (s.1.trans e2425_13)) <| cF (fun _ s _ _ => or_move (s.1.trans e2425_14)) <| cF (fun f _ _ hg => or_neq (f.2.1.1 hg) (f.2.2.1.1 hg) rfl) <| sF (fun f => or_or f.1 rfl (fun hx => f.2.1.1 hx) rfl) <| sV <| cF (fun _ s _ _ => or_move (s.1.trans e2425_15)) <| cF (fun f _ _ hg => ok1 (f.2.1.1 hg)) <| sF (fun f => or_or f.1 rfl (fun hx => f.2.1.1 hx) (Bool.or_true _)) <| sV ?_
    refine sc (fun own a wx hf hsl hE => ?_) ?_
    ·obtain ⟨f_84, -⟩ := hf
     refine sg_f rfl rfl rfl f_84 (fun hg => ?_)
     exact absurd hg (by simp)
    refine sc (fun own a wx hf hsl hE => ?_) ?_
    ·obtain ⟨f_84, -⟩ := hf
     refine sg_f rfl rfl rfl f_84 (fun hg => ?_)
     exact absurd hg (by simp)
    refine sF (fun f => or_or f.1 rfl (fun hx => f.2.1.1 hx) rfl) <| sV ?_
    refine sc (fun own a wx hf hsl hE => ?_) ?_
    ·obtain ⟨f_88, -⟩ := hf
     refine sg_f rfl rfl rfl f_88 (fun hg => ?_)
     exact absurd hg (by simp)
    refine sc (fun own a wx hf hsl hE => ?_) ?_
    ·obtain ⟨f_88, -⟩ := hf
     refine sg_f rfl rfl rfl f_88 (fun hg => ?_)
     exact absurd hg (by simp)
    exact sF (fun f => or_or f.1 rfl (fun hx => f.2.1.1 hx) rfl) <| steps_nil
   intro o2427 a2427 w2427 d2427 z2427 hk2427 hf2427 hE2427
   obtain ⟨e2427_1, e2427_17⟩ := kt2 hk2427 e2425_1 e2425_17
   have e2427_91 := gv (hf2427 [18] rfl) rfl
   have hX2427 := es_ hX2425 hE2427
   have b2427_cA2411 := be_ hE2427 b2425_cA2411
   have b2427_A1267 := re_ hE2427 b2425_A1267
   have b2427_A2412 := re_ hE2427 b2425_A2412
   have b2427_A2413 := re_ hE2427 b2425_A2413
   have b2427_A2414 := re_ hE2427 b2425_A2414
   refine fl_t e2427_91 ?_
   refine rq_seq 136 o2427 (bz 1) [dv [] [] 8 (.bool false)] z2427 d2427 ?_ ?_
   ·exact sO (or_assign rfl) <| steps_nil
   intro o2428 a2428 w2428 d2428 z2428 hk2428 hf2428 hE2428
   have e2428_8 := gv (hf2428 [0] rfl) rfl
   have hX2428 := es_ hX2427 hE2428
   refine fl_ret ?_
   refine hp2426 _ _ _ rfl ?_
   obtain rfl := osome hs
   exact hret _ _ _ _ (.inl rfl) d2428 (results1_ rfl (RVal.tmp_ e2428_8)) ⟨o2428, rfl, hX2428⟩
  refine rq_seq 136 o1303 (bz 2) [dv [] [11] 56 (Zi (IntKind.i64.wrap x1286)), dv [0] [] 57 (.bool (decide ((IntKind.i64.wrap x1286) < 4)))] z1303 d1303 ?_ ?_
  ·exact sM e1303_11 <| sF (fun f => or_lss f.1 rfl rfl) <| steps_nil
  intro o2429 a2429 w2429 d2429 z2429 hk2429 hf2429 hE2429
  obtain ⟨e2429_1, e2429_3, e2429_9, e2429_12, e2429_13, e2429_14⟩ := kt6 hk2429 e1303_1 e1303_3 e1303_9 e1303_12 e1303_13 e1303_14
  have e2429_57 := gv (hf2429 [1] rfl) rfl
  have hX2429 := es_ hX1303 hE2429
  have b2429_A1267 := re_ hE2429 b1303_A1267
  have b2429_A1273 := re_ hE2429 b1303_A1273
  refine fl_cond e2429_57 hs (fun c2430 hs => ?_) (fun c2430 hs => ?_)
  ·refine rq 136 o2429 (bz 1) [dv [] [] 14 (Zi 17)] z2429 d2429 ?_ ?_
   ·exact sO (or_assign rfl) <| steps_nil
   intro o2431 a2431 w2431 d2431 z2431 hk2431 hf2431 hE2431
   obtain ⟨e2431_1, e2431_3, e2431_9, e2431_12, e2431_13⟩ := kt5 hk2431 e2429_1 e2429_3 e2429_9 e2429_12 e2429_13
   have e2431_14 := gv (hf2431 [0] rfl) rfl
   have hX2431 := es_ hX2429 hE2431
   have b2431_A1267 := re_ hE2431 b2429_A1267
   have b2431_A1273 := re_ hE2431 b2429_A1273
   exact (K1310 _ _ (rl [(1269, 1308), (1270, 1308)] o2431) _ d2431 z2431 e2431_1 e2431_3 e2431_9 e2431_12 e2431_13 e2431_14 (Evo.rl_ hX2431 (fun _ => Nat.le_refl 0) rfl) (RwO.more (RwO.rl_ b2431_A1267) (by decide)) (RwO.rl_ b2431_A1273) hs)
  refine fl_skip ?_
  exact (K1310 _ _ (rl [(1269, 1308), (1270, 1308)] o2429) _ d2429 z2429 e2429_1 e2429_3 e2429_9 e2429_12 e2429_13 e2429_14 (Evo.rl_ hX2429 (fun _ => Nat.le_refl 0) rfl) (RwO.more (RwO.rl_ b2429_A1267) (by decide)) (RwO.rl_ b2429_A1273) hs)
 refine rq_seq 136 o1287 [0, 0, 3, 7, 15, 31, 31, 63, 255] [dv [] [9] 50 (sl A1273 r1272.1 cA1273), dv [] [11] 51 (Zi (IntKind.i64.wrap x1286)), ⟨[0, 1], [], [], Fct.view [1274] 52 R5 x1288⟩, ⟨[2], [], [], Fct.mems [1295, 1296, 1297, 1298, 1299] 53 (fun (x : (Option Addr × Nat) × (Option Addr × Nat) × (Option Addr × Nat) × (Option Addr × Nat)) => .tuple #[.pointer (some ⟨x.1.2, 0, none⟩), Zi r1290.2]) (fun (x : (Option Addr × Nat) × (Option Addr × Nat) × (Option Addr × Nat) × (Option Addr × Nat)) own w => RwO own 1295 [] w 5 R5 x.2.1.1 x.2.1.2 r1290.1.1 ∧ RwO own 1296 [1297] w 22 R22 x.2.2.1.1 x.2.2.1.2 r1290.1.2.1 ∧ RwO own 1298 [] w 66 R66 x.2.2.2.1 x.2.2.2.2 r1290.1.2.2 ∧ BlkO own 1299 w x.1.2 64 #[.slice x.2.1.1 r1290.1.1.length x.2.1.2, .slice x.2.2.1.1 r1290.1.2.1.length x.2.2.1.2, .slice x.2.2.2.1 r1290.1.2.2.length x.2.2.2.2]) (fun hk he h => ⟨RwO.evo (hits_sub hk (by decide)) he h.1, RwO.evo (hits_sub hk (by decide)) he h.2.1, RwO.evo (hits_sub hk (by decide)) he h.2.2.1, BlkO.evo (not_hit hk (by decide)) he h.2.2.2⟩)⟩, ⟨[3], [], [], Fct.rel [49, 53] (fun l => ∀ (cA1291 : Nat), l.getD 1 undef = .tuple #[pt cA1291 0, Zi r1290.2] → l.getD 0 undef = .tuple #[pt cA1291 0, Zi r1290.2])⟩, ⟨[4, 3], [], [], Fct.rel [54, 53] (fun l => ∀ (cA1291 : Nat), l.getD 1 undef = .tuple #[pt cA1291 0, Zi r1290.2] → l.getD 0 undef = pt cA1291 0)⟩, dv [4, 3] [] 55 (Zi r1290.2), ⟨[5, 3], [], [], Fct.rel [12, 53] (fun l => ∀ (cA1291 : Nat), l.getD 1 undef = .tuple #[pt cA1291 0, Zi r1290.2] → l.getD 0 undef = pt cA1291 0)⟩, dv [6] [] 13 (Zi r1290.2)] z1287 d1287 ?_ ?_
 ·refine sM e1287_9 <| sM e1287_11 <| sFE (fun f hE => or_view (R := R5) (l := r1272.1) (L := [1274]) tu22 ts5 f.1 Bnd.none_ (Bnd.some_ f.2.1) Bnd.none_ (RwO.rd (re_ hE b1287_A1273)) hx1288 (.inl rfl) (by simp)) ?_
  refine sc (fun own a wx hf hsl hE => ?_) ?_
  ·obtain ⟨⟨⟨A1289, cA1289⟩, f_52, b_A1289⟩, -⟩ := hf
   exact px (or_call cf12 (args1 f_52) (pack_Open_w _ x1288 A1289 cA1289 (RdO.zero b_A1289) r1290 hr1290) (post_mems (m := (fun _ => 0)) (m' := (look0 [(1, 1299), (2, 1295), (3, 1296), (4, 1297), (5, 1298)])) (fun _ _ => .inl rfl) (fun own' w' a' x h1 h => ⟨x, h1, ⟨RwO.back_ h.1 (by decide) (.inl (Rep.fl_flat _)), RwO.back_ h.2.1 (by decide) (.inr (by decide)), RwO.back_ h.2.2.1 (by decide) (.inl (Rep.fl_flat _)), BlkO.back_ h.2.2.2 (by decide)⟩⟩)))
  refine sc (fun own a wx hf hsl hE => ?_) ?_
  ·obtain ⟨⟨⟨⟨A1291, cA1291⟩, ⟨A1292, cA1292⟩, ⟨A1293, cA1293⟩, ⟨A1294, cA1294⟩⟩, (f_53 : a.eval (.tmp 53) = .tuple #[pt cA1291 0, Zi r1290.2]), b_A1292, b_A1293, b_A1294, b_cA1291⟩, -⟩ := hf
   exact px (or_mono (f := Fct.val 49 (.tuple #[pt cA1291 0, Zi r1290.2])) (or_move f_53) (fun own' a' w' v' hp h => fun _ h0' => by cases (f_53.symm.trans ((hp.2 53 (by decide)).symm.trans h0')); exact h))
  refine sc (fun own a wx hf hsl hE => ?_) ?_
  ·obtain ⟨(q_49 : ∀ (cA1291 : Nat), a.eval (.tmp 53) = .tuple #[pt cA1291 0, Zi r1290.2] → a.eval (.tmp 49) = .tuple #[pt cA1291 0, Zi r1290.2]), ⟨⟨⟨A1291, cA1291⟩, ⟨A1292, cA1292⟩, ⟨A1293, cA1293⟩, ⟨A1294, cA1294⟩⟩, (f_53 : a.eval (.tmp 53) = .tuple #[pt cA1291 0, Zi r1290.2]), b_A1292, b_A1293, b_A1294, b_cA1291⟩, -⟩ := hf
   have f_49 := q_49 _ f_53
   exact px (or_mono (f := Fct.val 54 (pt cA1291 0)) (ok1 f_49) (fun own' a' w' v' hp h => fun _ h0' => by cases (f_53.symm.trans ((hp.2 53 (by decide)).symm.trans h0')); exact h))
  refine sc (fun own a wx hf hsl hE => ?_) ?_
  ·obtain ⟨(q_49 : ∀ (cA1291 : Nat), a.eval (.tmp 53) = .tuple #[pt cA1291 0, Zi r1290.2] → a.eval (.tmp 49) = .tuple #[pt cA1291 0, Zi r1290.2]), ⟨⟨⟨A1291, cA1291⟩, ⟨A1292, cA1292⟩, ⟨A1293, cA1293⟩, ⟨A1294, cA1294⟩⟩, f_53, b_A1292, b_A1293, b_A1294, b_cA1291⟩, -⟩ := hf
   have f_49 := q_49 _ f_53
   exact px (ok1 f_49)
  refine sc (fun own a wx hf hsl hE => ?_) ?_
  ·obtain ⟨(q_54 : ∀ (cA1291 : Nat), a.eval (.tmp 53) = .tuple #[pt cA1291 0, Zi r1290.2] → a.eval (.tmp 54) = pt cA1291 0), ⟨⟨⟨A1291, cA1291⟩, ⟨A1292, cA1292⟩, ⟨A1293, cA1293⟩, ⟨A1294, cA1294⟩⟩, (f_53 : a.eval (.tmp 53) = .tuple #[pt cA1291 0, Zi r1290.2]), b_A1292, b_A1293, b_A1294, b_cA1291⟩, -⟩ := hf
   have f_54 := q_54 _ f_53
   exact px (or_mono (f := Fct.val 12 (pt cA1291 0)) (or_assign f_54) (fun own' a' w' v' hp h => fun _ h0' => by cases (f_53.symm.trans ((hp.2 53 (by decide)).symm.trans h0')); exact h))
  exact sA <| steps_nil
 intro o2432 a2432 w2432 d2432 z2432 hk2432 hf2432 hE2432
 obtain ⟨e2432_1, e2432_3, e2432_9, e2432_11⟩ := kt4 hk2432 e1287_1 e1287_3 e1287_9 e1287_11
 have e2432_13 := gv (hf2432 [8] rfl) rfl
 obtain ⟨⟨⟨⟨A1291, cA1291⟩, ⟨A1292, cA1292⟩, ⟨A1293, cA1293⟩, ⟨A1294, cA1294⟩⟩, (f_53 : a2432.eval (.tmp 53) = .tuple #[pt cA1291 0, Zi r1290.2]), (b2432_A1292 : RwO o2432 1295 [] w2432 5 R5 A1292 cA1292 r1290.1.1), (b2432_A1293 : RwO o2432 1296 [1297] w2432 22 R22 A1293 cA1293 r1290.1.2.1), (b2432_A1294 : RwO o2432 1298 [] w2432 66 R66 A1294 cA1294 r1290.1.2.2), (b2432_cA1291 : BlkO o2432 1299 w2432 cA1291 64 #[sl A1292 r1290.1.1 cA1292, sl A1293 r1290.1.2.1 cA1293, sl A1294 r1290.1.2.2 cA1294])⟩, (q_12 : ∀ (cA1291 : Nat), a2432.eval (.tmp 53) = .tuple #[pt cA1291 0, Zi r1290.2] → a2432.eval (.tmp 12) = pt cA1291 0), -⟩ := hf2432 [3, 7] rfl
 have e2432_12 := q_12 _ f_53
 have hX2432 := es_ hX1287 hE2432
 have b2432_A1267 := re_ hE2432 b1287_A1267
 have b2432_A1273 := re_ hE2432 b1287_A1273
 refine rq_seq 136 o2432 (bz 1) [dv [] [] 14 (Zi 4)] z2432 d2432 ?_ ?_
 ·exact sO (or_assign rfl) <| steps_nil
 intro o2433 a2433 w2433 d2433 z2433 hk2433 hf2433 hE2433
 obtain ⟨e2433_1, e2433_3, e2433_9, e2433_11, e2433_12, e2433_13⟩ := kt6 hk2433 e2432_1 e2432_3 e2432_9 e2432_11 e2432_12 e2432_13
 have e2433_14 := gv (hf2433 [0] rfl) rfl
 have hX2433 := es_ hX2432 hE2433
 have b2433_cA1291 := be_ hE2433 b2432_cA1291
 have b2433_A1267 := re_ hE2433 b2432_A1267
 have b2433_A1273 := re_ hE2433 b2432_A1273
 have b2433_A1292 := re_ hE2433 b2432_A1292
 have b2433_A1293 := re_ hE2433 b2432_A1293
 have b2433_A1294 := re_ hE2433 b2432_A1294
 refine fl_seq (fun Q2434 hn2434 hp2434 => ?_)
 have K2441 : ∀ (a2441 : Act) (w2441 : World) (o2441 : Own) (want2440 : Int), a2441.defers = [] → a2441.tmps.size = 136 → a2441.eval (.tmp 1) = sl A1267 r1266 cA1267 → a2441.eval (.tmp 3) = .int .u8 more4 → a2441.eval (.tmp 9) = sl A1273 r1272.1 cA1273 → a2441.eval (.tmp 12) = pt cA1291 0 → a2441.eval (.tmp 13) = Zi r1290.2 → a2441.eval (.tmp 14) = Zi want2440 → Evo [] (fun _ => 0) o2441 w w2441 → RwO o2441 1268 [0, 2438] w2441 30 R30 A1267 cA1267 r1266 → RwO o2441 1274 [] w2441 5 R5 A1273 cA1273 r1272.1 → BlkO o2441 1299 w2441 cA1291 64 #[sl A1292 r1290.1.1 cA1292, sl A1293 r1290.1.2.1 cA1293, sl A1294 r1290.1.2.2 cA1294] → RwO o2441 1295 [] w2441 5 R5 A1292 cA1292 r1290.1.1 → RwO o2441 1296 [2439] w2441 22 R22 A1293 cA1293 r1290.1.2.1 → RwO o2441 1298 [] w2441 66 R66 A1294 cA1294 r1290.1.2.2 → law27_PackCuts_k8 more4 r1272 want2440 = some r → Q2434 .normal a2441 w2441 := by
  intro a2441 w2441 o2441 want2440 d2442 z2442 e2442_1 e2442_3 e2442_9 e2442_12 e2442_13 e2442_14 hE2442 b2442_A1267 b2442_A1273 b2442_cA1291 b2442_A1292 b2442_A1293 b2442_A1294 hs
  refine hn2434 _ _ ?_
  obtain ⟨x2445, hx2445, hs⟩ := obind hs
  obtain ⟨x2450, hx2450, hs⟩ := obind hs
  refine rngO_cases hs (fun n2463 hn2463 hs => ?_) (fun r2453 hr2453 hs => ?_)
  ·refine rp_seq 136 o2441 [2465, 2466] [0, 0, 3, 0, 8, 31, 63, 127, 255, 255, 511, 2047] [⟨[], [], [], Fct.row 2465 [] 59 5 R5 ([] : List Int)⟩, dv [] [9] 60 (sl A1273 r1272.1 cA1273), ⟨[0, 1], [], [2465], Fct.row 2466 [] 61 5 R5 x2445⟩, dv [] [3] 62 (.int .u8 more4), ⟨[3], [], [], Fct.row 2469 [] 63 5 R5 [more4]⟩, ⟨[2, 4], [], [2466], Fct.row 2470 [] 64 5 R5 x2450⟩, dv [5] [] 65 (.tuple #[.pointer none, Zi n2463.2]), dv [6] [] 58 (.tuple #[.pointer none, Zi n2463.2]), dv [7] [] 66 (.pointer none), dv [7] [] 67 (Zi n2463.2), dv [8] [] 15 (.pointer none), dv [9] [] 16 (Zi n2463.2)] z2442 d2442 ?_ ?_
   ·refine sO (or_lit (lab := 2465) (e := 5) (cs := #[]) (F := E5) (nw0) rfl rfl (show 0 ≤ maxLen by decide)) <| sM e2442_9 ?_
    refine sc (fun own a wx hf hsl hE => ?_) ?_
    ·obtain ⟨⟨⟨A2464, cA2464⟩, f_59, b_A2464⟩, f_60, -⟩ := hf
     exact px (or_append (R := R5) (lab := 2465) (lab2 := 2466) (L := []) (L3 := []) tp22 f_59 b_A2464 (by decide) f_60 (RwO.rd (re_ hE b2442_A1273)) hx2445 (by decide) (by decide) (mem_of rfl) (.inl (Rep.fl_flat _)))
    refine sM e2442_3 <| sF (fun f => or_lit (lab := 2469) (e := 5) (cs := #[.int .u8 more4]) (F := E5) (nw1 f.1) rfl rfl (show 1 ≤ maxLen by decide)) ?_
    refine sc (fun own a wx hf hsl hE => ?_) ?_
    ·obtain ⟨⟨⟨A2467, cA2467⟩, f_61, b_A2467⟩, ⟨⟨A2468, cA2468⟩, f_63, b_A2468⟩, -⟩ := hf
     exact px (or_append (R := R5) (lab := 2466) (lab2 := 2470) (L := []) (L3 := []) tp22 f_61 b_A2467 (by decide) f_63 (RwO.rd b_A2468) hx2450 (by decide) (by decide) (mem_of rfl) (.inl (Rep.fl_flat _)))
    refine sc (fun own a wx hf hsl hE => ?_) ?_
    ·obtain ⟨⟨⟨A2471, cA2471⟩, f_64, b_A2471⟩, -⟩ := hf
     exact px (or_call cf12 (args1 f_64) (pack_Open_n _ x2450 A2471 cA2471 (RdO.zero (RwO.rd b_A2471)) n2463 hn2463) post_val)
    exact sV <| sF (fun f => ok1 f.1) <| sF (fun f => ok1 f.1) <| sA <| sA <| steps_nil
   intro o2472 a2472 w2472 d2472 z2472 hk2472 hf2472 hE2472
   obtain ⟨e2472_1, e2472_9, e2472_12, e2472_13, e2472_14⟩ := kt5 hk2472 e2442_1 e2442_9 e2442_12 e2442_13 e2442_14
   have e2472_15 := gv (hf2472 [10] rfl) rfl
   have e2472_16 := gv (hf2472 [11] rfl) rfl
   have hX2472 := es_ hE2442 hE2472
   have b2472_cA1291 := be_ hE2472 b2442_cA1291
   have b2472_A1267 := re_ hE2472 b2442_A1267
   have b2472_A1273 := re_ hE2472 b2442_A1273
   have b2472_A1292 := re_ hE2472 b2442_A1292
   have b2472_A1293 := re_ hE2472 b2442_A1293
   have b2472_A1294 := re_ hE2472 b2442_A1294
   refine rngO_cases hs (fun n2483 hn2483 hs => ?_) (fun r2473 hr2473 hs => ?_)
   ·refine rq_seq 136 o2472 [0, 1, 3, 7, 7, 15, 63] [dv [] [9] 69 (sl A1273 r1272.1 cA1273), dv [0] [] 70 (.tuple #[.pointer none, Zi n2483.2]), dv [1] [] 68 (.tuple #[.pointer none, Zi n2483.2]), dv [2] [] 71 (.pointer none), dv [2] [] 72 (Zi n2483.2), dv [3] [] 17 (.pointer none), dv [4] [] 18 (Zi n2483.2)] z2472 d2472 ?_ ?_
    ·exact sM e2472_9 <| sFE (fun f hE => or_call cf12 (args1 f.1) (pack_Open_n _ r1272.1 A1273 cA1273 (RdO.zero (RwO.rd (re_ hE b2472_A1273))) n2483 hn2483) post_val) <| sV <| sF (fun f => ok1 f.1) <| sF (fun f => ok1 f.1) <| sA <| sA <| steps_nil
    intro o2484 a2484 w2484 d2484 z2484 hk2484 hf2484 hE2484
    obtain ⟨e2484_1, e2484_12, e2484_13, e2484_14, e2484_15, e2484_16⟩ := kt6 hk2484 e2472_1 e2472_12 e2472_13 e2472_14 e2472_15 e2472_16
    have e2484_17 := gv (hf2484 [5] rfl) rfl
    have e2484_18 := gv (hf2484 [6] rfl) rfl
    have hX2484 := es_ hX2472 hE2484
    have b2484_cA1291 := be_ hE2484 b2472_cA1291
    have b2484_A1267 := re_ hE2484 b2472_A1267
    have b2484_A1292 := re_ hE2484 b2472_A1292
    have b2484_A1293 := re_ hE2484 b2472_A1293
    have b2484_A1294 := re_ hE2484 b2472_A1294
    refine fl_seq (fun Q2485 hn2485 hp2485 => ?_)
    refine rq_seq 136 o2484 [0, 1, 3, 7, 7, 31, 63, 127, 255, 511, 1023, 2047, 4095, 8191, 16383, 32767, 65535, 131071, 262143] [dv [] [12] 73 (pt cA1291 0), dv [0] [] 74 (.bool true), dv [1] [] 75 (.bool true), dc [2] [] (!true) 76 (Zi 0), dc [2] [] (!true) 77 (Zi 0), dc [2] [] (!true) 78 (.bool false), dv [2, 5] [] 79 (.bool true), dv [6] [] 80 (.bool true), dc [7] [] (!true) 81 (.pointer none), dc [7] [] (!true) 82 (.bool false), dv [7, 9] [] 83 (.bool true), dv [10] [] 84 (.bool true), dc [11] [] (!true) 85 (Zi 0), dc [11] [] (!true) 86 (.bool false), dv [11, 13] [] 87 (.bool true), dv [14] [] 88 (.bool true), dc [15] [] (!true) 89 (Zi 0), dc [15] [] (!true) 90 (.bool false), dv [15, 17] [] 91 (.bool true)] z2484 d2484 ?_ ?_
    ·refine sM e2484_12 <| sF (fun f => ok1 f.1) <| sV ?_
     refine sc (fun own a wx hf hsl hE => ?_) ?_
     ·obtain ⟨f_75, -⟩ := hf
      refine sg_f rfl rfl rfl f_75 (fun hg => ?_)
      exact absurd hg (by simp)
     refine sc (fun own a wx hf hsl hE => ?_) ?_
     ·obtain ⟨f_75, -⟩ := hf
      refine sg_f rfl rfl rfl f_75 (fun hg => ?_)
      exact absurd hg (by simp)
     refine sc (fun own a wx hf hsl hE => ?_) ?_
     ·obtain ⟨f_75, -⟩ := hf
      refine sg_f rfl rfl rfl f_75 (fun hg => ?_)
      exact absurd hg (by simp)
     refine sF (fun f => or_or f.1 rfl (fun hx => f.2.1.1 hx) rfl) <| sV ?_
     refine sc (fun own a wx hf hsl hE => ?_) ?_
     ·obtain ⟨f_80, -⟩ := hf
      refine sg_f rfl rfl rfl f_80 (fun hg => ?_)
      exact absurd hg (by simp)
     refine sc (fun own a wx hf hsl hE => ?_) ?_
     ·obtain ⟨f_80, -⟩ := hf
      refine sg_f rfl rfl rfl f_80 (fun hg => ?_)
      exact absurd hg (by simp)
     refine sF (fun f => or_or f.1 rfl (fun hx => f.2.1.1 hx) rfl) <| sV ?_
     refine sc (fun own a wx hf hsl hE => ?_) ?_
     ·obtain ⟨f_84, -⟩ := hf
      refine sg_f rfl rfl rfl f_84 (fun hg => ?_)
      exact absurd hg (by simp)
     refine sc (fun own a wx hf hsl hE => ?_) ?_
     ·obtain ⟨f_84, -⟩ := hf
      refine sg_f rfl rfl rfl f_84 (fun hg => ?_)
      exact absurd hg (by simp)
     refine sF (fun f => or_or f.1 rfl (fun hx => f.2.1.1 hx) rfl) <| sV ?_
     refine sc (fun own a wx hf hsl hE => ?_) ?_
     ·obtain ⟨f_88, -⟩ := hf
      refine sg_f rfl rfl rfl f_88 (fun hg => ?_)
      exact absurd hg (by simp)
     refine sc (fun own a wx hf hsl hE => ?_) ?_
     ·obtain ⟨f_88, -⟩ := hf
      refine sg_f rfl rfl rfl f_88 (fun hg => ?_)
      exact absurd hg (by simp)
     exact sF (fun f => or_or f.1 rfl (fun hx => f.2.1.1 hx) rfl) <| steps_nil
    intro o2486 a2486 w2486 d2486 z2486 hk2486 hf2486 hE2486
    obtain ⟨e2486_1, e2486_17⟩ := kt2 hk2486 e2484_1 e2484_17
    have e2486_91 := gv (hf2486 [18] rfl) rfl
    have hX2486 := es_ hX2484 hE2486
    have b2486_A1267 := re_ hE2486 b2484_A1267
    refine fl_t e2486_91 ?_
    refine rq_seq 136 o2486 (bz 1) [dv [] [] 8 (.bool false)] z2486 d2486 ?_ ?_
    ·exact sO (or_assign rfl) <| steps_nil
    intro o2487 a2487 w2487 d2487 z2487 hk2487 hf2487 hE2487
    have e2487_8 := gv (hf2487 [0] rfl) rfl
    have hX2487 := es_ hX2486 hE2487
    refine fl_ret ?_
    refine hp2485 _ _ _ rfl ?_
    obtain rfl := osome hs
    exact hret _ _ _ _ (.inl rfl) d2487 (results1_ rfl (RVal.tmp_ e2487_8)) ⟨o2487, rfl, hX2487⟩
   refine rq_seq 136 o2472 [0, 1, 3, 7, 7, 15, 63] [dv [] [9] 69 (sl A1273 r1272.1 cA1273), ⟨[0], [], [], Fct.mems [2478, 2479, 2480, 2481, 2482] 70 (fun (x : (Option Addr × Nat) × (Option Addr × Nat) × (Option Addr × Nat) × (Option Addr × Nat)) => .tuple #[.pointer (some ⟨x.1.2, 0, none⟩), Zi r2473.2]) (fun (x : (Option Addr × Nat) × (Option Addr × Nat) × (Option Addr × Nat) × (Option Addr × Nat)) own w => RwO own 2478 [] w 5 R5 x.2.1.1 x.2.1.2 r2473.1.1 ∧ RwO own 2479 [2480] w 22 R22 x.2.2.1.1 x.2.2.1.2 r2473.1.2.1 ∧ RwO own 2481 [] w 66 R66 x.2.2.2.1 x.2.2.2.2 r2473.1.2.2 ∧ BlkO own 2482 w x.1.2 64 #[.slice x.2.1.1 r2473.1.1.length x.2.1.2, .slice x.2.2.1.1 r2473.1.2.1.length x.2.2.1.2, .slice x.2.2.2.1 r2473.1.2.2.length x.2.2.2.2]) (fun hk he h => ⟨RwO.evo (hits_sub hk (by decide)) he h.1, RwO.evo (hits_sub hk (by decide)) he h.2.1, RwO.evo (hits_sub hk (by decide)) he h.2.2.1, BlkO.evo (not_hit hk (by decide)) he h.2.2.2⟩)⟩, ⟨[1], [], [], Fct.rel [68, 70] (fun l => ∀ (cA2474 : Nat), l.getD 1 undef = .tuple #[pt cA2474 0, Zi r2473.2] → l.getD 0 undef = .tuple #[pt cA2474 0, Zi r2473.2])⟩, ⟨[2, 1], [], [], Fct.rel [71, 70] (fun l => ∀ (cA2474 : Nat), l.getD 1 undef = .tuple #[pt cA2474 0, Zi r2473.2] → l.getD 0 undef = pt cA2474 0)⟩, dv [2, 1] [] 72 (Zi r2473.2), ⟨[3, 1], [], [], Fct.rel [17, 70] (fun l => ∀ (cA2474 : Nat), l.getD 1 undef = .tuple #[pt cA2474 0, Zi r2473.2] → l.getD 0 undef = pt cA2474 0)⟩, dv [4] [] 18 (Zi r2473.2)] z2472 d2472 ?_ ?_
   ·refine sM e2472_9 <| sFE (fun f hE => or_call cf12 (args1 f.1) (pack_Open_w _ r1272.1 A1273 cA1273 (RdO.zero (RwO.rd (re_ hE b2472_A1273))) r2473 hr2473) (post_mems (m := (fun _ => 0)) (m' := (look0 [(1, 2482), (2, 2478), (3, 2479), (4, 2480), (5, 2481)])) (fun _ _ => .inl rfl) (fun own' w' a' x h1 h => ⟨x, h1, ⟨RwO.back_ h.1 (by decide) (.inl (Rep.fl_flat _)), RwO.back_ h.2.1 (by decide) (.inr (by decide)), RwO.back_ h.2.2.1 (by decide) (.inl (Rep.fl_flat _)), BlkO.back_ h.2.2.2 (by decide)⟩⟩))) ?_
    refine sc (fun own a wx hf hsl hE => ?_) ?_
    ·obtain ⟨⟨⟨⟨A2474, cA2474⟩, ⟨A2475, cA2475⟩, ⟨A2476, cA2476⟩, ⟨A2477, cA2477⟩⟩, (f_70 : a.eval (.tmp 70) = .tuple #[pt cA2474 0, Zi r2473.2]), b_A2475, b_A2476, b_A2477, b_cA2474⟩, -⟩ := hf
     exact px (or_mono (f := Fct.val 68 (.tuple #[pt cA2474 0, Zi r2473.2])) (or_move f_70) (fun own' a' w' v' hp h => fun _ h0' => by cases (f_70.symm.trans ((hp.2 70 (by decide)).symm.trans h0')); exact h))
    refine sc (fun own a wx hf hsl hE => ?_) ?_
    ·obtain ⟨(q_68 : ∀ (cA2474 : Nat), a.eval (.tmp 70) = .tuple #[pt cA2474 0, Zi r2473.2] → a.eval (.tmp 68) = .tuple #[pt cA2474 0, Zi r2473.2]), ⟨⟨⟨A2474, cA2474⟩, ⟨A2475, cA2475⟩, ⟨A2476, cA2476⟩, ⟨A2477, cA2477⟩⟩, (f_70 : a.eval (.tmp 70) = .tuple #[pt cA2474 0, Zi r2473.2]), b_A2475, b_A2476, b_A2477, b_cA2474⟩, -⟩ := hf
     have f_68 := q_68 _ f_70
     exact px (or_mono (f := Fct.val 71 (pt cA2474 0)) (ok1 f_68) (fun own' a' w' v' hp h => fun _ h0' => by cases (f_70.symm.trans ((hp.2 70 (by decide)).symm.trans h0')); exact h))
    refine sc (fun own a wx hf hsl hE => ?_) ?_
    ·obtain ⟨(q_68 : ∀ (cA2474 : Nat), a.eval (.tmp 70) = .tuple #[pt cA2474 0, Zi r2473.2] → a.eval (.tmp 68) = .tuple #[pt cA2474 0, Zi r2473.2]), ⟨⟨⟨A2474, cA2474⟩, ⟨A2475, cA2475⟩, ⟨A2476, cA2476⟩, ⟨A2477, cA2477⟩⟩, f_70, b_A2475, b_A2476, b_A2477, b_cA2474⟩, -⟩ := hf
     have f_68 := q_68 _ f_70
     exact px (ok1 f_68)
    refine sc (fun own a wx hf hsl hE => ?_) ?_
    ·obtain ⟨(q_71 : ∀ (cA2474 : Nat), a.eval (.tmp 70) = .tuple #[pt cA2474 0, Zi r2473.2] → a.eval (.tmp 71) = pt cA2474 0), ⟨⟨⟨A2474, cA2474⟩, ⟨A2475, cA2475⟩, ⟨A2476, cA2476⟩, ⟨A2477, cA2477⟩⟩, (f_70 : a.eval (.tmp 70) = .tuple #[pt cA2474 0, Zi r2473.2]), b_A2475, b_A2476, b_A2477, b_cA2474⟩, -⟩ := hf
     have f_71 := q_71 _ f_70
     exact px (or_mono (f := Fct.val 17 (pt cA2474 0)) (or_assign f_71) (fun own' a' w' v' hp h => fun _ h0' => by cases (f_70.symm.trans ((hp.2 70 (by decide)).symm.trans h0')); exact h))
    exact sA <| steps_nil
   intro o2488 a2488 w2488 d2488 z2488 hk2488 hf2488 hE2488
   obtain ⟨e2488_1, e2488_12, e2488_13, e2488_14, e2488_15, e2488_16⟩ := kt6 hk2488 e2472_1 e2472_12 e2472_13 e2472_14 e2472_15 e2472_16
   have e2488_18 := gv (hf2488 [6] rfl) rfl
   obtain ⟨⟨⟨⟨A2474, cA2474⟩, ⟨A2475, cA2475⟩, ⟨A2476, cA2476⟩, ⟨A2477, cA2477⟩⟩, (f_70 : a2488.eval (.tmp 70) = .tuple #[pt cA2474 0, Zi r2473.2]), (b2488_A2475 : RwO o2488 2478 [] w2488 5 R5 A2475 cA2475 r2473.1.1), (b2488_A2476 : RwO o2488 2479 [2480] w2488 22 R22 A2476 cA2476 r2473.1.2.1), (b2488_A2477 : RwO o2488 2481 [] w2488 66 R66 A2477 cA2477 r2473.1.2.2), (b2488_cA2474 : BlkO o2488 2482 w2488 cA2474 64 #[sl A2475 r2473.1.1 cA2475, sl A2476 r2473.1.2.1 cA2476, sl A2477 r2473.1.2.2 cA2477])⟩, (q_17 : ∀ (cA2474 : Nat), a2488.eval (.tmp 70) = .tuple #[pt cA2474 0, Zi r2473.2] → a2488.eval (.tmp 17) = pt cA2474 0), -⟩ := hf2488 [1, 5] rfl
   have e2488_17 := q_17 _ f_70
   have hX2488 := es_ hX2472 hE2488
   have b2488_cA1291 := be_ hE2488 b2472_cA1291
   have b2488_A1267 := re_ hE2488 b2472_A1267
   have b2488_A1292 := re_ hE2488 b2472_A1292
   have b2488_A1293 := re_ hE2488 b2472_A1293
   have b2488_A1294 := re_ hE2488 b2472_A1294
   refine fl_seq (fun Q2489 hn2489 hp2489 => ?_)
   refine rq_seq 136 o2488 [0, 1, 3, 7, 7, 31, 63, 127, 255, 511, 1023, 2047, 4095, 8191, 16383, 32767, 65535, 131071, 262143] [dv [] [12] 73 (pt cA1291 0), dv [0] [] 74 (.bool true), dv [1] [] 75 (.bool true), dc [2] [] (!true) 76 (Zi 0), dc [2] [] (!true) 77 (Zi 0), dc [2] [] (!true) 78 (.bool false), dv [2, 5] [] 79 (.bool true), dv [6] [] 80 (.bool true), dc [7] [] (!true) 81 (.pointer none), dc [7] [] (!true) 82 (.bool false), dv [7, 9] [] 83 (.bool true), dv [10] [] 84 (.bool true), dc [11] [] (!true) 85 (Zi 0), dc [11] [] (!true) 86 (.bool false), dv [11, 13] [] 87 (.bool true), dv [14] [] 88 (.bool true), dc [15] [] (!true) 89 (Zi 0), dc [15] [] (!true) 90 (.bool false), dv [15, 17] [] 91 (.bool true)] z2488 d2488 ?_ ?_
   ·refine sM e2488_12 <| sF (fun f => ok1 f.1) <| sV ?_
    refine sc (fun own a wx hf hsl hE => ?_) ?_
    ·obtain ⟨f_75, -⟩ := hf
     refine sg_f rfl rfl rfl f_75 (fun hg => ?_)
     exact absurd hg (by simp)
    refine sc (fun own a wx hf hsl hE => ?_) ?_
    ·obtain ⟨f_75, -⟩ := hf
     refine sg_f rfl rfl rfl f_75 (fun hg => ?_)
     exact absurd hg (by simp)
    refine sc (fun own a wx hf hsl hE => ?_) ?_
    ·obtain ⟨f_75, -⟩ := hf
     refine sg_f rfl rfl rfl f_75 (fun hg => ?_)
     exact absurd hg (by simp)
    refine sF (fun f => or_or f.1 rfl (fun hx => f.2.1.1 hx) rfl) <| sV ?_
    refine sc (fun own a wx hf hsl hE => ?_) ?_
    ·obtain ⟨f_80, -⟩ := hf
     refine sg_f rfl rfl rfl f_80 (fun hg => ?_)
     exact absurd hg (by simp)
    refine sc (fun own a wx hf hsl hE => ?_) ?_
    ·obtain ⟨f_80, -⟩ := hf
     refine sg_f rfl rfl rfl f_80 (fun hg => ?_)
     exact absurd hg (by simp)
    refine sF (fun f => or_or f.1 rfl (fun hx => f.2.1.1 hx) rfl) <| sV ?_
    refine sc (fun own a wx hf hsl hE => ?_) ?_
    ·obtain ⟨f_84, -⟩ := hf
     refine sg_f rfl rfl rfl f_84 (fun hg => ?_)
     exact absurd hg (by simp)
    refine sc (fun own a wx hf hsl hE => ?_) ?_
    ·obtain ⟨f_84, -⟩ := hf
     refine sg_f rfl rfl rfl f_84 (fun hg => ?_)
     exact absurd hg (by simp)
    refine sF (fun f => or_or f.1 rfl (fun hx => f.2.1.1 hx) rfl) <| sV ?_
    refine sc (fun own a wx hf hsl hE => ?_) ?_
    ·obtain ⟨f_88, -⟩ := hf
     refine sg_f rfl rfl rfl f_88 (fun hg => ?_)
     exact absurd hg (by simp)
    refine sc (fun own a wx hf hsl hE => ?_) ?_
    ·obtain ⟨f_88, -⟩ := hf
     refine sg_f rfl rfl rfl f_88 (fun hg => ?_)
     exact absurd hg (by simp)
    exact sF (fun f => or_or f.1 rfl (fun hx => f.2.1.1 hx) rfl) <| steps_nil
   intro o2490 a2490 w2490 d2490 z2490 hk2490 hf2490 hE2490
   obtain ⟨e2490_1, e2490_17⟩ := kt2 hk2490 e2488_1 e2488_17
   have e2490_91 := gv (hf2490 [18] rfl) rfl
   have hX2490 := es_ hX2488 hE2490
   have b2490_cA2474 := be_ hE2490 b2488_cA2474
   have b2490_A1267 := re_ hE2490 b2488_A1267
   have b2490_A2475 := re_ hE2490 b2488_A2475
   have b2490_A2476 := re_ hE2490 b2488_A2476
   have b2490_A2477 := re_ hE2490 b2488_A2477
   refine fl_t e2490_91 ?_
   refine rq_seq 136 o2490 (bz 1) [dv [] [] 8 (.bool false)] z2490 d2490 ?_ ?_
   ·exact sO (or_assign rfl) <| steps_nil
   intro o2491 a2491 w2491 d2491 z2491 hk2491 hf2491 hE2491
   have e2491_8 := gv (hf2491 [0] rfl) rfl
   have hX2491 := es_ hX2490 hE2491
   refine fl_ret ?_
   refine hp2489 _ _ _ rfl ?_
   obtain rfl := osome hs
   exact hret _ _ _ _ (.inl rfl) d2491 (results1_ rfl (RVal.tmp_ e2491_8)) ⟨o2491, rfl, hX2491⟩
  refine rp_seq 136 o2441 [2444, 2446] [0, 0, 3, 0, 8, 31, 63, 127, 255, 255, 511, 2047] [⟨[], [], [], Fct.row 2444 [] 59 5 R5 ([] : List Int)⟩, dv [] [9] 60 (sl A1273 r1272.1 cA1273), ⟨[0, 1], [], [2444], Fct.row 2446 [] 61 5 R5 x2445⟩, dv [] [3] 62 (.int .u8 more4), ⟨[3], [], [], Fct.row 2449 [] 63 5 R5 [more4]⟩, ⟨[2, 4], [], [2446], Fct.row 2451 [] 64 5 R5 x2450⟩, ⟨[5], [], [], Fct.mems [2458, 2459, 2460, 2461, 2462] 65 (fun (x : (Option Addr × Nat) × (Option Addr × Nat) × (Option Addr × Nat) × (Option Addr × Nat)) => .tuple #[.pointer (some ⟨x.1.2, 0, none⟩), Zi r2453.2]) (fun (x : (Option Addr × Nat) × (Option Addr × Nat) × (Option Addr × Nat) × (Option Addr × Nat)) own w => RwO own 2458 [] w 5 R5 x.2.1.1 x.2.1.2 r2453.1.1 ∧ RwO own 2459 [2460] w 22 R22 x.2.2.1.1 x.2.2.1.2 r2453.1.2.1 ∧ RwO own 2461 [] w 66 R66 x.2.2.2.1 x.2.2.2.2 r2453.1.2.2 ∧ BlkO own 2462 w x.1.2 64 #[.slice x.2.1.1 r2453.1.1.length x.2.1.2, .slice x.2.2.1.1 r2453.1.2.1.length x.2.2.1.2, .slice x.2.2.2.1 r2453.1.2.2.length x.2.2.2.2]) (fun hk he h => ⟨RwO.evo (hits_sub hk (by decide)) he h.1, RwO.evo (hits_sub hk (by decide)) he h.2.1, RwO.evo (hits_sub hk (by decide)) he h.2.2.1, BlkO.evo (not_hit hk (by decide)) he h.2.2.2⟩)⟩, ⟨[6], [], [], Fct.rel [58, 65] (fun l => ∀ (cA2454 : Nat), l.getD 1 undef = .tuple #[pt cA2454 0, Zi r2453.2] → l.getD 0 undef = .tuple #[pt cA2454 0, Zi r2453.2])⟩, ⟨[7, 6], [], [], Fct.rel [66, 65] (fun l => ∀ (cA2454 : Nat), l.getD 1 undef = .tuple #[pt cA2454 0, Zi r2453.2] → l.getD 0 undef = pt cA2454 0)⟩, dv [7, 6] [] 67 (Zi r2453.2), ⟨[8, 6], [], [], Fct.rel [15, 65] (fun l => ∀ (cA2454 : Nat), l.getD 1 undef = .tuple #[pt cA2454 0, Zi r2453.2] → l.getD 0 undef = pt cA2454 0)⟩, dv [9] [] 16 (Zi r2453.2)] z2442 d2442 ?_ ?_
  ·refine sO (or_lit (lab := 2444) (e := 5) (cs := #[]) (F := E5) (nw0) rfl rfl (show 0 ≤ maxLen by decide)) <| sM e2442_9 ?_
   refine sc (fun own a wx hf hsl hE => ?_) ?_
   ·obtain ⟨⟨⟨A2443, cA2443⟩, f_59, b_A2443⟩, f_60, -⟩ := hf
    exact px (or_append (R := R5) (lab := 2444) (lab2 := 2446) (L := []) (L3 := []) tp22 f_59 b_A2443 (by decide) f_60 (RwO.rd (re_ hE b2442_A1273)) hx2445 (by decide) (by decide) (mem_of rfl) (.inl (Rep.fl_flat _)))
   refine sM e2442_3 <| sF (fun f => or_lit (lab := 2449) (e := 5) (cs := #[.int .u8 more4]) (F := E5) (nw1 f.1) rfl rfl (show 1 ≤ maxLen by decide)) ?_
   refine sc (fun own a wx hf hsl hE => ?_) ?_
   ·obtain ⟨⟨⟨A2447, cA2447⟩, f_61, b_A2447⟩, ⟨⟨A2448, cA2448⟩, f_63, b_A2448⟩, -⟩ := hf
    exact px (or_append (R := R5) (lab := 2446) (lab2 := 2451) (L := []) (L3 := []) tp22 f_61 b_A2447 (by decide) f_63 (RwO.rd b_A2448) hx2450 (by decide) (by decide) (mem_of rfl) (.inl (Rep.fl_flat _)))
   refine sc (fun own a wx hf hsl hE => ?_) ?_
   ·obtain ⟨⟨⟨A2452, cA2452⟩, f_64, b_A2452⟩, -⟩ := hf
    exact px (or_call cf12 (args1 f_64) (pack_Open_w _ x2450 A2452 cA2452 (RdO.zero (RwO.rd b_A2452)) r2453 hr2453) (post_mems (m := (fun _ => 0)) (m' := (look0 [(1, 2462), (2, 2458), (3, 2459), (4, 2460), (5, 2461)])) (fun _ _ => .inl rfl) (fun own' w' a' x h1 h => ⟨x, h1, ⟨RwO.back_ h.1 (by decide) (.inl (Rep.fl_flat _)), RwO.back_ h.2.1 (by decide) (.inr (by decide)), RwO.back_ h.2.2.1 (by decide) (.inl (Rep.fl_flat _)), BlkO.back_ h.2.2.2 (by decide)⟩⟩)))
   refine sc (fun own a wx hf hsl hE => ?_) ?_
   ·obtain ⟨⟨⟨⟨A2454, cA2454⟩, ⟨A2455, cA2455⟩, ⟨A2456, cA2456⟩, ⟨A2457, cA2457⟩⟩, (f_65 : a.eval (.tmp 65) = .tuple #[pt cA2454 0, Zi r2453.2]), b_A2455, b_A2456, b_A2457, b_cA2454⟩, -⟩ := hf
    exact px (or_mono (f := Fct.val 58 (.tuple #[pt cA2454 0, Zi r2453.2])) (or_move f_65) (fun own' a' w' v' hp h => fun _ h0' => by cases (f_65.symm.trans ((hp.2 65 (by decide)).symm.trans h0')); exact h))
   refine sc (fun own a wx hf hsl hE => ?_) ?_
   ·obtain ⟨(q_58 : ∀ (cA2454 : Nat), a.eval (.tmp 65) = .tuple #[pt cA2454 0, Zi r2453.2] → a.eval (.tmp 58) = .tuple #[pt cA2454 0, Zi r2453.2]), ⟨⟨⟨A2454, cA2454⟩, ⟨A2455, cA2455⟩, ⟨A2456, cA2456⟩, ⟨A2457, cA2457⟩⟩, (f_65 : a.eval (.tmp 65) = .tuple #[pt cA2454 0, Zi r2453.2]), b_A2455, b_A2456, b_A2457, b_cA2454⟩, -⟩ := hf
    have f_58 := q_58 _ f_65
    exact px (or_mono (f := Fct.val 66 (pt cA2454 0)) (ok1 f_58) (fun own' a' w' v' hp h => fun _ h0' => by cases (f_65.symm.trans ((hp.2 65 (by decide)).symm.trans h0')); exact h))
   refine sc (fun own a wx hf hsl hE => ?_) ?_
   ·obtain ⟨(q_58 : ∀ (cA2454 : Nat), a.eval (.tmp 65) = .tuple #[pt cA2454 0, Zi r2453.2] → a.eval (.tmp 58) = .tuple #[pt cA2454 0, Zi r2453.2]), ⟨⟨⟨A2454, cA2454⟩, ⟨A2455, cA2455⟩, ⟨A2456, cA2456⟩, ⟨A2457, cA2457⟩⟩, f_65, b_A2455, b_A2456, b_A2457, b_cA2454⟩, -⟩ := hf
    have f_58 := q_58 _ f_65
    exact px (ok1 f_58)
   refine sc (fun own a wx hf hsl hE => ?_) ?_
   ·obtain ⟨(q_66 : ∀ (cA2454 : Nat), a.eval (.tmp 65) = .tuple #[pt cA2454 0, Zi r2453.2] → a.eval (.tmp 66) = pt cA2454 0), ⟨⟨⟨A2454, cA2454⟩, ⟨A2455, cA2455⟩, ⟨A2456, cA2456⟩, ⟨A2457, cA2457⟩⟩, (f_65 : a.eval (.tmp 65) = .tuple #[pt cA2454 0, Zi r2453.2]), b_A2455, b_A2456, b_A2457, b_cA2454⟩, -⟩ := hf
    have f_66 := q_66 _ f_65
    exact px (or_mono (f := Fct.val 15 (pt cA2454 0)) (or_assign f_66) (fun own' a' w' v' hp h => fun _ h0' => by cases (f_65.symm.trans ((hp.2 65 (by decide)).symm.trans h0')); exact h))
   exact sA <| steps_nil
  intro o2492 a2492 w2492 d2492 z2492 hk2492 hf2492 hE2492
  obtain ⟨e2492_1, e2492_9, e2492_12, e2492_13, e2492_14⟩ := kt5 hk2492 e2442_1 e2442_9 e2442_12 e2442_13 e2442_14
  have e2492_16 := gv (hf2492 [11] rfl) rfl
  obtain ⟨⟨⟨⟨A2454, cA2454⟩, ⟨A2455, cA2455⟩, ⟨A2456, cA2456⟩, ⟨A2457, cA2457⟩⟩, (f_65 : a2492.eval (.tmp 65) = .tuple #[pt cA2454 0, Zi r2453.2]), (b2492_A2455 : RwO o2492 2458 [] w2492 5 R5 A2455 cA2455 r2453.1.1), (b2492_A2456 : RwO o2492 2459 [2460] w2492 22 R22 A2456 cA2456 r2453.1.2.1), (b2492_A2457 : RwO o2492 2461 [] w2492 66 R66 A2457 cA2457 r2453.1.2.2), (b2492_cA2454 : BlkO o2492 2462 w2492 cA2454 64 #[sl A2455 r2453.1.1 cA2455, sl A2456 r2453.1.2.1 cA2456, sl A2457 r2453.1.2.2 cA2457])⟩, (q_15 : ∀ (cA2454 : Nat), a2492.eval (.tmp 65) = .tuple #[pt cA2454 0, Zi r2453.2] → a2492.eval (.tmp 15) = pt cA2454 0), -⟩ := hf2492 [6, 10] rfl
  have e2492_15 := q_15 _ f_65
  have hX2492 := es_ hE2442 hE2492
  have b2492_cA1291 := be_ hE2492 b2442_cA1291
  have b2492_A1267 := re_ hE2492 b2442_A1267
  have b2492_A1273 := re_ hE2492 b2442_A1273
  have b2492_A1292 := re_ hE2492 b2442_A1292
  have b2492_A1293 := re_ hE2492 b2442_A1293
  have b2492_A1294 := re_ hE2492 b2442_A1294
  refine rngO_cases hs (fun n2503 hn2503 hs => ?_) (fun r2493 hr2493 hs => ?_)
  ·refine rq_seq 136 o2492 [0, 1, 3, 7, 7, 15, 63] [dv [] [9] 69 (sl A1273 r1272.1 cA1273), dv [0] [] 70 (.tuple #[.pointer none, Zi n2503.2]), dv [1] [] 68 (.tuple #[.pointer none, Zi n2503.2]), dv [2] [] 71 (.pointer none), dv [2] [] 72 (Zi n2503.2), dv [3] [] 17 (.pointer none), dv [4] [] 18 (Zi n2503.2)] z2492 d2492 ?_ ?_
   ·exact sM e2492_9 <| sFE (fun f hE => or_call cf12 (args1 f.1) (pack_Open_n _ r1272.1 A1273 cA1273 (RdO.zero (RwO.rd (re_ hE b2492_A1273))) n2503 hn2503) post_val) <| sV <| sF (fun f => ok1 f.1) <| sF (fun f => ok1 f.1) <| sA <| sA <| steps_nil
   intro o2504 a2504 w2504 d2504 z2504 hk2504 hf2504 hE2504
   obtain ⟨e2504_1, e2504_12, e2504_13, e2504_14, e2504_15, e2504_16⟩ := kt6 hk2504 e2492_1 e2492_12 e2492_13 e2492_14 e2492_15 e2492_16
   have e2504_17 := gv (hf2504 [5] rfl) rfl
   have e2504_18 := gv (hf2504 [6] rfl) rfl
   have hX2504 := es_ hX2492 hE2504
   obtain ⟨b2504_cA1291, b2504_cA2454⟩ := be2 hE2504 b2492_cA1291 b2492_cA2454
   have b2504_A1267 := re_ hE2504 b2492_A1267
   have b2504_A1292 := re_ hE2504 b2492_A1292
   have b2504_A1293 := re_ hE2504 b2492_A1293
   have b2504_A1294 := re_ hE2504 b2492_A1294
   have b2504_A2455 := re_ hE2504 b2492_A2455
   have b2504_A2456 := re_ hE2504 b2492_A2456
   have b2504_A2457 := re_ hE2504 b2492_A2457
   refine fl_seq (fun Q2505 hn2505 hp2505 => ?_)
   refine rq_seq 136 o2504 [0, 1, 3, 7, 7, 31, 63, 127, 255, 511, 1023, 2047, 4095, 8191, 16383, 32767, 65535, 131071, 262143] [dv [] [12] 73 (pt cA1291 0), dv [0] [] 74 (.bool true), dv [1] [] 75 (.bool true), dc [2] [] (!true) 76 (Zi 0), dc [2] [] (!true) 77 (Zi 0), dc [2] [] (!true) 78 (.bool false), dv [2, 5] [] 79 (.bool true), dv [6] [] 80 (.bool true), dc [7] [] (!true) 81 (.pointer none), dc [7] [] (!true) 82 (.bool false), dv [7, 9] [] 83 (.bool true), dv [10] [] 84 (.bool true), dc [11] [] (!true) 85 (Zi 0), dc [11] [] (!true) 86 (.bool false), dv [11, 13] [] 87 (.bool true), dv [14] [] 88 (.bool true), dc [15] [] (!true) 89 (Zi 0), dc [15] [] (!true) 90 (.bool false), dv [15, 17] [] 91 (.bool true)] z2504 d2504 ?_ ?_
   ·refine sM e2504_12 <| sF (fun f => ok1 f.1) <| sV ?_
    refine sc (fun own a wx hf hsl hE => ?_) ?_
    ·obtain ⟨f_75, -⟩ := hf
     refine sg_f rfl rfl rfl f_75 (fun hg => ?_)
     exact absurd hg (by simp)
    refine sc (fun own a wx hf hsl hE => ?_) ?_
    ·obtain ⟨f_75, -⟩ := hf
     refine sg_f rfl rfl rfl f_75 (fun hg => ?_)
     exact absurd hg (by simp)
    refine sc (fun own a wx hf hsl hE => ?_) ?_
    ·obtain ⟨f_75, -⟩ := hf
     refine sg_f rfl rfl rfl f_75 (fun hg => ?_)
     exact absurd hg (by simp)
    refine sF (fun f => or_or f.1 rfl (fun hx => f.2.1.1 hx) rfl) <| sV ?_
    refine sc (fun own a wx hf hsl hE => ?_) ?_
    ·obtain ⟨f_80, -⟩ := hf
     refine sg_f rfl rfl rfl f_80 (fun hg => ?_)
     exact absurd hg (by simp)
    refine sc (fun own a wx hf hsl hE => ?_) ?_
    ·obtain ⟨f_80, -⟩ := hf
     refine sg_f rfl rfl rfl f_80 (fun hg => ?_)
     exact absurd hg (by simp)
    refine sF (fun f => or_or f.1 rfl (fun hx => f.2.1.1 hx) rfl) <| sV ?_
    refine sc (fun own a wx hf hsl hE => ?_) ?_
    ·obtain ⟨f_84, -⟩ := hf
     refine sg_f rfl rfl rfl f_84 (fun hg => ?_)
     exact absurd hg (by simp)
    refine sc (fun own a wx hf hsl hE => ?_) ?_
    ·obtain ⟨f_84, -⟩ := hf
     refine sg_f rfl rfl rfl f_84 (fun hg => ?_)
     exact absurd hg (by simp)
    refine sF (fun f => or_or f.1 rfl (fun hx => f.2.1.1 hx) rfl) <| sV ?_
    refine sc (fun own a wx hf hsl hE => ?_) ?_
    ·obtain ⟨f_88, -⟩ := hf
     refine sg_f rfl rfl rfl f_88 (fun hg => ?_)
     exact absurd hg (by simp)
    refine sc (fun own a wx hf hsl hE => ?_) ?_
    ·obtain ⟨f_88, -⟩ := hf
     refine sg_f rfl rfl rfl f_88 (fun hg => ?_)
     exact absurd hg (by simp)
    exact sF (fun f => or_or f.1 rfl (fun hx => f.2.1.1 hx) rfl) <| steps_nil
   intro o2506 a2506 w2506 d2506 z2506 hk2506 hf2506 hE2506
   obtain ⟨e2506_1, e2506_17⟩ := kt2 hk2506 e2504_1 e2504_17
   have e2506_91 := gv (hf2506 [18] rfl) rfl
   have hX2506 := es_ hX2504 hE2506
   have b2506_A1267 := re_ hE2506 b2504_A1267
   refine fl_t e2506_91 ?_
   refine rq_seq 136 o2506 (bz 1) [dv [] [] 8 (.bool false)] z2506 d2506 ?_ ?_
   ·exact sO (or_assign rfl) <| steps_nil
   intro o2507 a2507 w2507 d2507 z2507 hk2507 hf2507 hE2507
   have e2507_8 := gv (hf2507 [0] rfl) rfl
   have hX2507 := es_ hX2506 hE2507
   refine fl_ret ?_
   refine hp2505 _ _ _ rfl ?_
   obtain rfl := osome hs
   exact hret _ _ _ _ (.inl rfl) d2507 (results1_ rfl (RVal.tmp_ e2507_8)) ⟨o2507, rfl, hX2507⟩
  refine rq_seq 136 o2492 [0, 1, 3, 7, 7, 15, 63] [dv [] [9] 69 (sl A1273 r1272.1 cA1273), ⟨[0], [], [], Fct.mems [2498, 2499, 2500, 2501, 2502] 70 (fun (x : (Option Addr × Nat) × (Option Addr × Nat) × (Option Addr × Nat) × (Option Addr × Nat)) => .tuple #[.pointer (some ⟨x.1.2, 0, none⟩), Zi r2493.2]) (fun (x : (Option Addr × Nat) × (Option Addr × Nat) × (Option Addr × Nat) × (Option Addr × Nat)) own w => RwO own 2498 [] w 5 R5 x.2.1.1 x.2.1.2 r2493.1.1 ∧ RwO own 2499 [2500] w 22 R22 x.2.2.1.1 x.2.2.1.2 r2493.1.2.1 ∧ RwO own 2501 [] w 66 R66 x.2.2.2.1 x.2.2.2.2 r2493.1.2.2 ∧ BlkO own 2502 w x.1.2 64 #[.slice x.2.1.1 r2493.1.1.length x.2.1.2, .slice x.2.2.1.1 r2493.1.2.1.length x.2.2.1.2, .slice x.2.2.2.1 r2493.1.2.2.length x.2.2.2.2]) (fun hk he h => ⟨RwO.evo (hits_sub hk (by decide)) he h.1, RwO.evo (hits_sub hk (by decide)) he h.2.1, RwO.evo (hits_sub hk (by decide)) he h.2.2.1, BlkO.evo (not_hit hk (by decide)) he h.2.2.2⟩)⟩, ⟨[1], [], [], Fct.rel [68, 70] (fun l => ∀ (cA2494 : Nat), l.getD 1 undef = .tuple #[pt cA2494 0, Zi r2493.2] → l.getD 0 undef = .tuple #[pt cA2494 0, Zi r2493.2])⟩, ⟨[2, 1], [], [], Fct.rel [71, 70] (fun l => ∀ (cA2494 : Nat), l.getD 1 undef = .tuple #[pt cA2494 0, Zi r2493.2] → l.getD 0 undef = pt cA2494 0)⟩, dv [2, 1] [] 72 (Zi r2493.2), ⟨[3, 1], [], [], Fct.rel [17, 70] (fun l => ∀ (cA2494 : Nat), l.getD 1 undef = .tuple #[pt cA2494 0, Zi r2493.2] → l.getD 0 undef = pt cA2494 0)⟩, dv [4] [] 18 (Zi r2493.2)] z2492 d2492 ?_ ?_
  ·refine sM e2492_9 <| sFE (fun f hE => or_call cf12 (args1 f.1) (pack_Open_w _ r1272.1 A1273 cA1273 (RdO.zero (RwO.rd (re_ hE b2492_A1273))) r2493 hr2493) (post_mems (m := (fun _ => 0)) (m' := (look0 [(1, 2502), (2, 2498), (3, 2499), (4, 2500), (5, 2501)])) (fun _ _ => .inl rfl) (fun own' w' a' x h1 h => ⟨x, h1, ⟨RwO.back_ h.1 (by decide) (.inl (Rep.fl_flat _)), RwO.back_ h.2.1 (by decide) (.inr (by decide)), RwO.back_ h.2.2.1 (by decide) (.inl (Rep.fl_flat _)), BlkO.back_ h.2.2.2 (by decide)⟩⟩))) ?_
   refine sc (fun own a wx hf hsl hE => ?_) ?_
   ·obtain ⟨⟨⟨⟨A2494, cA2494⟩, ⟨A2495, cA2495⟩, ⟨A2496, cA2496⟩, ⟨A2497, cA2497⟩⟩, (f_70 : a.eval (.tmp 70) = .tuple #[pt cA2494 0, Zi r2493.2]), b_A2495, b_A2496, b_A2497, b_cA2494⟩, -⟩ := hf
    exact px (or_mono (f := Fct.val 68 (.tuple #[pt cA2494 0, Zi r2493.2])) (or_move f_70) (fun own' a' w' v' hp h => fun _ h0' => by cases (f_70.symm.trans ((hp.2 70 (by decide)).symm.trans h0')); exact h))
   refine sc (fun own a wx hf hsl hE => ?_) ?_
   ·obtain ⟨(q_68 : ∀ (cA2494 : Nat), a.eval (.tmp 70) = .tuple #[pt cA2494 0, Zi r2493.2] → a.eval (.tmp 68) = .tuple #[pt cA2494 0, Zi r2493.2]), ⟨⟨⟨A2494, cA2494⟩, ⟨A2495, cA2495⟩, ⟨A2496, cA2496⟩, ⟨A2497, cA2497⟩⟩, (f_70 : a.eval (.tmp 70) = .tuple #[pt cA2494 0, Zi r2493.2]), b_A2495, b_A2496, b_A2497, b_cA2494⟩, -⟩ := hf
    have f_68 := q_68 _ f_70
    exact px (or_mono (f := Fct.val 71 (pt cA2494 0)) (ok1 f_68) (fun own' a' w' v' hp h => fun _ h0' => by cases (f_70.symm.trans ((hp.2 70 (by decide)).symm.trans h0')); exact h))
   refine sc (fun own a wx hf hsl hE => ?_) ?_
   ·obtain ⟨(q_68 : ∀ (cA2494 : Nat), a.eval (.tmp 70) = .tuple #[pt cA2494 0, Zi r2493.2] → a.eval (.tmp 68) = .tuple #[pt cA2494 0, Zi r2493.2]), ⟨⟨⟨A2494, cA2494⟩, ⟨A2495, cA2495⟩, ⟨A2496, cA2496⟩, ⟨A2497, cA2497⟩⟩, f_70, b_A2495, b_A2496, b_A2497, b_cA2494⟩, -⟩ := hf
    have f_68 := q_68 _ f_70
    exact px (ok1 f_68)
   refine sc (fun own a wx hf hsl hE => ?_) ?_
   ·obtain ⟨(q_71 : ∀ (cA2494 : Nat), a.eval (.tmp 70) = .tuple #[pt cA2494 0, Zi r2493.2] → a.eval (.tmp 71) = pt cA2494 0), ⟨⟨⟨A2494, cA2494⟩, ⟨A2495, cA2495⟩, ⟨A2496, cA2496⟩, ⟨A2497, cA2497⟩⟩, (f_70 : a.eval (.tmp 70) = .tuple #[pt cA2494 0, Zi r2493.2]), b_A2495, b_A2496, b_A2497, b_cA2494⟩, -⟩ := hf
    have f_71 := q_71 _ f_70
    exact px (or_mono (f := Fct.val 17 (pt cA2494 0)) (or_assign f_71) (fun own' a' w' v' hp h => fun _ h0' => by cases (f_70.symm.trans ((hp.2 70 (by decide)).symm.trans h0')); exact h))
   exact sA <| steps_nil
  intro o2508 a2508 w2508 d2508 z2508 hk2508 hf2508 hE2508
  obtain ⟨e2508_1, e2508_12, e2508_13, e2508_14, e2508_15, e2508_16⟩ := kt6 hk2508 e2492_1 e2492_12 e2492_13 e2492_14 e2492_15 e2492_16
  have e2508_18 := gv (hf2508 [6] rfl) rfl
  obtain ⟨⟨⟨⟨A2494, cA2494⟩, ⟨A2495, cA2495⟩, ⟨A2496, cA2496⟩, ⟨A2497, cA2497⟩⟩, (f_70 : a2508.eval (.tmp 70) = .tuple #[pt cA2494 0, Zi r2493.2]), (b2508_A2495 : RwO o2508 2498 [] w2508 5 R5 A2495 cA2495 r2493.1.1), (b2508_A2496 : RwO o2508 2499 [2500] w2508 22 R22 A2496 cA2496 r2493.1.2.1), (b2508_A2497 : RwO o2508 2501 [] w2508 66 R66 A2497 cA2497 r2493.1.2.2), (b2508_cA2494 : BlkO o2508 2502 w2508 cA2494 64 #[sl A2495 r2493.1.1 cA2495, sl A2496 r2493.1.2.1 cA2496, sl A2497 r2493.1.2.2 cA2497])⟩, (q_17 : ∀ (cA2494 : Nat), a2508.eval (.tmp 70) = .tuple #[pt cA2494 0, Zi r2493.2] → a2508.eval (.tmp 17) = pt cA2494 0), -⟩ := hf2508 [1, 5] rfl
  have e2508_17 := q_17 _ f_70
  have hX2508 := es_ hX2492 hE2508
  obtain ⟨b2508_cA1291, b2508_cA2454⟩ := be2 hE2508 b2492_cA1291 b2492_cA2454
  have b2508_A1267 := re_ hE2508 b2492_A1267
  have b2508_A1292 := re_ hE2508 b2492_A1292
  have b2508_A1293 := re_ hE2508 b2492_A1293
  have b2508_A1294 := re_ hE2508 b2492_A1294
  have b2508_A2455 := re_ hE2508 b2492_A2455
  have b2508_A2456 := re_ hE2508 b2492_A2456
  have b2508_A2457 := re_ hE2508 b2492_A2457
  refine fl_seq (fun Q2509 hn2509 hp2509 => ?_)
  refine rq_seq 136 o2508 [0, 1, 3, 7, 7, 31, 63, 127, 255, 511, 1023, 2047, 4095, 8191, 16383, 32767, 65535, 131071, 262143] [dv [] [12] 73 (pt cA1291 0), dv [0] [] 74 (.bool true), dv [1] [] 75 (.bool true), dc [2] [] (!true) 76 (Zi 0), dc [2] [] (!true) 77 (Zi 0), dc [2] [] (!true) 78 (.bool false), dv [2, 5] [] 79 (.bool true), dv [6] [] 80 (.bool true), dc [7] [] (!true) 81 (.pointer none), dc [7] [] (!true) 82 (.bool false), dv [7, 9] [] 83 (.bool true), dv [10] [] 84 (.bool true), dc [11] [] (!true) 85 (Zi 0), dc [11] [] (!true) 86 (.bool false), dv [11, 13] [] 87 (.bool true), dv [14] [] 88 (.bool true), dc [15] [] (!true) 89 (Zi 0), dc [15] [] (!true) 90 (.bool false), dv [15, 17] [] 91 (.bool true)] z2508 d2508 ?_ ?_
  ·refine sM e2508_12 <| sF (fun f => ok1 f.1) <| sV ?_
   refine sc (fun own a wx hf hsl hE => ?_) ?_
   ·obtain ⟨f_75, -⟩ := hf
    refine sg_f rfl rfl rfl f_75 (fun hg => ?_)
    exact absurd hg (by simp)
   refine sc (fun own a wx hf hsl hE => ?_) ?_
   ·obtain ⟨f_75, -⟩ := hf
    refine sg_f rfl rfl rfl f_75 (fun hg => ?_)
    exact absurd hg (by simp)
   refine sc (fun own a wx hf hsl hE => ?_) ?_
   ·obtain ⟨f_75, -⟩ := hf
    refine sg_f rfl rfl rfl f_75 (fun hg => ?_)
    exact absurd hg (by simp)
   refine sF (fun f => or_or f.1 rfl (fun hx => f.2.1.1 hx) rfl) <| sV ?_
   refine sc (fun own a wx hf hsl hE => ?_) ?_
   ·obtain ⟨f_80, -⟩ := hf
    refine sg_f rfl rfl rfl f_80 (fun hg => ?_)
    exact absurd hg (by simp)
   refine sc (fun own a wx hf hsl hE => ?_) ?_
   ·obtain ⟨f_80, -⟩ := hf
    refine sg_f rfl rfl rfl f_80 (fun hg => ?_)
    exact absurd hg (by simp)
   refine sF (fun f => or_or f.1 rfl (fun hx => f.2.1.1 hx) rfl) <| sV ?_
   refine sc (fun own a wx hf hsl hE => ?_) ?_
   ·obtain ⟨f_84, -⟩ := hf
    refine sg_f rfl rfl rfl f_84 (fun hg => ?_)
    exact absurd hg (by simp)
   refine sc (fun own a wx hf hsl hE => ?_) ?_
   ·obtain ⟨f_84, -⟩ := hf
    refine sg_f rfl rfl rfl f_84 (fun hg => ?_)
    exact absurd hg (by simp)
   refine sF (fun f => or_or f.1 rfl (fun hx => f.2.1.1 hx) rfl) <| sV ?_
   refine sc (fun own a wx hf hsl hE => ?_) ?_
   ·obtain ⟨f_88, -⟩ := hf
    refine sg_f rfl rfl rfl f_88 (fun hg => ?_)
    exact absurd hg (by simp)
   refine sc (fun own a wx hf hsl hE => ?_) ?_
   ·obtain ⟨f_88, -⟩ := hf
    refine sg_f rfl rfl rfl f_88 (fun hg => ?_)
    exact absurd hg (by simp)
   exact sF (fun f => or_or f.1 rfl (fun hx => f.2.1.1 hx) rfl) <| steps_nil
  intro o2510 a2510 w2510 d2510 z2510 hk2510 hf2510 hE2510
  obtain ⟨e2510_1, e2510_17⟩ := kt2 hk2510 e2508_1 e2508_17
  have e2510_91 := gv (hf2510 [18] rfl) rfl
  have hX2510 := es_ hX2508 hE2510
  have b2510_cA2494 := be_ hE2510 b2508_cA2494
  have b2510_A1267 := re_ hE2510 b2508_A1267
  have b2510_A2495 := re_ hE2510 b2508_A2495
  have b2510_A2496 := re_ hE2510 b2508_A2496
  have b2510_A2497 := re_ hE2510 b2508_A2497
  refine fl_t e2510_91 ?_
  refine rq_seq 136 o2510 (bz 1) [dv [] [] 8 (.bool false)] z2510 d2510 ?_ ?_
  ·exact sO (or_assign rfl) <| steps_nil
  intro o2511 a2511 w2511 d2511 z2511 hk2511 hf2511 hE2511
  have e2511_8 := gv (hf2511 [0] rfl) rfl
  have hX2511 := es_ hX2510 hE2511
  refine fl_ret ?_
  refine hp2509 _ _ _ rfl ?_
  obtain rfl := osome hs
  exact hret _ _ _ _ (.inl rfl) d2511 (results1_ rfl (RVal.tmp_ e2511_8)) ⟨o2511, rfl, hX2511⟩
 refine rq_seq 136 o2433 (bz 2) [dv [] [11] 56 (Zi (IntKind.i64.wrap x1286)), dv [0] [] 57 (.bool (decide ((IntKind.i64.wrap x1286) < 4)))] z2433 d2433 ?_ ?_
 ·exact sM e2433_11 <| sF (fun f => or_lss f.1 rfl rfl) <| steps_nil
 intro o2512 a2512 w2512 d2512 z2512 hk2512 hf2512 hE2512
 obtain ⟨e2512_1, e2512_3, e2512_9, e2512_12, e2512_13, e2512_14⟩ := kt6 hk2512 e2433_1 e2433_3 e2433_9 e2433_12 e2433_13 e2433_14
 have e2512_57 := gv (hf2512 [1] rfl) rfl
 have hX2512 := es_ hX2433 hE2512
 have b2512_cA1291 := be_ hE2512 b2433_cA1291
 have b2512_A1267 := re_ hE2512 b2433_A1267
 have b2512_A1273 := re_ hE2512 b2433_A1273
 have b2512_A1292 := re_ hE2512 b2433_A1292
 have b2512_A1293 := re_ hE2512 b2433_A1293
 have b2512_A1294 := re_ hE2512 b2433_A1294
 refine fl_cond e2512_57 hs (fun c2513 hs => ?_) (fun c2513 hs => ?_)
 ·refine rq 136 o2512 (bz 1) [dv [] [] 14 (Zi 17)] z2512 d2512 ?_ ?_
  ·exact sO (or_assign rfl) <| steps_nil
  intro o2514 a2514 w2514 d2514 z2514 hk2514 hf2514 hE2514
  obtain ⟨e2514_1, e2514_3, e2514_9, e2514_12, e2514_13⟩ := kt5 hk2514 e2512_1 e2512_3 e2512_9 e2512_12 e2512_13
  have e2514_14 := gv (hf2514 [0] rfl) rfl
  have hX2514 := es_ hX2512 hE2514
  have b2514_cA1291 := be_ hE2514 b2512_cA1291
  have b2514_A1267 := re_ hE2514 b2512_A1267
  have b2514_A1273 := re_ hE2514 b2512_A1273
  have b2514_A1292 := re_ hE2514 b2512_A1292
  have b2514_A1293 := re_ hE2514 b2512_A1293
  have b2514_A1294 := re_ hE2514 b2512_A1294
  exact (K2441 _ _ (rl [(1269, 2438), (1270, 2438), (1297, 2439)] o2514) _ d2514 z2514 e2514_1 e2514_3 e2514_9 e2514_12 e2514_13 e2514_14 (Evo.rl_ hX2514 (fun _ => Nat.le_refl 0) rfl) (RwO.more (RwO.rl_ b2514_A1267) (by decide)) (RwO.rl_ b2514_A1273) (BlkO.rl_ b2514_cA1291) (RwO.rl_ b2514_A1292) (RwO.rl_ b2514_A1293) (RwO.rl_ b2514_A1294) hs)
 refine fl_skip ?_
 exact (K2441 _ _ (rl [(1269, 2438), (1270, 2438), (1297, 2439)] o2512) _ d2512 z2512 e2512_1 e2512_3 e2512_9 e2512_12 e2512_13 e2512_14 (Evo.rl_ hX2512 (fun _ => Nat.le_refl 0) rfl) (RwO.more (RwO.rl_ b2512_A1267) (by decide)) (RwO.rl_ b2512_A1273) (BlkO.rl_ b2512_cA1291) (RwO.rl_ b2512_A1292) (RwO.rl_ b2512_A1293) (RwO.rl_ b2512_A1294) hs)
end Go.Proofs.Ytnmkonlfnpcoiaa
