import Derived.Test.YtoccfdohlefifaaWp6
import Derived.Test.YtoccfdohlefifaaSp7
namespace Go.Proofs.Ytoccfdohlefifaa
open Go.RowKit
set_option linter.unusedVariables false
set_option maxRecDepth 10000
theorem ref04_Points_w (w : World) (l1 : List (Int × Int)) (Al1 : Option Addr) (cl1 : Nat) (hl1 : RdO (fun _ => 0) [0] w R44 Al1 cl1 l1) (r : List (Int × Int)) (hs : ref04_Points l1 = some r) :
  Calls Try.prog 25 #[sl Al1 l1 cl1] w fun e w' => ∃ (own' : Own) (x : Option Addr × Nat), e = .returned (.slice x.1 r.length x.2) ∧ Evo [] (fun _ => 0) own' w w' ∧ RwO own' 1 [] w' 44 R44 x.1 x.2 r := by
 refine fl_enter (n := 48) rfl rfl rfl (Nat.le_of_ble_eq_true rfl) ?_
 intro a0 Q d0 z0 harg hret
 have ha0 := harg 0 _ rfl
 clear harg
 have hE0 : Evo [] (fun _ => 0) (fun _ => 0) w w := Evo.refl _ _ _
 refine rq_seq 48 (fun _ => 0) (bz 1) [dv [] [] 2 (.slice none 0 0)] z0 d0 ?_ ?_
 ·exact sO (or_assign rfl) <| steps_nil
 intro o205 a205 w205 d205 z205 hk205 hf205 hE205
 have e205_0 := kt hk205 ha0
 have hX205 := es_ hE0 hE205
 refine rq_seq 48 o205 (bz 1) [dv [] [] 3 (.slice none 0 0)] z205 d205 ?_ ?_
 ·exact sO (or_assign rfl) <| steps_nil
 intro o206 a206 w206 d206 z206 hk206 hf206 hE206
 have e206_0 := kt hk206 e205_0
 have e206_3 := gv (hf206 [0] rfl) rfl
 have hX206 := es_ hX205 hE206
 refine fl_seq (fun Q207 hn207 hp207 => ?_)
 refine rq_seq 48 o206 (bz 1) [dv [] [] 4 (Zi 0)] z206 d206 ?_ ?_
 ·exact sO (or_assign rfl) <| steps_nil
 intro o208 a208 w208 d208 z208 hk208 hf208 hE208
 obtain ⟨e208_0, e208_3⟩ := kt2 hk208 e206_0 e206_3
 have e208_4 := gv (hf208 [0] rfl) rfl
 have hX208 := es_ hX206 hE208
 refine fl_block (fun Q209 hn209 hx209 hp209 => ?_)
 refine fl_loop (body := (fun s => ref04_Points_b1 l1 s.1 s.2)) (z := r) (show loopO _ _ = _ from hs) (fun (s : (List (Int × Int)) × Int) a wx => match s with | (out270, i272) => ∃ (ox : Own) (A268 : Option Addr) (c269 : Nat), a.defers = [] ∧ a.tmps.size = 48 ∧ a.eval (.tmp 0) = sl Al1 l1 cl1 ∧ a.eval (.tmp 3) = sl A268 out270 c269 ∧ a.eval (.tmp 4) = Zi i272 ∧ Evo [] (fun _ => 0) ox w wx ∧ RwO ox 271 [] wx 44 R44 A268 c269 out270) ?_ ?_
 ·exact ⟨o208, none, 0, d208, z208, e208_0, e208_3, e208_4, hX208, RwO.nil_⟩
 ·rintro ⟨out270, i272⟩ zz335 a335 w335 ⟨o335, A268, c269, d336, z336, e336_0, e336_3, e336_4, hE336, b336_A268⟩ hs Q335 hn335 hp335 z335
  have hs : ref04_Points_b1 l1 out270 i272 = some zz335 := hs
  refine fl_seq (fun Q337 hn337 hp337 => ?_)
  refine rq_seq 48 o335 [0, 0, 2, 7] [dv [] [4] 7 (Zi i272), dv [] [0] 8 (sl Al1 l1 cl1), dv [1] [] 9 (Zi (l1.length : Int)), dv [0, 2] [] 10 (.bool (decide (i272 < (l1.length : Int))))] z336 d336 ?_ ?_
  ·exact sM e336_4 <| sM e336_0 <| sF (fun f => or_len tu35 f.1 rfl) <| sF (fun f => or_lss f.1 f.2.1 rfl) <| steps_nil
  intro o338 a338 w338 d338 z338 hk338 hf338 hE338
  obtain ⟨e338_0, e338_3, e338_4⟩ := kt3 hk338 e336_0 e336_3 e336_4
  have e338_10 := gv (hf338 [3] rfl) rfl
  have hX338 := es_ hE336 hE338
  have b338_A268 := re_ hE338 b336_A268
  refine fl_cond e338_10 hs (fun c339 hs => ?_) (fun c339 hs => ?_)
  ·refine fl_skip ?_
   refine hn337 _ _ ?_
   refine fl_seq (fun Q340 hn340 hp340 => ?_)
   refine fl_block (fun Q341 hn341 hx341 hp341 => ?_)
   refine rq_seq 48 o338 (bz 3) [dv [] [3] 13 (sl A268 out270 c269), dv [0] [] 14 (Zi (out270.length : Int)), dv [1] [] 5 (Zi (out270.length : Int))] z338 d338 ?_ ?_
   ·exact sM e338_3 <| sF (fun f => or_len tu35 f.1 rfl) <| sA <| steps_nil
   intro o342 a342 w342 d342 z342 hk342 hf342 hE342
   obtain ⟨e342_0, e342_3, e342_4⟩ := kt3 hk342 e338_0 e338_3 e338_4
   have e342_5 := gv (hf342 [2] rfl) rfl
   have hX342 := es_ hX338 hE342
   have b342_A268 := re_ hE342 b338_A268
   refine fl_seq (fun Q343 hn343 hp343 => ?_)
   refine fl_block (fun Q344 hn344 hx344 hp344 => ?_)
   refine fl_loop (body := (fun s => ref04_Points_b2 l1 out270 i272 s)) (z := zz335) (show loopO _ _ = _ from hs) (fun (x355 : Int) a wx => ∃ (ox : Own), a.defers = [] ∧ a.tmps.size = 48 ∧ a.eval (.tmp 0) = sl Al1 l1 cl1 ∧ a.eval (.tmp 3) = sl A268 out270 c269 ∧ a.eval (.tmp 4) = Zi i272 ∧ a.eval (.tmp 5) = Zi x355 ∧ Evo [] (fun _ => 0) ox w wx ∧ RwO ox 271 [] wx 44 R44 A268 c269 out270) ?_ ?_
   ·exact ⟨o342, d342, z342, e342_0, e342_3, e342_4, e342_5, hX342, b342_A268⟩
   ·rintro x355 zz365 a365 w365 ⟨o365, d366, z366, e366_0, e366_3, e366_4, e366_5, hE366, b366_A268⟩ hs Q365 hn365 hp365 z365
    have hs : ref04_Points_b2 l1 out270 i272 x355 = some zz365 := hs
    refine fl_seq (fun Q367 hn367 hp367 => ?_)
    obtain ⟨x368, hx368, hs⟩ := obind hs
    obtain ⟨x369, hx369, hs⟩ := obind hs
    obtain ⟨r370, hr370, hs⟩ := obind hs
    refine rd_seq g_mixed 48 [] o365 [] [0, 1, 3, 7, 7, 31, 63, 7, 7, 263, 903, 1927, 4095, 8191] [dv [] [5] 15 (Zi x355), dv [0] [] 16 (.bool (decide (0 < x355))), dv [1] [] 17 (.bool (decide (0 < x355))), dc [2] [0] (decide (0 < x355)) 18 (sl Al1 l1 cl1), dc [2] [4] (decide (0 < x355)) 19 (Zi i272), dc [2, 3, 4] [] (decide (0 < x355)) 20 (.pointer (some ((adr Al1).add ((i272 : Int).toNat * R44.s)))), dc [2, 5] [] (decide (0 < x355)) 21 (P2 x368), dc [2] [3] (decide (0 < x355)) 22 (sl A268 out270 c269), dc [2] [5] (decide (0 < x355)) 23 (Zi x355), dc [2, 8] [] (decide (0 < x355)) 24 (Zi (sb x355 1)), dc [2, 7, 9] [] (decide (0 < x355)) 25 (.pointer (some ((adr A268).add ((sb x355 1 : Int).toNat * R44.s)))), dc [2, 10] [] (decide (0 < x355)) 26 (P2 x369), dc [2, 6, 11] [] (decide (0 < x355)) 27 (.bool r370), dv [2, 12] [] 28 (.bool ((decide (0 < x355)) && r370))] z366 d366 nm_ ?_ ?_
    ·exact sM e366_5 <| sF (fun f => or_gtr f.1 rfl rfl) <| sV <| cT (fun _ s _ _ => or_move (s.1.trans e366_0)) <| cT (fun _ s _ _ => or_move (s.1.trans e366_4)) <| cT (fun f _ _ hg => or_index (R := R44) (l := l1) tl35 (f.2.1.1 hg) (f.2.2.1.1 hg) (RdO.some_ (RdO.evo rfl hE366 hl1) (gd_t hx368 hg)) (gd_t hx368 hg)) <| cT (fun f _ hE hg => or_load (l := E44.f x368) ta44 (f.2.1.1 hg) (RdO.cells (F := E44) (RdO.evo rfl hE (RdO.evo rfl hE366 hl1)) (gd_t hx368 hg)) rfl) <| cT (fun _ s _ _ => or_move (s.1.trans e366_3)) <| cT (fun _ s _ _ => or_move (s.1.trans e366_5)) <| cT (fun f _ _ hg => or_sub (f.2.1.1 hg) rfl rfl) <| cT (fun f _ _ hg => or_index (R := R44) (l := out270) tl35 (f.2.1.1 hg) (f.2.2.1.1 hg) (RdO.some_ (RwO.rd b366_A268) (gd_t hx369 hg)) (gd_t hx369 hg)) <| cT (fun f _ hE hg => or_load (l := E44.f x369) ta44 (f.2.1.1 hg) (RdO.cells (F := E44) (RwO.rd (re_ hE b366_A268)) (gd_t hx369 hg)) rfl) <| cT (fun f _ _ hg => or_call cf45 (args2 (f.2.1.1 hg) (f.2.2.1.1 hg)) (ref01_Less_w _ x368 x369  r370 (gd_t hr370 hg)) post_val) <| sF (fun f => or_and f.1 (fun hx => f.2.1.1 hx) rfl rfl) <| steps_nil
    intro o371 a371 w371 d371 z371 hk371 hf371 hE371
    obtain ⟨e371_0, e371_3, e371_4, e371_5⟩ := kt4 hk371 e366_0 e366_3 e366_4 e366_5
    have e371_28 := gv (hf371 [13] rfl) rfl
    have hX371 := es_ hE366 hE371
    have b371_A268 := re_ hE371 b366_A268
    refine fl_cond e371_28 hs (fun c372 hs => ?_) (fun c372 hs => ?_)
    ·refine fl_skip ?_
     refine hn367 _ _ ?_
     refine fl_block (fun Q373 hn373 hx373 hp373 => ?_)
     refine rq 48 o371 (bz 3) [dv [] [5] 29 (Zi x355), dv [0] [] 30 (Zi (sb x355 1)), dv [1] [] 5 (Zi (sb x355 1))] z371 d371 ?_ ?_
     ·exact sM e371_5 <| sF (fun f => or_sub f.1 rfl rfl) <| sA <| steps_nil
     intro o374 a374 w374 d374 z374 hk374 hf374 hE374
     obtain ⟨e374_0, e374_3, e374_4⟩ := kt3 hk374 e371_0 e371_3 e371_4
     have e374_5 := gv (hf374 [2] rfl) rfl
     have hX374 := es_ hX371 hE374
     have b374_A268 := re_ hE374 b371_A268
     refine hn373 _ _ ?_
     exact hn365 _ _ _ hs ⟨o374, d374, z374, e374_0, e374_3, e374_4, e374_5, hX374, b374_A268⟩
    refine fl_exit ?_
    refine hp367 _ _ _ rfl ?_
    replace hs := z365 _ hs
    refine hp365 _ _ _ rfl ?_
    refine hx344 _ _ ?_
    refine hn343 _ _ ?_
    obtain ⟨x377, hx377, hs⟩ := obind hs
    obtain ⟨x379, hx379, hs⟩ := obind hs
    obtain ⟨x382, hx382, hs⟩ := obind hs
    obtain ⟨x385, hx385, hs⟩ := obind hs
    refine rd_seq g_mixed 48 [] o371 [376, 380] [0, 0, 0, 6, 15, 0, 0, 96, 224, 480, 1023, 2047] [⟨[], [], [], Fct.row 376 [] 31 44 R44 ([] : List (Int × Int))⟩, dv [] [3] 32 (sl A268 out270 c269), dv [] [5] 33 (Zi x355), ⟨[1, 2], [], [], Fct.view [271] 34 R44 x377⟩, ⟨[0, 3], [], [376], Fct.row 380 [] 35 44 R44 x379⟩, dv [] [0] 36 (sl Al1 l1 cl1), dv [] [4] 37 (Zi i272), dv [5, 6] [] 38 (.pointer (some ((adr Al1).add ((i272 : Int).toNat * R44.s)))), dv [7] [] 39 (P2 x382), ⟨[8], [], [], Fct.row 384 [] 40 44 R44 [x382]⟩, ⟨[4, 9], [], [380], Fct.row 386 [] 41 44 R44 x385⟩, ⟨[10], [], [], Fct.rel [6, 41] (fun l => ∀ (A387 : Option Addr) (cA387 : Nat), l.getD 1 undef = sl A387 x385 cA387 → l.getD 0 undef = sl A387 x385 cA387)⟩] z371 d371 nm_ ?_ ?_
    ·refine sO (or_lit (lab := 376) (e := 44) (cs := #[]) (F := E44) (nw0) rfl rfl (show 0 ≤ maxLen by decide)) <| sM e371_3 <| sM e371_5 <| sFE (fun f hE => or_view (R := R44) (l := out270) (L := [271]) tu35 ts44 f.1 Bnd.none_ (Bnd.some_ f.2.1) Bnd.none_ (RwO.rd (re_ hE b371_A268)) hx377 (.inl rfl) (by simp)) ?_
     refine sc (fun own a wx hf hsl hE => ?_) ?_
     ·obtain ⟨⟨⟨A375, cA375⟩, f_31, b_A375⟩, ⟨⟨A378, cA378⟩, f_34, b_A378⟩, -⟩ := hf
      exact px (or_append (R := R44) (lab := 376) (lab2 := 380) (L := []) (L3 := []) tp35 f_31 b_A375 (by decide) f_34 b_A378 hx379 (by decide) (by decide) (mem_of rfl) (.inl (Rep.fl_flat _)))
     refine sM e371_0 <| sM e371_4 <| sF (fun f => or_index (R := R44) (l := l1) tl35 f.1 f.2.1 (RdO.some_ (RdO.evo rfl hX371 hl1) hx382) hx382) <| sFE (fun f hE => or_load (l := E44.f x382) ta44 f.1 (RdO.cells (F := E44) (RdO.evo rfl hE (RdO.evo rfl hX371 hl1)) hx382) rfl) <| sF (fun f => or_lit (lab := 384) (e := 44) (cs := #[Zi x382.1, Zi x382.2]) (F := E44) (nw1 f.1) rfl rfl (show 1 ≤ maxLen by decide)) ?_
     refine sc (fun own a wx hf hsl hE => ?_) ?_
     ·obtain ⟨⟨⟨A381, cA381⟩, f_35, b_A381⟩, ⟨⟨A383, cA383⟩, f_40, b_A383⟩, -⟩ := hf
      exact px (or_append (R := R44) (lab := 380) (lab2 := 386) (L := []) (L3 := []) tp35 f_35 b_A381 (by decide) f_40 (RwO.rd b_A383) hx385 (by decide) (by decide) (mem_of rfl) (.inl (Rep.fl_flat _)))
     refine sc (fun own a wx hf hsl hE => ?_) ?_
     ·obtain ⟨⟨⟨A387, cA387⟩, (f_41 : a.eval (.tmp 41) = sl A387 x385 cA387), b_A387⟩, -⟩ := hf
      exact px (or_mono (f := Fct.val 6 (sl A387 x385 cA387)) (or_assign f_41) (fun own' a' w' v' hp h => fun _ _ h0' => by cases (f_41.symm.trans ((hp.2 41 (by decide)).symm.trans h0')); exact h))
     exact steps_nil
    intro o388 a388 w388 d388 z388 hk388 hf388 hE388
    obtain ⟨e388_0, e388_3, e388_4, e388_5⟩ := kt4 hk388 e371_0 e371_3 e371_4 e371_5
    obtain ⟨⟨⟨A387, cA387⟩, (f_41 : a388.eval (.tmp 41) = sl A387 x385 cA387), (b388_A387 : RwO o388 386 [] w388 44 R44 A387 cA387 x385)⟩, (q_6 : ∀ (A387 : Option Addr) (cA387 : Nat), a388.eval (.tmp 41) = sl A387 x385 cA387 → a388.eval (.tmp 6) = sl A387 x385 cA387), -⟩ := hf388 [10, 11] rfl
    have e388_6 := q_6 _ _ f_41
    have hX388 := es_ hX371 hE388
    have b388_A268 := re_ hE388 b371_A268
    obtain ⟨x391, hx391, hs⟩ := obind hs
    obtain ⟨x393, hx393, hs⟩ := obind hs
    refine rr 48 [Fct.rowAt 386 [] 44 R44 A387 cA387 x385] o388 [386] [0, 0, 0, 6, 15, 31] [dv [] [6] 42 (sl A387 x385 cA387), dv [] [3] 43 (sl A268 out270 c269), dv [] [5] 44 (Zi x355), ⟨[1, 2], [], [], Fct.view [271] 45 R44 x391⟩, ⟨[0, 3, 6], [], [386], Fct.row 394 [] 46 44 R44 x393⟩, ⟨[4], [], [], Fct.rel [3, 46] (fun l => ∀ (A395 : Option Addr) (cA395 : Nat), l.getD 1 undef = sl A395 x393 cA395 → l.getD 0 undef = sl A395 x393 cA395)⟩] z388 d388 (fm1 b388_A387) ?_ ?_
    ·refine sM e388_6 <| sM e388_3 <| sM e388_5 <| sFE (fun f hE => or_view (R := R44) (l := out270) (L := [271]) tu35 ts44 f.1 (Bnd.some_ f.2.1) Bnd.none_ Bnd.none_ (RwO.rd (re_ hE b388_A268)) hx391 (.inl rfl) (by simp)) ?_
     refine sc (fun own a wx hf hsl hE => ?_) ?_
     ·obtain ⟨f_42, ⟨⟨A392, cA392⟩, f_45, b_A392⟩, b_A387, -⟩ := hf
      exact px (or_append (R := R44) (lab := 386) (lab2 := 394) (L := []) (L3 := []) tp35 f_42 b_A387 (by decide) f_45 b_A392 hx393 (by decide) (by decide) (mem_of rfl) (.inl (Rep.fl_flat _)))
     refine sc (fun own a wx hf hsl hE => ?_) ?_
     ·obtain ⟨⟨⟨A395, cA395⟩, (f_46 : a.eval (.tmp 46) = sl A395 x393 cA395), b_A395⟩, -⟩ := hf
      exact px (or_mono (f := Fct.val 3 (sl A395 x393 cA395)) (or_assign f_46) (fun own' a' w' v' hp h => fun _ _ h0' => by cases (f_46.symm.trans ((hp.2 46 (by decide)).symm.trans h0')); exact h))
     exact steps_nil
    intro o396 a396 w396 d396 z396 hk396 hf396 hE396
    obtain ⟨e396_0, e396_4⟩ := kt2 hk396 e388_0 e388_4
    obtain ⟨⟨⟨A395, cA395⟩, (f_46 : a396.eval (.tmp 46) = sl A395 x393 cA395), (b396_A395 : RwO o396 394 [] w396 44 R44 A395 cA395 x393)⟩, (q_3 : ∀ (A395 : Option Addr) (cA395 : Nat), a396.eval (.tmp 46) = sl A395 x393 cA395 → a396.eval (.tmp 3) = sl A395 x393 cA395), -⟩ := hf396 [4, 5] rfl
    have e396_3 := q_3 _ _ f_46
    have hX396 := es_ hX388 hE396
    refine hn341 _ _ ?_
    refine hn340 _ _ ?_
    refine rq 48 o396 (bz 3) [dv [] [4] 11 (Zi i272), dv [0] [] 12 (Zi (ad i272 1)), dv [1] [] 4 (Zi (ad i272 1))] z396 d396 ?_ ?_
    ·exact sM e396_4 <| sF (fun f => or_add f.1 rfl rfl) <| sA <| steps_nil
    intro o397 a397 w397 d397 z397 hk397 hf397 hE397
    obtain ⟨e397_0, e397_3⟩ := kt2 hk397 e396_0 e396_3
    have e397_4 := gv (hf397 [2] rfl) rfl
    have hX397 := es_ hX396 hE397
    have b397_A395 := re_ hE397 b396_A395
    exact hn335 _ _ _ hs ⟨(rl [(394, 271)] o397), A395, cA395, d397, z397, e397_0, e397_3, e397_4, (Evo.rl_ hX397 (fun _ => Nat.le_refl 0) rfl), (RwO.rl_ b397_A395)⟩
  refine fl_exit ?_
  refine hp337 _ _ _ rfl ?_
  replace hs := z335 _ hs
  refine hp335 _ _ _ rfl ?_
  refine hx209 _ _ ?_
  refine hn207 _ _ ?_
  refine rq_seq 48 o338 (bz 2) [dv [] [3] 47 (sl A268 out270 c269), dv [0] [] 2 (sl A268 out270 c269)] z338 d338 ?_ ?_
  ·exact sM e338_3 <| sA <| steps_nil
  intro o398 a398 w398 d398 z398 hk398 hf398 hE398
  have e398_2 := gv (hf398 [1] rfl) rfl
  have hX398 := es_ hX338 hE398
  have b398_A268 := re_ hE398 b338_A268
  refine fl_ret ?_
  obtain rfl := (osome hs).symm
  exact hret _ _ _ _ (.inl rfl) d398 (results1_ rfl (RVal.tmp_ e398_2)) ⟨(rl [(271, 1)] o398), (A268, c269), rfl, (Evo.rl_ hX398 (fun _ => Nat.le_refl 0) rfl), (RwO.rl_ b398_A268)⟩
set_option maxHeartbeats 2000000 in
theorem law18_GuardPlays_w (w : World) (lines1 : List Int) (Alines1 : Option Addr) (clines1 : Nat) (l2 : List ((List (Int × Int)) × Int × Int)) (Al2 : Option Addr) (cl2 : Nat) (acts3 : List (Bool × (Int × Int) × (Int × Int) × (Int × Int))) (Aacts3 : Option Addr) (cacts3 : Nat) (hlines1 : RdO (fun _ => 0) [0] w R3 Alines1 clines1 lines1) (hl2 : RdO (fun _ => 0) [0] w R63 Al2 cl2 l2) (hacts3 : RdO (fun _ => 0) [0] w R43 Aacts3 cacts3 acts3) (r : Bool) (hs : law18_GuardPlays lines1 l2 acts3 = some r) :
  Calls Try.prog 4 #[sl Alines1 lines1 clines1, sl Al2 l2 cl2, sl Aacts3 acts3 cacts3] w fun e w' => ∃ own' : Own, e = .returned (.bool r) ∧ Evo [] (fun _ => 0) own' w w' := by
 refine fl_enter (n := 128) rfl rfl rfl (Nat.le_of_ble_eq_true rfl) ?_
 intro a0 Q d0 z0 harg hret
 have ha0 := harg 0 _ rfl
 have ha1 := harg 1 _ rfl
 have ha2 := harg 2 _ rfl
 clear harg
 have hE0 : Evo [] (fun _ => 0) (fun _ => 0) w w := Evo.refl _ _ _
 refine rq_seq 128 (fun _ => 0) (bz 1) [dv [] [] 6 (.bool false)] z0 d0 ?_ ?_
 ·exact sO (or_assign rfl) <| steps_nil
 intro o606 a606 w606 d606 z606 hk606 hf606 hE606
 obtain ⟨e606_0, e606_1, e606_2⟩ := kt3 hk606 ha0 ha1 ha2
 have hX606 := es_ hE0 hE606
 obtain ⟨r607, hr607, hs⟩ := obind hs
 obtain ⟨r610, hr610, hs⟩ := obind hs
 refine rq_seq 128 o606 [0, 1, 0, 7, 15, 31] [dv [] [0] 18 (sl Alines1 lines1 clines1), ⟨[0], [], [], Fct.row 609 [] 19 3 R3 r607⟩, dv [] [1] 20 (sl Al2 l2 cl2), ⟨[2], [], [], Fct.mems [612, 613, 614, 0] 21 (fun (x : Option Addr × Nat) => .slice x.1 r610.length x.2) (fun (x : Option Addr × Nat) own w => RwO own 612 [613, 614, 0] w 63 R63 x.1 x.2 r610) (fun hk he h => RwO.evo (hits_sub hk (by decide)) he h)⟩, ⟨[1], [], [], Fct.rel [0, 19] (fun l => ∀ (A608 : Option Addr) (cA608 : Nat), l.getD 1 undef = sl A608 r607 cA608 → l.getD 0 undef = sl A608 r607 cA608)⟩, ⟨[3], [], [], Fct.rel [1, 21] (fun l => ∀ (A611 : Option Addr) (cA611 : Nat), l.getD 1 undef = sl A611 r610 cA611 → l.getD 0 undef = sl A611 r610 cA611)⟩] z606 d606 ?_ ?_
 ·refine sM e606_0 <| sFE (fun f hE => or_call cf8 (args1 f.1) (law18_Lines_w _ lines1 Alines1 clines1 (RdO.zero (RdO.evo rfl hE (RdO.evo rfl hX606 hlines1))) r607 hr607) (post_row (m' := (look0 [(1, 609)])) (.inl (Rep.fl_flat _)) rfl rfl (fun _ => rfl))) <| sM e606_1 ?_
  refine sc (fun own _ _ f _ hE => px (or_call cf9 (args1 f.1) (law14_Cut_w _ (forth own (inL [0])) l2 Al2 cl2 inL_le (RdO.alias_ (La := [0]) (RdO.evo rfl hE (RdO.evo rfl hX606 hl2)) (by decide)) r610 hr610) (post_alias (La := [0]) (m' := (look0 [(1, 613), (2, 612), (3, 614)])) (fun own' w' a' x ho hsz h1 h => ⟨x, h1, RwO.backM_ ho h (by decide) (by decide) (by decide) (by decide)⟩)))) ?_
  refine sc (fun own a wx hf hsl hE => ?_) ?_
  ·obtain ⟨⟨⟨A608, cA608⟩, (f_19 : a.eval (.tmp 19) = sl A608 r607 cA608), b_A608⟩, -⟩ := hf
   exact px (or_mono (f := Fct.val 0 (sl A608 r607 cA608)) (or_assign f_19) (fun own' a' w' v' hp h => fun _ _ h0' => by cases (f_19.symm.trans ((hp.2 19 (by decide)).symm.trans h0')); exact h))
  refine sc (fun own a wx hf hsl hE => ?_) ?_
  ·obtain ⟨⟨⟨A611, cA611⟩, (f_21 : a.eval (.tmp 21) = sl A611 r610 cA611), b_A611⟩, -⟩ := hf
   exact px (or_mono (f := Fct.val 1 (sl A611 r610 cA611)) (or_assign f_21) (fun own' a' w' v' hp h => fun _ _ h0' => by cases (f_21.symm.trans ((hp.2 21 (by decide)).symm.trans h0')); exact h))
  exact steps_nil
 intro o615 a615 w615 d615 z615 hk615 hf615 hE615
 have e615_2 := kt hk615 e606_2
 obtain ⟨⟨⟨A608, cA608⟩, (f_19 : a615.eval (.tmp 19) = sl A608 r607 cA608), (b615_A608 : RwO o615 609 [] w615 3 R3 A608 cA608 r607)⟩, (q_0 : ∀ (A608 : Option Addr) (cA608 : Nat), a615.eval (.tmp 19) = sl A608 r607 cA608 → a615.eval (.tmp 0) = sl A608 r607 cA608), ⟨⟨A611, cA611⟩, (f_21 : a615.eval (.tmp 21) = sl A611 r610 cA611), (b615_A611 : RwO o615 612 [613, 614, 0] w615 63 R63 A611 cA611 r610)⟩, (q_1 : ∀ (A611 : Option Addr) (cA611 : Nat), a615.eval (.tmp 21) = sl A611 r610 cA611 → a615.eval (.tmp 1) = sl A611 r610 cA611), -⟩ := hf615 [1, 4, 3, 5] rfl
 have e615_0 := q_0 _ _ f_19
 have e615_1 := q_1 _ _ f_21
 have hX615 := es_ hX606 hE615
 obtain ⟨r616, hr616, hs⟩ := obind hs
 obtain ⟨r636, hr636, hs⟩ := obind hs
 obtain ⟨r640, hr640, hs⟩ := obind hs
 refine rp_seq 128 o615 [649] [0, 0, 3, 0, 0, 23, 63, 0, 255, 511] [dv [] [0] 22 (sl A608 r607 cA608), dv [] [1] 23 (sl A611 r610 cA611), ⟨[0, 1], [], [], Fct.mems [626, 627, 628, 629, 630, 631, 632, 633, 634, 635] 24 (fun (x : (Option Addr × Nat) × (Option Addr × Nat) × (Option Addr × Nat) × (Option Addr × Nat) × (Option Addr × Nat) × (Option Addr × Nat) × (Option Addr × Nat) × (Option Addr × Nat) × (Option Addr × Nat)) => .pointer (some ⟨x.1.2, 0, none⟩)) (fun (x : (Option Addr × Nat) × (Option Addr × Nat) × (Option Addr × Nat) × (Option Addr × Nat) × (Option Addr × Nat) × (Option Addr × Nat) × (Option Addr × Nat) × (Option Addr × Nat) × (Option Addr × Nat)) own w => RwO own 626 [] w 80 R80 x.2.2.1.1 x.2.2.1.2 r616.1.1 ∧ MpN own 627 628 [] w x.2.2.2.1.2 vv111 3 R3 r616.1.2.1 ∧ RwO own 629 [] w 3 R3 x.2.2.2.2.1.1 x.2.2.2.2.1.2 r616.1.2.2 ∧ BlkO own 630 w x.2.1.2 106 #[.slice x.2.2.1.1 r616.1.1.length x.2.2.1.2, .map (some x.2.2.2.1.2), .slice x.2.2.2.2.1.1 r616.1.2.2.length x.2.2.2.2.1.2] ∧ RwO own 631 [] w 3 R3 x.2.2.2.2.2.1.1 x.2.2.2.2.2.1.2 r616.2.1 ∧ RwO own 632 [] w 25 R25 x.2.2.2.2.2.2.1.1 x.2.2.2.2.2.2.1.2 r616.2.2.1 ∧ MpO own 633 w x.2.2.2.2.2.2.2.1.2 vv25 vv4 r616.2.2.2.1 ∧ MpO own 634 w x.2.2.2.2.2.2.2.2.2 vv81 vv4 r616.2.2.2.2 ∧ BlkO own 635 w x.1.2 77 #[.pointer (some ⟨x.2.1.2, 0, none⟩), .slice x.2.2.2.2.2.1.1 r616.2.1.length x.2.2.2.2.2.1.2, .slice x.2.2.2.2.2.2.1.1 r616.2.2.1.length x.2.2.2.2.2.2.1.2, .map (some x.2.2.2.2.2.2.2.1.2), .map (some x.2.2.2.2.2.2.2.2.2)]) (fun hk he h => ⟨RwO.evo (hits_sub hk (by decide)) he h.1, MpN.evo (hits_sub hk (by decide)) he h.2.1, RwO.evo (hits_sub hk (by decide)) he h.2.2.1, BlkO.evo (not_hit hk (by decide)) he h.2.2.2.1, RwO.evo (hits_sub hk (by decide)) he h.2.2.2.2.1, RwO.evo (hits_sub hk (by decide)) he h.2.2.2.2.2.1, MpO.evo (not_hit hk (by decide)) he h.2.2.2.2.2.2.1, MpO.evo (not_hit hk (by decide)) he h.2.2.2.2.2.2.2.1, BlkO.evo (not_hit hk (by decide)) he h.2.2.2.2.2.2.2.2⟩)⟩, dv [] [0] 25 (sl A608 r607 cA608), dv [] [1] 26 (sl A611 r610 cA611), ⟨[4], [], [], Fct.row 638 [639] 27 91 R91 r636⟩, ⟨[3, 5], [], [], Fct.mems [644, 645, 609, 638, 639, 646, 647] 28 (fun (x : (Option Addr × Nat) × (Option Addr × Nat) × (Option Addr × Nat)) => .agg #[.slice x.1.1 r640.1.length x.1.2, .slice x.2.1.1 r640.2.1.length x.2.1.2, .slice x.2.2.1 r640.2.2.length x.2.2.2]) (fun (x : (Option Addr × Nat) × (Option Addr × Nat) × (Option Addr × Nat)) own w => RdO own [644, 645, 609, 638, 639] w R3 x.1.1 x.1.2 r640.1 ∧ RwO own 646 [] w 44 R44 x.2.1.1 x.2.1.2 r640.2.1 ∧ RwO own 647 [] w 92 R92 x.2.2.1 x.2.2.2 r640.2.2) (fun hk he h => ⟨RdO.evo (hits_sub hk (by decide)) he h.1, RwO.evo (hits_sub hk (by decide)) he h.2.1, RwO.evo (hits_sub hk (by decide)) he h.2.2⟩)⟩, ⟨[], [], [], Fct.blk 649 8 (fun g => pt g 0) 38 #[.slice none 0 0, .slice none 0 0, .slice none 0 0]⟩, ⟨[2], [], [], Fct.rel [7, 24] (fun l => ∀ (cA617 : Nat), l.getD 1 undef = pt cA617 0 → l.getD 0 undef = pt cA617 0)⟩, ⟨[7, 6], [], [649], Fct.by_ [650] [8, 28] (fun l own w => ∃ g648 : Nat, l.getD 0 undef = pt g648 0 ∧ (∀ (A641 : Option Addr) (cA641 : Nat) (A642 : Option Addr) (cA642 : Nat) (A643 : Option Addr) (cA643 : Nat), l.getD 1 undef = .agg #[sl A641 r640.1 cA641, sl A642 r640.2.1 cA642, sl A643 r640.2.2 cA643] → BlkO own 650 w g648 38 #[sl A641 r640.1 cA641, sl A642 r640.2.1 cA642, sl A643 r640.2.2 cA643])) (fun hk he h => by obtain ⟨g, e, h⟩ := h; exact ⟨g, e, fun _ _ _ _ _ _ h0' => BlkO.evo (not_hit hk (by decide)) he (h _ _ _ _ _ _ h0')⟩)⟩] z615 d615 ?_ ?_
 ·refine sM e615_0 <| sM e615_1 <| sFE (fun f hE => or_call cf7 (args2 f.1 f.2.1) (guard_New_w _ r607 A608 cA608 r610 A611 cA611 (RdO.zero (RwO.rd (re_ hE b615_A608))) (RdO.zero (RwO.rd (re_ hE b615_A611))) r616 hr616) (post_mems (m := (fun _ => 0)) (m' := (look0 [(1, 635), (2, 630), (3, 626), (4, 627), (5, 628), (6, 629), (7, 631), (8, 632), (9, 633), (10, 634)])) (fun _ _ => .inl rfl) (fun own' w' a' x h1 h => ⟨x, h1, ⟨RwO.back_ h.1 (by decide) (.inl (Rep.fl_flat _)), MpN.back_ h.2.1 (by decide) (by decide) (.inl (Rep.fl_flat _)), RwO.back_ h.2.2.1 (by decide) (.inl (Rep.fl_flat _)), BlkO.back_ h.2.2.2.1 (by decide), RwO.back_ h.2.2.2.2.1 (by decide) (.inl (Rep.fl_flat _)), RwO.back_ h.2.2.2.2.2.1 (by decide) (.inl (Rep.fl_flat _)), MpO.back_ h.2.2.2.2.2.2.1 (by decide), MpO.back_ h.2.2.2.2.2.2.2.1 (by decide), BlkO.back_ h.2.2.2.2.2.2.2.2 (by decide)⟩⟩))) <| sM e615_0 <| sM e615_1 <| sFE (fun f hE => or_call cf14 (args1 f.1) (law14_Ofs_w _ r610 A611 cA611 (RdO.zero (RwO.rd (re_ hE b615_A611))) r636 hr636) (post_row (m' := (look0 [(1, 638), (2, 639)])) (.inr (by decide)) rfl rfl (fun _ => rfl))) ?_
  refine sc (fun own a wx hf hsl hE => ?_) ?_
  ·obtain ⟨f_25, ⟨⟨A637, cA637⟩, f_27, b_A637⟩, -⟩ := hf
   exact px (or_call cf13 (args2 f_25 f_27) (ref18_New_w _ (forth own (inL [609, 638, 639])) r607 A608 cA608 r636 A637 cA637 inL_le (RdO.alias_ (La := [609, 638, 639]) (RwO.rd (re_ hE b615_A608)) (by decide)) (RdO.alias_ (La := [609, 638, 639]) (RwO.rd b_A637) (by decide)) r640 hr640) (post_alias (La := [609, 638, 639]) (m' := (look0 [(1, 644), (2, 645), (3, 646), (4, 647)])) (fun own' w' a' x ho hsz h1 h => ⟨x, h1, ⟨RdO.backN_ ho hsz h.1 (by decide) (by decide) (by decide), RwO.backN_ ho h.2.1 (by decide) (Rep.fl_flat _), RwO.backN_ ho h.2.2 (by decide) (Rep.fl_flat _)⟩⟩)))
  refine sO (nw0) ?_
  refine sc (fun own a wx hf hsl hE => ?_) ?_
  ·obtain ⟨⟨⟨⟨A617, cA617⟩, ⟨A618, cA618⟩, ⟨A619, cA619⟩, ⟨A620, cA620⟩, ⟨A621, cA621⟩, ⟨A622, cA622⟩, ⟨A623, cA623⟩, ⟨A624, cA624⟩, ⟨A625, cA625⟩⟩, (f_24 : a.eval (.tmp 24) = pt cA617 0), b_A619, b_cA620, b_A621, b_cA618, b_A622, b_A623, b_cA624, b_cA625, b_cA617⟩, -⟩ := hf
   exact px (or_mono (f := Fct.val 7 (pt cA617 0)) (or_assign f_24) (fun own' a' w' v' hp h => fun _ h0' => by cases (f_24.symm.trans ((hp.2 24 (by decide)).symm.trans h0')); exact h))
  refine sc (fun own a wx hf hsl hE => ?_) ?_
  ·obtain ⟨⟨g648, f_8, b_g648⟩, ⟨⟨⟨A641, cA641⟩, ⟨A642, cA642⟩, ⟨A643, cA643⟩⟩, (f_28 : a.eval (.tmp 28) = .agg #[sl A641 r640.1 cA641, sl A642 r640.2.1 cA642, sl A643 r640.2.2 cA643]), b_A641, b_A642, b_A643⟩, -⟩ := hf
   exact px (or_store (l := #[sl A641 r640.1 cA641, sl A642 r640.2.1 cA642, sl A643 r640.2.2 cA643]) (lab := 649) (lab2 := 650) ts38 f_8 f_28 b_g648 (by simp) (by kernel_rfl) (mem_of rfl) (by decide) (by kernel_rfl) (fun own' a' w' ha hb => ⟨_, (ha 8).trans f_8, fun _ _ _ _ _ _ h0' => by cases (f_28.symm.trans ((ha 28).symm.trans h0')); exact hb⟩))
  exact steps_nil
 intro o651 a651 w651 d651 z651 hk651 hf651 hE651
 have e651_2 := kt hk651 e615_2
 obtain ⟨⟨⟨⟨A641, cA641⟩, ⟨A642, cA642⟩, ⟨A643, cA643⟩⟩, (f_28 : a651.eval (.tmp 28) = .agg #[sl A641 r640.1 cA641, sl A642 r640.2.1 cA642, sl A643 r640.2.2 cA643]), (b651_A641 : RdO o651 [644, 645, 609, 638, 639] w651 R3 A641 cA641 r640.1), (b651_A642 : RwO o651 646 [] w651 44 R44 A642 cA642 r640.2.1), (b651_A643 : RwO o651 647 [] w651 92 R92 A643 cA643 r640.2.2)⟩, ⟨g648, (e651_8 : a651.eval (.tmp 8) = pt g648 0), (bq_g648 : ∀ (A641 : Option Addr) (cA641 : Nat) (A642 : Option Addr) (cA642 : Nat) (A643 : Option Addr) (cA643 : Nat), a651.eval (.tmp 28) = .agg #[sl A641 r640.1 cA641, sl A642 r640.2.1 cA642, sl A643 r640.2.2 cA643] → BlkO o651 650 w651 g648 38 #[sl A641 r640.1 cA641, sl A642 r640.2.1 cA642, sl A643 r640.2.2 cA643])⟩, ⟨⟨⟨A617, cA617⟩, ⟨A618, cA618⟩, ⟨A619, cA619⟩, ⟨A620, cA620⟩, ⟨A621, cA621⟩, ⟨A622, cA622⟩, ⟨A623, cA623⟩, ⟨A624, cA624⟩, ⟨A625, cA625⟩⟩, (f_24 : a651.eval (.tmp 24) = pt cA617 0), (b651_A619 : RwO o651 626 [] w651 80 R80 A619 cA619 r616.1.1), (b651_cA620 : MpN o651 627 628 [] w651 cA620 vv111 3 R3 r616.1.2.1), (b651_A621 : RwO o651 629 [] w651 3 R3 A621 cA621 r616.1.2.2), (b651_cA618 : BlkO o651 630 w651 cA618 106 #[sl A619 r616.1.1 cA619, .map (some cA620), sl A621 r616.1.2.2 cA621]), (b651_A622 : RwO o651 631 [] w651 3 R3 A622 cA622 r616.2.1), (b651_A623 : RwO o651 632 [] w651 25 R25 A623 cA623 r616.2.2.1), (b651_cA624 : MpO o651 633 w651 cA624 vv25 vv4 r616.2.2.2.1), (b651_cA625 : MpO o651 634 w651 cA625 vv81 vv4 r616.2.2.2.2), (b651_cA617 : BlkO o651 635 w651 cA617 77 #[pt cA618 0, sl A622 r616.2.1 cA622, sl A623 r616.2.2.1 cA623, .map (some cA624), .map (some cA625)])⟩, (q_7 : ∀ (cA617 : Nat), a651.eval (.tmp 24) = pt cA617 0 → a651.eval (.tmp 7) = pt cA617 0), -⟩ := hf651 [6, 9, 2, 8] rfl
 have b651_g648 := bq_g648 _ _ _ _ _ _ f_28
 have e651_7 := q_7 _ f_24
 have hX651 := es_ hX615 hE651
 refine fl_seq (fun Q652 hn652 hp652 => ?_)
 refine rq_seq 128 o651 (bz 1) [dv [] [] 9 (Zi 0)] z651 d651 ?_ ?_
 ·exact sO (or_assign rfl) <| steps_nil
 intro o653 a653 w653 d653 z653 hk653 hf653 hE653
 obtain ⟨e653_2, e653_7, e653_8⟩ := kt3 hk653 e651_2 e651_7 e651_8
 have e653_9 := gv (hf653 [0] rfl) rfl
 have hX653 := es_ hX651 hE653
 obtain ⟨b653_cA618, b653_cA617, b653_g648⟩ := be3 hE653 b651_cA618 b651_cA617 b651_g648
 have b653_A619 := re_ hE653 b651_A619
 have b653_cA620 := MpN.evo rfl hE653 b651_cA620
 have b653_A621 := re_ hE653 b651_A621
 have b653_A622 := re_ hE653 b651_A622
 have b653_A623 := re_ hE653 b651_A623
 have b653_cA624 := MpO.evo (by decide) hE653 b651_cA624
 have b653_cA625 := MpO.evo (by decide) hE653 b651_cA625
 have b653_A641 := RdO.evo rfl hE653 b651_A641
 have b653_A642 := re_ hE653 b651_A642
 have b653_A643 := re_ hE653 b651_A643
 refine fl_block (fun Q654 hn654 hx654 hp654 => ?_)
 refine fl_loop (body := (fun s => law18_GuardPlays_b1 acts3 s.1 s.2.1 s.2.2.1 s.2.2.2.1 s.2.2.2.2.1 s.2.2.2.2.2.1 s.2.2.2.2.2.2.1 s.2.2.2.2.2.2.2.1 s.2.2.2.2.2.2.2.2.1 s.2.2.2.2.2.2.2.2.2.1 s.2.2.2.2.2.2.2.2.2.2)) (z := r) (show loopO _ _ = _ from hs) (fun (s : (List ((Int × Int) × (Int × Int))) × (List ((Int × Int) × (List Int))) × (List Int) × (List Int) × (List (Int × Int)) × (List ((Int × Int) × Bool)) × (List (((Int × Int) × (Int × Int)) × Bool)) × (List Int) × (List (Int × Int)) × (List ((Int × Int) × (Int × Int))) × Int) a wx => match s with | (g827, g830, g834, g838, g842, g845, g847, m851, m855, m859, i861) => ∃ (ox : Own) (A825 : Option Addr) (c826 : Nat) (A832 : Option Addr) (c833 : Nat) (A836 : Option Addr) (c837 : Nat) (A840 : Option Addr) (c841 : Nat) (A849 : Option Addr) (c850 : Nat) (A853 : Option Addr) (c854 : Nat) (A857 : Option Addr) (c858 : Nat), a.defers = [] ∧ a.tmps.size = 128 ∧ a.eval (.tmp 2) = sl Aacts3 acts3 cacts3 ∧ a.eval (.tmp 7) = pt cA617 0 ∧ a.eval (.tmp 8) = pt g648 0 ∧ a.eval (.tmp 9) = Zi i861 ∧ Evo [] (fun _ => 0) ox w wx ∧ BlkO ox 823 wx cA617 77 #[pt cA618 0, sl A836 g838 c837, sl A840 g842 c841, .map (some cA624), .map (some cA625)] ∧ BlkO ox 824 wx cA618 106 #[sl A825 g827 c826, .map (some cA620), sl A832 g834 c833] ∧ RwO ox 828 [] wx 80 R80 A825 c826 g827 ∧ MpN ox 829 831 [] wx cA620 vv111 3 R3 g830 ∧ RwO ox 835 [] wx 3 R3 A832 c833 g834 ∧ RwO ox 839 [] wx 3 R3 A836 c837 g838 ∧ RwO ox 843 [] wx 25 R25 A840 c841 g842 ∧ MpO ox 844 wx cA624 vv25 vv4 g845 ∧ MpO ox 846 wx cA625 vv81 vv4 g847 ∧ BlkO ox 848 wx g648 38 #[sl A849 m851 c850, sl A853 m855 c854, sl A857 m859 c858] ∧ RdO ox [852] wx R3 A849 c850 m851 ∧ RdO ox [852] wx R44 A853 c854 m855 ∧ RdO ox [852] wx R92 A857 c858 m859) ?_ ?_
 ·exact ⟨(rl [(609, 852), (626, 828), (627, 829), (628, 831), (629, 835), (630, 824), (631, 839), (632, 843), (633, 844), (634, 846), (635, 823), (638, 852), (639, 852), (644, 852), (645, 852), (646, 852), (647, 852), (650, 848)] o653), A619, cA619, A621, cA621, A622, cA622, A623, cA623, A641, cA641, A642, cA642, A643, cA643, d653, z653, e653_2, e653_7, e653_8, e653_9, (Evo.rl_ hX653 (fun _ => Nat.le_refl 0) rfl), (BlkO.rl_ b653_cA617), (BlkO.rl_ b653_cA618), (RwO.rl_ b653_A619), (MpN.rl_ b653_cA620), (RwO.rl_ b653_A621), (RwO.rl_ b653_A622), (RwO.rl_ b653_A623), (MpO.rl_ b653_cA624), (MpO.rl_ b653_cA625), (BlkO.rl_ b653_g648), (RdO.more (RdO.rl_ b653_A641) (by decide)), (RdO.rl_ (RwO.rd b653_A642)), (RdO.rl_ (RwO.rd b653_A643))⟩
 ·rintro ⟨g827, g830, g834, g838, g842, g845, g847, m851, m855, m859, i861⟩ zz1030 a1030 w1030 ⟨o1030, A825, c826, A832, c833, A836, c837, A840, c841, A849, c850, A853, c854, A857, c858, d1031, z1031, e1031_2, e1031_7, e1031_8, e1031_9, hE1031, b1031_cA617, b1031_cA618, b1031_A825, b1031_cA620, b1031_A832, b1031_A836, b1031_A840, b1031_cA624, b1031_cA625, b1031_g648, b1031_A849, b1031_A853, b1031_A857⟩ hs Q1030 hn1030 hp1030 z1030
  have hs : law18_GuardPlays_b1 acts3 g827 g830 g834 g838 g842 g845 g847 m851 m855 m859 i861 = some zz1030 := hs
  refine fl_seq (fun Q1032 hn1032 hp1032 => ?_)
  obtain ⟨x1033, hx1033, hs⟩ := obind hs
  refine rq_seq 128 o1030 [0, 0, 2, 7, 15, 31, 63, 127] [dv [] [9] 29 (Zi i861), dv [] [2] 30 (sl Aacts3 acts3 cacts3), dv [1] [] 31 (Zi (acts3.length : Int)), dv [0, 2] [] 32 (.bool (decide (i861 < (acts3.length : Int)))), dv [3] [] 33 (.bool (decide (i861 < (acts3.length : Int)))), dc [4] [9] (decide (i861 < (acts3.length : Int))) 34 (Zi i861), dc [4, 5] [] (decide (i861 < (acts3.length : Int))) 35 (.bool (decide (i861 < 40))), dv [4, 6] [] 36 (.bool x1033)] z1031 d1031 ?_ ?_
  ·exact sM e1031_9 <| sM e1031_2 <| sF (fun f => or_len tu34 f.1 rfl) <| sF (fun f => or_lss f.1 f.2.1 rfl) <| sV <| cT (fun _ s _ _ => or_move (s.1.trans e1031_9)) <| cT (fun f _ _ hg => or_lss (f.2.1.1 hg) rfl rfl) <| sF (fun f => or_and f.1 (fun hx => f.2.1.1 hx) rfl (osome hx1033).symm) <| steps_nil
  intro o1034 a1034 w1034 d1034 z1034 hk1034 hf1034 hE1034
  obtain ⟨e1034_2, e1034_7, e1034_8, e1034_9⟩ := kt4 hk1034 e1031_2 e1031_7 e1031_8 e1031_9
  have e1034_36 := gv (hf1034 [7] rfl) rfl
  have hX1034 := es_ hE1031 hE1034
  obtain ⟨b1034_cA617, b1034_cA618, b1034_g648⟩ := be3 hE1034 b1031_cA617 b1031_cA618 b1031_g648
  have b1034_A825 := re_ hE1034 b1031_A825
  have b1034_cA620 := MpN.evo rfl hE1034 b1031_cA620
  have b1034_A832 := re_ hE1034 b1031_A832
  have b1034_A836 := re_ hE1034 b1031_A836
  have b1034_A840 := re_ hE1034 b1031_A840
  have b1034_cA624 := MpO.evo (by decide) hE1034 b1031_cA624
  have b1034_cA625 := MpO.evo (by decide) hE1034 b1031_cA625
  have b1034_A849 := RdO.evo rfl hE1034 b1031_A849
  have b1034_A853 := RdO.evo rfl hE1034 b1031_A853
  have b1034_A857 := RdO.evo rfl hE1034 b1031_A857
  refine fl_cond e1034_36 hs (fun c1035 hs => ?_) (fun c1035 hs => ?_)
  ·refine fl_skip ?_
   refine hn1032 _ _ ?_
   refine fl_seq (fun Q1036 hn1036 hp1036 => ?_)
   refine fl_block (fun Q1037 hn1037 hx1037 hp1037 => ?_)
   obtain ⟨x1038, hx1038, hs⟩ := obind hs
   obtain ⟨x1039, hx1039, hs⟩ := obind hs
   obtain ⟨x1040, hx1040, hs⟩ := obind hs
   refine rd_seq g_mixed 128 [] o1034 [1042, 1044, 1046] [0, 0, 3, 7, 15, 0, 0, 96, 224, 480, 0, 0, 3072, 7168, 15360, 0, 0, 0, 229407, 492543, 1048575] [dv [] [2] 39 (sl Aacts3 acts3 cacts3), dv [] [9] 40 (Zi i861), dv [0, 1] [] 41 (.pointer (some ((adr Aacts3).add ((i861 : Int).toNat * R43.s)))), dv [2] [] 42 (.pointer (some (((adr Aacts3).add ((i861 : Int).toNat * R43.s)).add 1))), dv [3] [] 43 (P2 x1038.2.1), dv [] [2] 44 (sl Aacts3 acts3 cacts3), dv [] [9] 45 (Zi i861), dv [5, 6] [] 46 (.pointer (some ((adr Aacts3).add ((i861 : Int).toNat * R43.s)))), dv [7] [] 47 (.pointer (some (((adr Aacts3).add ((i861 : Int).toNat * R43.s)).add 3))), dv [8] [] 48 (P2 x1039.2.2.1), dv [] [2] 49 (sl Aacts3 acts3 cacts3), dv [] [9] 50 (Zi i861), dv [10, 11] [] 51 (.pointer (some ((adr Aacts3).add ((i861 : Int).toNat * R43.s)))), dv [12] [] 52 (.pointer (some (((adr Aacts3).add ((i861 : Int).toNat * R43.s)).add 5))), dv [13] [] 53 (P2 x1040.2.2.2), ⟨[], [], [], Fct.blk 1042 10 (fun g => pt g 0) 25 #[Zi 0, Zi 0]⟩, ⟨[], [], [], Fct.blk 1044 11 (fun g => pt g 0) 25 #[Zi 0, Zi 0]⟩, ⟨[], [], [], Fct.blk 1046 12 (fun g => pt g 0) 25 #[Zi 0, Zi 0]⟩, ⟨[15, 4], [], [1042], Fct.blk 1047 10 (fun g => pt g 0) 25 #[Zi x1038.2.1.1, Zi x1038.2.1.2]⟩, ⟨[16, 9], [], [1044], Fct.blk 1048 11 (fun g => pt g 0) 25 #[Zi x1039.2.2.1.1, Zi x1039.2.2.1.2]⟩, ⟨[17, 14], [], [1046], Fct.blk 1049 12 (fun g => pt g 0) 25 #[Zi x1040.2.2.2.1, Zi x1040.2.2.2.2]⟩] z1034 d1034 nm_ ?_ ?_
   ·refine sM e1034_2 <| sM e1034_9 <| sF (fun f => or_index (R := R43) (l := acts3) tl34 f.1 f.2.1 (RdO.some_ (RdO.evo rfl hX1034 hacts3) hx1038) hx1038) <| sF (fun f => or_field fo43_1 f.1 rfl) <| sFE (fun f hE => or_load (l := [Zi x1038.2.1.1, Zi x1038.2.1.2]) ta25 f.1 (CellsAt.part (RdO.cells (F := E43) (RdO.evo rfl hE (RdO.evo rfl hX1034 hacts3)) hx1038) 1 rfl) rfl) <| sM e1034_2 <| sM e1034_9 <| sF (fun f => or_index (R := R43) (l := acts3) tl34 f.1 f.2.1 (RdO.some_ (RdO.evo rfl hX1034 hacts3) hx1039) hx1039) <| sF (fun f => or_field fo43_2 f.1 rfl) <| sFE (fun f hE => or_load (l := [Zi x1039.2.2.1.1, Zi x1039.2.2.1.2]) ta25 f.1 (CellsAt.part (RdO.cells (F := E43) (RdO.evo rfl hE (RdO.evo rfl hX1034 hacts3)) hx1039) 3 rfl) rfl) <| sM e1034_2 <| sM e1034_9 <| sF (fun f => or_index (R := R43) (l := acts3) tl34 f.1 f.2.1 (RdO.some_ (RdO.evo rfl hX1034 hacts3) hx1040) hx1040) <| sF (fun f => or_field fo43_3 f.1 rfl) <| sFE (fun f hE => or_load (l := [Zi x1040.2.2.2.1, Zi x1040.2.2.2.2]) ta25 f.1 (CellsAt.part (RdO.cells (F := E43) (RdO.evo rfl hE (RdO.evo rfl hX1034 hacts3)) hx1040) 5 rfl) rfl) <| sO (nw0) <| sO (nw0) <| sO (nw0) ?_
    refine sc (fun own a wx hf hsl hE => ?_) ?_
    ·obtain ⟨⟨g1041, f_10, b_g1041⟩, f_43, -⟩ := hf
     exact px (or_store (l := #[Zi x1038.2.1.1, Zi x1038.2.1.2]) (lab := 1042) (lab2 := 1047) ts25 f_10 f_43 b_g1041 (by simp) (by kernel_rfl) (mem_of rfl) (by decide) (by kernel_rfl) (fun own' a' w' ha hb => ⟨_, (ha 10).trans f_10, hb⟩))
    refine sc (fun own a wx hf hsl hE => ?_) ?_
    ·obtain ⟨⟨g1043, f_11, b_g1043⟩, f_48, -⟩ := hf
     exact px (or_store (l := #[Zi x1039.2.2.1.1, Zi x1039.2.2.1.2]) (lab := 1044) (lab2 := 1048) ts25 f_11 f_48 b_g1043 (by simp) (by kernel_rfl) (mem_of rfl) (by decide) (by kernel_rfl) (fun own' a' w' ha hb => ⟨_, (ha 11).trans f_11, hb⟩))
    refine sc (fun own a wx hf hsl hE => ?_) ?_
    ·obtain ⟨⟨g1045, f_12, b_g1045⟩, f_53, -⟩ := hf
     exact px (or_store (l := #[Zi x1040.2.2.2.1, Zi x1040.2.2.2.2]) (lab := 1046) (lab2 := 1049) ts25 f_12 f_53 b_g1045 (by simp) (by kernel_rfl) (mem_of rfl) (by decide) (by kernel_rfl) (fun own' a' w' ha hb => ⟨_, (ha 12).trans f_12, hb⟩))
    exact steps_nil
   intro o1050 a1050 w1050 d1050 z1050 hk1050 hf1050 hE1050
   obtain ⟨e1050_2, e1050_7, e1050_8, e1050_9⟩ := kt4 hk1050 e1034_2 e1034_7 e1034_8 e1034_9
   obtain ⟨⟨g1041, (e1050_10 : a1050.eval (.tmp 10) = pt g1041 0), (b1050_g1041 : BlkO o1050 1047 w1050 g1041 25 #[Zi x1038.2.1.1, Zi x1038.2.1.2])⟩, ⟨g1043, (e1050_11 : a1050.eval (.tmp 11) = pt g1043 0), (b1050_g1043 : BlkO o1050 1048 w1050 g1043 25 #[Zi x1039.2.2.1.1, Zi x1039.2.2.1.2])⟩, ⟨g1045, (e1050_12 : a1050.eval (.tmp 12) = pt g1045 0), (b1050_g1045 : BlkO o1050 1049 w1050 g1045 25 #[Zi x1040.2.2.2.1, Zi x1040.2.2.2.2])⟩, -⟩ := hf1050 [18, 19, 20] rfl
   have hX1050 := es_ hX1034 hE1050
   obtain ⟨b1050_cA617, b1050_cA618, b1050_g648⟩ := be3 hE1050 b1034_cA617 b1034_cA618 b1034_g648
   have b1050_A825 := re_ hE1050 b1034_A825
   have b1050_cA620 := MpN.evo rfl hE1050 b1034_cA620
   have b1050_A832 := re_ hE1050 b1034_A832
   have b1050_A836 := re_ hE1050 b1034_A836
   have b1050_A840 := re_ hE1050 b1034_A840
   have b1050_cA624 := MpO.evo (by decide) hE1050 b1034_cA624
   have b1050_cA625 := MpO.evo (by decide) hE1050 b1034_cA625
   have b1050_A849 := RdO.evo rfl hE1050 b1034_A849
   have b1050_A853 := RdO.evo rfl hE1050 b1034_A853
   have b1050_A857 := RdO.evo rfl hE1050 b1034_A857
   obtain ⟨r1051, hr1051, hs⟩ := obind hs
   obtain ⟨r1052, hr1052, hs⟩ := obind hs
   obtain ⟨r1053, hr1053, hs⟩ := obind hs
   refine rd_seq g_mixed 128 [] o1050 [1055, 1057, 1059] [0, 1, 0, 7, 0, 31, 0, 0, 0, 511, 1023, 2047] [dv [] [10] 54 (P2 x1038.2.1), dv [0] [] 55 (P2 r1051), dv [] [11] 56 (P2 x1039.2.2.1), dv [2] [] 57 (P2 r1052), dv [] [12] 58 (P2 x1040.2.2.2), dv [4] [] 59 (P2 r1053), ⟨[], [], [], Fct.blk 1055 13 (fun g => pt g 0) 44 #[Zi 0, Zi 0]⟩, ⟨[], [], [], Fct.blk 1057 14 (fun g => pt g 0) 44 #[Zi 0, Zi 0]⟩, ⟨[], [], [], Fct.blk 1059 15 (fun g => pt g 0) 44 #[Zi 0, Zi 0]⟩, ⟨[6, 1], [], [1055], Fct.blk 1060 13 (fun g => pt g 0) 44 #[Zi r1051.1, Zi r1051.2]⟩, ⟨[7, 3], [], [1057], Fct.blk 1061 14 (fun g => pt g 0) 44 #[Zi r1052.1, Zi r1052.2]⟩, ⟨[8, 5], [], [1059], Fct.blk 1062 15 (fun g => pt g 0) 44 #[Zi r1053.1, Zi r1053.2]⟩] z1050 d1050 nm_ ?_ ?_
   ·refine sL ta25 e1050_10 b1050_g1041 <| sF (fun f => or_call cf15 (args1 f.1) (law01_Of_w _ x1038.2.1  r1051 hr1051) post_val) <| sL ta25 e1050_11 b1050_g1043 <| sF (fun f => or_call cf15 (args1 f.1) (law01_Of_w _ x1039.2.2.1  r1052 hr1052) post_val) <| sL ta25 e1050_12 b1050_g1045 <| sF (fun f => or_call cf15 (args1 f.1) (law01_Of_w _ x1040.2.2.2  r1053 hr1053) post_val) <| sO (nw0) <| sO (nw0) <| sO (nw0) ?_
    refine sc (fun own a wx hf hsl hE => ?_) ?_
    ·obtain ⟨⟨g1054, f_13, b_g1054⟩, f_55, -⟩ := hf
     exact px (or_store (l := #[Zi r1051.1, Zi r1051.2]) (lab := 1055) (lab2 := 1060) ts44 f_13 f_55 b_g1054 (by simp) (by kernel_rfl) (mem_of rfl) (by decide) (by kernel_rfl) (fun own' a' w' ha hb => ⟨_, (ha 13).trans f_13, hb⟩))
    refine sc (fun own a wx hf hsl hE => ?_) ?_
    ·obtain ⟨⟨g1056, f_14, b_g1056⟩, f_57, -⟩ := hf
     exact px (or_store (l := #[Zi r1052.1, Zi r1052.2]) (lab := 1057) (lab2 := 1061) ts44 f_14 f_57 b_g1056 (by simp) (by kernel_rfl) (mem_of rfl) (by decide) (by kernel_rfl) (fun own' a' w' ha hb => ⟨_, (ha 14).trans f_14, hb⟩))
    refine sc (fun own a wx hf hsl hE => ?_) ?_
    ·obtain ⟨⟨g1058, f_15, b_g1058⟩, f_59, -⟩ := hf
     exact px (or_store (l := #[Zi r1053.1, Zi r1053.2]) (lab := 1059) (lab2 := 1062) ts44 f_15 f_59 b_g1058 (by simp) (by kernel_rfl) (mem_of rfl) (by decide) (by kernel_rfl) (fun own' a' w' ha hb => ⟨_, (ha 15).trans f_15, hb⟩))
    exact steps_nil
   intro o1063 a1063 w1063 d1063 z1063 hk1063 hf1063 hE1063
   obtain ⟨e1063_2, e1063_7, e1063_8, e1063_9, e1063_10, e1063_11, e1063_12⟩ := kt7 hk1063 e1050_2 e1050_7 e1050_8 e1050_9 e1050_10 e1050_11 e1050_12
   obtain ⟨⟨g1054, (e1063_13 : a1063.eval (.tmp 13) = pt g1054 0), (b1063_g1054 : BlkO o1063 1060 w1063 g1054 44 #[Zi r1051.1, Zi r1051.2])⟩, ⟨g1056, (e1063_14 : a1063.eval (.tmp 14) = pt g1056 0), (b1063_g1056 : BlkO o1063 1061 w1063 g1056 44 #[Zi r1052.1, Zi r1052.2])⟩, ⟨g1058, (e1063_15 : a1063.eval (.tmp 15) = pt g1058 0), (b1063_g1058 : BlkO o1063 1062 w1063 g1058 44 #[Zi r1053.1, Zi r1053.2])⟩, -⟩ := hf1063 [9, 10, 11] rfl
   have hX1063 := es_ hX1050 hE1063
   obtain ⟨b1063_cA617, b1063_cA618, b1063_g648, b1063_g1041, b1063_g1043, b1063_g1045⟩ := be6 hE1063 b1050_cA617 b1050_cA618 b1050_g648 b1050_g1041 b1050_g1043 b1050_g1045
   have b1063_A825 := re_ hE1063 b1050_A825
   have b1063_cA620 := MpN.evo rfl hE1063 b1050_cA620
   have b1063_A832 := re_ hE1063 b1050_A832
   have b1063_A836 := re_ hE1063 b1050_A836
   have b1063_A840 := re_ hE1063 b1050_A840
   have b1063_cA624 := MpO.evo (by decide) hE1063 b1050_cA624
   have b1063_cA625 := MpO.evo (by decide) hE1063 b1050_cA625
   have b1063_A849 := RdO.evo rfl hE1063 b1050_A849
   have b1063_A853 := RdO.evo rfl hE1063 b1050_A853
   have b1063_A857 := RdO.evo rfl hE1063 b1050_A857
   refine fl_seq (fun Q1064 hn1064 hp1064 => ?_)
   obtain ⟨r1065, hr1065, hs⟩ := obind hs
   obtain ⟨r1066, hr1066, hs⟩ := obind hs
   obtain ⟨r1067, hr1067, hs⟩ := obind hs
   obtain ⟨r1068, hr1068, hs⟩ := obind hs
   obtain ⟨x1069, hx1069, hs⟩ := obind hs
   obtain ⟨r1070, hr1070, hs⟩ := obind hs
   obtain ⟨r1071, hr1071, hs⟩ := obind hs
   refine rd_seq g_mixed 128 [] o1063 [] [0, 0, 0, 0, 15, 0, 0, 0, 0, 511, 1023, 2047, 4095, 4095, 16383, 4095, 4095, 131071, 262143, 524287, 1048575, 2097151, 2097151, 2097151, 16777215, 2097151, 2097151, 2097151, 268435455, 536870911, 1073741823] [dv [] [7] 60 (pt cA617 0), dv [] [10] 61 (P2 x1038.2.1), dv [] [11] 62 (P2 x1039.2.2.1), dv [] [12] 63 (P2 x1040.2.2.2), dv [0, 1, 2, 3] [] 64 (Zi r1065), dv [] [8] 65 (.agg #[sl A849 m851 c850, sl A853 m855 c854, sl A857 m859 c858]), dv [] [13] 66 (P2 r1051), dv [] [14] 67 (P2 r1052), dv [] [15] 68 (P2 r1053), dv [5, 6, 7, 8] [] 69 (Zi r1066), dv [4, 9] [] 70 (.bool (!decide (r1065 = r1066))), dv [10] [] 71 (.bool (!decide (r1065 = r1066))), dc [11] [7] (!(!decide (r1065 = r1066))) 72 (pt cA617 0), dc [11] [10] (!(!decide (r1065 = r1066))) 73 (P2 x1038.2.1), dc [11, 12, 13] [] (!(!decide (r1065 = r1066))) 74 (.bool r1067), dc [11] [8] (!(!decide (r1065 = r1066))) 75 (.agg #[sl A849 m851 c850, sl A853 m855 c854, sl A857 m859 c858]), dc [11] [13] (!(!decide (r1065 = r1066))) 76 (P2 r1051), dc [11, 15, 16] [] (!(!decide (r1065 = r1066))) 77 (.bool r1068), dc [11, 14, 17] [] (!(!decide (r1065 = r1066))) 78 (.bool (!(r1067 == r1068))), dv [11, 18] [] 79 (.bool x1069), dv [19] [] 80 (.bool x1069), dc [20] [7] (!x1069) 81 (pt cA617 0), dc [20] [10] (!x1069) 82 (P2 x1038.2.1), dc [20] [11] (!x1069) 83 (P2 x1039.2.2.1), dc [20, 21, 22, 23] [] (!x1069) 84 (.bool r1070), dc [20] [8] (!x1069) 85 (.agg #[sl A849 m851 c850, sl A853 m855 c854, sl A857 m859 c858]), dc [20] [13] (!x1069) 86 (P2 r1051), dc [20] [14] (!x1069) 87 (P2 r1052), dc [20, 25, 26, 27] [] (!x1069) 88 (.bool r1071), dc [20, 24, 28] [] (!x1069) 89 (.bool (!(r1070 == r1071))), dv [20, 29] [] 90 (.bool (x1069 || (!(r1070 == r1071))))] z1063 d1063 nm_ ?_ ?_
   ·exact sM e1063_7 <| sL ta25 e1063_10 b1063_g1041 <| sL ta25 e1063_11 b1063_g1043 <| sL ta25 e1063_12 b1063_g1045 <| sFE (fun f hE => or_call cf10 (args4 f.1 f.2.1 f.2.2.1 f.2.2.2.1) (guard_Guard_Why_w _ ((g827, g830, g834), g838, g842, g845, g847) cA617 77 cA618 106 A825 c826 cA620 A832 c833 A836 c837 A840 c841 cA624 cA625 x1038.2.1 x1039.2.2.1 x1040.2.2.2 (BlkO.zero_ (be_ hE b1063_cA617)) (RdO.zero (RwO.rd (re_ hE b1063_A836))) (RdO.zero (RwO.rd (re_ hE b1063_A840))) (MpO.zero_ (MpO.evo (by decide) hE b1063_cA624)) (MpO.zero_ (MpO.evo (by decide) hE b1063_cA625)) (BlkO.zero_ (be_ hE b1063_cA618)) (RdO.zero (RwO.rd (re_ hE b1063_A825))) (MpN.zero_ (MpN.evo rfl hE b1063_cA620)) (RdO.zero (RwO.rd (re_ hE b1063_A832))) r1065 hr1065) post_val) <| sL ta38 e1063_8 b1063_g648 <| sL ta44 e1063_13 b1063_g1054 <| sL ta44 e1063_14 b1063_g1056 <| sL ta44 e1063_15 b1063_g1058 <| sFE (fun f hE => or_call cf16 (args4 f.1 f.2.1 f.2.2.1 f.2.2.2.1) (ref18_Why_w _ (m851, m855, m859) A849 c850 A853 c854 A857 c858 r1051 r1052 r1053 (RdO.zero (RdO.evo rfl hE b1063_A849)) (RdO.zero (RdO.evo rfl hE b1063_A853)) (RdO.zero (RdO.evo rfl hE b1063_A857)) r1066 hr1066) post_val) <| sF (fun f => or_neq f.1 f.2.1 rfl) <| sV <| cF (fun _ s _ _ => or_move (s.1.trans e1063_7)) <| cFL ta25 e1063_10 b1063_g1041 <| cF (fun f _ hE hg => or_call cf17 (args2 (f.2.1.1 hg) (f.2.2.1.1 hg)) (guard_Guard_Has_w _ ((g827, g830, g834), g838, g842, g845, g847) cA617 77 cA618 106 A825 c826 cA620 A832 c833 A836 c837 A840 c841 cA624 cA625 x1038.2.1 (BlkO.zero_ (be_ hE b1063_cA617)) (RdO.zero (RwO.rd (re_ hE b1063_A836))) (RdO.zero (RwO.rd (re_ hE b1063_A840))) (MpO.zero_ (MpO.evo (by decide) hE b1063_cA624)) (MpO.zero_ (MpO.evo (by decide) hE b1063_cA625)) (BlkO.zero_ (be_ hE b1063_cA618)) (RdO.zero (RwO.rd (re_ hE b1063_A825))) (MpN.zero_ (MpN.evo rfl hE b1063_cA620)) (RdO.zero (RwO.rd (re_ hE b1063_A832))) r1067 (gd_t hr1067 hg)) post_val) <| cFL ta38 e1063_8 b1063_g648 <| cFL ta44 e1063_13 b1063_g1054 <| cF (fun f _ hE hg => or_call cf18 (args2 (f.2.1.1 hg) (f.2.2.1.1 hg)) (ref18_Has_w _ (m851, m855, m859) A849 c850 A853 c854 A857 c858 r1051 (RdO.zero (RdO.evo rfl hE b1063_A849)) (RdO.zero (RdO.evo rfl hE b1063_A853)) (RdO.zero (RdO.evo rfl hE b1063_A857)) r1068 (gd_t hr1068 hg)) post_val) <| cF (fun f _ _ hg => or_neqb tb4 (f.2.1.1 hg) (f.2.2.1.1 hg) rfl) <| sF (fun f => or_or f.1 rfl (fun hx => f.2.1.1 hx) (osome hx1069).symm) <| sV <| cF (fun _ s _ _ => or_move (s.1.trans e1063_7)) <| cFL ta25 e1063_10 b1063_g1041 <| cFL ta25 e1063_11 b1063_g1043 <| cF (fun f _ hE hg => or_call cf19 (args3 (f.2.1.1 hg) (f.2.2.1.1 hg) (f.2.2.2.1.1 hg)) (guard_Guard_Joined_w _ ((g827, g830, g834), g838, g842, g845, g847) cA617 77 cA618 106 A825 c826 cA620 A832 c833 A836 c837 A840 c841 cA624 cA625 x1038.2.1 x1039.2.2.1 (BlkO.zero_ (be_ hE b1063_cA617)) (RdO.zero (RwO.rd (re_ hE b1063_A836))) (RdO.zero (RwO.rd (re_ hE b1063_A840))) (MpO.zero_ (MpO.evo (by decide) hE b1063_cA624)) (MpO.zero_ (MpO.evo (by decide) hE b1063_cA625)) (BlkO.zero_ (be_ hE b1063_cA618)) (RdO.zero (RwO.rd (re_ hE b1063_A825))) (MpN.zero_ (MpN.evo rfl hE b1063_cA620)) (RdO.zero (RwO.rd (re_ hE b1063_A832))) r1070 (gd_t hr1070 hg)) post_val) <| cFL ta38 e1063_8 b1063_g648 <| cFL ta44 e1063_13 b1063_g1054 <| cFL ta44 e1063_14 b1063_g1056 <| cF (fun f _ hE hg => or_call cf20 (args3 (f.2.1.1 hg) (f.2.2.1.1 hg) (f.2.2.2.1.1 hg)) (ref18_Joined_w _ (m851, m855, m859) A849 c850 A853 c854 A857 c858 r1051 r1052 (RdO.zero (RdO.evo rfl hE b1063_A849)) (RdO.zero (RdO.evo rfl hE b1063_A853)) (RdO.zero (RdO.evo rfl hE b1063_A857)) r1071 (gd_t hr1071 hg)) post_val) <| cF (fun f _ _ hg => or_neqb tb4 (f.2.1.1 hg) (f.2.2.1.1 hg) rfl) <| sF (fun f => or_or f.1 rfl (fun hx => f.2.1.1 hx) rfl) <| steps_nil
   intro o1072 a1072 w1072 d1072 z1072 hk1072 hf1072 hE1072
   obtain ⟨e1072_2, e1072_7, e1072_8, e1072_9, e1072_10, e1072_11, e1072_12, e1072_13⟩ := kt8 hk1072 e1063_2 e1063_7 e1063_8 e1063_9 e1063_10 e1063_11 e1063_12 e1063_13
   obtain ⟨e1072_14, e1072_15⟩ := kt2 hk1072 e1063_14 e1063_15
   have e1072_90 := gv (hf1072 [30] rfl) rfl
   have hX1072 := es_ hX1063 hE1072
   obtain ⟨b1072_cA617, b1072_cA618, b1072_g648, b1072_g1041, b1072_g1043, b1072_g1045, b1072_g1054, b1072_g1056⟩ := be8 hE1072 b1063_cA617 b1063_cA618 b1063_g648 b1063_g1041 b1063_g1043 b1063_g1045 b1063_g1054 b1063_g1056
   have b1072_g1058 := be_ hE1072 b1063_g1058
   have b1072_A825 := re_ hE1072 b1063_A825
   have b1072_cA620 := MpN.evo rfl hE1072 b1063_cA620
   have b1072_A832 := re_ hE1072 b1063_A832
   have b1072_A836 := re_ hE1072 b1063_A836
   have b1072_A840 := re_ hE1072 b1063_A840
   have b1072_cA624 := MpO.evo (by decide) hE1072 b1063_cA624
   have b1072_cA625 := MpO.evo (by decide) hE1072 b1063_cA625
   have b1072_A849 := RdO.evo rfl hE1072 b1063_A849
   have b1072_A853 := RdO.evo rfl hE1072 b1063_A853
   have b1072_A857 := RdO.evo rfl hE1072 b1063_A857
   refine fl_cond e1072_90 hs (fun c1073 hs => ?_) (fun c1073 hs => ?_)
   ·refine rq_seq 128 o1072 (bz 1) [dv [] [] 6 (.bool false)] z1072 d1072 ?_ ?_
    ·exact sO (or_assign rfl) <| steps_nil
    intro o1074 a1074 w1074 d1074 z1074 hk1074 hf1074 hE1074
    have e1074_6 := gv (hf1074 [0] rfl) rfl
    have hX1074 := es_ hX1072 hE1074
    refine fl_ret ?_
    refine hp1064 _ _ _ rfl ?_
    refine hp1037 _ _ _ rfl ?_
    refine hp1036 _ _ _ rfl ?_
    replace hs := z1030 _ hs
    refine hp1030 _ _ _ rfl ?_
    refine hp654 _ _ _ rfl ?_
    refine hp652 _ _ _ rfl ?_
    obtain rfl := osome hs
    exact hret _ _ _ _ (.inl rfl) d1074 (results1_ rfl (RVal.tmp_ e1074_6)) ⟨o1074, rfl, hX1074⟩
   refine fl_skip ?_
   refine hn1064 _ _ ?_
   refine fl_seq (fun Q1075 hn1075 hp1075 => ?_)
   have K1149 : ∀ (a1149 : Act) (w1149 : World) (o1149 : Own) (g1115 : List ((Int × Int) × (Int × Int))) (g1118 : List ((Int × Int) × (List Int))) (g1122 : List Int) (g1126 : List Int) (g1130 : List (Int × Int)) (g1133 : List ((Int × Int) × Bool)) (g1135 : List (((Int × Int) × (Int × Int)) × Bool)) (m1139 : List Int) (m1143 : List (Int × Int)) (m1147 : List ((Int × Int) × (Int × Int))) (A1113 : Option Addr) (c1114 : Nat) (A1120 : Option Addr) (c1121 : Nat) (A1124 : Option Addr) (c1125 : Nat) (A1128 : Option Addr) (c1129 : Nat) (A1137 : Option Addr) (c1138 : Nat) (A1141 : Option Addr) (c1142 : Nat) (A1145 : Option Addr) (c1146 : Nat), a1149.defers = [] → a1149.tmps.size = 128 → a1149.eval (.tmp 2) = sl Aacts3 acts3 cacts3 → a1149.eval (.tmp 7) = pt cA617 0 → a1149.eval (.tmp 8) = pt g648 0 → a1149.eval (.tmp 9) = Zi i861 → Evo [] (fun _ => 0) o1149 w w1149 → BlkO o1149 1111 w1149 cA617 77 #[pt cA618 0, sl A1124 g1126 c1125, sl A1128 g1130 c1129, .map (some cA624), .map (some cA625)] → BlkO o1149 1112 w1149 cA618 106 #[sl A1113 g1115 c1114, .map (some cA620), sl A1120 g1122 c1121] → RwO o1149 1116 [] w1149 80 R80 A1113 c1114 g1115 → MpN o1149 1117 1119 [] w1149 cA620 vv111 3 R3 g1118 → RwO o1149 1123 [] w1149 3 R3 A1120 c1121 g1122 → RwO o1149 1127 [] w1149 3 R3 A1124 c1125 g1126 → RwO o1149 1131 [] w1149 25 R25 A1128 c1129 g1130 → MpO o1149 1132 w1149 cA624 vv25 vv4 g1133 → MpO o1149 1134 w1149 cA625 vv81 vv4 g1135 → BlkO o1149 1136 w1149 g648 38 #[sl A1137 m1139 c1138, sl A1141 m1143 c1142, sl A1145 m1147 c1146] → RdO o1149 [1140] w1149 R3 A1137 c1138 m1139 → RdO o1149 [1140] w1149 R44 A1141 c1142 m1143 → RdO o1149 [1140] w1149 R92 A1145 c1146 m1147 → law18_GuardPlays_k2 i861 g1115 g1118 g1122 g1126 g1130 g1133 g1135 m1139 m1143 m1147 = some zz1030 → Q1075 .normal a1149 w1149 := by
    intro a1149 w1149 o1149 g1115 g1118 g1122 g1126 g1130 g1133 g1135 m1139 m1143 m1147 A1113 c1114 A1120 c1121 A1124 c1125 A1128 c1129 A1137 c1138 A1141 c1142 A1145 c1146 d1150 z1150 e1150_2 e1150_7 e1150_8 e1150_9 hE1150 b1150_cA617 b1150_cA618 b1150_A1113 b1150_cA620 b1150_A1120 b1150_A1124 b1150_A1128 b1150_cA624 b1150_cA625 b1150_g648 b1150_A1137 b1150_A1141 b1150_A1145 hs
    refine hn1075 _ _ ?_
    obtain ⟨r1151, hr1151, hs⟩ := obind hs
    obtain ⟨r1152, hr1152, hs⟩ := obind hs
    obtain ⟨r1155, hr1155, hs⟩ := obind hs
    obtain ⟨r1158, hr1158, hs⟩ := obind hs
    obtain ⟨x1159, hx1159, hs⟩ := obind hs
    refine rd_seq g_mixed 128 [] o1149 [] [0, 1, 0, 4, 12, 31, 63, 127, 255, 127, 639, 2047, 4095, 8191, 16383] [dv [] [7] 112 (pt cA617 0), dv [0] [] 113 (Zi r1151), dv [] [8] 114 (pt g648 2), dv [2] [] 115 (sl A1145 m1147 c1146), dv [3] [] 116 (Zi (m1147.length : Int)), dv [1, 4] [] 117 (.bool (!decide (r1151 = (m1147.length : Int)))), dv [5] [] 118 (.bool (!decide (r1151 = (m1147.length : Int)))), dc [6] [7] (!(!decide (r1151 = (m1147.length : Int)))) 119 (pt cA617 0), ⟨[6, 7], [], [], Fct.cond (!(!decide (r1151 = (m1147.length : Int)))) (some 120) (Fct.row 1154 [] 120 25 R25 r1152)⟩, dc [6] [8] (!(!decide (r1151 = (m1147.length : Int)))) 121 (pt g648 1), dc [6, 9] [] (!(!decide (r1151 = (m1147.length : Int)))) 122 (sl A1141 m1143 c1142), ⟨[6, 10], [], [], Fct.cond (!(!decide (r1151 = (m1147.length : Int)))) (some 123) (Fct.row 1157 [] 123 44 R44 r1155)⟩, dc [6, 8, 11] [] (!(!decide (r1151 = (m1147.length : Int)))) 124 (.bool r1158), dc [6, 12] [] (!(!decide (r1151 = (m1147.length : Int)))) 125 (.bool (!r1158)), dv [6, 13] [] 126 (.bool x1159)] z1150 d1150 nm_ ?_ ?_
    ·refine sM e1150_7 <| sFE (fun f hE => or_call cf22 (args1 f.1) (guard_Guard_Edges_w _ ((g1115, g1118, g1122), g1126, g1130, g1133, g1135) cA617 77 cA618 106 A1113 c1114 cA620 A1120 c1121 A1124 c1125 A1128 c1129 cA624 cA625 (BlkO.zero_ (be_ hE b1150_cA617)) (RdO.zero (RwO.rd (re_ hE b1150_A1124))) (RdO.zero (RwO.rd (re_ hE b1150_A1128))) (MpO.zero_ (MpO.evo (by decide) hE b1150_cA624)) (MpO.zero_ (MpO.evo (by decide) hE b1150_cA625)) (BlkO.zero_ (be_ hE b1150_cA618)) (RdO.zero (RwO.rd (re_ hE b1150_A1113))) (MpN.zero_ (MpN.evo rfl hE b1150_cA620)) (RdO.zero (RwO.rd (re_ hE b1150_A1120))) r1151 hr1151) post_val) <| sS (fun s => or_field fo38_2 (s.1.trans e1150_8) (by rfl)) <| sG to36 b1150_g648 <| sF (fun f => or_len tu36 f.1 rfl) <| sF (fun f => or_neq f.1 f.2.1 rfl) <| sV <| cF (fun _ s _ _ => or_move (s.1.trans e1150_7)) <| cF (fun f _ hE hg => or_call cf24 (args1 (f.2.1.1 hg)) (guard_Guard_Points_w _ ((g1115, g1118, g1122), g1126, g1130, g1133, g1135) cA617 77 cA618 106 A1113 c1114 cA620 A1120 c1121 A1124 c1125 A1128 c1129 cA624 cA625 (BlkO.zero_ (be_ hE b1150_cA617)) (RdO.zero (RwO.rd (re_ hE b1150_A1124))) (RdO.zero (RwO.rd (re_ hE b1150_A1128))) (MpO.zero_ (MpO.evo (by decide) hE b1150_cA624)) (MpO.zero_ (MpO.evo (by decide) hE b1150_cA625)) (BlkO.zero_ (be_ hE b1150_cA618)) (RdO.zero (RwO.rd (re_ hE b1150_A1113))) (MpN.zero_ (MpN.evo rfl hE b1150_cA620)) (RdO.zero (RwO.rd (re_ hE b1150_A1120))) r1152 (gd_t hr1152 hg)) (post_row (m' := (look0 [(1, 1154)])) (.inl (Rep.fl_flat _)) rfl rfl (fun _ => rfl))) <| cF (fun _ s _ _ => or_field fo38_1 (s.1.trans e1150_8) (by rfl)) <| cF (fun f _ hE hg => ld1 to35 (f.2.1.1 hg) (be_ hE b1150_g648)) <| cF (fun f _ hE hg => or_call cf25 (args1 (f.2.1.1 hg)) (ref04_Points_w _ m1143 A1141 c1142 (RdO.zero (RdO.evo rfl hE b1150_A1141)) r1155 (gd_t hr1155 hg)) (post_row (m' := (look0 [(1, 1157)])) (.inl (Rep.fl_flat _)) rfl rfl (fun _ => rfl))) ?_
     refine sc (fun own a wx hf hsl hE => ?_) ?_
     ·obtain ⟨f_118, c_120, c_123, -⟩ := hf
      refine sg_f rfl rfl rfl f_118 (fun hg => ?_)
      obtain ⟨⟨A1153, cA1153⟩, f_120, b_A1153⟩ := c_120.1 hg
      obtain ⟨⟨A1156, cA1156⟩, f_123, b_A1156⟩ := c_123.1 hg
      exact or_call cf23 (args2 f_120 f_123) (law03_Same_w _ r1152 A1153 cA1153 r1155 A1156 cA1156 (RdO.zero (RwO.rd b_A1153)) (RdO.zero (RwO.rd b_A1156)) r1158 (gd_t hr1158 hg)) post_val
     exact cF (fun f _ _ hg => or_not (f.2.1.1 hg) rfl) <| sF (fun f => or_or f.1 rfl (fun hx => f.2.1.1 hx) (osome hx1159).symm) <| steps_nil
    intro o1160 a1160 w1160 d1160 z1160 hk1160 hf1160 hE1160
    obtain ⟨e1160_2, e1160_7, e1160_8, e1160_9⟩ := kt4 hk1160 e1150_2 e1150_7 e1150_8 e1150_9
    have e1160_126 := gv (hf1160 [14] rfl) rfl
    have hX1160 := es_ hE1150 hE1160
    obtain ⟨b1160_cA617, b1160_cA618, b1160_g648⟩ := be3 hE1160 b1150_cA617 b1150_cA618 b1150_g648
    have b1160_A1113 := re_ hE1160 b1150_A1113
    have b1160_cA620 := MpN.evo rfl hE1160 b1150_cA620
    have b1160_A1120 := re_ hE1160 b1150_A1120
    have b1160_A1124 := re_ hE1160 b1150_A1124
    have b1160_A1128 := re_ hE1160 b1150_A1128
    have b1160_cA624 := MpO.evo (by decide) hE1160 b1150_cA624
    have b1160_cA625 := MpO.evo (by decide) hE1160 b1150_cA625
    have b1160_A1137 := RdO.evo rfl hE1160 b1150_A1137
    have b1160_A1141 := RdO.evo rfl hE1160 b1150_A1141
    have b1160_A1145 := RdO.evo rfl hE1160 b1150_A1145
    refine fl_cond e1160_126 hs (fun c1161 hs => ?_) (fun c1161 hs => ?_)
    ·refine rq_seq 128 o1160 (bz 1) [dv [] [] 6 (.bool false)] z1160 d1160 ?_ ?_
     ·exact sO (or_assign rfl) <| steps_nil
     intro o1162 a1162 w1162 d1162 z1162 hk1162 hf1162 hE1162
     have e1162_6 := gv (hf1162 [0] rfl) rfl
     have hX1162 := es_ hX1160 hE1162
     refine fl_ret ?_
     refine hp1037 _ _ _ rfl ?_
     refine hp1036 _ _ _ rfl ?_
     replace hs := z1030 _ hs
     refine hp1030 _ _ _ rfl ?_
     refine hp654 _ _ _ rfl ?_
     refine hp652 _ _ _ rfl ?_
     obtain rfl := osome hs
     exact hret _ _ _ _ (.inl rfl) d1162 (results1_ rfl (RVal.tmp_ e1162_6)) ⟨o1162, rfl, hX1162⟩
    refine fl_skip ?_
    refine hn1037 _ _ ?_
    refine hn1036 _ _ ?_
    refine rq 128 o1160 (bz 3) [dv [] [9] 37 (Zi i861), dv [0] [] 38 (Zi (ad i861 1)), dv [1] [] 9 (Zi (ad i861 1))] z1160 d1160 ?_ ?_
    ·exact sM e1160_9 <| sF (fun f => or_add f.1 rfl rfl) <| sA <| steps_nil
    intro o1163 a1163 w1163 d1163 z1163 hk1163 hf1163 hE1163
    obtain ⟨e1163_2, e1163_7, e1163_8⟩ := kt3 hk1163 e1160_2 e1160_7 e1160_8
    have e1163_9 := gv (hf1163 [2] rfl) rfl
    have hX1163 := es_ hX1160 hE1163
    obtain ⟨b1163_cA617, b1163_cA618, b1163_g648⟩ := be3 hE1163 b1160_cA617 b1160_cA618 b1160_g648
    have b1163_A1113 := re_ hE1163 b1160_A1113
    have b1163_cA620 := MpN.evo rfl hE1163 b1160_cA620
    have b1163_A1120 := re_ hE1163 b1160_A1120
    have b1163_A1124 := re_ hE1163 b1160_A1124
    have b1163_A1128 := re_ hE1163 b1160_A1128
    have b1163_cA624 := MpO.evo (by decide) hE1163 b1160_cA624
    have b1163_cA625 := MpO.evo (by decide) hE1163 b1160_cA625
    have b1163_A1137 := RdO.evo rfl hE1163 b1160_A1137
    have b1163_A1141 := RdO.evo rfl hE1163 b1160_A1141
    have b1163_A1145 := RdO.evo rfl hE1163 b1160_A1145
    exact hn1030 _ _ _ hs ⟨(rl [(1111, 823), (1112, 824), (1116, 828), (1117, 829), (1119, 831), (1123, 835), (1127, 839), (1131, 843), (1132, 844), (1134, 846), (1136, 848), (1140, 852)] o1163), A1113, c1114, A1120, c1121, A1124, c1125, A1128, c1129, A1137, c1138, A1141, c1142, A1145, c1146, d1163, z1163, e1163_2, e1163_7, e1163_8, e1163_9, (Evo.rl_ hX1163 (fun _ => Nat.le_refl 0) rfl), (BlkO.rl_ b1163_cA617), (BlkO.rl_ b1163_cA618), (RwO.rl_ b1163_A1113), (MpN.rl_ b1163_cA620), (RwO.rl_ b1163_A1120), (RwO.rl_ b1163_A1124), (RwO.rl_ b1163_A1128), (MpO.rl_ b1163_cA624), (MpO.rl_ b1163_cA625), (BlkO.rl_ b1163_g648), (RdO.rl_ b1163_A1137), (RdO.rl_ b1163_A1141), (RdO.rl_ b1163_A1145)⟩
   obtain ⟨x1164, hx1164, hs⟩ := obind hs
   refine rq_seq 128 o1072 [0, 0, 3, 7, 15] [dv [] [2] 91 (sl Aacts3 acts3 cacts3), dv [] [9] 92 (Zi i861), dv [0, 1] [] 93 (.pointer (some ((adr Aacts3).add ((i861 : Int).toNat * R43.s)))), dv [2] [] 94 (.pointer (some ((adr Aacts3).add ((i861 : Int).toNat * R43.s)))), dv [3] [] 95 (.bool x1164.1)] z1072 d1072 ?_ ?_
   ·exact sM e1072_2 <| sM e1072_9 <| sF (fun f => or_index (R := R43) (l := acts3) tl34 f.1 f.2.1 (RdO.some_ (RdO.evo rfl hX1072 hacts3) hx1164) hx1164) <| sF (fun f => or_field fo43_0 f.1 (Addr.add_zero' _)) <| sFE (fun f hE => or_load1 to4 f.1 (CellsAt.zero (RdO.cells (F := E43) (RdO.evo rfl hE (RdO.evo rfl hX1072 hacts3)) hx1164) rfl)) <| steps_nil
   intro o1165 a1165 w1165 d1165 z1165 hk1165 hf1165 hE1165
   obtain ⟨e1165_2, e1165_7, e1165_8, e1165_9, e1165_10, e1165_11, e1165_12, e1165_13⟩ := kt8 hk1165 e1072_2 e1072_7 e1072_8 e1072_9 e1072_10 e1072_11 e1072_12 e1072_13
   obtain ⟨e1165_14, e1165_15⟩ := kt2 hk1165 e1072_14 e1072_15
   have e1165_95 := gv (hf1165 [4] rfl) rfl
   have hX1165 := es_ hX1072 hE1165
   obtain ⟨b1165_cA617, b1165_cA618, b1165_g648, b1165_g1041, b1165_g1043, b1165_g1045, b1165_g1054, b1165_g1056⟩ := be8 hE1165 b1072_cA617 b1072_cA618 b1072_g648 b1072_g1041 b1072_g1043 b1072_g1045 b1072_g1054 b1072_g1056
   have b1165_g1058 := be_ hE1165 b1072_g1058
   have b1165_A825 := re_ hE1165 b1072_A825
   have b1165_cA620 := MpN.evo rfl hE1165 b1072_cA620
   have b1165_A832 := re_ hE1165 b1072_A832
   have b1165_A836 := re_ hE1165 b1072_A836
   have b1165_A840 := re_ hE1165 b1072_A840
   have b1165_cA624 := MpO.evo (by decide) hE1165 b1072_cA624
   have b1165_cA625 := MpO.evo (by decide) hE1165 b1072_cA625
   have b1165_A849 := RdO.evo rfl hE1165 b1072_A849
   have b1165_A853 := RdO.evo rfl hE1165 b1072_A853
   have b1165_A857 := RdO.evo rfl hE1165 b1072_A857
   refine fl_cond e1165_95 hs (fun c1166 hs => ?_) (fun c1166 hs => ?_)
   ·obtain ⟨r1167, hr1167, hs⟩ := obind hs
    refine rp_seq 128 o1165 [1176] [0, 0, 0, 0, 15, 31, 63, 63, 0, 383, 1023] [dv [] [8] 97 (.agg #[sl A849 m851 c850, sl A853 m855 c854, sl A857 m859 c858]), dv [] [13] 98 (P2 r1051), dv [] [14] 99 (P2 r1052), dv [] [15] 100 (P2 r1053), ⟨[0, 1, 2, 3], [], [], Fct.mems [1171, 1172, 852, 1173, 1174] 101 (fun (x : (Option Addr × Nat) × (Option Addr × Nat) × (Option Addr × Nat)) => .tuple #[.agg #[.slice x.1.1 r1167.1.1.length x.1.2, .slice x.2.1.1 r1167.1.2.1.length x.2.1.2, .slice x.2.2.1 r1167.1.2.2.length x.2.2.2], .bool r1167.2]) (fun (x : (Option Addr × Nat) × (Option Addr × Nat) × (Option Addr × Nat)) own w => RdO own [1171, 1172, 852] w R3 x.1.1 x.1.2 r1167.1.1 ∧ RdO own [1171, 1173, 852] w R44 x.2.1.1 x.2.1.2 r1167.1.2.1 ∧ RdO own [1171, 1174, 852] w R92 x.2.2.1 x.2.2.2 r1167.1.2.2) (fun hk he h => ⟨RdO.evo (hits_sub hk (by decide)) he h.1, RdO.evo (hits_sub hk (by decide)) he h.2.1, RdO.evo (hits_sub hk (by decide)) he h.2.2⟩)⟩, ⟨[4], [], [], Fct.rel [96, 101] (fun l => ∀ (A1168 : Option Addr) (cA1168 : Nat) (A1169 : Option Addr) (cA1169 : Nat) (A1170 : Option Addr) (cA1170 : Nat), l.getD 1 undef = .tuple #[.agg #[sl A1168 r1167.1.1 cA1168, sl A1169 r1167.1.2.1 cA1169, sl A1170 r1167.1.2.2 cA1170], .bool r1167.2] → l.getD 0 undef = .tuple #[.agg #[sl A1168 r1167.1.1 cA1168, sl A1169 r1167.1.2.1 cA1169, sl A1170 r1167.1.2.2 cA1170], .bool r1167.2])⟩, ⟨[5, 4], [], [], Fct.rel [102, 101] (fun l => ∀ (A1168 : Option Addr) (cA1168 : Nat) (A1169 : Option Addr) (cA1169 : Nat) (A1170 : Option Addr) (cA1170 : Nat), l.getD 1 undef = .tuple #[.agg #[sl A1168 r1167.1.1 cA1168, sl A1169 r1167.1.2.1 cA1169, sl A1170 r1167.1.2.2 cA1170], .bool r1167.2] → l.getD 0 undef = .agg #[sl A1168 r1167.1.1 cA1168, sl A1169 r1167.1.2.1 cA1169, sl A1170 r1167.1.2.2 cA1170])⟩, dv [5, 4] [] 103 (.bool r1167.2), ⟨[], [], [], Fct.blk 1176 16 (fun g => pt g 0) 38 #[.slice none 0 0, .slice none 0 0, .slice none 0 0]⟩, ⟨[8, 6, 4], [], [1176], Fct.by_ [1177] [16, 101] (fun l own w => ∃ g1175 : Nat, l.getD 0 undef = pt g1175 0 ∧ (∀ (A1168 : Option Addr) (cA1168 : Nat) (A1169 : Option Addr) (cA1169 : Nat) (A1170 : Option Addr) (cA1170 : Nat), l.getD 1 undef = .tuple #[.agg #[sl A1168 r1167.1.1 cA1168, sl A1169 r1167.1.2.1 cA1169, sl A1170 r1167.1.2.2 cA1170], .bool r1167.2] → BlkO own 1177 w g1175 38 #[sl A1168 r1167.1.1 cA1168, sl A1169 r1167.1.2.1 cA1169, sl A1170 r1167.1.2.2 cA1170])) (fun hk he h => by obtain ⟨g, e, h⟩ := h; exact ⟨g, e, fun _ _ _ _ _ _ h0' => BlkO.evo (not_hit hk (by decide)) he (h _ _ _ _ _ _ h0')⟩)⟩, dv [7] [] 17 (.bool r1167.2)] z1165 d1165 ?_ ?_
    ·refine sL ta38 e1165_8 b1165_g648 <| sL ta44 e1165_13 b1165_g1054 <| sL ta44 e1165_14 b1165_g1056 <| sL ta44 e1165_15 b1165_g1058 ?_
     refine sc (fun own _ _ f _ hE => px (or_call cf21 (args4 f.1 f.2.1 f.2.2.1 f.2.2.2.1) (ref18_Drop_w _ (forth own (inL [852])) (m851, m855, m859) A849 c850 A853 c854 A857 c858 r1051 r1052 r1053 inL_le (RdO.alias_ (La := [852]) (RdO.evo rfl hE b1165_A849) (by decide)) (RdO.alias_ (La := [852]) (RdO.evo rfl hE b1165_A853) (by decide)) (RdO.alias_ (La := [852]) (RdO.evo rfl hE b1165_A857) (by decide)) r1167 hr1167) (post_alias (La := [852]) (m' := (look0 [(1, 1171), (2, 1172), (3, 1173), (4, 1174)])) (fun own' w' a' x ho hsz h1 h => ⟨x, h1, ⟨RdO.backN_ ho hsz h.1 (by decide) (by decide) (by decide), RdO.backN_ ho hsz h.2.1 (by decide) (by decide) (by decide), RdO.backN_ ho hsz h.2.2 (by decide) (by decide) (by decide)⟩⟩)))) ?_
     refine sc (fun own a wx hf hsl hE => ?_) ?_
     ·obtain ⟨⟨⟨⟨A1168, cA1168⟩, ⟨A1169, cA1169⟩, ⟨A1170, cA1170⟩⟩, (f_101 : a.eval (.tmp 101) = .tuple #[.agg #[sl A1168 r1167.1.1 cA1168, sl A1169 r1167.1.2.1 cA1169, sl A1170 r1167.1.2.2 cA1170], .bool r1167.2]), b_A1168, b_A1169, b_A1170⟩, -⟩ := hf
      exact px (or_mono (f := Fct.val 96 (.tuple #[.agg #[sl A1168 r1167.1.1 cA1168, sl A1169 r1167.1.2.1 cA1169, sl A1170 r1167.1.2.2 cA1170], .bool r1167.2])) (or_move f_101) (fun own' a' w' v' hp h => fun _ _ _ _ _ _ h0' => by cases (f_101.symm.trans ((hp.2 101 (by decide)).symm.trans h0')); exact h))
     refine sc (fun own a wx hf hsl hE => ?_) ?_
     ·obtain ⟨(q_96 : ∀ (A1168 : Option Addr) (cA1168 : Nat) (A1169 : Option Addr) (cA1169 : Nat) (A1170 : Option Addr) (cA1170 : Nat), a.eval (.tmp 101) = .tuple #[.agg #[sl A1168 r1167.1.1 cA1168, sl A1169 r1167.1.2.1 cA1169, sl A1170 r1167.1.2.2 cA1170], .bool r1167.2] → a.eval (.tmp 96) = .tuple #[.agg #[sl A1168 r1167.1.1 cA1168, sl A1169 r1167.1.2.1 cA1169, sl A1170 r1167.1.2.2 cA1170], .bool r1167.2]), ⟨⟨⟨A1168, cA1168⟩, ⟨A1169, cA1169⟩, ⟨A1170, cA1170⟩⟩, (f_101 : a.eval (.tmp 101) = .tuple #[.agg #[sl A1168 r1167.1.1 cA1168, sl A1169 r1167.1.2.1 cA1169, sl A1170 r1167.1.2.2 cA1170], .bool r1167.2]), b_A1168, b_A1169, b_A1170⟩, -⟩ := hf
      have f_96 := q_96 _ _ _ _ _ _ f_101
      exact px (or_mono (f := Fct.val 102 (.agg #[sl A1168 r1167.1.1 cA1168, sl A1169 r1167.1.2.1 cA1169, sl A1170 r1167.1.2.2 cA1170])) (ok1 f_96) (fun own' a' w' v' hp h => fun _ _ _ _ _ _ h0' => by cases (f_101.symm.trans ((hp.2 101 (by decide)).symm.trans h0')); exact h))
     refine sc (fun own a wx hf hsl hE => ?_) ?_
     ·obtain ⟨(q_96 : ∀ (A1168 : Option Addr) (cA1168 : Nat) (A1169 : Option Addr) (cA1169 : Nat) (A1170 : Option Addr) (cA1170 : Nat), a.eval (.tmp 101) = .tuple #[.agg #[sl A1168 r1167.1.1 cA1168, sl A1169 r1167.1.2.1 cA1169, sl A1170 r1167.1.2.2 cA1170], .bool r1167.2] → a.eval (.tmp 96) = .tuple #[.agg #[sl A1168 r1167.1.1 cA1168, sl A1169 r1167.1.2.1 cA1169, sl A1170 r1167.1.2.2 cA1170], .bool r1167.2]), ⟨⟨⟨A1168, cA1168⟩, ⟨A1169, cA1169⟩, ⟨A1170, cA1170⟩⟩, f_101, b_A1168, b_A1169, b_A1170⟩, -⟩ := hf
      have f_96 := q_96 _ _ _ _ _ _ f_101
      exact px (ok1 f_96)
     refine sO (nw0) ?_
     refine sc (fun own a wx hf hsl hE => ?_) ?_
     ·obtain ⟨⟨g1175, f_16, b_g1175⟩, (q_102 : ∀ (A1168 : Option Addr) (cA1168 : Nat) (A1169 : Option Addr) (cA1169 : Nat) (A1170 : Option Addr) (cA1170 : Nat), a.eval (.tmp 101) = .tuple #[.agg #[sl A1168 r1167.1.1 cA1168, sl A1169 r1167.1.2.1 cA1169, sl A1170 r1167.1.2.2 cA1170], .bool r1167.2] → a.eval (.tmp 102) = .agg #[sl A1168 r1167.1.1 cA1168, sl A1169 r1167.1.2.1 cA1169, sl A1170 r1167.1.2.2 cA1170]), ⟨⟨⟨A1168, cA1168⟩, ⟨A1169, cA1169⟩, ⟨A1170, cA1170⟩⟩, (f_101 : a.eval (.tmp 101) = .tuple #[.agg #[sl A1168 r1167.1.1 cA1168, sl A1169 r1167.1.2.1 cA1169, sl A1170 r1167.1.2.2 cA1170], .bool r1167.2]), b_A1168, b_A1169, b_A1170⟩, -⟩ := hf
      have f_102 := q_102 _ _ _ _ _ _ f_101
      exact px (or_store (l := #[sl A1168 r1167.1.1 cA1168, sl A1169 r1167.1.2.1 cA1169, sl A1170 r1167.1.2.2 cA1170]) (lab := 1176) (lab2 := 1177) ts38 f_16 f_102 b_g1175 (by simp) (by kernel_rfl) (mem_of rfl) (by decide) (by kernel_rfl) (fun own' a' w' ha hb => ⟨_, (ha 16).trans f_16, fun _ _ _ _ _ _ h0' => by cases (f_101.symm.trans ((ha 101).symm.trans h0')); exact hb⟩))
     exact sA <| steps_nil
    intro o1178 a1178 w1178 d1178 z1178 hk1178 hf1178 hE1178
    obtain ⟨e1178_2, e1178_7, e1178_8, e1178_9, e1178_10, e1178_11, e1178_12⟩ := kt7 hk1178 e1165_2 e1165_7 e1165_8 e1165_9 e1165_10 e1165_11 e1165_12
    have e1178_17 := gv (hf1178 [10] rfl) rfl
    obtain ⟨⟨⟨⟨A1168, cA1168⟩, ⟨A1169, cA1169⟩, ⟨A1170, cA1170⟩⟩, (f_101 : a1178.eval (.tmp 101) = .tuple #[.agg #[sl A1168 r1167.1.1 cA1168, sl A1169 r1167.1.2.1 cA1169, sl A1170 r1167.1.2.2 cA1170], .bool r1167.2]), (b1178_A1168 : RdO o1178 [1171, 1172, 852] w1178 R3 A1168 cA1168 r1167.1.1), (b1178_A1169 : RdO o1178 [1171, 1173, 852] w1178 R44 A1169 cA1169 r1167.1.2.1), (b1178_A1170 : RdO o1178 [1171, 1174, 852] w1178 R92 A1170 cA1170 r1167.1.2.2)⟩, ⟨g1175, (e1178_16 : a1178.eval (.tmp 16) = pt g1175 0), (bq_g1175 : ∀ (A1168 : Option Addr) (cA1168 : Nat) (A1169 : Option Addr) (cA1169 : Nat) (A1170 : Option Addr) (cA1170 : Nat), a1178.eval (.tmp 101) = .tuple #[.agg #[sl A1168 r1167.1.1 cA1168, sl A1169 r1167.1.2.1 cA1169, sl A1170 r1167.1.2.2 cA1170], .bool r1167.2] → BlkO o1178 1177 w1178 g1175 38 #[sl A1168 r1167.1.1 cA1168, sl A1169 r1167.1.2.1 cA1169, sl A1170 r1167.1.2.2 cA1170])⟩, -⟩ := hf1178 [4, 9] rfl
    have b1178_g1175 := bq_g1175 _ _ _ _ _ _ f_101
    have hX1178 := es_ hX1165 hE1178
    obtain ⟨b1178_cA617, b1178_cA618, b1178_g648, b1178_g1041, b1178_g1043, b1178_g1045⟩ := be6 hE1178 b1165_cA617 b1165_cA618 b1165_g648 b1165_g1041 b1165_g1043 b1165_g1045
    have b1178_A825 := re_ hE1178 b1165_A825
    have b1178_cA620 := MpN.evo rfl hE1178 b1165_cA620
    have b1178_A832 := re_ hE1178 b1165_A832
    have b1178_A836 := re_ hE1178 b1165_A836
    have b1178_A840 := re_ hE1178 b1165_A840
    have b1178_cA624 := MpO.evo (by decide) hE1178 b1165_cA624
    have b1178_cA625 := MpO.evo (by decide) hE1178 b1165_cA625
    have b1178_A849 := RdO.evo rfl hE1178 b1165_A849
    have b1178_A853 := RdO.evo rfl hE1178 b1165_A853
    have b1178_A857 := RdO.evo rfl hE1178 b1165_A857
    refine rr_seq 128 [Fct.at_ 848 g648 38 #[sl A849 m851 c850, sl A853 m855 c854, sl A857 m859 c858]] o1178 [848] (bz 2) [dv [] [16] 104 (.agg #[sl A1168 r1167.1.1 cA1168, sl A1169 r1167.1.2.1 cA1169, sl A1170 r1167.1.2.2 cA1170]), ⟨[0, 2], [8], [848], Fct.at_ 1179 g648 38 #[sl A1168 r1167.1.1 cA1168, sl A1169 r1167.1.2.1 cA1169, sl A1170 r1167.1.2.2 cA1170]⟩] z1178 d1178 (fm1 b1178_g648) ?_ ?_
    ·refine sL ta38 e1178_16 b1178_g1175 ?_
     refine sc (fun own a wx hf hsl hE => ?_) ?_
     ·obtain ⟨f_104, b_g648, -⟩ := hf
      obtain ⟨s_8, -⟩ := hsl
      exact px (or_store (l := #[sl A1168 r1167.1.1 cA1168, sl A1169 r1167.1.2.1 cA1169, sl A1170 r1167.1.2.2 cA1170]) (lab := 848) (lab2 := 1179) ts38 (s_8.trans e1178_8) f_104 b_g648 (by simp) (by kernel_rfl) (mem_of rfl) (by decide) (by kernel_rfl) (fun own' a' w' ha hb => hb))
     exact steps_nil
    intro o1180 a1180 w1180 d1180 z1180 hk1180 hf1180 hE1180
    obtain ⟨e1180_2, e1180_7, e1180_8, e1180_9, e1180_10, e1180_11, e1180_12, e1180_17⟩ := kt8 hk1180 e1178_2 e1178_7 e1178_8 e1178_9 e1178_10 e1178_11 e1178_12 e1178_17
    obtain ⟨(b1180_g648 : BlkO o1180 1179 w1180 g648 38 #[sl A1168 r1167.1.1 cA1168, sl A1169 r1167.1.2.1 cA1169, sl A1170 r1167.1.2.2 cA1170]), -⟩ := hf1180 [1] rfl
    have hX1180 := es_ hX1178 hE1180
    obtain ⟨b1180_cA617, b1180_cA618, b1180_g1041, b1180_g1043, b1180_g1045⟩ := be5 hE1180 b1178_cA617 b1178_cA618 b1178_g1041 b1178_g1043 b1178_g1045
    have b1180_A825 := re_ hE1180 b1178_A825
    have b1180_cA620 := MpN.evo rfl hE1180 b1178_cA620
    have b1180_A832 := re_ hE1180 b1178_A832
    have b1180_A836 := re_ hE1180 b1178_A836
    have b1180_A840 := re_ hE1180 b1178_A840
    have b1180_cA624 := MpO.evo (by decide) hE1180 b1178_cA624
    have b1180_cA625 := MpO.evo (by decide) hE1180 b1178_cA625
    have b1180_A1168 := RdO.evo rfl hE1180 b1178_A1168
    have b1180_A1169 := RdO.evo rfl hE1180 b1178_A1169
    have b1180_A1170 := RdO.evo rfl hE1180 b1178_A1170
    obtain ⟨r1181, hr1181, hs⟩ := obind hs
    refine rg_plain_seq (n := 128) (rs := [Fct.at_ 823 cA617 77 #[pt cA618 0, sl A836 g838 c837, sl A840 g842 c841, .map (some cA624), .map (some cA625)], Fct.at_ 824 cA618 106 #[sl A825 g827 c826, .map (some cA620), sl A832 g834 c833], Fct.rowAt 828 [] 80 R80 A825 c826 g827, Fct.mapnAt 829 831 [] cA620 vv111 3 R3 g830, Fct.rowAt 835 [] 3 R3 A832 c833 g834, Fct.rowAt 839 [] 3 R3 A836 c837 g838, Fct.rowAt 843 [] 25 R25 A840 c841 g842, Fct.mapAt 844 cA624 vv25 vv4 g845, Fct.mapAt 846 cA625 vv81 vv4 g847]) (own0 := o1180) (K := [823, 824, 828, 829, 831, 835, 839, 843, 844, 846]) (bs := [0, 0, 0, 0, 15, 0, 63]) (ds := [dv [] [7] 105 (pt cA617 0), dv [] [10] 106 (P2 x1038.2.1), dv [] [11] 107 (P2 x1039.2.2.1), dv [] [12] 108 (P2 x1040.2.2.2), ⟨[0, 1, 2, 3, 7, 8, 9, 10, 11, 12, 13, 14, 15], [], [823, 824, 828, 829, 831, 835, 839, 843, 844, 846], Fct.mems [1186, 1187, 1188, 1189, 1190, 1191, 1192, 1193, 1194, 1195] 109 (fun (x : (Option Addr × Nat) × (Option Addr × Nat) × (Option Addr × Nat) × (Option Addr × Nat)) => .bool r1181.1) (fun (x : (Option Addr × Nat) × (Option Addr × Nat) × (Option Addr × Nat) × (Option Addr × Nat)) own w => RwO own 1186 [] w 80 R80 x.1.1 x.1.2 r1181.2.1.1 ∧ MpN own 1187 1188 [] w cA620 vv111 3 R3 r1181.2.1.2.1 ∧ RwO own 1189 [] w 3 R3 x.2.1.1 x.2.1.2 r1181.2.1.2.2 ∧ BlkO own 1190 w cA618 106 #[.slice x.1.1 r1181.2.1.1.length x.1.2, .map (some cA620), .slice x.2.1.1 r1181.2.1.2.2.length x.2.1.2] ∧ RwO own 1191 [] w 3 R3 x.2.2.1.1 x.2.2.1.2 r1181.2.2.1 ∧ RwO own 1192 [] w 25 R25 x.2.2.2.1 x.2.2.2.2 r1181.2.2.2.1 ∧ MpO own 1193 w cA624 vv25 vv4 r1181.2.2.2.2.1 ∧ MpO own 1194 w cA625 vv81 vv4 r1181.2.2.2.2.2 ∧ BlkO own 1195 w cA617 77 #[pt cA618 0, .slice x.2.2.1.1 r1181.2.2.1.length x.2.2.1.2, .slice x.2.2.2.1 r1181.2.2.2.1.length x.2.2.2.2, .map (some cA624), .map (some cA625)]) (fun hk he h => ⟨RwO.evo (hits_sub hk (by decide)) he h.1, MpN.evo (hits_sub hk (by decide)) he h.2.1, RwO.evo (hits_sub hk (by decide)) he h.2.2.1, BlkO.evo (not_hit hk (by decide)) he h.2.2.2.1, RwO.evo (hits_sub hk (by decide)) he h.2.2.2.2.1, RwO.evo (hits_sub hk (by decide)) he h.2.2.2.2.2.1, MpO.evo (not_hit hk (by decide)) he h.2.2.2.2.2.2.1, MpO.evo (not_hit hk (by decide)) he h.2.2.2.2.2.2.2.1, BlkO.evo (not_hit hk (by decide)) he h.2.2.2.2.2.2.2.2⟩)⟩, dv [] [17] 110 (.bool r1167.2), dv [4, 5] [] 111 (.bool (!(r1181.1 == r1167.2)))]) (by kernel_rfl) z1180 d1180 (by simp only [List.forall_mem_cons]; exact ⟨b1180_cA617, b1180_cA618, b1180_A825, b1180_cA620, b1180_A832, b1180_A836, b1180_A840, b1180_cA624, b1180_cA625, fun _ h => nomatch h⟩) ?_ ?_
    ·refine sM e1180_7 <| sL ta25 e1180_10 b1180_g1041 <| sL ta25 e1180_11 b1180_g1043 <| sL ta25 e1180_12 b1180_g1045 ?_
     refine sc (fun own a wx hf hsl hE => ?_) ?_
     ·obtain ⟨f_105, f_106, f_107, f_108, b_cA617, b_cA618, b_A825, b_cA620, b_A832, b_A836, b_A840, b_cA624, b_cA625, -⟩ := hf
      exact px (or_call cf12 (args4 f_105 f_106 f_107 f_108) (guard_Guard_Drop_w _ (forth own (look0 [(823, 1), (824, 2), (828, 3), (829, 4), (831, 5), (835, 6), (839, 7), (843, 8), (844, 9), (846, 10)])) ((g827, g830, g834), g838, g842, g845, g847) cA617 77 cA618 106 A825 c826 cA620 A832 c833 A836 c837 A840 c841 cA624 cA625 x1038.2.1 x1039.2.2.1 x1040.2.2.2 (look0_le rfl) (BlkO.forth_ (m := (look0 [(823, 1), (824, 2), (828, 3), (829, 4), (831, 5), (835, 6), (839, 7), (843, 8), (844, 9), (846, 10)])) b_cA617) (RwO.forth_ (m := (look0 [(823, 1), (824, 2), (828, 3), (829, 4), (831, 5), (835, 6), (839, 7), (843, 8), (844, 9), (846, 10)])) b_A836) (RwO.forth_ (m := (look0 [(823, 1), (824, 2), (828, 3), (829, 4), (831, 5), (835, 6), (839, 7), (843, 8), (844, 9), (846, 10)])) b_A840) (MpO.forth_ (m := (look0 [(823, 1), (824, 2), (828, 3), (829, 4), (831, 5), (835, 6), (839, 7), (843, 8), (844, 9), (846, 10)])) b_cA624) (MpO.forth_ (m := (look0 [(823, 1), (824, 2), (828, 3), (829, 4), (831, 5), (835, 6), (839, 7), (843, 8), (844, 9), (846, 10)])) b_cA625) (BlkO.forth_ (m := (look0 [(823, 1), (824, 2), (828, 3), (829, 4), (831, 5), (835, 6), (839, 7), (843, 8), (844, 9), (846, 10)])) b_cA618) (RwO.forth_ (m := (look0 [(823, 1), (824, 2), (828, 3), (829, 4), (831, 5), (835, 6), (839, 7), (843, 8), (844, 9), (846, 10)])) b_A825) (MpN.forth_ (m := (look0 [(823, 1), (824, 2), (828, 3), (829, 4), (831, 5), (835, 6), (839, 7), (843, 8), (844, 9), (846, 10)])) b_cA620) (RwO.forth_ (m := (look0 [(823, 1), (824, 2), (828, 3), (829, 4), (831, 5), (835, 6), (839, 7), (843, 8), (844, 9), (846, 10)])) b_A832) r1181 hr1181) (post_mems (m := (look0 [(823, 1), (824, 2), (828, 3), (829, 4), (831, 5), (835, 6), (839, 7), (843, 8), (844, 9), (846, 10)])) (m' := (look0 [(1, 1195), (2, 1190), (3, 1186), (4, 1187), (5, 1188), (6, 1189), (7, 1191), (8, 1192), (9, 1193), (10, 1194)])) (hm_of rfl) (fun own' w' a' x h1 h => ⟨x, h1, ⟨RwO.back_ h.1 (by decide) (.inl (Rep.fl_flat _)), MpN.back_ h.2.1 (by decide) (by decide) (.inl (Rep.fl_flat _)), RwO.back_ h.2.2.1 (by decide) (.inl (Rep.fl_flat _)), BlkO.back_ h.2.2.2.1 (by decide), RwO.back_ h.2.2.2.2.1 (by decide) (.inl (Rep.fl_flat _)), RwO.back_ h.2.2.2.2.2.1 (by decide) (.inl (Rep.fl_flat _)), MpO.back_ h.2.2.2.2.2.2.1 (by decide), MpO.back_ h.2.2.2.2.2.2.2.1 (by decide), BlkO.back_ h.2.2.2.2.2.2.2.2 (by decide)⟩⟩)))
     refine sM e1180_17 ?_
     refine sc (fun own a wx hf hsl hE => ?_) ?_
     ·obtain ⟨⟨⟨⟨A1182, cA1182⟩, ⟨A1183, cA1183⟩, ⟨A1184, cA1184⟩, ⟨A1185, cA1185⟩⟩, f_109, b_A1182, b_cA620, b_A1183, b_cA618, b_A1184, b_A1185, b_cA624, b_cA625, b_cA617⟩, f_110, -⟩ := hf
      exact px (or_neqb tb4 f_109 f_110 rfl)
     exact steps_nil
    intro o1196 a1196 w1196 d1196 z1196 hk1196 hf1196 hE1196
    obtain ⟨e1196_2, e1196_7, e1196_8, e1196_9⟩ := kt4 hk1196 e1180_2 e1180_7 e1180_8 e1180_9
    have e1196_111 := gv (hf1196 [6] rfl) rfl
    obtain ⟨⟨⟨⟨A1182, cA1182⟩, ⟨A1183, cA1183⟩, ⟨A1184, cA1184⟩, ⟨A1185, cA1185⟩⟩, (f_109 : a1196.eval (.tmp 109) = .bool r1181.1), (b1196_A1182 : RwO o1196 1186 [] w1196 80 R80 A1182 cA1182 r1181.2.1.1), (b1196_cA620 : MpN o1196 1187 1188 [] w1196 cA620 vv111 3 R3 r1181.2.1.2.1), (b1196_A1183 : RwO o1196 1189 [] w1196 3 R3 A1183 cA1183 r1181.2.1.2.2), (b1196_cA618 : BlkO o1196 1190 w1196 cA618 106 #[sl A1182 r1181.2.1.1 cA1182, .map (some cA620), sl A1183 r1181.2.1.2.2 cA1183]), (b1196_A1184 : RwO o1196 1191 [] w1196 3 R3 A1184 cA1184 r1181.2.2.1), (b1196_A1185 : RwO o1196 1192 [] w1196 25 R25 A1185 cA1185 r1181.2.2.2.1), (b1196_cA624 : MpO o1196 1193 w1196 cA624 vv25 vv4 r1181.2.2.2.2.1), (b1196_cA625 : MpO o1196 1194 w1196 cA625 vv81 vv4 r1181.2.2.2.2.2), (b1196_cA617 : BlkO o1196 1195 w1196 cA617 77 #[pt cA618 0, sl A1184 r1181.2.2.1 cA1184, sl A1185 r1181.2.2.2.1 cA1185, .map (some cA624), .map (some cA625)])⟩, -⟩ := hf1196 [4] rfl
    have hX1196 := es_ hX1180 hE1196
    have b1196_g648 := be_ hE1196 b1180_g648
    have b1196_A1168 := RdO.evo rfl hE1196 b1180_A1168
    have b1196_A1169 := RdO.evo rfl hE1196 b1180_A1169
    have b1196_A1170 := RdO.evo rfl hE1196 b1180_A1170
    refine fl_cond e1196_111 hs (fun c1197 hs => ?_) (fun c1197 hs => ?_)
    ·refine rq_seq 128 o1196 (bz 1) [dv [] [] 6 (.bool false)] z1196 d1196 ?_ ?_
     ·exact sO (or_assign rfl) <| steps_nil
     intro o1198 a1198 w1198 d1198 z1198 hk1198 hf1198 hE1198
     have e1198_6 := gv (hf1198 [0] rfl) rfl
     have hX1198 := es_ hX1196 hE1198
     refine fl_ret ?_
     refine hp1075 _ _ _ rfl ?_
     refine hp1037 _ _ _ rfl ?_
     refine hp1036 _ _ _ rfl ?_
     replace hs := z1030 _ hs
     refine hp1030 _ _ _ rfl ?_
     refine hp654 _ _ _ rfl ?_
     refine hp652 _ _ _ rfl ?_
     obtain rfl := osome hs
     exact hret _ _ _ _ (.inl rfl) d1198 (results1_ rfl (RVal.tmp_ e1198_6)) ⟨o1198, rfl, hX1198⟩
    refine fl_skip ?_
    exact (K1149 _ _ (rl [(852, 1140), (1171, 1140), (1172, 1140), (1173, 1140), (1174, 1140), (1179, 1136), (1186, 1116), (1187, 1117), (1188, 1119), (1189, 1123), (1190, 1112), (1191, 1127), (1192, 1131), (1193, 1132), (1194, 1134), (1195, 1111)] o1196) _ _ _ _ _ _ _ _ _ _ A1182 cA1182 A1183 cA1183 A1184 cA1184 A1185 cA1185 A1168 cA1168 A1169 cA1169 A1170 cA1170 d1196 z1196 e1196_2 e1196_7 e1196_8 e1196_9 (Evo.rl_ hX1196 (fun _ => Nat.le_refl 0) rfl) (BlkO.rl_ b1196_cA617) (BlkO.rl_ b1196_cA618) (RwO.rl_ b1196_A1182) (MpN.rl_ b1196_cA620) (RwO.rl_ b1196_A1183) (RwO.rl_ b1196_A1184) (RwO.rl_ b1196_A1185) (MpO.rl_ b1196_cA624) (MpO.rl_ b1196_cA625) (BlkO.rl_ b1196_g648) (RdO.more (RdO.rl_ b1196_A1168) (by decide)) (RdO.more (RdO.rl_ b1196_A1169) (by decide)) (RdO.more (RdO.rl_ b1196_A1170) (by decide)) hs)
   refine fl_skip ?_
   exact (K1149 _ _ (rl [(823, 1111), (824, 1112), (828, 1116), (829, 1117), (831, 1119), (835, 1123), (839, 1127), (843, 1131), (844, 1132), (846, 1134), (848, 1136), (852, 1140)] o1165) _ _ _ _ _ _ _ _ _ _ A825 c826 A832 c833 A836 c837 A840 c841 A849 c850 A853 c854 A857 c858 d1165 z1165 e1165_2 e1165_7 e1165_8 e1165_9 (Evo.rl_ hX1165 (fun _ => Nat.le_refl 0) rfl) (BlkO.rl_ b1165_cA617) (BlkO.rl_ b1165_cA618) (RwO.rl_ b1165_A825) (MpN.rl_ b1165_cA620) (RwO.rl_ b1165_A832) (RwO.rl_ b1165_A836) (RwO.rl_ b1165_A840) (MpO.rl_ b1165_cA624) (MpO.rl_ b1165_cA625) (BlkO.rl_ b1165_g648) (RdO.rl_ b1165_A849) (RdO.rl_ b1165_A853) (RdO.rl_ b1165_A857) hs)
  refine fl_exit ?_
  refine hp1032 _ _ _ rfl ?_
  replace hs := z1030 _ hs
  refine hp1030 _ _ _ rfl ?_
  refine hx654 _ _ ?_
  refine hn652 _ _ ?_
  obtain ⟨r1199, hr1199, hs⟩ := obind hs
  refine rq_seq 128 o1034 (bz 2) [dv [] [] 127 (.bool r1199), dv [0] [] 6 (.bool r1199)] z1034 d1034 ?_ ?_
  ·exact sO (or_call cf11 (args0) (law18_known_w _   r1199 hr1199) post_val) <| sA <| steps_nil
  intro o1200 a1200 w1200 d1200 z1200 hk1200 hf1200 hE1200
  have e1200_6 := gv (hf1200 [1] rfl) rfl
  have hX1200 := es_ hX1034 hE1200
  refine fl_ret ?_
  obtain rfl := (osome hs).symm
  exact hret _ _ _ _ (.inl rfl) d1200 (results1_ rfl (RVal.tmp_ e1200_6)) ⟨o1200, rfl, hX1200⟩
end Go.Proofs.Ytoccfdohlefifaa
