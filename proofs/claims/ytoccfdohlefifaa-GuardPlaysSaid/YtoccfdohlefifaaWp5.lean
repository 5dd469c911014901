import Derived.Test.YtoccfdohlefifaaWp4
import Derived.Test.YtoccfdohlefifaaSp5
namespace Go.Proofs.Ytoccfdohlefifaa
open Go.RowKit
set_option linter.unusedVariables false
set_option maxRecDepth 10000
theorem ref18_New_w (w : World) (own : Own) (lines1 : List Int) (Alines1 : Option Addr) (clines1 : Nat) (l2 : List ((List (Int × Int)) × Int × Int)) (Al2 : Option Addr) (cl2 : Nat) (hown : ∀ b, own b ≤ 1) (hlines1 : RdO own [1] w R3 Alines1 clines1 lines1) (hl2 : RdO own [1] w R91 Al2 cl2 l2) (r : (List Int) × (List (Int × Int)) × (List ((Int × Int) × (Int × Int)))) (hs : ref18_New lines1 l2 = some r) :
  Calls Try.prog 13 #[sl Alines1 lines1 clines1, sl Al2 l2 cl2] w fun e w' => ∃ (own' : Own) (x : (Option Addr × Nat) × (Option Addr × Nat) × (Option Addr × Nat)), e = .returned (.agg #[.slice x.1.1 r.1.length x.1.2, .slice x.2.1.1 r.2.1.length x.2.1.2, .slice x.2.2.1 r.2.2.length x.2.2.2]) ∧ Evo [] own own' w w' ∧ RdO own' [1, 2] w' R3 x.1.1 x.1.2 r.1 ∧ RwO own' 3 [] w' 44 R44 x.2.1.1 x.2.1.2 r.2.1 ∧ RwO own' 4 [] w' 92 R92 x.2.2.1 x.2.2.2 r.2.2 := by
 refine fl_enter (n := 92) rfl rfl rfl (Nat.le_of_ble_eq_true rfl) ?_
 intro a0 Q d0 z0 harg hret
 have ha0 := harg 0 _ rfl
 have ha1 := harg 1 _ rfl
 clear harg
 have hE0 : Evo [] own own w w := Evo.refl _ _ _
 refine rq_seq 92 own (bz 1) [⟨[], [], [], Fct.blk 3258 4 (fun g => pt g 0) 38 #[.slice none 0 0, .slice none 0 0, .slice none 0 0]⟩] z0 d0 ?_ ?_
 ·exact sO (nw0) <| steps_nil
 intro o3259 a3259 w3259 d3259 z3259 hk3259 hf3259 hE3259
 obtain ⟨e3259_0, e3259_1⟩ := kt2 hk3259 ha0 ha1
 obtain ⟨⟨g3257, (e3259_4 : a3259.eval (.tmp 4) = pt g3257 0), (b3259_g3257 : BlkO o3259 3258 w3259 g3257 38 #[.slice none 0 0, .slice none 0 0, .slice none 0 0])⟩, -⟩ := hf3259 [0] rfl
 have hX3259 := Evo.step hE0 hown hE3259 rfl
 refine rp_seq 92 o3259 [3261] [0, 1, 0, 7] [dv [] [0] 9 (sl Alines1 lines1 clines1), dv [0] [] 10 (.agg #[sl Alines1 lines1 clines1, .slice none 0 0, .slice none 0 0]), ⟨[], [], [], Fct.blk 3261 5 (fun g => pt g 0) 38 #[.slice none 0 0, .slice none 0 0, .slice none 0 0]⟩, ⟨[2, 1], [], [3261], Fct.blk 3262 5 (fun g => pt g 0) 38 #[sl Alines1 lines1 clines1, .slice none 0 0, .slice none 0 0]⟩] z3259 d3259 ?_ ?_
 ·refine sM e3259_0 <| sF (fun f => ok1 f.1) <| sO (nw0) ?_
  refine sc (fun own a wx hf hsl hE => ?_) ?_
  ·obtain ⟨⟨g3260, f_5, b_g3260⟩, f_10, -⟩ := hf
   exact px (or_store (l := #[sl Alines1 lines1 clines1, .slice none 0 0, .slice none 0 0]) (lab := 3261) (lab2 := 3262) ts38 f_5 f_10 b_g3260 (by simp) (by kernel_rfl) (mem_of rfl) (by decide) (by kernel_rfl) (fun own' a' w' ha hb => ⟨_, (ha 5).trans f_5, hb⟩))
  exact steps_nil
 intro o3263 a3263 w3263 d3263 z3263 hk3263 hf3263 hE3263
 obtain ⟨e3263_1, e3263_4⟩ := kt2 hk3263 e3259_1 e3259_4
 obtain ⟨⟨g3260, (e3263_5 : a3263.eval (.tmp 5) = pt g3260 0), (b3263_g3260 : BlkO o3263 3262 w3263 g3260 38 #[sl Alines1 lines1 clines1, .slice none 0 0, .slice none 0 0])⟩, -⟩ := hf3263 [3] rfl
 have hX3263 := Evo.step hX3259 hown hE3263 rfl
 have b3263_g3257 := be_ hE3263 b3259_g3257
 refine fl_seq (fun Q3264 hn3264 hp3264 => ?_)
 refine rq_seq 92 o3263 (bz 1) [dv [] [] 6 (Zi 0)] z3263 d3263 ?_ ?_
 ·exact sO (or_assign rfl) <| steps_nil
 intro o3265 a3265 w3265 d3265 z3265 hk3265 hf3265 hE3265
 obtain ⟨e3265_1, e3265_4, e3265_5⟩ := kt3 hk3265 e3263_1 e3263_4 e3263_5
 have e3265_6 := gv (hf3265 [0] rfl) rfl
 have hX3265 := Evo.step hX3263 hown hE3265 rfl
 obtain ⟨b3265_g3257, b3265_g3260⟩ := be2 hE3265 b3263_g3257 b3263_g3260
 refine fl_block (fun Q3266 hn3266 hx3266 hp3266 => ?_)
 refine fl_loop (body := (fun s => ref18_New_b1 lines1 l2 s.1 s.2.1 s.2.2)) (z := r) (show loopO _ _ = _ from hs) (fun (s : (List (Int × Int)) × (List ((Int × Int) × (Int × Int))) × Int) a wx => match s with | (g4336, g4340, i4342) => ∃ (ox : Own) (A4334 : Option Addr) (c4335 : Nat) (A4338 : Option Addr) (c4339 : Nat), a.defers = [] ∧ a.tmps.size = 92 ∧ a.eval (.tmp 1) = sl Al2 l2 cl2 ∧ a.eval (.tmp 4) = pt g3257 0 ∧ a.eval (.tmp 5) = pt g3260 0 ∧ a.eval (.tmp 6) = Zi i4342 ∧ Evo [] own ox w wx ∧ BlkO ox 3258 wx g3257 38 #[.slice none 0 0, .slice none 0 0, .slice none 0 0] ∧ BlkO ox 4333 wx g3260 38 #[sl Alines1 lines1 clines1, sl A4334 g4336 c4335, sl A4338 g4340 c4339] ∧ RwO ox 4337 [] wx 44 R44 A4334 c4335 g4336 ∧ RwO ox 4341 [] wx 92 R92 A4338 c4339 g4340) ?_ ?_
 ·exact ⟨(rl [(3262, 4333)] o3265), none, 0, none, 0, d3265, z3265, e3265_1, e3265_4, e3265_5, e3265_6, (Evo.rl_ hX3265 hown rfl), (BlkO.rl_ b3265_g3257), (BlkO.rl_ b3265_g3260), RwO.nil_, RwO.nil_⟩
 ·rintro ⟨g4336, g4340, i4342⟩ zz5421 a5421 w5421 ⟨o5421, A4334, c4335, A4338, c4339, d5422, z5422, e5422_1, e5422_4, e5422_5, e5422_6, hE5422, b5422_g3257, b5422_g3260, b5422_A4334, b5422_A4338⟩ hs Q5421 hn5421 hp5421 z5421
  have hs : ref18_New_b1 lines1 l2 g4336 g4340 i4342 = some zz5421 := hs
  refine fl_seq (fun Q5423 hn5423 hp5423 => ?_)
  refine rq_seq 92 o5421 [0, 0, 2, 7] [dv [] [6] 11 (Zi i4342), dv [] [1] 12 (sl Al2 l2 cl2), dv [1] [] 13 (Zi (l2.length : Int)), dv [0, 2] [] 14 (.bool (decide (i4342 < (l2.length : Int))))] z5422 d5422 ?_ ?_
  ·exact sM e5422_6 <| sM e5422_1 <| sF (fun f => or_len tu40 f.1 rfl) <| sF (fun f => or_lss f.1 f.2.1 rfl) <| steps_nil
  intro o5424 a5424 w5424 d5424 z5424 hk5424 hf5424 hE5424
  obtain ⟨e5424_1, e5424_4, e5424_5, e5424_6⟩ := kt4 hk5424 e5422_1 e5422_4 e5422_5 e5422_6
  have e5424_14 := gv (hf5424 [3] rfl) rfl
  have hX5424 := Evo.step hE5422 hown hE5424 rfl
  obtain ⟨b5424_g3257, b5424_g3260⟩ := be2 hE5424 b5422_g3257 b5422_g3260
  have b5424_A4334 := re_ hE5424 b5422_A4334
  have b5424_A4338 := re_ hE5424 b5422_A4338
  refine fl_cond e5424_14 hs (fun c5425 hs => ?_) (fun c5425 hs => ?_)
  ·refine fl_skip ?_
   refine hn5423 _ _ ?_
   refine fl_seq (fun Q5426 hn5426 hp5426 => ?_)
   refine fl_block (fun Q5427 hn5427 hx5427 hp5427 => ?_)
   refine rq_seq 92 o5424 (bz 1) [dv [] [] 7 (Zi 0)] z5424 d5424 ?_ ?_
   ·exact sO (or_assign rfl) <| steps_nil
   intro o5428 a5428 w5428 d5428 z5428 hk5428 hf5428 hE5428
   obtain ⟨e5428_1, e5428_4, e5428_5, e5428_6⟩ := kt4 hk5428 e5424_1 e5424_4 e5424_5 e5424_6
   have e5428_7 := gv (hf5428 [0] rfl) rfl
   have hX5428 := Evo.step hX5424 hown hE5428 rfl
   obtain ⟨b5428_g3257, b5428_g3260⟩ := be2 hE5428 b5424_g3257 b5424_g3260
   have b5428_A4334 := re_ hE5428 b5424_A4334
   have b5428_A4338 := re_ hE5428 b5424_A4338
   refine fl_block (fun Q5429 hn5429 hx5429 hp5429 => ?_)
   refine fl_loop (body := (fun s => ref18_New_b2 lines1 l2 i4342 s.1 s.2.1 s.2.2)) (z := zz5421) (show loopO _ _ = _ from hs) (fun (s : (List (Int × Int)) × (List ((Int × Int) × (Int × Int))) × Int) a wx => match s with | (g5775, g5779, k5781) => ∃ (ox : Own) (A5773 : Option Addr) (c5774 : Nat) (A5777 : Option Addr) (c5778 : Nat), a.defers = [] ∧ a.tmps.size = 92 ∧ a.eval (.tmp 1) = sl Al2 l2 cl2 ∧ a.eval (.tmp 4) = pt g3257 0 ∧ a.eval (.tmp 5) = pt g3260 0 ∧ a.eval (.tmp 6) = Zi i4342 ∧ a.eval (.tmp 7) = Zi k5781 ∧ Evo [] own ox w wx ∧ BlkO ox 3258 wx g3257 38 #[.slice none 0 0, .slice none 0 0, .slice none 0 0] ∧ BlkO ox 5772 wx g3260 38 #[sl Alines1 lines1 clines1, sl A5773 g5775 c5774, sl A5777 g5779 c5778] ∧ RwO ox 5776 [] wx 44 R44 A5773 c5774 g5775 ∧ RwO ox 5780 [] wx 92 R92 A5777 c5778 g5779) ?_ ?_
   ·exact ⟨(rl [(4333, 5772), (4337, 5776), (4341, 5780)] o5428), A4334, c4335, A4338, c4339, d5428, z5428, e5428_1, e5428_4, e5428_5, e5428_6, e5428_7, (Evo.rl_ hX5428 hown rfl), (BlkO.rl_ b5428_g3257), (BlkO.rl_ b5428_g3260), (RwO.rl_ b5428_A4334), (RwO.rl_ b5428_A4338)⟩
   ·rintro ⟨g5775, g5779, k5781⟩ zz6140 a6140 w6140 ⟨o6140, A5773, c5774, A5777, c5778, d6141, z6141, e6141_1, e6141_4, e6141_5, e6141_6, e6141_7, hE6141, b6141_g3257, b6141_g3260, b6141_A5773, b6141_A5777⟩ hs Q6140 hn6140 hp6140 z6140
    have hs : ref18_New_b2 lines1 l2 i4342 g5775 g5779 k5781 = some zz6140 := hs
    refine fl_seq (fun Q6142 hn6142 hp6142 => ?_)
    obtain ⟨x6143, hx6143, hs⟩ := obind hs
    refine rq_seq 92 o6140 [0, 0, 0, 6, 14, 30, 62, 127] [dv [] [7] 17 (Zi k5781), dv [] [1] 18 (sl Al2 l2 cl2), dv [] [6] 19 (Zi i4342), dv [1, 2] [] 20 (.pointer (some ((adr Al2).add ((i4342 : Int).toNat * R91.s)))), dv [3] [] 21 (.pointer (some ((adr Al2).add ((i4342 : Int).toNat * R91.s)))), ⟨[4], [], [], Fct.nest X91 [1] 22 (fun (y : ((Option Addr × Nat) × Unit × Unit)) => .slice y.1.1 x6143.1.length y.1.2) x6143⟩, dv [5] [] 23 (Zi (x6143.1.length : Int)), dv [0, 6] [] 24 (.bool (decide (k5781 < (x6143.1.length : Int))))] z6141 d6141 ?_ ?_
    ·refine sM e6141_7 <| sM e6141_1 <| sM e6141_6 <| sF (fun f => or_index (R := R91) (l := l2) tl40 f.1 f.2.1 (RdO.some_ (RdO.evo rfl hE6141 hl2) hx6143) hx6143) <| sF (fun f => or_field fo91_0 f.1 (Addr.add_zero' _)) <| sFE (fun f hE => or_loadN1 X91 0 to35 f.1 (Addr.add_zero' _).symm (RdO.evo rfl hE (RdO.evo rfl hE6141 hl2)) hx6143 (fun _ => rfl)) ?_
     refine sc (fun own a wx hf hsl hE => ?_) ?_
     ·obtain ⟨⟨⟨⟨A6144, cA6144⟩, _, _⟩, f_22, ⟨b_A6144, -, -⟩⟩, -⟩ := hf
      exact px (or_len tu35 f_22 rfl)
     exact sF (fun f => or_lss f.1 f.2.1 rfl) <| steps_nil
    intro o6145 a6145 w6145 d6145 z6145 hk6145 hf6145 hE6145
    obtain ⟨e6145_1, e6145_4, e6145_5, e6145_6, e6145_7⟩ := kt5 hk6145 e6141_1 e6141_4 e6141_5 e6141_6 e6141_7
    have e6145_24 := gv (hf6145 [7] rfl) rfl
    have hX6145 := Evo.step hE6141 hown hE6145 rfl
    obtain ⟨b6145_g3257, b6145_g3260⟩ := be2 hE6145 b6141_g3257 b6141_g3260
    have b6145_A5773 := re_ hE6145 b6141_A5773
    have b6145_A5777 := re_ hE6145 b6141_A5777
    refine fl_cond e6145_24 hs (fun c6146 hs => ?_) (fun c6146 hs => ?_)
    ·refine fl_skip ?_
     refine hn6142 _ _ ?_
     refine fl_seq (fun Q6147 hn6147 hp6147 => ?_)
     refine fl_block (fun Q6323 hn6323 hx6323 hp6323 => ?_)
     have K6414 : ∀ (a6414 : Act) (w6414 : World) (o6414 : Own) (g6409 : List (Int × Int)) (g6412 : List ((Int × Int) × (Int × Int))) (A6407 : Option Addr) (c6408 : Nat) (A6410 : Option Addr) (c6411 : Nat), a6414.defers = [] → a6414.tmps.size = 92 → a6414.eval (.tmp 1) = sl Al2 l2 cl2 → a6414.eval (.tmp 4) = pt g3257 0 → a6414.eval (.tmp 5) = pt g3260 0 → a6414.eval (.tmp 6) = Zi i4342 → a6414.eval (.tmp 7) = Zi k5781 → Evo [] own o6414 w w6414 → BlkO o6414 3258 w6414 g3257 38 #[.slice none 0 0, .slice none 0 0, .slice none 0 0] → BlkO o6414 6406 w6414 g3260 38 #[sl Alines1 lines1 clines1, sl A6407 g6409 c6408, sl A6410 g6412 c6411] → RwO o6414 6353 [] w6414 44 R44 A6407 c6408 g6409 → RwO o6414 6413 [] w6414 92 R92 A6410 c6411 g6412 → ref18_New_k3 k5781 g6409 g6412 = some zz6140 → (Q6323 .normal a6414 w6414 ∧ Q6323 (.exit 3) a6414 w6414) := by
      intro a6414 w6414 o6414 g6409 g6412 A6407 c6408 A6410 c6411 d6415 z6415 e6415_1 e6415_4 e6415_5 e6415_6 e6415_7 hE6415 b6415_g3257 b6415_g3260 b6415_A6407 b6415_A6410 hs
      refine and_both (hn6323 _ _) (hx6323 _ _) ?_
      refine hn6147 _ _ ?_
      refine rq 92 o6414 (bz 3) [dv [] [7] 25 (Zi k5781), dv [0] [] 26 (Zi (ad k5781 1)), dv [1] [] 7 (Zi (ad k5781 1))] z6415 d6415 ?_ ?_
      ·exact sM e6415_7 <| sF (fun f => or_add f.1 rfl rfl) <| sA <| steps_nil
      intro o6416 a6416 w6416 d6416 z6416 hk6416 hf6416 hE6416
      obtain ⟨e6416_1, e6416_4, e6416_5, e6416_6⟩ := kt4 hk6416 e6415_1 e6415_4 e6415_5 e6415_6
      have e6416_7 := gv (hf6416 [2] rfl) rfl
      have hX6416 := Evo.step hE6415 hown hE6416 rfl
      obtain ⟨b6416_g3257, b6416_g3260⟩ := be2 hE6416 b6415_g3257 b6415_g3260
      have b6416_A6407 := re_ hE6416 b6415_A6407
      have b6416_A6410 := re_ hE6416 b6415_A6410
      exact hn6140 _ _ _ hs ⟨(rl [(6353, 5776), (6406, 5772), (6413, 5780)] o6416), A6407, c6408, A6410, c6411, d6416, z6416, e6416_1, e6416_4, e6416_5, e6416_6, e6416_7, (Evo.rl_ hX6416 hown rfl), (BlkO.rl_ b6416_g3257), (BlkO.rl_ b6416_g3260), (RwO.rl_ b6416_A6407), (RwO.rl_ b6416_A6410)⟩
     obtain ⟨x6417, hx6417, hs⟩ := obind hs
     obtain ⟨x6419, hx6419, hs⟩ := obind hs
     refine rp_seq 92 o6145 [6421] [0, 0, 3, 7, 15, 0, 63, 127, 0, 511] [dv [] [1] 27 (sl Al2 l2 cl2), dv [] [6] 28 (Zi i4342), dv [0, 1] [] 29 (.pointer (some ((adr Al2).add ((i4342 : Int).toNat * R91.s)))), dv [2] [] 30 (.pointer (some ((adr Al2).add ((i4342 : Int).toNat * R91.s)))), ⟨[3], [], [], Fct.nest X91 [1] 31 (fun (y : ((Option Addr × Nat) × Unit × Unit)) => .slice y.1.1 x6417.1.length y.1.2) x6417⟩, dv [] [7] 32 (Zi k5781), ⟨[4, 5], [], [], Fct.rel [33, 31] (fun l => ∀ (A6418 : Option Addr) (cA6418 : Nat), l.getD 1 undef = sl A6418 x6417.1 cA6418 → l.getD 0 undef = .pointer (some ((adr A6418).add ((k5781 : Int).toNat * R44.s))))⟩, dv [6, 4] [] 34 (P2 x6419), ⟨[], [], [], Fct.blk 6421 8 (fun g => pt g 0) 44 #[Zi 0, Zi 0]⟩, ⟨[8, 7], [], [6421], Fct.blk 6422 8 (fun g => pt g 0) 44 #[Zi x6419.1, Zi x6419.2]⟩] z6145 d6145 ?_ ?_
     ·refine sM e6145_1 <| sM e6145_6 <| sF (fun f => or_index (R := R91) (l := l2) tl40 f.1 f.2.1 (RdO.some_ (RdO.evo rfl hX6145 hl2) hx6417) hx6417) <| sF (fun f => or_field fo91_0 f.1 (Addr.add_zero' _)) <| sFE (fun f hE => or_loadN1 X91 0 to35 f.1 (Addr.add_zero' _).symm (RdO.evo rfl hE (RdO.evo rfl hX6145 hl2)) hx6417 (fun _ => rfl)) <| sM e6145_7 ?_
      refine sc (fun own a wx hf hsl hE => ?_) ?_
      ·obtain ⟨⟨⟨⟨A6418, cA6418⟩, _, _⟩, (f_31 : a.eval (.tmp 31) = sl A6418 x6417.1 cA6418), ⟨b_A6418, -, -⟩⟩, f_32, -⟩ := hf
       exact px (or_mono (f := Fct.val 33 (.pointer (some ((adr A6418).add ((k5781 : Int).toNat * R44.s))))) (or_index (R := R44) (l := x6417.1) tl35 f_31 f_32 (RdO.some_ b_A6418 hx6419) hx6419) (fun own' a' w' v' hp h => fun _ _ h0' => by cases (f_31.symm.trans ((hp.2 31 (by decide)).symm.trans h0')); exact h))
      refine sc (fun own a wx hf hsl hE => ?_) ?_
      ·obtain ⟨(q_33 : ∀ (A6418 : Option Addr) (cA6418 : Nat), a.eval (.tmp 31) = sl A6418 x6417.1 cA6418 → a.eval (.tmp 33) = .pointer (some ((adr A6418).add ((k5781 : Int).toNat * R44.s)))), ⟨⟨⟨A6418, cA6418⟩, _, _⟩, f_31, ⟨b_A6418, -, -⟩⟩, -⟩ := hf
       have f_33 := q_33 _ _ f_31
       exact px (or_load (l := E44.f x6419) ta44 f_33 (RdO.cells (F := E44) b_A6418 hx6419) rfl)
      refine sO (nw0) ?_
      refine sc (fun own a wx hf hsl hE => ?_) ?_
      ·obtain ⟨⟨g6420, f_8, b_g6420⟩, f_34, -⟩ := hf
       exact px (or_store (l := #[Zi x6419.1, Zi x6419.2]) (lab := 6421) (lab2 := 6422) ts44 f_8 f_34 b_g6420 (by simp) (by kernel_rfl) (mem_of rfl) (by decide) (by kernel_rfl) (fun own' a' w' ha hb => ⟨_, (ha 8).trans f_8, hb⟩))
      exact steps_nil
     intro o6423 a6423 w6423 d6423 z6423 hk6423 hf6423 hE6423
     obtain ⟨e6423_1, e6423_4, e6423_5, e6423_6, e6423_7⟩ := kt5 hk6423 e6145_1 e6145_4 e6145_5 e6145_6 e6145_7
     obtain ⟨⟨g6420, (e6423_8 : a6423.eval (.tmp 8) = pt g6420 0), (b6423_g6420 : BlkO o6423 6422 w6423 g6420 44 #[Zi x6419.1, Zi x6419.2])⟩, -⟩ := hf6423 [9] rfl
     have hX6423 := Evo.step hX6145 hown hE6423 rfl
     obtain ⟨b6423_g3257, b6423_g3260⟩ := be2 hE6423 b6145_g3257 b6145_g3260
     have b6423_A5773 := re_ hE6423 b6145_A5773
     have b6423_A5777 := re_ hE6423 b6145_A5777
     refine fl_seq (fun Q6424 hn6424 hp6424 => ?_)
     have K6447 : ∀ (a6447 : Act) (w6447 : World) (o6447 : Own) (g6445 : List (Int × Int)) (A6443 : Option Addr) (c6444 : Nat), a6447.defers = [] → a6447.tmps.size = 92 → a6447.eval (.tmp 1) = sl Al2 l2 cl2 → a6447.eval (.tmp 4) = pt g3257 0 → a6447.eval (.tmp 5) = pt g3260 0 → a6447.eval (.tmp 6) = Zi i4342 → a6447.eval (.tmp 7) = Zi k5781 → a6447.eval (.tmp 8) = pt g6420 0 → Evo [] own o6447 w w6447 → BlkO o6447 3258 w6447 g3257 38 #[.slice none 0 0, .slice none 0 0, .slice none 0 0] → BlkO o6447 6442 w6447 g3260 38 #[sl Alines1 lines1 clines1, sl A6443 g6445 c6444, sl A5777 g5779 c5778] → RwO o6447 6446 [] w6447 44 R44 A6443 c6444 g6445 → RwO o6447 5780 [] w6447 92 R92 A5777 c5778 g5779 → BlkO o6447 6422 w6447 g6420 44 #[Zi x6419.1, Zi x6419.2] → ref18_New_k4 lines1 l2 i4342 g5779 k5781 x6419 g6445 = some zz6140 → Q6424 .normal a6447 w6447 := by
      intro a6447 w6447 o6447 g6445 A6443 c6444 d6448 z6448 e6448_1 e6448_4 e6448_5 e6448_6 e6448_7 e6448_8 hE6448 b6448_g3257 b6448_g3260 b6448_A6443 b6448_A5777 b6448_g6420 hs
      refine hn6424 _ _ ?_
      obtain ⟨x6449, hx6449, hs⟩ := obind hs
      obtain ⟨x6451, hx6451, hs⟩ := obind hs
      obtain ⟨x6452, hx6452, hs⟩ := obind hs
      obtain ⟨x6453, hx6453, hs⟩ := obind hs
      obtain ⟨x6455, hx6455, hs⟩ := obind hs
      obtain ⟨r6456, hr6456, hs⟩ := obind hs
      refine rd_seq g_mixed 92 [] o6447 [] [0, 1, 3, 7, 7, 31, 63, 127, 7, 263, 1023, 2047, 7, 8191, 16383, 32767, 65535, 65535, 65535, 458751, 983039, 2031615, 65535, 4259839, 16711679, 33488895, 65535, 134217727, 268435455, 536870911] [dv [] [7] 45 (Zi k5781), dv [0] [] 46 (.bool (decide (0 < k5781))), dv [1] [] 47 (.bool (decide (0 < k5781))), dc [2] [1] (decide (0 < k5781)) 48 (sl Al2 l2 cl2), dc [2] [6] (decide (0 < k5781)) 49 (Zi i4342), dc [2, 3, 4] [] (decide (0 < k5781)) 50 (.pointer (some ((adr Al2).add ((i4342 : Int).toNat * R91.s)))), dc [2, 5] [] (decide (0 < k5781)) 51 (.pointer (some ((adr Al2).add ((i4342 : Int).toNat * R91.s)))), ⟨[2, 6], [], [], Fct.cond (decide (0 < k5781)) (some 52) (Fct.nest X91 [1] 52 (fun (y : ((Option Addr × Nat) × Unit × Unit)) => .slice y.1.1 x6449.1.length y.1.2) x6449)⟩, dc [2] [7] (decide (0 < k5781)) 53 (Zi k5781), dc [2, 8] [] (decide (0 < k5781)) 54 (Zi (sb k5781 1)), ⟨[2, 7, 9], [], [], Fct.cond (decide (0 < k5781)) (some 55) (Fct.rel [55, 52] (fun l => ∀ (A6450 : Option Addr) (cA6450 : Nat), l.getD 1 undef = sl A6450 x6449.1 cA6450 → l.getD 0 undef = .pointer (some ((adr A6450).add ((sb k5781 1 : Int).toNat * R44.s)))))⟩, dc [2, 10, 7] [] (decide (0 < k5781)) 56 (P2 x6451), dc [2] [8] (decide (0 < k5781)) 57 (P2 x6419), dc [2, 11, 12] [] (decide (0 < k5781)) 58 (.bool (!decide (x6451 = x6419))), dv [2, 13] [] 59 (.bool x6452), dv [14] [] 60 (.bool x6452), dc [15] [5] x6452 61 (.agg #[sl Alines1 lines1 clines1, sl A6443 g6445 c6444, sl A5777 g5779 c5778]), dc [15] [1] x6452 62 (sl Al2 l2 cl2), dc [15] [6] x6452 63 (Zi i4342), dc [15, 17, 18] [] x6452 64 (.pointer (some ((adr Al2).add ((i4342 : Int).toNat * R91.s)))), dc [15, 19] [] x6452 65 (.pointer (some ((adr Al2).add ((i4342 : Int).toNat * R91.s)))), ⟨[15, 20], [], [], Fct.cond x6452 (some 66) (Fct.nest X91 [1] 66 (fun (y : ((Option Addr × Nat) × Unit × Unit)) => .slice y.1.1 x6453.1.length y.1.2) x6453)⟩, dc [15] [7] x6452 67 (Zi k5781), dc [15, 22] [] x6452 68 (Zi (sb k5781 1)), ⟨[15, 21, 23], [], [], Fct.cond x6452 (some 69) (Fct.rel [69, 66] (fun l => ∀ (A6454 : Option Addr) (cA6454 : Nat), l.getD 1 undef = sl A6454 x6453.1 cA6454 → l.getD 0 undef = .pointer (some ((adr A6454).add ((sb k5781 1 : Int).toNat * R44.s)))))⟩, dc [15, 24, 21] [] x6452 70 (P2 x6455), dc [15] [8] x6452 71 (P2 x6419), dc [15, 16, 25, 26] [] x6452 72 (.bool r6456), dc [15, 27] [] x6452 73 (.bool (!r6456)), dv [15, 28] [] 74 (.bool (x6452 && (!r6456)))] z6448 d6448 nm_ ?_ ?_
      ·refine sM e6448_7 <| sF (fun f => or_gtr f.1 rfl rfl) <| sV <| cT (fun _ s _ _ => or_move (s.1.trans e6448_1)) <| cT (fun _ s _ _ => or_move (s.1.trans e6448_6)) <| cT (fun f _ _ hg => or_index (R := R91) (l := l2) tl40 (f.2.1.1 hg) (f.2.2.1.1 hg) (RdO.some_ (RdO.evo rfl hE6448 hl2) (gd_t hx6449 hg)) (gd_t hx6449 hg)) <| cT (fun f _ _ hg => or_field fo91_0 (f.2.1.1 hg) (Addr.add_zero' _)) <| cT (fun f _ hE hg => or_loadN1 X91 0 to35 (f.2.1.1 hg) (Addr.add_zero' _).symm (RdO.evo rfl hE (RdO.evo rfl hE6448 hl2)) (gd_t hx6449 hg) (fun _ => rfl)) <| cT (fun _ s _ _ => or_move (s.1.trans e6448_7)) <| cT (fun f _ _ hg => or_sub (f.2.1.1 hg) rfl rfl) ?_
       refine sc (fun own a wx hf hsl hE => ?_) ?_
       ·obtain ⟨f_47, c_52, c_54, -⟩ := hf
        refine sg_t rfl rfl rfl f_47 (fun hg => ?_)
        obtain ⟨⟨⟨A6450, cA6450⟩, _, _⟩, (f_52 : a.eval (.tmp 52) = sl A6450 x6449.1 cA6450), ⟨b_A6450, -, -⟩⟩ := c_52.1 hg
        have f_54 := c_54.1 hg
        exact or_mono (f := Fct.val 55 (.pointer (some ((adr A6450).add ((sb k5781 1 : Int).toNat * R44.s))))) (or_index (R := R44) (l := x6449.1) tl35 f_52 f_54 (RdO.some_ b_A6450 (gd_t hx6451 hg)) (gd_t hx6451 hg)) (fun own' a' w' v' hp h => fun _ _ h0' => by cases (f_52.symm.trans ((hp.2 52 (by decide)).symm.trans h0')); exact h)
       refine sc (fun own a wx hf hsl hE => ?_) ?_
       ·obtain ⟨f_47, c_55, c_52, -⟩ := hf
        refine sg_t rfl rfl rfl f_47 (fun hg => ?_)
        have q_55 : ∀ (A6450 : Option Addr) (cA6450 : Nat), a.eval (.tmp 52) = sl A6450 x6449.1 cA6450 → a.eval (.tmp 55) = .pointer (some ((adr A6450).add ((sb k5781 1 : Int).toNat * R44.s))) := c_55.1 hg
        obtain ⟨⟨⟨A6450, cA6450⟩, _, _⟩, f_52, ⟨b_A6450, -, -⟩⟩ := c_52.1 hg
        have f_55 := q_55 _ _ f_52
        exact or_load (l := E44.f x6451) ta44 f_55 (RdO.cells (F := E44) b_A6450 (gd_t hx6451 hg)) rfl
       refine cTL ta44 e6448_8 b6448_g6420 <| cT (fun f _ _ hg => or_neqA sg44 (f.2.1.1 hg) (f.2.2.1.1 hg) (sn44 x6451.1 x6451.2 x6419.1 x6419.2 _) rfl) <| sF (fun f => or_and f.1 (fun hx => f.2.1.1 hx) rfl (osome hx6452).symm) <| sV <| cTL ta38 e6448_5 b6448_g3260 <| cT (fun _ s _ _ => or_move (s.1.trans e6448_1)) <| cT (fun _ s _ _ => or_move (s.1.trans e6448_6)) <| cT (fun f _ _ hg => or_index (R := R91) (l := l2) tl40 (f.2.1.1 hg) (f.2.2.1.1 hg) (RdO.some_ (RdO.evo rfl hE6448 hl2) (gd_t hx6453 hg)) (gd_t hx6453 hg)) <| cT (fun f _ _ hg => or_field fo91_0 (f.2.1.1 hg) (Addr.add_zero' _)) <| cT (fun f _ hE hg => or_loadN1 X91 0 to35 (f.2.1.1 hg) (Addr.add_zero' _).symm (RdO.evo rfl hE (RdO.evo rfl hE6448 hl2)) (gd_t hx6453 hg) (fun _ => rfl)) <| cT (fun _ s _ _ => or_move (s.1.trans e6448_7)) <| cT (fun f _ _ hg => or_sub (f.2.1.1 hg) rfl rfl) ?_
       refine sc (fun own a wx hf hsl hE => ?_) ?_
       ·obtain ⟨f_60, c_66, c_68, -⟩ := hf
        refine sg_t rfl rfl rfl f_60 (fun hg => ?_)
        obtain ⟨⟨⟨A6454, cA6454⟩, _, _⟩, (f_66 : a.eval (.tmp 66) = sl A6454 x6453.1 cA6454), ⟨b_A6454, -, -⟩⟩ := c_66.1 hg
        have f_68 := c_68.1 hg
        exact or_mono (f := Fct.val 69 (.pointer (some ((adr A6454).add ((sb k5781 1 : Int).toNat * R44.s))))) (or_index (R := R44) (l := x6453.1) tl35 f_66 f_68 (RdO.some_ b_A6454 (gd_t hx6455 hg)) (gd_t hx6455 hg)) (fun own' a' w' v' hp h => fun _ _ h0' => by cases (f_66.symm.trans ((hp.2 66 (by decide)).symm.trans h0')); exact h)
       refine sc (fun own a wx hf hsl hE => ?_) ?_
       ·obtain ⟨f_60, c_69, c_66, -⟩ := hf
        refine sg_t rfl rfl rfl f_60 (fun hg => ?_)
        have q_69 : ∀ (A6454 : Option Addr) (cA6454 : Nat), a.eval (.tmp 66) = sl A6454 x6453.1 cA6454 → a.eval (.tmp 69) = .pointer (some ((adr A6454).add ((sb k5781 1 : Int).toNat * R44.s))) := c_69.1 hg
        obtain ⟨⟨⟨A6454, cA6454⟩, _, _⟩, f_66, ⟨b_A6454, -, -⟩⟩ := c_66.1 hg
        have f_69 := q_69 _ _ f_66
        exact or_load (l := E44.f x6455) ta44 f_69 (RdO.cells (F := E44) b_A6454 (gd_t hx6455 hg)) rfl
       exact cTL ta44 e6448_8 b6448_g6420 <| cT (fun f _ hE hg => or_call cf20 (args3 (f.2.1.1 hg) (f.2.2.1.1 hg) (f.2.2.2.1.1 hg)) (ref18_Joined_w _ (lines1, g6445, g5779) Alines1 clines1 A6443 c6444 A5777 c5778 x6455 x6419 (RdO.zero (RdO.evo rfl hE (RdO.evo rfl hE6448 hlines1))) (RdO.zero (RwO.rd (re_ hE b6448_A6443))) (RdO.zero (RwO.rd (re_ hE b6448_A5777))) r6456 (gd_t hr6456 hg)) post_val) <| cT (fun f _ _ hg => or_not (f.2.1.1 hg) rfl) <| sF (fun f => or_and f.1 (fun hx => f.2.1.1 hx) rfl rfl) <| steps_nil
      intro o6457 a6457 w6457 d6457 z6457 hk6457 hf6457 hE6457
      obtain ⟨e6457_1, e6457_4, e6457_5, e6457_6, e6457_7, e6457_8⟩ := kt6 hk6457 e6448_1 e6448_4 e6448_5 e6448_6 e6448_7 e6448_8
      have e6457_74 := gv (hf6457 [29] rfl) rfl
      have hX6457 := Evo.step hE6448 hown hE6457 rfl
      obtain ⟨b6457_g3257, b6457_g3260, b6457_g6420⟩ := be3 hE6457 b6448_g3257 b6448_g3260 b6448_g6420
      have b6457_A6443 := re_ hE6457 b6448_A6443
      have b6457_A5777 := re_ hE6457 b6448_A5777
      refine fl_cond e6457_74 hs (fun c6458 hs => ?_) (fun c6458 hs => ?_)
      ·obtain ⟨x6472, hx6472, hs⟩ := obind hs
       obtain ⟨x6474, hx6474, hs⟩ := obind hs
       obtain ⟨x6477, hx6477, hs⟩ := obind hs
       refine rd_ g_mixed 92 [Fct.rowAt 5780 [] 92 R92 A5777 c5778 g5779, Fct.at_ 6442 g3260 38 #[sl Alines1 lines1 clines1, sl A6443 g6445 c6444, sl A5777 g5779 c5778]] o6457 [5780, 6442] [0, 1, 0, 0, 12, 28, 60, 0, 128, 508, 1020, 0, 4092, 8188, 16383, 32767, 65535] [dv [] [5] 75 (pt g3260 2), dv [0, 18] [] 76 (sl A5777 g5779 c5778), dv [] [1] 77 (sl Al2 l2 cl2), dv [] [6] 78 (Zi i4342), dv [2, 3] [] 79 (.pointer (some ((adr Al2).add ((i4342 : Int).toNat * R91.s)))), dv [4] [] 80 (.pointer (some ((adr Al2).add ((i4342 : Int).toNat * R91.s)))), ⟨[5], [], [], Fct.nest X91 [1] 81 (fun (y : ((Option Addr × Nat) × Unit × Unit)) => .slice y.1.1 x6472.1.length y.1.2) x6472⟩, dv [] [7] 82 (Zi k5781), dv [7] [] 83 (Zi (sb k5781 1)), ⟨[6, 8], [], [], Fct.rel [84, 81] (fun l => ∀ (A6473 : Option Addr) (cA6473 : Nat), l.getD 1 undef = sl A6473 x6472.1 cA6473 → l.getD 0 undef = .pointer (some ((adr A6473).add ((sb k5781 1 : Int).toNat * R44.s))))⟩, dv [9, 6] [] 85 (P2 x6474), dv [] [8] 86 (P2 x6419), dv [10, 11] [] 87 (.agg #[Zi x6474.1, Zi x6474.2, Zi x6419.1, Zi x6419.2]), ⟨[12], [], [], Fct.row 6476 [] 88 92 R92 [(x6474, x6419)]⟩, ⟨[1, 13, 17], [], [5780], Fct.row 6478 [] 89 92 R92 x6477⟩, dv [] [5] 90 (pt g3260 2), ⟨[15, 14, 18], [], [6442], Fct.by_ [6480] [89] (fun l own w => ∀ (A6479 : Option Addr) (cA6479 : Nat), l.getD 0 undef = sl A6479 x6477 cA6479 → BlkO own 6480 w g3260 38 #[sl Alines1 lines1 clines1, sl A6443 g6445 c6444, sl A6479 x6477 cA6479]) (fun hk he h _ _ h0' => BlkO.evo (not_hit hk (by decide)) he (h _ _ h0'))⟩] z6457 d6457 (fm2 b6457_A5777 b6457_g3260) ?_ ?_
       ·refine sS (fun s => or_field fo38_2 (s.1.trans e6457_5) (by rfl)) ?_
        refine sc (fun own a wx hf hsl hE => ?_) ?_
        ·obtain ⟨f_75, (b_g3260 : BlkO own 6442 wx g3260 38 #[sl Alines1 lines1 clines1, sl A6443 g6445 c6444, sl A5777 g5779 c5778]), -⟩ := hf
         exact px (ld1 to36 f_75 b_g3260)
        refine sM e6457_1 <| sM e6457_6 <| sF (fun f => or_index (R := R91) (l := l2) tl40 f.1 f.2.1 (RdO.some_ (RdO.evo rfl hX6457 hl2) hx6472) hx6472) <| sF (fun f => or_field fo91_0 f.1 (Addr.add_zero' _)) <| sFE (fun f hE => or_loadN1 X91 0 to35 f.1 (Addr.add_zero' _).symm (RdO.evo rfl hE (RdO.evo rfl hX6457 hl2)) hx6472 (fun _ => rfl)) <| sM e6457_7 <| sF (fun f => or_sub f.1 rfl rfl) ?_
        refine sc (fun own a wx hf hsl hE => ?_) ?_
        ·obtain ⟨⟨⟨⟨A6473, cA6473⟩, _, _⟩, (f_81 : a.eval (.tmp 81) = sl A6473 x6472.1 cA6473), ⟨b_A6473, -, -⟩⟩, f_83, -⟩ := hf
         exact px (or_mono (f := Fct.val 84 (.pointer (some ((adr A6473).add ((sb k5781 1 : Int).toNat * R44.s))))) (or_index (R := R44) (l := x6472.1) tl35 f_81 f_83 (RdO.some_ b_A6473 hx6474) hx6474) (fun own' a' w' v' hp h => fun _ _ h0' => by cases (f_81.symm.trans ((hp.2 81 (by decide)).symm.trans h0')); exact h))
        refine sc (fun own a wx hf hsl hE => ?_) ?_
        ·obtain ⟨(q_84 : ∀ (A6473 : Option Addr) (cA6473 : Nat), a.eval (.tmp 81) = sl A6473 x6472.1 cA6473 → a.eval (.tmp 84) = .pointer (some ((adr A6473).add ((sb k5781 1 : Int).toNat * R44.s)))), ⟨⟨⟨A6473, cA6473⟩, _, _⟩, f_81, ⟨b_A6473, -, -⟩⟩, -⟩ := hf
         have f_84 := q_84 _ _ f_81
         exact px (or_load (l := E44.f x6474) ta44 f_84 (RdO.cells (F := E44) b_A6473 hx6474) rfl)
        refine sL ta44 e6457_8 b6457_g6420 <| sF (fun f => ok2 f.1 f.2.1) <| sF (fun f => or_lit (lab := 6476) (e := 92) (cs := #[Zi x6474.1, Zi x6474.2, Zi x6419.1, Zi x6419.2]) (F := E92) (nw1 f.1) rfl rfl (show 1 ≤ maxLen by decide)) ?_
        refine sc (fun own a wx hf hsl hE => ?_) ?_
        ·obtain ⟨f_76, ⟨⟨A6475, cA6475⟩, f_88, b_A6475⟩, b_A5777, -⟩ := hf
         exact px (or_append (R := R92) (lab := 5780) (lab2 := 6478) (L := []) (L3 := []) tp36 f_76 b_A5777 (by decide) f_88 (RwO.rd b_A6475) hx6477 (by decide) (by decide) (mem_of rfl) (.inl (Rep.fl_flat _)))
        refine sS (fun s => or_field fo38_2 (s.1.trans e6457_5) (by rfl)) ?_
        refine sc (fun own a wx hf hsl hE => ?_) ?_
        ·obtain ⟨f_90, ⟨⟨A6479, cA6479⟩, (f_89 : a.eval (.tmp 89) = sl A6479 x6477 cA6479), b_A6479⟩, b_g3260, -⟩ := hf
         exact px (or_store1 (lab := 6442) (lab2 := 6480) ts36 f_90 f_89 b_g3260 (by simp) rfl (mem_of rfl) (by decide) rfl (fun own' a' w' ha hb => fun _ _ h0' => by cases (f_89.symm.trans ((ha 89).symm.trans h0')); exact hb))
        exact steps_nil
       intro o6481 a6481 w6481 d6481 z6481 hk6481 hf6481 hE6481
       obtain ⟨e6481_1, e6481_4, e6481_5, e6481_6, e6481_7⟩ := kt5 hk6481 e6457_1 e6457_4 e6457_5 e6457_6 e6457_7
       obtain ⟨⟨⟨A6479, cA6479⟩, (f_89 : a6481.eval (.tmp 89) = sl A6479 x6477 cA6479), (b6481_A6479 : RwO o6481 6478 [] w6481 92 R92 A6479 cA6479 x6477)⟩, (bq_g3260 : ∀ (A6479 : Option Addr) (cA6479 : Nat), a6481.eval (.tmp 89) = sl A6479 x6477 cA6479 → BlkO o6481 6480 w6481 g3260 38 #[sl Alines1 lines1 clines1, sl A6443 g6445 c6444, sl A6479 x6477 cA6479]), -⟩ := hf6481 [14, 16] rfl
       have b6481_g3260 := bq_g3260 _ _ f_89
       have hX6481 := Evo.step hX6457 hown hE6481 rfl
       have b6481_g3257 := be_ hE6481 b6457_g3257
       have b6481_A6443 := re_ hE6481 b6457_A6443
       exact (K6414 _ _ (rl [(6446, 6353), (6478, 6413), (6480, 6406)] o6481) _ _ A6443 c6444 A6479 cA6479 d6481 z6481 e6481_1 e6481_4 e6481_5 e6481_6 e6481_7 (Evo.rl_ hX6481 hown rfl) (BlkO.rl_ b6481_g3257) (BlkO.rl_ b6481_g3260) (RwO.rl_ b6481_A6443) (RwO.rl_ b6481_A6479) hs).1
      refine fl_skip ?_
      exact (K6414 _ _ (rl [(5780, 6413), (6442, 6406), (6446, 6353)] o6457) _ _ A6443 c6444 A5777 c5778 d6457 z6457 e6457_1 e6457_4 e6457_5 e6457_6 e6457_7 (Evo.rl_ hX6457 hown rfl) (BlkO.rl_ b6457_g3257) (BlkO.rl_ b6457_g3260) (RwO.rl_ b6457_A6443) (RwO.rl_ b6457_A5777) hs).1
     obtain ⟨r6482, hr6482, hs⟩ := obind hs
     refine rq_seq 92 o6423 [0, 0, 3, 7] [dv [] [5] 35 (.agg #[sl Alines1 lines1 clines1, sl A5773 g5775 c5774, sl A5777 g5779 c5778]), dv [] [8] 36 (P2 x6419), dv [0, 1] [] 37 (.bool r6482), dv [2] [] 38 (.bool (!r6482))] z6423 d6423 ?_ ?_
     ·exact sL ta38 e6423_5 b6423_g3260 <| sL ta44 e6423_8 b6423_g6420 <| sFE (fun f hE => or_call cf18 (args2 f.1 f.2.1) (ref18_Has_w _ (lines1, g5775, g5779) Alines1 clines1 A5773 c5774 A5777 c5778 x6419 (RdO.zero (RdO.evo rfl hE (RdO.evo rfl hX6423 hlines1))) (RdO.zero (RwO.rd (re_ hE b6423_A5773))) (RdO.zero (RwO.rd (re_ hE b6423_A5777))) r6482 hr6482) post_val) <| sF (fun f => or_not f.1 rfl) <| steps_nil
     intro o6483 a6483 w6483 d6483 z6483 hk6483 hf6483 hE6483
     obtain ⟨e6483_1, e6483_4, e6483_5, e6483_6, e6483_7, e6483_8⟩ := kt6 hk6483 e6423_1 e6423_4 e6423_5 e6423_6 e6423_7 e6423_8
     have e6483_38 := gv (hf6483 [3] rfl) rfl
     have hX6483 := Evo.step hX6423 hown hE6483 rfl
     obtain ⟨b6483_g3257, b6483_g3260, b6483_g6420⟩ := be3 hE6483 b6423_g3257 b6423_g3260 b6423_g6420
     have b6483_A5773 := re_ hE6483 b6423_A5773
     have b6483_A5777 := re_ hE6483 b6423_A5777
     refine fl_cond e6483_38 hs (fun c6484 hs => ?_) (fun c6484 hs => ?_)
     ·obtain ⟨x6494, hx6494, hs⟩ := obind hs
      refine rr 92 [Fct.rowAt 5776 [] 44 R44 A5773 c5774 g5775, Fct.at_ 5772 g3260 38 #[sl Alines1 lines1 clines1, sl A5773 g5775 c5774, sl A5777 g5779 c5778]] o6483 [5776, 5772] [0, 1, 0, 4, 15, 31, 63] [dv [] [5] 39 (pt g3260 1), dv [0, 8] [] 40 (sl A5773 g5775 c5774), dv [] [8] 41 (P2 x6419), ⟨[2], [], [], Fct.row 6493 [] 42 44 R44 [x6419]⟩, ⟨[1, 3, 7], [], [5776], Fct.row 6495 [] 43 44 R44 x6494⟩, dv [] [5] 44 (pt g3260 1), ⟨[5, 4, 8], [], [5772], Fct.by_ [6497] [43] (fun l own w => ∀ (A6496 : Option Addr) (cA6496 : Nat), l.getD 0 undef = sl A6496 x6494 cA6496 → BlkO own 6497 w g3260 38 #[sl Alines1 lines1 clines1, sl A6496 x6494 cA6496, sl A5777 g5779 c5778]) (fun hk he h _ _ h0' => BlkO.evo (not_hit hk (by decide)) he (h _ _ h0'))⟩] z6483 d6483 (fm2 b6483_A5773 b6483_g3260) ?_ ?_
      ·refine sS (fun s => or_field fo38_1 (s.1.trans e6483_5) (by rfl)) ?_
       refine sc (fun own a wx hf hsl hE => ?_) ?_
       ·obtain ⟨f_39, (b_g3260 : BlkO own 5772 wx g3260 38 #[sl Alines1 lines1 clines1, sl A5773 g5775 c5774, sl A5777 g5779 c5778]), -⟩ := hf
        exact px (ld1 to35 f_39 b_g3260)
       refine sL ta44 e6483_8 b6483_g6420 <| sF (fun f => or_lit (lab := 6493) (e := 44) (cs := #[Zi x6419.1, Zi x6419.2]) (F := E44) (nw1 f.1) rfl rfl (show 1 ≤ maxLen by decide)) ?_
       refine sc (fun own a wx hf hsl hE => ?_) ?_
       ·obtain ⟨f_40, ⟨⟨A6492, cA6492⟩, f_42, b_A6492⟩, b_A5773, -⟩ := hf
        exact px (or_append (R := R44) (lab := 5776) (lab2 := 6495) (L := []) (L3 := []) tp35 f_40 b_A5773 (by decide) f_42 (RwO.rd b_A6492) hx6494 (by decide) (by decide) (mem_of rfl) (.inl (Rep.fl_flat _)))
       refine sS (fun s => or_field fo38_1 (s.1.trans e6483_5) (by rfl)) ?_
       refine sc (fun own a wx hf hsl hE => ?_) ?_
       ·obtain ⟨f_44, ⟨⟨A6496, cA6496⟩, (f_43 : a.eval (.tmp 43) = sl A6496 x6494 cA6496), b_A6496⟩, b_g3260, -⟩ := hf
        exact px (or_store1 (lab := 5772) (lab2 := 6497) ts35 f_44 f_43 b_g3260 (by simp) rfl (mem_of rfl) (by decide) rfl (fun own' a' w' ha hb => fun _ _ h0' => by cases (f_43.symm.trans ((ha 43).symm.trans h0')); exact hb))
       exact steps_nil
      intro o6498 a6498 w6498 d6498 z6498 hk6498 hf6498 hE6498
      obtain ⟨e6498_1, e6498_4, e6498_5, e6498_6, e6498_7, e6498_8⟩ := kt6 hk6498 e6483_1 e6483_4 e6483_5 e6483_6 e6483_7 e6483_8
      obtain ⟨⟨⟨A6496, cA6496⟩, (f_43 : a6498.eval (.tmp 43) = sl A6496 x6494 cA6496), (b6498_A6496 : RwO o6498 6495 [] w6498 44 R44 A6496 cA6496 x6494)⟩, (bq_g3260 : ∀ (A6496 : Option Addr) (cA6496 : Nat), a6498.eval (.tmp 43) = sl A6496 x6494 cA6496 → BlkO o6498 6497 w6498 g3260 38 #[sl Alines1 lines1 clines1, sl A6496 x6494 cA6496, sl A5777 g5779 c5778]), -⟩ := hf6498 [4, 6] rfl
      have b6498_g3260 := bq_g3260 _ _ f_43
      have hX6498 := Evo.step hX6483 hown hE6498 rfl
      obtain ⟨b6498_g3257, b6498_g6420⟩ := be2 hE6498 b6483_g3257 b6483_g6420
      have b6498_A5777 := re_ hE6498 b6483_A5777
      exact (K6447 _ _ (rl [(6495, 6446), (6497, 6442)] o6498) _ A6496 cA6496 d6498 z6498 e6498_1 e6498_4 e6498_5 e6498_6 e6498_7 e6498_8 (Evo.rl_ hX6498 hown rfl) (BlkO.rl_ b6498_g3257) (BlkO.rl_ b6498_g3260) (RwO.rl_ b6498_A6496) (RwO.rl_ b6498_A5777) (BlkO.rl_ b6498_g6420) hs)
     refine fl_skip ?_
     exact (K6447 _ _ (rl [(5772, 6442), (5776, 6446)] o6483) _ A5773 c5774 d6483 z6483 e6483_1 e6483_4 e6483_5 e6483_6 e6483_7 e6483_8 (Evo.rl_ hX6483 hown rfl) (BlkO.rl_ b6483_g3257) (BlkO.rl_ b6483_g3260) (RwO.rl_ b6483_A5773) (RwO.rl_ b6483_A5777) (BlkO.rl_ b6483_g6420) hs)
    refine fl_exit ?_
    refine hp6142 _ _ _ rfl ?_
    replace hs := z6140 _ hs
    refine hp6140 _ _ _ rfl ?_
    refine hx5429 _ _ ?_
    refine hn5427 _ _ ?_
    refine hn5426 _ _ ?_
    refine rq 92 o6145 (bz 3) [dv [] [6] 15 (Zi i4342), dv [0] [] 16 (Zi (ad i4342 1)), dv [1] [] 6 (Zi (ad i4342 1))] z6145 d6145 ?_ ?_
    ·exact sM e6145_6 <| sF (fun f => or_add f.1 rfl rfl) <| sA <| steps_nil
    intro o6499 a6499 w6499 d6499 z6499 hk6499 hf6499 hE6499
    obtain ⟨e6499_1, e6499_4, e6499_5⟩ := kt3 hk6499 e6145_1 e6145_4 e6145_5
    have e6499_6 := gv (hf6499 [2] rfl) rfl
    have hX6499 := Evo.step hX6145 hown hE6499 rfl
    obtain ⟨b6499_g3257, b6499_g3260⟩ := be2 hE6499 b6145_g3257 b6145_g3260
    have b6499_A5773 := re_ hE6499 b6145_A5773
    have b6499_A5777 := re_ hE6499 b6145_A5777
    exact hn5421 _ _ _ hs ⟨(rl [(5772, 4333), (5776, 4337), (5780, 4341)] o6499), A5773, c5774, A5777, c5778, d6499, z6499, e6499_1, e6499_4, e6499_5, e6499_6, (Evo.rl_ hX6499 hown rfl), (BlkO.rl_ b6499_g3257), (BlkO.rl_ b6499_g3260), (RwO.rl_ b6499_A5773), (RwO.rl_ b6499_A5777)⟩
  refine fl_exit ?_
  refine hp5423 _ _ _ rfl ?_
  replace hs := z5421 _ hs
  refine hp5421 _ _ _ rfl ?_
  refine hx3266 _ _ ?_
  refine hn3264 _ _ ?_
  refine rr_seq 92 [Fct.at_ 3258 g3257 38 #[.slice none 0 0, .slice none 0 0, .slice none 0 0]] o5424 [3258] (bz 2) [dv [] [5] 91 (.agg #[sl Alines1 lines1 clines1, sl A4334 g4336 c4335, sl A4338 g4340 c4339]), ⟨[0, 2], [4], [3258], Fct.at_ 6500 g3257 38 #[sl Alines1 lines1 clines1, sl A4334 g4336 c4335, sl A4338 g4340 c4339]⟩] z5424 d5424 (fm1 b5424_g3257) ?_ ?_
  ·refine sL ta38 e5424_5 b5424_g3260 ?_
   refine sc (fun own a wx hf hsl hE => ?_) ?_
   ·obtain ⟨f_91, b_g3257, -⟩ := hf
    obtain ⟨s_4, -⟩ := hsl
    exact px (or_store (l := #[sl Alines1 lines1 clines1, sl A4334 g4336 c4335, sl A4338 g4340 c4339]) (lab := 3258) (lab2 := 6500) ts38 (s_4.trans e5424_4) f_91 b_g3257 (by simp) (by kernel_rfl) (mem_of rfl) (by decide) (by kernel_rfl) (fun own' a' w' ha hb => hb))
   exact steps_nil
  intro o6501 a6501 w6501 d6501 z6501 hk6501 hf6501 hE6501
  have e6501_4 := kt hk6501 e5424_4
  obtain ⟨(b6501_g3257 : BlkO o6501 6500 w6501 g3257 38 #[sl Alines1 lines1 clines1, sl A4334 g4336 c4335, sl A4338 g4340 c4339]), -⟩ := hf6501 [1] rfl
  have hX6501 := Evo.step hX5424 hown hE6501 rfl
  have b6501_A4334 := re_ hE6501 b5424_A4334
  have b6501_A4338 := re_ hE6501 b5424_A4338
  refine fl_ret ?_
  obtain rfl := osome hs
  exact hret _ _ _ _ (.inl rfl) d6501 (results1_ rfl (RVal.cell_ e6501_4 (run_loadVarAgg (l := [sl Alines1 lines1 clines1, sl A4334 g4336 c4335, sl A4338 g4340 c4339]) ta38 (Blk.cellsFrom b6501_g3257.2 0 rfl) rfl))) ⟨(rl [(4337, 3), (4341, 4)] o6501), ((Alines1, clines1), (A4334, c4335), (A4338, c4339)), rfl, (Evo.rl_ hX6501 hown rfl), (RdO.more (RdO.rl_ (RdO.evo rfl hX6501 hlines1)) (by decide)), (RwO.rl_ b6501_A4334), (RwO.rl_ b6501_A4338)⟩
theorem law01_Of_w (w : World) (p1 : Int × Int) (r : Int × Int) (hs : law01_Of p1 = some r) :
  Calls Try.prog 15 #[P2 p1] w fun e w' => ∃ own' : Own, e = .returned (P2 r) ∧ Evo [] (fun _ => 0) own' w w' := by
 refine fl_enter (n := 8) rfl rfl rfl (Nat.le_of_ble_eq_true rfl) ?_
 intro a0 Q d0 z0 harg hret
 have ha0 := harg 0 _ rfl
 clear harg
 have hE0 : Evo [] (fun _ => 0) (fun _ => 0) w w := Evo.refl _ _ _
 refine rq_seq 8 (fun _ => 0) [0, 0] [⟨[], [0], [], Fct.blk 19 1 (fun g => pt g 0) 25 #[Zi p1.1, Zi p1.2]⟩, ⟨[], [], [], Fct.blk 21 2 (fun g => pt g 0) 44 #[Zi 0, Zi 0]⟩] z0 d0 ?_ ?_
 ·exact sS (fun s => nw1 (s.1.trans ha0)) <| sO (nw0) <| steps_nil
 intro o22 a22 w22 d22 z22 hk22 hf22 hE22
 obtain ⟨⟨g18, (e22_1 : a22.eval (.tmp 1) = pt g18 0), (b22_g18 : BlkO o22 19 w22 g18 25 #[Zi p1.1, Zi p1.2])⟩, ⟨g20, (e22_2 : a22.eval (.tmp 2) = pt g20 0), (b22_g20 : BlkO o22 21 w22 g20 44 #[Zi 0, Zi 0])⟩, -⟩ := hf22 [0, 1] rfl
 have hX22 := es_ hE0 hE22
 refine rr_seq 8 [Fct.at_ 21 g20 44 #[Zi 0, Zi 0]] o22 [21] [0, 1, 0, 4, 15, 31] [dv [] [1] 3 (pt g18 0), dv [0] [] 4 (Zi p1.1), dv [] [1] 5 (pt g18 1), dv [2] [] 6 (Zi p1.2), dv [1, 3] [] 7 (P2 p1), ⟨[4, 6], [2], [21], Fct.at_ 23 g20 44 #[Zi p1.1, Zi p1.2]⟩] z22 d22 (fm1 b22_g20) ?_ ?_
 ·refine sS (fun s => or_field fo25_0 (s.1.trans e22_1) (by rfl)) <| sG to3 b22_g18 <| sS (fun s => or_field fo25_1 (s.1.trans e22_1) (by rfl)) <| sG to3 b22_g18 <| sF (fun f => ok2 f.1 f.2.1) ?_
  refine sc (fun own a wx hf hsl hE => ?_) ?_
  ·obtain ⟨f_7, b_g20, -⟩ := hf
   obtain ⟨s_2, -⟩ := hsl
   exact px (or_store (l := #[Zi p1.1, Zi p1.2]) (lab := 21) (lab2 := 23) ts44 (s_2.trans e22_2) f_7 b_g20 (by simp) (by kernel_rfl) (mem_of rfl) (by decide) (by kernel_rfl) (fun own' a' w' ha hb => hb))
  exact steps_nil
 intro o24 a24 w24 d24 z24 hk24 hf24 hE24
 have e24_2 := kt hk24 e22_2
 obtain ⟨(b24_g20 : BlkO o24 23 w24 g20 44 #[Zi p1.1, Zi p1.2]), -⟩ := hf24 [5] rfl
 have hX24 := es_ hX22 hE24
 refine fl_ret ?_
 obtain rfl := (osome hs).symm
 exact hret _ _ _ _ (.inl rfl) d24 (results1_ rfl (RVal.cell_ e24_2 (run_loadVarAgg (l := [Zi p1.1, Zi p1.2]) ta44 (Blk.cellsFrom b24_g20.2 0 rfl) rfl))) ⟨o24, rfl, hX24⟩
theorem law01_Ofs_w (w : World) (l1 : List (Int × Int)) (Al1 : Option Addr) (cl1 : Nat) (hl1 : RdO (fun _ => 0) [0] w R25 Al1 cl1 l1) (r : List (Int × Int)) (hs : law01_Ofs l1 = some r) :
  Calls Try.prog 37 #[sl Al1 l1 cl1] w fun e w' => ∃ (own' : Own) (x : Option Addr × Nat), e = .returned (.slice x.1 r.length x.2) ∧ Evo [] (fun _ => 0) own' w w' ∧ RwO own' 1 [] w' 44 R44 x.1 x.2 r := by
 refine fl_enter (n := 20) rfl rfl rfl (Nat.le_of_ble_eq_true rfl) ?_
 intro a0 Q d0 z0 harg hret
 have ha0 := harg 0 _ rfl
 clear harg
 have hE0 : Evo [] (fun _ => 0) (fun _ => 0) w w := Evo.refl _ _ _
 refine rq_seq 20 (fun _ => 0) (bz 1) [dv [] [] 2 (.slice none 0 0)] z0 d0 ?_ ?_
 ·exact sO (or_assign rfl) <| steps_nil
 intro o77 a77 w77 d77 z77 hk77 hf77 hE77
 have e77_0 := kt hk77 ha0
 have hX77 := es_ hE0 hE77
 refine rq_seq 20 o77 (bz 1) [dv [] [] 3 (.slice none 0 0)] z77 d77 ?_ ?_
 ·exact sO (or_assign rfl) <| steps_nil
 intro o78 a78 w78 d78 z78 hk78 hf78 hE78
 have e78_0 := kt hk78 e77_0
 have e78_3 := gv (hf78 [0] rfl) rfl
 have hX78 := es_ hX77 hE78
 refine fl_seq (fun Q79 hn79 hp79 => ?_)
 refine rq_seq 20 o78 (bz 1) [dv [] [] 4 (Zi 0)] z78 d78 ?_ ?_
 ·exact sO (or_assign rfl) <| steps_nil
 intro o80 a80 w80 d80 z80 hk80 hf80 hE80
 obtain ⟨e80_0, e80_3⟩ := kt2 hk80 e78_0 e78_3
 have e80_4 := gv (hf80 [0] rfl) rfl
 have hX80 := es_ hX78 hE80
 refine fl_block (fun Q81 hn81 hx81 hp81 => ?_)
 refine fl_loop (body := (fun s => law01_Ofs_b1 l1 s.1 s.2)) (z := r) (show loopO _ _ = _ from hs) (fun (s : (List (Int × Int)) × Int) a wx => match s with | (out100, i102) => ∃ (ox : Own) (A98 : Option Addr) (c99 : Nat), a.defers = [] ∧ a.tmps.size = 20 ∧ a.eval (.tmp 0) = sl Al1 l1 cl1 ∧ a.eval (.tmp 3) = sl A98 out100 c99 ∧ a.eval (.tmp 4) = Zi i102 ∧ Evo [] (fun _ => 0) ox w wx ∧ RwO ox 101 [] wx 44 R44 A98 c99 out100) ?_ ?_
 ·exact ⟨o80, none, 0, d80, z80, e80_0, e80_3, e80_4, hX80, RwO.nil_⟩
 ·rintro ⟨out100, i102⟩ zz122 a122 w122 ⟨o122, A98, c99, d123, z123, e123_0, e123_3, e123_4, hE123, b123_A98⟩ hs Q122 hn122 hp122 z122
  have hs : law01_Ofs_b1 l1 out100 i102 = some zz122 := hs
  refine fl_seq (fun Q124 hn124 hp124 => ?_)
  refine rq_seq 20 o122 [0, 0, 2, 7] [dv [] [4] 5 (Zi i102), dv [] [0] 6 (sl Al1 l1 cl1), dv [1] [] 7 (Zi (l1.length : Int)), dv [0, 2] [] 8 (.bool (decide (i102 < (l1.length : Int))))] z123 d123 ?_ ?_
  ·exact sM e123_4 <| sM e123_0 <| sF (fun f => or_len tu55 f.1 rfl) <| sF (fun f => or_lss f.1 f.2.1 rfl) <| steps_nil
  intro o125 a125 w125 d125 z125 hk125 hf125 hE125
  obtain ⟨e125_0, e125_3, e125_4⟩ := kt3 hk125 e123_0 e123_3 e123_4
  have e125_8 := gv (hf125 [3] rfl) rfl
  have hX125 := es_ hE123 hE125
  have b125_A98 := re_ hE125 b123_A98
  refine fl_cond e125_8 hs (fun c126 hs => ?_) (fun c126 hs => ?_)
  ·refine fl_skip ?_
   refine hn124 _ _ ?_
   refine fl_seq (fun Q127 hn127 hp127 => ?_)
   refine fl_block (fun Q128 hn128 hx128 hp128 => ?_)
   obtain ⟨x133, hx133, hs⟩ := obind hs
   obtain ⟨r134, hr134, hs⟩ := obind hs
   obtain ⟨x137, hx137, hs⟩ := obind hs
   refine rr 20 [Fct.rowAt 101 [] 44 R44 A98 c99 out100] o125 [101] [0, 0, 0, 6, 14, 30, 62, 127, 255] [dv [] [3] 11 (sl A98 out100 c99), dv [] [0] 12 (sl Al1 l1 cl1), dv [] [4] 13 (Zi i102), dv [1, 2] [] 14 (.pointer (some ((adr Al1).add ((i102 : Int).toNat * R25.s)))), dv [3] [] 15 (P2 x133), dv [4] [] 16 (P2 r134), ⟨[5], [], [], Fct.row 136 [] 17 44 R44 [r134]⟩, ⟨[0, 6, 9], [], [101], Fct.row 138 [] 18 44 R44 x137⟩, ⟨[7], [], [], Fct.rel [3, 18] (fun l => ∀ (A139 : Option Addr) (cA139 : Nat), l.getD 1 undef = sl A139 x137 cA139 → l.getD 0 undef = sl A139 x137 cA139)⟩] z125 d125 (fm1 b125_A98) ?_ ?_
   ·refine sM e125_3 <| sM e125_0 <| sM e125_4 <| sF (fun f => or_index (R := R25) (l := l1) tl55 f.1 f.2.1 (RdO.some_ (RdO.evo rfl hX125 hl1) hx133) hx133) <| sFE (fun f hE => or_load (l := E25.f x133) ta25 f.1 (RdO.cells (F := E25) (RdO.evo rfl hE (RdO.evo rfl hX125 hl1)) hx133) rfl) <| sF (fun f => or_call cf15 (args1 f.1) (law01_Of_w _ x133  r134 hr134) post_val) <| sF (fun f => or_lit (lab := 136) (e := 44) (cs := #[Zi r134.1, Zi r134.2]) (F := E44) (nw1 f.1) rfl rfl (show 1 ≤ maxLen by decide)) ?_
    refine sc (fun own a wx hf hsl hE => ?_) ?_
    ·obtain ⟨f_11, ⟨⟨A135, cA135⟩, f_17, b_A135⟩, b_A98, -⟩ := hf
     exact px (or_append (R := R44) (lab := 101) (lab2 := 138) (L := []) (L3 := []) tp35 f_11 b_A98 (by decide) f_17 (RwO.rd b_A135) hx137 (by decide) (by decide) (mem_of rfl) (.inl (Rep.fl_flat _)))
    refine sc (fun own a wx hf hsl hE => ?_) ?_
    ·obtain ⟨⟨⟨A139, cA139⟩, (f_18 : a.eval (.tmp 18) = sl A139 x137 cA139), b_A139⟩, -⟩ := hf
     exact px (or_mono (f := Fct.val 3 (sl A139 x137 cA139)) (or_assign f_18) (fun own' a' w' v' hp h => fun _ _ h0' => by cases (f_18.symm.trans ((hp.2 18 (by decide)).symm.trans h0')); exact h))
    exact steps_nil
   intro o140 a140 w140 d140 z140 hk140 hf140 hE140
   obtain ⟨e140_0, e140_4⟩ := kt2 hk140 e125_0 e125_4
   obtain ⟨⟨⟨A139, cA139⟩, (f_18 : a140.eval (.tmp 18) = sl A139 x137 cA139), (b140_A139 : RwO o140 138 [] w140 44 R44 A139 cA139 x137)⟩, (q_3 : ∀ (A139 : Option Addr) (cA139 : Nat), a140.eval (.tmp 18) = sl A139 x137 cA139 → a140.eval (.tmp 3) = sl A139 x137 cA139), -⟩ := hf140 [7, 8] rfl
   have e140_3 := q_3 _ _ f_18
   have hX140 := es_ hX125 hE140
   refine hn128 _ _ ?_
   refine hn127 _ _ ?_
   refine rq 20 o140 (bz 3) [dv [] [4] 9 (Zi i102), dv [0] [] 10 (Zi (ad i102 1)), dv [1] [] 4 (Zi (ad i102 1))] z140 d140 ?_ ?_
   ·exact sM e140_4 <| sF (fun f => or_add f.1 rfl rfl) <| sA <| steps_nil
   intro o141 a141 w141 d141 z141 hk141 hf141 hE141
   obtain ⟨e141_0, e141_3⟩ := kt2 hk141 e140_0 e140_3
   have e141_4 := gv (hf141 [2] rfl) rfl
   have hX141 := es_ hX140 hE141
   have b141_A139 := re_ hE141 b140_A139
   exact hn122 _ _ _ hs ⟨(rl [(138, 101)] o141), A139, cA139, d141, z141, e141_0, e141_3, e141_4, (Evo.rl_ hX141 (fun _ => Nat.le_refl 0) rfl), (RwO.rl_ b141_A139)⟩
  refine fl_exit ?_
  refine hp124 _ _ _ rfl ?_
  replace hs := z122 _ hs
  refine hp122 _ _ _ rfl ?_
  refine hx81 _ _ ?_
  refine hn79 _ _ ?_
  refine rq_seq 20 o125 (bz 2) [dv [] [3] 19 (sl A98 out100 c99), dv [0] [] 2 (sl A98 out100 c99)] z125 d125 ?_ ?_
  ·exact sM e125_3 <| sA <| steps_nil
  intro o142 a142 w142 d142 z142 hk142 hf142 hE142
  have e142_2 := gv (hf142 [1] rfl) rfl
  have hX142 := es_ hX125 hE142
  have b142_A98 := re_ hE142 b125_A98
  refine fl_ret ?_
  obtain rfl := (osome hs).symm
  exact hret _ _ _ _ (.inl rfl) d142 (results1_ rfl (RVal.tmp_ e142_2)) ⟨(rl [(101, 1)] o142), (A98, c99), rfl, (Evo.rl_ hX142 (fun _ => Nat.le_refl 0) rfl), (RwO.rl_ b142_A98)⟩
theorem law14_Ofs_w (w : World) (l1 : List ((List (Int × Int)) × Int × Int)) (Al1 : Option Addr) (cl1 : Nat) (hl1 : RdO (fun _ => 0) [0] w R63 Al1 cl1 l1) (r : List ((List (Int × Int)) × Int × Int)) (hs : law14_Ofs l1 = some r) :
  Calls Try.prog 14 #[sl Al1 l1 cl1] w fun e w' => ∃ (own' : Own) (x : Option Addr × Nat), e = .returned (.slice x.1 r.length x.2) ∧ Evo [] (fun _ => 0) own' w w' ∧ RwO own' 1 [2] w' 91 R91 x.1 x.2 r := by
 refine fl_enter (n := 32) rfl rfl rfl (Nat.le_of_ble_eq_true rfl) ?_
 intro a0 Q d0 z0 harg hret
 have ha0 := harg 0 _ rfl
 clear harg
 have hE0 : Evo [] (fun _ => 0) (fun _ => 0) w w := Evo.refl _ _ _
 refine rq_seq 32 (fun _ => 0) (bz 1) [dv [] [] 2 (.slice none 0 0)] z0 d0 ?_ ?_
 ·exact sO (or_assign rfl) <| steps_nil
 intro o103 a103 w103 d103 z103 hk103 hf103 hE103
 have e103_0 := kt hk103 ha0
 have hX103 := es_ hE0 hE103
 refine rq_seq 32 o103 (bz 1) [dv [] [] 3 (.slice none 0 0)] z103 d103 ?_ ?_
 ·exact sO (or_assign rfl) <| steps_nil
 intro o104 a104 w104 d104 z104 hk104 hf104 hE104
 have e104_0 := kt hk104 e103_0
 have e104_3 := gv (hf104 [0] rfl) rfl
 have hX104 := es_ hX103 hE104
 refine fl_seq (fun Q105 hn105 hp105 => ?_)
 refine rq_seq 32 o104 (bz 1) [dv [] [] 4 (Zi 0)] z104 d104 ?_ ?_
 ·exact sO (or_assign rfl) <| steps_nil
 intro o106 a106 w106 d106 z106 hk106 hf106 hE106
 obtain ⟨e106_0, e106_3⟩ := kt2 hk106 e104_0 e104_3
 have e106_4 := gv (hf106 [0] rfl) rfl
 have hX106 := es_ hX104 hE106
 refine fl_block (fun Q107 hn107 hx107 hp107 => ?_)
 refine fl_loop (body := (fun s => law14_Ofs_b1 l1 s.1 s.2)) (z := r) (show loopO _ _ = _ from hs) (fun (s : (List ((List (Int × Int)) × Int × Int)) × Int) a wx => match s with | (out131, i134) => ∃ (ox : Own) (A129 : Option Addr) (c130 : Nat), a.defers = [] ∧ a.tmps.size = 32 ∧ a.eval (.tmp 0) = sl Al1 l1 cl1 ∧ a.eval (.tmp 3) = sl A129 out131 c130 ∧ a.eval (.tmp 4) = Zi i134 ∧ Evo [] (fun _ => 0) ox w wx ∧ RwO ox 132 [133] wx 91 R91 A129 c130 out131) ?_ ?_
 ·exact ⟨o106, none, 0, d106, z106, e106_0, e106_3, e106_4, hX106, RwO.nil_⟩
 ·rintro ⟨out131, i134⟩ zz164 a164 w164 ⟨o164, A129, c130, d165, z165, e165_0, e165_3, e165_4, hE165, b165_A129⟩ hs Q164 hn164 hp164 z164
  have hs : law14_Ofs_b1 l1 out131 i134 = some zz164 := hs
  refine fl_seq (fun Q166 hn166 hp166 => ?_)
  refine rq_seq 32 o164 [0, 0, 2, 7] [dv [] [4] 5 (Zi i134), dv [] [0] 6 (sl Al1 l1 cl1), dv [1] [] 7 (Zi (l1.length : Int)), dv [0, 2] [] 8 (.bool (decide (i134 < (l1.length : Int))))] z165 d165 ?_ ?_
  ·exact sM e165_4 <| sM e165_0 <| sF (fun f => or_len tu23 f.1 rfl) <| sF (fun f => or_lss f.1 f.2.1 rfl) <| steps_nil
  intro o167 a167 w167 d167 z167 hk167 hf167 hE167
  obtain ⟨e167_0, e167_3, e167_4⟩ := kt3 hk167 e165_0 e165_3 e165_4
  have e167_8 := gv (hf167 [3] rfl) rfl
  have hX167 := es_ hE165 hE167
  have b167_A129 := re_ hE167 b165_A129
  refine fl_cond e167_8 hs (fun c168 hs => ?_) (fun c168 hs => ?_)
  ·refine fl_skip ?_
   refine hn166 _ _ ?_
   refine fl_seq (fun Q169 hn169 hp169 => ?_)
   refine fl_block (fun Q170 hn170 hx170 hp170 => ?_)
   obtain ⟨x180, hx180, hs⟩ := obind hs
   obtain ⟨r182, hr182, hs⟩ := obind hs
   obtain ⟨x185, hx185, hs⟩ := obind hs
   obtain ⟨x186, hx186, hs⟩ := obind hs
   obtain ⟨x189, hx189, hs⟩ := obind hs
   refine rd_ g_mixed 32 [Fct.rowAt 132 [133] 91 R91 A129 c130 out131] o167 [132] [0, 0, 0, 6, 14, 30, 62, 0, 0, 384, 896, 1920, 0, 0, 12288, 28672, 61440, 131070, 262142, 524287, 1048575] [dv [] [3] 11 (sl A129 out131 c130), dv [] [0] 12 (sl Al1 l1 cl1), dv [] [4] 13 (Zi i134), dv [1, 2] [] 14 (.pointer (some ((adr Al1).add ((i134 : Int).toNat * R63.s)))), dv [3] [] 15 (.pointer (some ((adr Al1).add ((i134 : Int).toNat * R63.s)))), ⟨[4], [], [], Fct.nest X63 [0] 16 (fun (y : ((Option Addr × Nat) × Unit × Unit)) => .slice y.1.1 x180.1.length y.1.2) x180⟩, ⟨[5], [], [], Fct.row 184 [] 17 44 R44 r182⟩, dv [] [0] 18 (sl Al1 l1 cl1), dv [] [4] 19 (Zi i134), dv [7, 8] [] 20 (.pointer (some ((adr Al1).add ((i134 : Int).toNat * R63.s)))), dv [9] [] 21 (.pointer (some (((adr Al1).add ((i134 : Int).toNat * R63.s)).add 1))), ⟨[10], [], [], Fct.nest X63 [0] 22 (fun (y : ((Option Addr × Nat) × Unit × Unit)) => Zi x185.2.1) x185⟩, dv [] [0] 23 (sl Al1 l1 cl1), dv [] [4] 24 (Zi i134), dv [12, 13] [] 25 (.pointer (some ((adr Al1).add ((i134 : Int).toNat * R63.s)))), dv [14] [] 26 (.pointer (some (((adr Al1).add ((i134 : Int).toNat * R63.s)).add 2))), ⟨[15], [], [], Fct.nest X63 [0] 27 (fun (y : ((Option Addr × Nat) × Unit × Unit)) => Zi x186.2.2) x186⟩, ⟨[6, 11, 16], [], [], Fct.rel [28, 17] (fun l => ∀ (A183 : Option Addr) (cA183 : Nat), l.getD 1 undef = sl A183 r182 cA183 → l.getD 0 undef = .agg #[sl A183 r182 cA183, Zi x185.2.1, Zi x186.2.2])⟩, ⟨[17, 6], [], [], Fct.row 188 [184] 29 91 R91 [(r182, x185.2.1, x186.2.2)]⟩, ⟨[0, 18, 21], [], [132], Fct.row 190 [133, 184, 188] 30 91 R91 x189⟩, ⟨[19], [], [], Fct.rel [3, 30] (fun l => ∀ (A191 : Option Addr) (cA191 : Nat), l.getD 1 undef = sl A191 x189 cA191 → l.getD 0 undef = sl A191 x189 cA191)⟩] z167 d167 (fm1 b167_A129) ?_ ?_
   ·refine sM e167_3 <| sM e167_0 <| sM e167_4 <| sF (fun f => or_index (R := R63) (l := l1) tl23 f.1 f.2.1 (RdO.some_ (RdO.evo rfl hX167 hl1) hx180) hx180) <| sF (fun f => or_field fo63_0 f.1 (Addr.add_zero' _)) <| sFE (fun f hE => or_loadN1 X63 0 to55 f.1 (Addr.add_zero' _).symm (RdO.evo rfl hE (RdO.evo rfl hX167 hl1)) hx180 (fun _ => rfl)) ?_
    refine sc (fun own a wx hf hsl hE => ?_) ?_
    ·obtain ⟨⟨⟨⟨A181, cA181⟩, _, _⟩, f_16, ⟨b_A181, -, -⟩⟩, -⟩ := hf
     exact px (or_call cf37 (args1 f_16) (law01_Ofs_w _ x180.1 A181 cA181 (RdO.zero b_A181) r182 hr182) (post_row (m' := (look0 [(1, 184)])) (.inl (Rep.fl_flat _)) rfl rfl (fun _ => rfl)))
    refine sM e167_0 <| sM e167_4 <| sF (fun f => or_index (R := R63) (l := l1) tl23 f.1 f.2.1 (RdO.some_ (RdO.evo rfl hX167 hl1) hx185) hx185) <| sF (fun f => or_field fo63_1 f.1 rfl) <| sFE (fun f hE => or_loadN1 X63 1 to3 f.1 rfl (RdO.evo rfl hE (RdO.evo rfl hX167 hl1)) hx185 (fun _ => rfl)) <| sM e167_0 <| sM e167_4 <| sF (fun f => or_index (R := R63) (l := l1) tl23 f.1 f.2.1 (RdO.some_ (RdO.evo rfl hX167 hl1) hx186) hx186) <| sF (fun f => or_field fo63_2 f.1 rfl) <| sFE (fun f hE => or_loadN1 X63 2 to3 f.1 rfl (RdO.evo rfl hE (RdO.evo rfl hX167 hl1)) hx186 (fun _ => rfl)) ?_
    refine sc (fun own a wx hf hsl hE => ?_) ?_
    ·obtain ⟨⟨⟨A183, cA183⟩, (f_17 : a.eval (.tmp 17) = sl A183 r182 cA183), b_A183⟩, ⟨⟨_, _, _⟩, f_22, ⟨-, -, -⟩⟩, ⟨⟨_, _, _⟩, f_27, ⟨-, -, -⟩⟩, -⟩ := hf
     exact px (or_mono (f := Fct.val 28 (.agg #[sl A183 r182 cA183, Zi x185.2.1, Zi x186.2.2])) (ok3 f_17 f_22 f_27) (fun own' a' w' v' hp h => fun _ _ h0' => by cases (f_17.symm.trans ((hp.2 17 (by decide)).symm.trans h0')); exact h))
    refine sc (fun own a wx hf hsl hE => ?_) ?_
    ·obtain ⟨(q_28 : ∀ (A183 : Option Addr) (cA183 : Nat), a.eval (.tmp 17) = sl A183 r182 cA183 → a.eval (.tmp 28) = .agg #[sl A183 r182 cA183, Zi x185.2.1, Zi x186.2.2]), ⟨⟨A183, cA183⟩, f_17, b_A183⟩, -⟩ := hf
     have f_28 := q_28 _ _ f_17
     exact px (or_litN (R := R91) (lab := 188) (L := [184]) (e := 91) (cs := #[sl A183 r182 cA183, Zi x185.2.1, Zi x186.2.2]) (l := [(r182, x185.2.1, x186.2.2)]) (n := 1) [(28, .agg #[sl A183 r182 cA183, Zi x185.2.1, Zi x186.2.2])] rfl rfl ⟨f_28, trivial⟩ (by kernel_rfl) rfl (by decide) ⟨(Ex.iff X91).2 ⟨((A183, cA183), (), ()), rfl, ⟨(RwO.rd b_A183), trivial, trivial⟩⟩, rfl⟩ rfl)
    refine sc (fun own a wx hf hsl hE => ?_) ?_
    ·obtain ⟨f_11, ⟨⟨A187, cA187⟩, f_29, b_A187⟩, b_A129, -⟩ := hf
     exact px (or_append (R := R91) (lab := 132) (lab2 := 190) (L := [133]) (L3 := [133, 184, 188]) tp40 f_11 b_A129 (by decide) f_29 (RwO.rd b_A187) hx189 (by decide) (by decide) (mem_of rfl) (.inr ⟨rfl, rfl, by decide, by decide⟩))
    refine sc (fun own a wx hf hsl hE => ?_) ?_
    ·obtain ⟨⟨⟨A191, cA191⟩, (f_30 : a.eval (.tmp 30) = sl A191 x189 cA191), b_A191⟩, -⟩ := hf
     exact px (or_mono (f := Fct.val 3 (sl A191 x189 cA191)) (or_assign f_30) (fun own' a' w' v' hp h => fun _ _ h0' => by cases (f_30.symm.trans ((hp.2 30 (by decide)).symm.trans h0')); exact h))
    exact steps_nil
   intro o192 a192 w192 d192 z192 hk192 hf192 hE192
   obtain ⟨e192_0, e192_4⟩ := kt2 hk192 e167_0 e167_4
   obtain ⟨⟨⟨A191, cA191⟩, (f_30 : a192.eval (.tmp 30) = sl A191 x189 cA191), (b192_A191 : RwO o192 190 [133, 184, 188] w192 91 R91 A191 cA191 x189)⟩, (q_3 : ∀ (A191 : Option Addr) (cA191 : Nat), a192.eval (.tmp 30) = sl A191 x189 cA191 → a192.eval (.tmp 3) = sl A191 x189 cA191), -⟩ := hf192 [19, 20] rfl
   have e192_3 := q_3 _ _ f_30
   have hX192 := es_ hX167 hE192
   refine hn170 _ _ ?_
   refine hn169 _ _ ?_
   refine rq 32 o192 (bz 3) [dv [] [4] 9 (Zi i134), dv [0] [] 10 (Zi (ad i134 1)), dv [1] [] 4 (Zi (ad i134 1))] z192 d192 ?_ ?_
   ·exact sM e192_4 <| sF (fun f => or_add f.1 rfl rfl) <| sA <| steps_nil
   intro o193 a193 w193 d193 z193 hk193 hf193 hE193
   obtain ⟨e193_0, e193_3⟩ := kt2 hk193 e192_0 e192_3
   have e193_4 := gv (hf193 [2] rfl) rfl
   have hX193 := es_ hX192 hE193
   have b193_A191 := re_ hE193 b192_A191
   exact hn164 _ _ _ hs ⟨(rl [(184, 133), (188, 133), (190, 132)] o193), A191, cA191, d193, z193, e193_0, e193_3, e193_4, (Evo.rl_ hX193 (fun _ => Nat.le_refl 0) rfl), (RwO.more (RwO.rl_ b193_A191) (by decide))⟩
  refine fl_exit ?_
  refine hp166 _ _ _ rfl ?_
  replace hs := z164 _ hs
  refine hp164 _ _ _ rfl ?_
  refine hx107 _ _ ?_
  refine hn105 _ _ ?_
  refine rq_seq 32 o167 (bz 2) [dv [] [3] 31 (sl A129 out131 c130), dv [0] [] 2 (sl A129 out131 c130)] z167 d167 ?_ ?_
  ·exact sM e167_3 <| sA <| steps_nil
  intro o194 a194 w194 d194 z194 hk194 hf194 hE194
  have e194_2 := gv (hf194 [1] rfl) rfl
  have hX194 := es_ hX167 hE194
  have b194_A129 := re_ hE194 b167_A129
  refine fl_ret ?_
  obtain rfl := (osome hs).symm
  exact hret _ _ _ _ (.inl rfl) d194 (results1_ rfl (RVal.tmp_ e194_2)) ⟨(rl [(132, 1), (133, 2)] o194), (A129, c130), rfl, (Evo.rl_ hX194 (fun _ => Nat.le_refl 0) rfl), (RwO.rl_ b194_A129)⟩
theorem ref01_May_w (w : World) (p1 : Int × Int) (r : Bool) (hs : ref01_May p1 = some r) :
  Calls Try.prog 40 #[P2 p1] w fun e w' => ∃ own' : Own, e = .returned (.bool r) ∧ Evo [] (fun _ => 0) own' w w' := by
 refine fl_enter (n := 21) rfl rfl rfl (Nat.le_of_ble_eq_true rfl) ?_
 intro a0 Q d0 z0 harg hret
 have ha0 := harg 0 _ rfl
 clear harg
 have hE0 : Evo [] (fun _ => 0) (fun _ => 0) w w := Evo.refl _ _ _
 refine rq_seq 21 (fun _ => 0) [0, 0] [⟨[], [0], [], Fct.blk 18 1 (fun g => pt g 0) 44 #[Zi p1.1, Zi p1.2]⟩, dv [] [] 2 (.bool false)] z0 d0 ?_ ?_
 ·exact sS (fun s => nw1 (s.1.trans ha0)) <| sO (or_assign rfl) <| steps_nil
 intro o19 a19 w19 d19 z19 hk19 hf19 hE19
 obtain ⟨⟨g17, (e19_1 : a19.eval (.tmp 1) = pt g17 0), (b19_g17 : BlkO o19 18 w19 g17 44 #[Zi p1.1, Zi p1.2])⟩, -⟩ := hf19 [0] rfl
 have hX19 := es_ hE0 hE19
 obtain ⟨x20, hx20, hs⟩ := obind hs
 obtain ⟨x21, hx21, hs⟩ := obind hs
 refine rq_seq 21 o19 (bz 19) [dv [] [1] 3 (pt g17 0), dv [0] [] 4 (Zi p1.1), dv [1] [] 5 (.bool (decide ((-16777216) ≤ p1.1))), dv [2] [] 6 (.bool (decide ((-16777216) ≤ p1.1))), dc [3] [1] (decide ((-16777216) ≤ p1.1)) 7 (pt g17 0), dc [3, 4] [] (decide ((-16777216) ≤ p1.1)) 8 (Zi p1.1), dc [3, 5] [] (decide ((-16777216) ≤ p1.1)) 9 (.bool (decide (p1.1 ≤ 16777216))), dv [3, 6] [] 10 (.bool x20), dv [7] [] 11 (.bool x20), dc [8] [1] x20 12 (pt g17 1), dc [8, 9] [] x20 13 (Zi p1.2), dc [8, 10] [] x20 14 (.bool (decide ((-16777216) ≤ p1.2))), dv [8, 11] [] 15 (.bool x21), dv [12] [] 16 (.bool x21), dc [13] [1] x21 17 (pt g17 1), dc [13, 14] [] x21 18 (Zi p1.2), dc [13, 15] [] x21 19 (.bool (decide (p1.2 ≤ 16777216))), dv [13, 16] [] 20 (.bool (x21 && (decide (p1.2 ≤ 16777216)))), dv [17] [] 2 (.bool (x21 && (decide (p1.2 ≤ 16777216))))] z19 d19 ?_ ?_
 ·exact sS (fun s => or_field fo44_0 (s.1.trans e19_1) (by rfl)) <| sG to3 b19_g17 <| sF (fun f => or_geq f.1 rfl rfl) <| sV <| cT (fun _ s _ _ => or_field fo44_0 (s.1.trans e19_1) (by rfl)) <| cT (fun f _ hE hg => ld1 to3 (f.2.1.1 hg) (be_ hE b19_g17)) <| cT (fun f _ _ hg => or_leq (f.2.1.1 hg) rfl rfl) <| sF (fun f => or_and f.1 (fun hx => f.2.1.1 hx) rfl (osome hx20).symm) <| sV <| cT (fun _ s _ _ => or_field fo44_1 (s.1.trans e19_1) (by rfl)) <| cT (fun f _ hE hg => ld1 to3 (f.2.1.1 hg) (be_ hE b19_g17)) <| cT (fun f _ _ hg => or_geq (f.2.1.1 hg) rfl rfl) <| sF (fun f => or_and f.1 (fun hx => f.2.1.1 hx) rfl (osome hx21).symm) <| sV <| cT (fun _ s _ _ => or_field fo44_1 (s.1.trans e19_1) (by rfl)) <| cT (fun f _ hE hg => ld1 to3 (f.2.1.1 hg) (be_ hE b19_g17)) <| cT (fun f _ _ hg => or_leq (f.2.1.1 hg) rfl rfl) <| sF (fun f => or_and f.1 (fun hx => f.2.1.1 hx) rfl rfl) <| sA <| steps_nil
 intro o22 a22 w22 d22 z22 hk22 hf22 hE22
 have e22_2 := gv (hf22 [18] rfl) rfl
 have hX22 := es_ hX19 hE22
 refine fl_ret ?_
 obtain rfl := osome hs
 exact hret _ _ _ _ (.inl rfl) d22 (results1_ rfl (RVal.tmp_ e22_2)) ⟨o22, rfl, hX22⟩
theorem ref01_All_w (w : World) (l1 : List (Int × Int)) (Al1 : Option Addr) (cl1 : Nat) (hl1 : RdO (fun _ => 0) [0] w R44 Al1 cl1 l1) (r : Bool) (hs : ref01_All l1 = some r) :
  Calls Try.prog 38 #[sl Al1 l1 cl1] w fun e w' => ∃ own' : Own, e = .returned (.bool r) ∧ Evo [] (fun _ => 0) own' w w' := by
 refine fl_enter (n := 16) rfl rfl rfl (Nat.le_of_ble_eq_true rfl) ?_
 intro a0 Q d0 z0 harg hret
 have ha0 := harg 0 _ rfl
 clear harg
 have hE0 : Evo [] (fun _ => 0) (fun _ => 0) w w := Evo.refl _ _ _
 refine rq_seq 16 (fun _ => 0) (bz 1) [dv [] [] 2 (.bool false)] z0 d0 ?_ ?_
 ·exact sO (or_assign rfl) <| steps_nil
 intro o54 a54 w54 d54 z54 hk54 hf54 hE54
 have e54_0 := kt hk54 ha0
 have hX54 := es_ hE0 hE54
 refine fl_seq (fun Q55 hn55 hp55 => ?_)
 refine rq_seq 16 o54 (bz 1) [dv [] [] 3 (Zi 0)] z54 d54 ?_ ?_
 ·exact sO (or_assign rfl) <| steps_nil
 intro o56 a56 w56 d56 z56 hk56 hf56 hE56
 have e56_0 := kt hk56 e54_0
 have e56_3 := gv (hf56 [0] rfl) rfl
 have hX56 := es_ hX54 hE56
 refine fl_block (fun Q57 hn57 hx57 hp57 => ?_)
 refine fl_loop (body := (fun s => ref01_All_b1 l1 s)) (z := r) (show loopO _ _ = _ from hs) (fun (i70 : Int) a wx => ∃ (ox : Own), a.defers = [] ∧ a.tmps.size = 16 ∧ a.eval (.tmp 0) = sl Al1 l1 cl1 ∧ a.eval (.tmp 3) = Zi i70 ∧ Evo [] (fun _ => 0) ox w wx) ?_ ?_
 ·exact ⟨o56, d56, z56, e56_0, e56_3, hX56⟩
 ·rintro i70 zz83 a83 w83 ⟨o83, d84, z84, e84_0, e84_3, hE84⟩ hs Q83 hn83 hp83 z83
  have hs : ref01_All_b1 l1 i70 = some zz83 := hs
  refine fl_seq (fun Q85 hn85 hp85 => ?_)
  refine rq_seq 16 o83 [0, 0, 2, 7] [dv [] [3] 4 (Zi i70), dv [] [0] 5 (sl Al1 l1 cl1), dv [1] [] 6 (Zi (l1.length : Int)), dv [0, 2] [] 7 (.bool (decide (i70 < (l1.length : Int))))] z84 d84 ?_ ?_
  ·exact sM e84_3 <| sM e84_0 <| sF (fun f => or_len tu35 f.1 rfl) <| sF (fun f => or_lss f.1 f.2.1 rfl) <| steps_nil
  intro o86 a86 w86 d86 z86 hk86 hf86 hE86
  obtain ⟨e86_0, e86_3⟩ := kt2 hk86 e84_0 e84_3
  have e86_7 := gv (hf86 [3] rfl) rfl
  have hX86 := es_ hE84 hE86
  refine fl_cond e86_7 hs (fun c87 hs => ?_) (fun c87 hs => ?_)
  ·refine fl_skip ?_
   refine hn85 _ _ ?_
   refine fl_seq (fun Q88 hn88 hp88 => ?_)
   refine fl_block (fun Q89 hn89 hx89 hp89 => ?_)
   obtain ⟨x90, hx90, hs⟩ := obind hs
   obtain ⟨r91, hr91, hs⟩ := obind hs
   refine rq_seq 16 o86 [0, 0, 3, 7, 15, 31] [dv [] [0] 10 (sl Al1 l1 cl1), dv [] [3] 11 (Zi i70), dv [0, 1] [] 12 (.pointer (some ((adr Al1).add ((i70 : Int).toNat * R44.s)))), dv [2] [] 13 (P2 x90), dv [3] [] 14 (.bool r91), dv [4] [] 15 (.bool (!r91))] z86 d86 ?_ ?_
   ·exact sM e86_0 <| sM e86_3 <| sF (fun f => or_index (R := R44) (l := l1) tl35 f.1 f.2.1 (RdO.some_ (RdO.evo rfl hX86 hl1) hx90) hx90) <| sFE (fun f hE => or_load (l := E44.f x90) ta44 f.1 (RdO.cells (F := E44) (RdO.evo rfl hE (RdO.evo rfl hX86 hl1)) hx90) rfl) <| sF (fun f => or_call cf40 (args1 f.1) (ref01_May_w _ x90  r91 hr91) post_val) <| sF (fun f => or_not f.1 rfl) <| steps_nil
   intro o92 a92 w92 d92 z92 hk92 hf92 hE92
   obtain ⟨e92_0, e92_3⟩ := kt2 hk92 e86_0 e86_3
   have e92_15 := gv (hf92 [5] rfl) rfl
   have hX92 := es_ hX86 hE92
   refine fl_cond e92_15 hs (fun c93 hs => ?_) (fun c93 hs => ?_)
   ·refine rq_seq 16 o92 (bz 1) [dv [] [] 2 (.bool false)] z92 d92 ?_ ?_
    ·exact sO (or_assign rfl) <| steps_nil
    intro o94 a94 w94 d94 z94 hk94 hf94 hE94
    have e94_2 := gv (hf94 [0] rfl) rfl
    have hX94 := es_ hX92 hE94
    refine fl_ret ?_
    refine hp89 _ _ _ rfl ?_
    refine hp88 _ _ _ rfl ?_
    replace hs := z83 _ hs
    refine hp83 _ _ _ rfl ?_
    refine hp57 _ _ _ rfl ?_
    refine hp55 _ _ _ rfl ?_
    obtain rfl := osome hs
    exact hret _ _ _ _ (.inl rfl) d94 (results1_ rfl (RVal.tmp_ e94_2)) ⟨o94, rfl, hX94⟩
   refine fl_skip ?_
   refine hn89 _ _ ?_
   refine hn88 _ _ ?_
   refine rq 16 o92 (bz 3) [dv [] [3] 8 (Zi i70), dv [0] [] 9 (Zi (ad i70 1)), dv [1] [] 3 (Zi (ad i70 1))] z92 d92 ?_ ?_
   ·exact sM e92_3 <| sF (fun f => or_add f.1 rfl rfl) <| sA <| steps_nil
   intro o95 a95 w95 d95 z95 hk95 hf95 hE95
   have e95_0 := kt hk95 e92_0
   have e95_3 := gv (hf95 [2] rfl) rfl
   have hX95 := es_ hX92 hE95
   exact hn83 _ _ _ hs ⟨o95, d95, z95, e95_0, e95_3, hX95⟩
  refine fl_exit ?_
  refine hp85 _ _ _ rfl ?_
  replace hs := z83 _ hs
  refine hp83 _ _ _ rfl ?_
  refine hx57 _ _ ?_
  refine hn55 _ _ ?_
  refine rq_seq 16 o86 (bz 1) [dv [] [] 2 (.bool true)] z86 d86 ?_ ?_
  ·exact sO (or_assign rfl) <| steps_nil
  intro o96 a96 w96 d96 z96 hk96 hf96 hE96
  have e96_2 := gv (hf96 [0] rfl) rfl
  have hX96 := es_ hX86 hE96
  refine fl_ret ?_
  obtain rfl := osome hs
  exact hret _ _ _ _ (.inl rfl) d96 (results1_ rfl (RVal.tmp_ e96_2)) ⟨o96, rfl, hX96⟩
theorem ref04_Apart_w (w : World) (l1 : List Int) (Al1 : Option Addr) (cl1 : Nat) (x2 : Int) (b3 : Int) (hl1 : RdO (fun _ => 0) [0] w R3 Al1 cl1 l1) (r : Bool) (hs : ref04_Apart l1 x2 b3 = some r) :
  Calls Try.prog 39 #[sl Al1 l1 cl1, Zi x2, Zi b3] w fun e w' => ∃ own' : Own, e = .returned (.bool r) ∧ Evo [] (fun _ => 0) own' w w' := by
 refine fl_enter (n := 44) rfl rfl rfl (Nat.le_of_ble_eq_true rfl) ?_
 intro a0 Q d0 z0 harg hret
 have ha0 := harg 0 _ rfl
 have ha1 := harg 1 _ rfl
 have ha2 := harg 2 _ rfl
 clear harg
 have hE0 : Evo [] (fun _ => 0) (fun _ => 0) w w := Evo.refl _ _ _
 refine rq_seq 44 (fun _ => 0) (bz 1) [dv [] [] 6 (.bool false)] z0 d0 ?_ ?_
 ·exact sO (or_assign rfl) <| steps_nil
 intro o66 a66 w66 d66 z66 hk66 hf66 hE66
 obtain ⟨e66_0, e66_1, e66_2⟩ := kt3 hk66 ha0 ha1 ha2
 have hX66 := es_ hE0 hE66
 refine fl_seq (fun Q67 hn67 hp67 => ?_)
 refine rq_seq 44 o66 (bz 1) [dv [] [] 7 (Zi 0)] z66 d66 ?_ ?_
 ·exact sO (or_assign rfl) <| steps_nil
 intro o68 a68 w68 d68 z68 hk68 hf68 hE68
 obtain ⟨e68_0, e68_1, e68_2⟩ := kt3 hk68 e66_0 e66_1 e66_2
 have e68_7 := gv (hf68 [0] rfl) rfl
 have hX68 := es_ hX66 hE68
 refine fl_block (fun Q69 hn69 hx69 hp69 => ?_)
 refine fl_loop (body := (fun s => ref04_Apart_b1 l1 x2 b3 s)) (z := r) (show loopO _ _ = _ from hs) (fun (i86 : Int) a wx => ∃ (ox : Own), a.defers = [] ∧ a.tmps.size = 44 ∧ a.eval (.tmp 0) = sl Al1 l1 cl1 ∧ a.eval (.tmp 1) = Zi x2 ∧ a.eval (.tmp 2) = Zi b3 ∧ a.eval (.tmp 7) = Zi i86 ∧ Evo [] (fun _ => 0) ox w wx) ?_ ?_
 ·exact ⟨o68, d68, z68, e68_0, e68_1, e68_2, e68_7, hX68⟩
 ·rintro i86 zz103 a103 w103 ⟨o103, d104, z104, e104_0, e104_1, e104_2, e104_7, hE104⟩ hs Q103 hn103 hp103 z103
  have hs : ref04_Apart_b1 l1 x2 b3 i86 = some zz103 := hs
  refine fl_seq (fun Q105 hn105 hp105 => ?_)
  refine rq_seq 44 o103 [0, 0, 2, 7] [dv [] [7] 8 (Zi i86), dv [] [0] 9 (sl Al1 l1 cl1), dv [1] [] 10 (Zi (l1.length : Int)), dv [0, 2] [] 11 (.bool (decide (i86 < (l1.length : Int))))] z104 d104 ?_ ?_
  ·exact sM e104_7 <| sM e104_0 <| sF (fun f => or_len tu22 f.1 rfl) <| sF (fun f => or_lss f.1 f.2.1 rfl) <| steps_nil
  intro o106 a106 w106 d106 z106 hk106 hf106 hE106
  obtain ⟨e106_0, e106_1, e106_2, e106_7⟩ := kt4 hk106 e104_0 e104_1 e104_2 e104_7
  have e106_11 := gv (hf106 [3] rfl) rfl
  have hX106 := es_ hE104 hE106
  refine fl_cond e106_11 hs (fun c107 hs => ?_) (fun c107 hs => ?_)
  ·refine fl_skip ?_
   refine hn105 _ _ ?_
   refine fl_seq (fun Q108 hn108 hp108 => ?_)
   refine fl_block (fun Q109 hn109 hx109 hp109 => ?_)
   obtain ⟨x110, hx110, hs⟩ := obind hs
   obtain ⟨x111, hx111, hs⟩ := obind hs
   obtain ⟨x112, hx112, hs⟩ := obind hs
   obtain ⟨x113, hx113, hs⟩ := obind hs
   obtain ⟨x114, hx114, hs⟩ := obind hs
   obtain ⟨x115, hx115, hs⟩ := obind hs
   refine rq_seq 44 o106 [0, 0, 0, 6, 14, 31, 63, 127, 127, 511, 1023, 127, 4095, 8191, 16383, 32767, 32767, 32767, 229375, 491519, 1048575, 2097151, 4194303, 4194303, 16777215, 33554431, 4194303, 134217727, 268435455, 536870911] [dv [] [1] 14 (Zi x2), dv [] [0] 15 (sl Al1 l1 cl1), dv [] [7] 16 (Zi i86), dv [1, 2] [] 17 (.pointer (some ((adr Al1).add ((i86 : Int).toNat * R3.s)))), dv [3] [] 18 (Zi x110), dv [0, 4] [] 19 (.bool (decide (x2 < x110))), dv [5] [] 20 (.bool (decide (x2 < x110))), dc [6] [0] (decide (x2 < x110)) 21 (sl Al1 l1 cl1), dc [6] [7] (decide (x2 < x110)) 22 (Zi i86), dc [6, 7, 8] [] (decide (x2 < x110)) 23 (.pointer (some ((adr Al1).add ((i86 : Int).toNat * R3.s)))), dc [6, 9] [] (decide (x2 < x110)) 24 (Zi x111), dc [6] [2] (decide (x2 < x110)) 25 (Zi b3), dc [6, 10, 11] [] (decide (x2 < x110)) 26 (.bool (decide (x111 < b3))), dv [6, 12] [] 27 (.bool x112), dv [13] [] 28 (.bool x112), dc [14] [2] (!x112) 29 (Zi b3), dc [14] [0] (!x112) 30 (sl Al1 l1 cl1), dc [14] [7] (!x112) 31 (Zi i86), dc [14, 16, 17] [] (!x112) 32 (.pointer (some ((adr Al1).add ((i86 : Int).toNat * R3.s)))), dc [14, 18] [] (!x112) 33 (Zi x113), dc [14, 15, 19] [] (!x112) 34 (.bool (decide (b3 < x113))), dc [14, 20] [] (!x112) 35 (.bool (decide (b3 < x113))), dc [21] [0] ((!x112) && (decide (b3 < x113))) 36 (sl Al1 l1 cl1), dc [21] [7] ((!x112) && (decide (b3 < x113))) 37 (Zi i86), dc [21, 22, 23] [] ((!x112) && (decide (b3 < x113))) 38 (.pointer (some ((adr Al1).add ((i86 : Int).toNat * R3.s)))), dc [21, 24] [] ((!x112) && (decide (b3 < x113))) 39 (Zi x114), dc [21] [1] ((!x112) && (decide (b3 < x113))) 40 (Zi x2), dc [21, 25, 26] [] ((!x112) && (decide (b3 < x113))) 41 (.bool (decide (x114 < x2))), dc [14, 21, 27] [] (!x112) 42 (.bool x115), dv [14, 28] [] 43 (.bool (x112 || x115))] z106 d106 ?_ ?_
   ·exact sM e106_1 <| sM e106_0 <| sM e106_7 <| sF (fun f => or_index (R := R3) (l := l1) tl22 f.1 f.2.1 (RdO.some_ (RdO.evo rfl hX106 hl1) hx110) hx110) <| sFE (fun f hE => or_load1 to3 f.1 (CellsAt.zero (RdO.cells (F := E3) (RdO.evo rfl hE (RdO.evo rfl hX106 hl1)) hx110) rfl)) <| sF (fun f => or_lss f.1 f.2.1 rfl) <| sV <| cT (fun _ s _ _ => or_move (s.1.trans e106_0)) <| cT (fun _ s _ _ => or_move (s.1.trans e106_7)) <| cT (fun f _ _ hg => or_index (R := R3) (l := l1) tl22 (f.2.1.1 hg) (f.2.2.1.1 hg) (RdO.some_ (RdO.evo rfl hX106 hl1) (gd_t hx111 hg)) (gd_t hx111 hg)) <| cT (fun f _ hE hg => or_load1 to3 (f.2.1.1 hg) (CellsAt.zero (RdO.cells (F := E3) (RdO.evo rfl hE (RdO.evo rfl hX106 hl1)) (gd_t hx111 hg)) rfl)) <| cT (fun _ s _ _ => or_move (s.1.trans e106_2)) <| cT (fun f _ _ hg => or_lss (f.2.1.1 hg) (f.2.2.1.1 hg) rfl) <| sF (fun f => or_and f.1 (fun hx => f.2.1.1 hx) rfl (osome hx112).symm) <| sV <| cF (fun _ s _ _ => or_move (s.1.trans e106_2)) <| cF (fun _ s _ _ => or_move (s.1.trans e106_0)) <| cF (fun _ s _ _ => or_move (s.1.trans e106_7)) <| cF (fun f _ _ hg => or_index (R := R3) (l := l1) tl22 (f.2.1.1 hg) (f.2.2.1.1 hg) (RdO.some_ (RdO.evo rfl hX106 hl1) (gd_t hx113 hg)) (gd_t hx113 hg)) <| cF (fun f _ hE hg => or_load1 to3 (f.2.1.1 hg) (CellsAt.zero (RdO.cells (F := E3) (RdO.evo rfl hE (RdO.evo rfl hX106 hl1)) (gd_t hx113 hg)) rfl)) <| cF (fun f _ _ hg => or_lss (f.2.1.1 hg) (f.2.2.1.1 hg) rfl) <| cF (fun f _ _ hg => or_move (f.2.1.1 hg)) <| cTc (fun _ s _ _ => or_move (s.1.trans e106_0)) <| cTc (fun _ s _ _ => or_move (s.1.trans e106_7)) <| cTc (fun f _ _ hg => or_index (R := R3) (l := l1) tl22 (f.2.1.1 hg) (f.2.2.1.1 hg) (RdO.some_ (RdO.evo rfl hX106 hl1) (gd_t hx114 hg)) (gd_t hx114 hg)) <| cTc (fun f _ hE hg => or_load1 to3 (f.2.1.1 hg) (CellsAt.zero (RdO.cells (F := E3) (RdO.evo rfl hE (RdO.evo rfl hX106 hl1)) (gd_t hx114 hg)) rfl)) <| cTc (fun _ s _ _ => or_move (s.1.trans e106_1)) <| cTc (fun f _ _ hg => or_lss (f.2.1.1 hg) (f.2.2.1.1 hg) rfl) <| cF (fun f _ _ hg => or_and (f.2.1.1 hg) (fun hx => f.2.2.1.1 (gI hg hx)) rfl (osome hx115).symm) <| sF (fun f => or_or f.1 rfl (fun hx => f.2.1.1 hx) rfl) <| steps_nil
   intro o116 a116 w116 d116 z116 hk116 hf116 hE116
   obtain ⟨e116_0, e116_1, e116_2, e116_7⟩ := kt4 hk116 e106_0 e106_1 e106_2 e106_7
   have e116_43 := gv (hf116 [29] rfl) rfl
   have hX116 := es_ hX106 hE116
   refine fl_cond e116_43 hs (fun c117 hs => ?_) (fun c117 hs => ?_)
   ·refine rq_seq 44 o116 (bz 1) [dv [] [] 6 (.bool true)] z116 d116 ?_ ?_
    ·exact sO (or_assign rfl) <| steps_nil
    intro o118 a118 w118 d118 z118 hk118 hf118 hE118
    have e118_6 := gv (hf118 [0] rfl) rfl
    have hX118 := es_ hX116 hE118
    refine fl_ret ?_
    refine hp109 _ _ _ rfl ?_
    refine hp108 _ _ _ rfl ?_
    replace hs := z103 _ hs
    refine hp103 _ _ _ rfl ?_
    refine hp69 _ _ _ rfl ?_
    refine hp67 _ _ _ rfl ?_
    obtain rfl := osome hs
    exact hret _ _ _ _ (.inl rfl) d118 (results1_ rfl (RVal.tmp_ e118_6)) ⟨o118, rfl, hX118⟩
   refine fl_skip ?_
   refine hn109 _ _ ?_
   refine hn108 _ _ ?_
   refine rq 44 o116 (bz 3) [dv [] [7] 12 (Zi i86), dv [0] [] 13 (Zi (ad i86 1)), dv [1] [] 7 (Zi (ad i86 1))] z116 d116 ?_ ?_
   ·exact sM e116_7 <| sF (fun f => or_add f.1 rfl rfl) <| sA <| steps_nil
   intro o119 a119 w119 d119 z119 hk119 hf119 hE119
   obtain ⟨e119_0, e119_1, e119_2⟩ := kt3 hk119 e116_0 e116_1 e116_2
   have e119_7 := gv (hf119 [2] rfl) rfl
   have hX119 := es_ hX116 hE119
   exact hn103 _ _ _ hs ⟨o119, d119, z119, e119_0, e119_1, e119_2, e119_7, hX119⟩
  refine fl_exit ?_
  refine hp105 _ _ _ rfl ?_
  replace hs := z103 _ hs
  refine hp103 _ _ _ rfl ?_
  refine hx69 _ _ ?_
  refine hn67 _ _ ?_
  refine rq_seq 44 o106 (bz 1) [dv [] [] 6 (.bool false)] z106 d106 ?_ ?_
  ·exact sO (or_assign rfl) <| steps_nil
  intro o120 a120 w120 d120 z120 hk120 hf120 hE120
  have e120_6 := gv (hf120 [0] rfl) rfl
  have hX120 := es_ hX106 hE120
  refine fl_ret ?_
  obtain rfl := osome hs
  exact hret _ _ _ _ (.inl rfl) d120 (results1_ rfl (RVal.tmp_ e120_6)) ⟨o120, rfl, hX120⟩
theorem ref01_Cross_w (w : World) (x1 : Int × Int) (b2 : Int × Int) (c3 : Int × Int) (r : Int) (hs : ref01_Cross x1 b2 c3 = some r) :
  Calls Try.prog 61 #[P2 x1, P2 b2, P2 c3] w fun e w' => ∃ own' : Own, e = .returned (Zi r) ∧ Evo [] (fun _ => 0) own' w w' := by
 refine fl_enter (n := 42) rfl rfl rfl (Nat.le_of_ble_eq_true rfl) ?_
 intro a0 Q d0 z0 harg hret
 have ha0 := harg 0 _ rfl
 have ha1 := harg 1 _ rfl
 have ha2 := harg 2 _ rfl
 clear harg
 have hE0 : Evo [] (fun _ => 0) (fun _ => 0) w w := Evo.refl _ _ _
 refine rq_seq 42 (fun _ => 0) [0, 0, 0, 0] [⟨[], [0], [], Fct.blk 22 3 (fun g => pt g 0) 44 #[Zi x1.1, Zi x1.2]⟩, ⟨[], [1], [], Fct.blk 24 4 (fun g => pt g 0) 44 #[Zi b2.1, Zi b2.2]⟩, ⟨[], [2], [], Fct.blk 26 5 (fun g => pt g 0) 44 #[Zi c3.1, Zi c3.2]⟩, dv [] [] 6 (Zi 0)] z0 d0 ?_ ?_
 ·exact sS (fun s => nw1 (s.1.trans ha0)) <| sS (fun s => nw1 (s.1.trans ha1)) <| sS (fun s => nw1 (s.1.trans ha2)) <| sO (or_assign rfl) <| steps_nil
 intro o27 a27 w27 d27 z27 hk27 hf27 hE27
 obtain ⟨⟨g21, (e27_3 : a27.eval (.tmp 3) = pt g21 0), (b27_g21 : BlkO o27 22 w27 g21 44 #[Zi x1.1, Zi x1.2])⟩, ⟨g23, (e27_4 : a27.eval (.tmp 4) = pt g23 0), (b27_g23 : BlkO o27 24 w27 g23 44 #[Zi b2.1, Zi b2.2])⟩, ⟨g25, (e27_5 : a27.eval (.tmp 5) = pt g25 0), (b27_g25 : BlkO o27 26 w27 g25 44 #[Zi c3.1, Zi c3.2])⟩, -⟩ := hf27 [0, 1, 2] rfl
 have hX27 := es_ hE0 hE27
 obtain ⟨x28, hx28, hs⟩ := obind hs
 obtain ⟨x29, hx29, hs⟩ := obind hs
 refine rq_seq 42 o27 [0, 1, 0, 4, 15, 0, 32, 0, 128, 480, 1023, 0, 2048, 0, 8192, 30720, 65535, 0, 131072, 0, 524288, 1966080, 4194303, 0, 8388608, 0, 33554432, 125829120, 268435455, 0, 536870912, 0, 2147483648, 8053063680, 17179869183, 34359738367] [dv [] [3] 7 (pt g21 0), dv [0] [] 8 (Zi x1.1), dv [] [4] 9 (pt g23 1), dv [2] [] 10 (Zi b2.2), dv [1, 3] [] 11 (Zi (ml x1.1 b2.2)), dv [] [4] 12 (pt g23 0), dv [5] [] 13 (Zi b2.1), dv [] [3] 14 (pt g21 1), dv [7] [] 15 (Zi x1.2), dv [6, 8] [] 16 (Zi (ml b2.1 x1.2)), dv [4, 9] [] 17 (Zi (sb (ml x1.1 b2.2) (ml b2.1 x1.2))), dv [] [4] 18 (pt g23 0), dv [11] [] 19 (Zi b2.1), dv [] [5] 20 (pt g25 1), dv [13] [] 21 (Zi c3.2), dv [12, 14] [] 22 (Zi (ml b2.1 c3.2)), dv [10, 15] [] 23 (Zi x28), dv [] [5] 24 (pt g25 0), dv [17] [] 25 (Zi c3.1), dv [] [4] 26 (pt g23 1), dv [19] [] 27 (Zi b2.2), dv [18, 20] [] 28 (Zi (ml c3.1 b2.2)), dv [16, 21] [] 29 (Zi (sb x28 (ml c3.1 b2.2))), dv [] [5] 30 (pt g25 0), dv [23] [] 31 (Zi c3.1), dv [] [3] 32 (pt g21 1), dv [25] [] 33 (Zi x1.2), dv [24, 26] [] 34 (Zi (ml c3.1 x1.2)), dv [22, 27] [] 35 (Zi x29), dv [] [3] 36 (pt g21 0), dv [29] [] 37 (Zi x1.1), dv [] [5] 38 (pt g25 1), dv [31] [] 39 (Zi c3.2), dv [30, 32] [] 40 (Zi (ml x1.1 c3.2)), dv [28, 33] [] 41 (Zi (sb x29 (ml x1.1 c3.2))), dv [34] [] 6 (Zi (sb x29 (ml x1.1 c3.2)))] z27 d27 ?_ ?_
 ·exact sS (fun s => or_field fo44_0 (s.1.trans e27_3) (by rfl)) <| sG to3 b27_g21 <| sS (fun s => or_field fo44_1 (s.1.trans e27_4) (by rfl)) <| sG to3 b27_g23 <| sF (fun f => or_mul f.1 f.2.1 rfl) <| sS (fun s => or_field fo44_0 (s.1.trans e27_4) (by rfl)) <| sG to3 b27_g23 <| sS (fun s => or_field fo44_1 (s.1.trans e27_3) (by rfl)) <| sG to3 b27_g21 <| sF (fun f => or_mul f.1 f.2.1 rfl) <| sF (fun f => or_sub f.1 f.2.1 rfl) <| sS (fun s => or_field fo44_0 (s.1.trans e27_4) (by rfl)) <| sG to3 b27_g23 <| sS (fun s => or_field fo44_1 (s.1.trans e27_5) (by rfl)) <| sG to3 b27_g25 <| sF (fun f => or_mul f.1 f.2.1 rfl) <| sF (fun f => or_add f.1 f.2.1 (osome hx28).symm) <| sS (fun s => or_field fo44_0 (s.1.trans e27_5) (by rfl)) <| sG to3 b27_g25 <| sS (fun s => or_field fo44_1 (s.1.trans e27_4) (by rfl)) <| sG to3 b27_g23 <| sF (fun f => or_mul f.1 f.2.1 rfl) <| sF (fun f => or_sub f.1 f.2.1 rfl) <| sS (fun s => or_field fo44_0 (s.1.trans e27_5) (by rfl)) <| sG to3 b27_g25 <| sS (fun s => or_field fo44_1 (s.1.trans e27_3) (by rfl)) <| sG to3 b27_g21 <| sF (fun f => or_mul f.1 f.2.1 rfl) <| sF (fun f => or_add f.1 f.2.1 (osome hx29).symm) <| sS (fun s => or_field fo44_0 (s.1.trans e27_3) (by rfl)) <| sG to3 b27_g21 <| sS (fun s => or_field fo44_1 (s.1.trans e27_5) (by rfl)) <| sG to3 b27_g25 <| sF (fun f => or_mul f.1 f.2.1 rfl) <| sF (fun f => or_sub f.1 f.2.1 rfl) <| sA <| steps_nil
 intro o30 a30 w30 d30 z30 hk30 hf30 hE30
 have e30_6 := gv (hf30 [35] rfl) rfl
 have hX30 := es_ hX27 hE30
 refine fl_ret ?_
 obtain rfl := osome hs
 exact hret _ _ _ _ (.inl rfl) d30 (results1_ rfl (RVal.tmp_ e30_6)) ⟨o30, rfl, hX30⟩
theorem ref01_On_w (w : World) (x1 : Int × Int) (b2 : Int × Int) (p3 : Int × Int) (r : Bool) (hs : ref01_On x1 b2 p3 = some r) :
  Calls Try.prog 59 #[P2 x1, P2 b2, P2 p3] w fun e w' => ∃ own' : Own, e = .returned (.bool r) ∧ Evo [] (fun _ => 0) own' w w' := by
 refine fl_enter (n := 75) rfl rfl rfl (Nat.le_of_ble_eq_true rfl) ?_
 intro a0 Q d0 z0 harg hret
 have ha0 := harg 0 _ rfl
 have ha1 := harg 1 _ rfl
 have ha2 := harg 2 _ rfl
 clear harg
 have hE0 : Evo [] (fun _ => 0) (fun _ => 0) w w := Evo.refl _ _ _
 refine rq_seq 75 (fun _ => 0) [0, 0, 0, 0] [⟨[], [0], [], Fct.blk 30 3 (fun g => pt g 0) 44 #[Zi x1.1, Zi x1.2]⟩, ⟨[], [1], [], Fct.blk 32 4 (fun g => pt g 0) 44 #[Zi b2.1, Zi b2.2]⟩, ⟨[], [2], [], Fct.blk 34 5 (fun g => pt g 0) 44 #[Zi p3.1, Zi p3.2]⟩, dv [] [] 6 (.bool false)] z0 d0 ?_ ?_
 ·exact sS (fun s => nw1 (s.1.trans ha0)) <| sS (fun s => nw1 (s.1.trans ha1)) <| sS (fun s => nw1 (s.1.trans ha2)) <| sO (or_assign rfl) <| steps_nil
 intro o35 a35 w35 d35 z35 hk35 hf35 hE35
 obtain ⟨⟨g29, (e35_3 : a35.eval (.tmp 3) = pt g29 0), (b35_g29 : BlkO o35 30 w35 g29 44 #[Zi x1.1, Zi x1.2])⟩, ⟨g31, (e35_4 : a35.eval (.tmp 4) = pt g31 0), (b35_g31 : BlkO o35 32 w35 g31 44 #[Zi b2.1, Zi b2.2])⟩, ⟨g33, (e35_5 : a35.eval (.tmp 5) = pt g33 0), (b35_g33 : BlkO o35 34 w35 g33 44 #[Zi p3.1, Zi p3.2])⟩, -⟩ := hf35 [0, 1, 2] rfl
 have hX35 := es_ hE0 hE35
 refine fl_seq (fun Q36 hn36 hp36 => ?_)
 refine rq_seq 75 o35 [0, 0, 3] [dv [] [3] 9 (P2 x1), dv [] [4] 10 (P2 b2), dv [0, 1] [] 11 (.bool (decide (x1 = b2)))] z35 d35 ?_ ?_
 ·exact sL ta44 e35_3 b35_g29 <| sL ta44 e35_4 b35_g31 <| sF (fun f => or_eqlA sg44 f.1 f.2.1 (se44 x1.1 x1.2 b2.1 b2.2 _) rfl) <| steps_nil
 intro o37 a37 w37 d37 z37 hk37 hf37 hE37
 obtain ⟨e37_3, e37_4, e37_5⟩ := kt3 hk37 e35_3 e35_4 e35_5
 have e37_11 := gv (hf37 [2] rfl) rfl
 have hX37 := es_ hX35 hE37
 obtain ⟨b37_g29, b37_g31, b37_g33⟩ := be3 hE37 b35_g29 b35_g31 b35_g33
 refine fl_cond e37_11 hs (fun c38 hs => ?_) (fun c38 hs => ?_)
 ·refine rq_seq 75 o37 [0, 0, 3, 7] [dv [] [5] 12 (P2 p3), dv [] [3] 13 (P2 x1), dv [0, 1] [] 14 (.bool (decide (p3 = x1))), dv [2] [] 6 (.bool (decide (p3 = x1)))] z37 d37 ?_ ?_
  ·exact sL ta44 e37_5 b37_g33 <| sL ta44 e37_3 b37_g29 <| sF (fun f => or_eqlA sg44 f.1 f.2.1 (se44 p3.1 p3.2 x1.1 x1.2 _) rfl) <| sA <| steps_nil
  intro o39 a39 w39 d39 z39 hk39 hf39 hE39
  have e39_6 := gv (hf39 [3] rfl) rfl
  have hX39 := es_ hX37 hE39
  refine fl_ret ?_
  refine hp36 _ _ _ rfl ?_
  obtain rfl := osome hs
  exact hret _ _ _ _ (.inl rfl) d39 (results1_ rfl (RVal.tmp_ e39_6)) ⟨o39, rfl, hX39⟩
 refine fl_skip ?_
 refine hn36 _ _ ?_
 obtain ⟨x40, hx40, hs⟩ := obind hs
 refine rq_seq 75 o37 [0, 1, 0, 4, 15, 0, 32, 0, 128, 480, 1023, 0, 2048, 0, 8192, 30720, 0, 65536, 0, 262144, 983040, 2095104, 4194303, 8388607] [dv [] [5] 15 (pt g33 0), dv [0] [] 16 (Zi p3.1), dv [] [3] 17 (pt g29 0), dv [2] [] 18 (Zi x1.1), dv [1, 3] [] 19 (Zi (sb p3.1 x1.1)), dv [] [4] 20 (pt g31 0), dv [5] [] 21 (Zi b2.1), dv [] [3] 22 (pt g29 0), dv [7] [] 23 (Zi x1.1), dv [6, 8] [] 24 (Zi (sb b2.1 x1.1)), dv [4, 9] [] 25 (Zi (ml (sb p3.1 x1.1) (sb b2.1 x1.1))), dv [] [5] 26 (pt g33 1), dv [11] [] 27 (Zi p3.2), dv [] [3] 28 (pt g29 1), dv [13] [] 29 (Zi x1.2), dv [12, 14] [] 30 (Zi (sb p3.2 x1.2)), dv [] [4] 31 (pt g31 1), dv [16] [] 32 (Zi b2.2), dv [] [3] 33 (pt g29 1), dv [18] [] 34 (Zi x1.2), dv [17, 19] [] 35 (Zi (sb b2.2 x1.2)), dv [15, 20] [] 36 (Zi (ml (sb p3.2 x1.2) (sb b2.2 x1.2))), dv [10, 21] [] 37 (Zi x40), dv [22] [] 7 (Zi x40)] z37 d37 ?_ ?_
 ·exact sS (fun s => or_field fo44_0 (s.1.trans e37_5) (by rfl)) <| sG to3 b37_g33 <| sS (fun s => or_field fo44_0 (s.1.trans e37_3) (by rfl)) <| sG to3 b37_g29 <| sF (fun f => or_sub f.1 f.2.1 rfl) <| sS (fun s => or_field fo44_0 (s.1.trans e37_4) (by rfl)) <| sG to3 b37_g31 <| sS (fun s => or_field fo44_0 (s.1.trans e37_3) (by rfl)) <| sG to3 b37_g29 <| sF (fun f => or_sub f.1 f.2.1 rfl) <| sF (fun f => or_mul f.1 f.2.1 rfl) <| sS (fun s => or_field fo44_1 (s.1.trans e37_5) (by rfl)) <| sG to3 b37_g33 <| sS (fun s => or_field fo44_1 (s.1.trans e37_3) (by rfl)) <| sG to3 b37_g29 <| sF (fun f => or_sub f.1 f.2.1 rfl) <| sS (fun s => or_field fo44_1 (s.1.trans e37_4) (by rfl)) <| sG to3 b37_g31 <| sS (fun s => or_field fo44_1 (s.1.trans e37_3) (by rfl)) <| sG to3 b37_g29 <| sF (fun f => or_sub f.1 f.2.1 rfl) <| sF (fun f => or_mul f.1 f.2.1 rfl) <| sF (fun f => or_add f.1 f.2.1 (osome hx40).symm) <| sA <| steps_nil
 intro o41 a41 w41 d41 z41 hk41 hf41 hE41
 obtain ⟨e41_3, e41_4, e41_5⟩ := kt3 hk41 e37_3 e37_4 e37_5
 have e41_7 := gv (hf41 [23] rfl) rfl
 have hX41 := es_ hX37 hE41
 obtain ⟨b41_g29, b41_g31, b41_g33⟩ := be3 hE41 b37_g29 b37_g31 b37_g33
 obtain ⟨x42, hx42, hs⟩ := obind hs
 refine rq_seq 75 o41 [0, 1, 0, 4, 15, 0, 32, 0, 128, 480, 1023, 0, 2048, 0, 8192, 30720, 0, 65536, 0, 262144, 983040, 2095104, 4194303, 8388607] [dv [] [4] 38 (pt g31 0), dv [0] [] 39 (Zi b2.1), dv [] [3] 40 (pt g29 0), dv [2] [] 41 (Zi x1.1), dv [1, 3] [] 42 (Zi (sb b2.1 x1.1)), dv [] [4] 43 (pt g31 0), dv [5] [] 44 (Zi b2.1), dv [] [3] 45 (pt g29 0), dv [7] [] 46 (Zi x1.1), dv [6, 8] [] 47 (Zi (sb b2.1 x1.1)), dv [4, 9] [] 48 (Zi (ml (sb b2.1 x1.1) (sb b2.1 x1.1))), dv [] [4] 49 (pt g31 1), dv [11] [] 50 (Zi b2.2), dv [] [3] 51 (pt g29 1), dv [13] [] 52 (Zi x1.2), dv [12, 14] [] 53 (Zi (sb b2.2 x1.2)), dv [] [4] 54 (pt g31 1), dv [16] [] 55 (Zi b2.2), dv [] [3] 56 (pt g29 1), dv [18] [] 57 (Zi x1.2), dv [17, 19] [] 58 (Zi (sb b2.2 x1.2)), dv [15, 20] [] 59 (Zi (ml (sb b2.2 x1.2) (sb b2.2 x1.2))), dv [10, 21] [] 60 (Zi x42), dv [22] [] 8 (Zi x42)] z41 d41 ?_ ?_
 ·exact sS (fun s => or_field fo44_0 (s.1.trans e41_4) (by rfl)) <| sG to3 b41_g31 <| sS (fun s => or_field fo44_0 (s.1.trans e41_3) (by rfl)) <| sG to3 b41_g29 <| sF (fun f => or_sub f.1 f.2.1 rfl) <| sS (fun s => or_field fo44_0 (s.1.trans e41_4) (by rfl)) <| sG to3 b41_g31 <| sS (fun s => or_field fo44_0 (s.1.trans e41_3) (by rfl)) <| sG to3 b41_g29 <| sF (fun f => or_sub f.1 f.2.1 rfl) <| sF (fun f => or_mul f.1 f.2.1 rfl) <| sS (fun s => or_field fo44_1 (s.1.trans e41_4) (by rfl)) <| sG to3 b41_g31 <| sS (fun s => or_field fo44_1 (s.1.trans e41_3) (by rfl)) <| sG to3 b41_g29 <| sF (fun f => or_sub f.1 f.2.1 rfl) <| sS (fun s => or_field fo44_1 (s.1.trans e41_4) (by rfl)) <| sG to3 b41_g31 <| sS (fun s => or_field fo44_1 (s.1.trans e41_3) (by rfl)) <| sG to3 b41_g29 <| sF (fun f => or_sub f.1 f.2.1 rfl) <| sF (fun f => or_mul f.1 f.2.1 rfl) <| sF (fun f => or_add f.1 f.2.1 (osome hx42).symm) <| sA <| steps_nil
 intro o43 a43 w43 d43 z43 hk43 hf43 hE43
 obtain ⟨e43_3, e43_4, e43_5, e43_7⟩ := kt4 hk43 e41_3 e41_4 e41_5 e41_7
 have e43_8 := gv (hf43 [23] rfl) rfl
 have hX43 := es_ hX41 hE43
 obtain ⟨b43_g29, b43_g31, b43_g33⟩ := be3 hE43 b41_g29 b41_g31 b41_g33
 obtain ⟨r44, hr44, hs⟩ := obind hs
 obtain ⟨x45, hx45, hs⟩ := obind hs
 refine rq_seq 75 o43 [0, 0, 0, 7, 15, 31, 63, 127, 255, 511, 1023, 1023, 4095, 8191, 16383] [dv [] [3] 61 (P2 x1), dv [] [4] 62 (P2 b2), dv [] [5] 63 (P2 p3), dv [0, 1, 2] [] 64 (Zi r44), dv [3] [] 65 (.bool (decide (r44 = 0))), dv [4] [] 66 (.bool (decide (r44 = 0))), dc [5] [7] (decide (r44 = 0)) 67 (Zi x40), dc [5, 6] [] (decide (r44 = 0)) 68 (.bool (decide (0 ≤ x40))), dv [5, 7] [] 69 (.bool x45), dv [8] [] 70 (.bool x45), dc [9] [7] x45 71 (Zi x40), dc [9] [8] x45 72 (Zi x42), dc [9, 10, 11] [] x45 73 (.bool (decide (x40 ≤ x42))), dv [9, 12] [] 74 (.bool (x45 && (decide (x40 ≤ x42)))), dv [13] [] 6 (.bool (x45 && (decide (x40 ≤ x42))))] z43 d43 ?_ ?_
 ·exact sL ta44 e43_3 b43_g29 <| sL ta44 e43_4 b43_g31 <| sL ta44 e43_5 b43_g33 <| sF (fun f => or_call cf61 (args3 f.1 f.2.1 f.2.2.1) (ref01_Cross_w _ x1 b2 p3  r44 hr44) post_val) <| sF (fun f => or_eql f.1 rfl rfl) <| sV <| cT (fun _ s _ _ => or_move (s.1.trans e43_7)) <| cT (fun f _ _ hg => or_geq (f.2.1.1 hg) rfl rfl) <| sF (fun f => or_and f.1 (fun hx => f.2.1.1 hx) rfl (osome hx45).symm) <| sV <| cT (fun _ s _ _ => or_move (s.1.trans e43_7)) <| cT (fun _ s _ _ => or_move (s.1.trans e43_8)) <| cT (fun f _ _ hg => or_leq (f.2.1.1 hg) (f.2.2.1.1 hg) rfl) <| sF (fun f => or_and f.1 (fun hx => f.2.1.1 hx) rfl rfl) <| sA <| steps_nil
 intro o46 a46 w46 d46 z46 hk46 hf46 hE46
 have e46_6 := gv (hf46 [14] rfl) rfl
 have hX46 := es_ hX43 hE46
 refine fl_ret ?_
 obtain rfl := osome hs
 exact hret _ _ _ _ (.inl rfl) d46 (results1_ rfl (RVal.tmp_ e46_6)) ⟨o46, rfl, hX46⟩
theorem ref01_Sign_w (w : World) (n1 : Int) (r : Int) (hs : ref01_Sign n1 = some r) :
  Calls Try.prog 60 #[Zi n1] w fun e w' => ∃ own' : Own, e = .returned (Zi r) ∧ Evo [] (fun _ => 0) own' w w' := by
 refine fl_enter (n := 7) rfl rfl rfl (Nat.le_of_ble_eq_true rfl) ?_
 intro a0 Q d0 z0 harg hret
 have ha0 := harg 0 _ rfl
 clear harg
 have hE0 : Evo [] (fun _ => 0) (fun _ => 0) w w := Evo.refl _ _ _
 refine rq_seq 7 (fun _ => 0) (bz 1) [dv [] [] 2 (Zi 0)] z0 d0 ?_ ?_
 ·exact sO (or_assign rfl) <| steps_nil
 intro o21 a21 w21 d21 z21 hk21 hf21 hE21
 have e21_0 := kt hk21 ha0
 have hX21 := es_ hE0 hE21
 refine fl_seq (fun Q22 hn22 hp22 => ?_)
 refine rq_seq 7 o21 (bz 2) [dv [] [0] 3 (Zi n1), dv [0] [] 4 (.bool (decide (0 < n1)))] z21 d21 ?_ ?_
 ·exact sM e21_0 <| sF (fun f => or_gtr f.1 rfl rfl) <| steps_nil
 intro o23 a23 w23 d23 z23 hk23 hf23 hE23
 have e23_0 := kt hk23 e21_0
 have e23_4 := gv (hf23 [1] rfl) rfl
 have hX23 := es_ hX21 hE23
 refine fl_cond e23_4 hs (fun c24 hs => ?_) (fun c24 hs => ?_)
 ·refine rq_seq 7 o23 (bz 1) [dv [] [] 2 (Zi 1)] z23 d23 ?_ ?_
  ·exact sO (or_assign rfl) <| steps_nil
  intro o25 a25 w25 d25 z25 hk25 hf25 hE25
  have e25_2 := gv (hf25 [0] rfl) rfl
  have hX25 := es_ hX23 hE25
  refine fl_ret ?_
  refine hp22 _ _ _ rfl ?_
  obtain rfl := osome hs
  exact hret _ _ _ _ (.inl rfl) d25 (results1_ rfl (RVal.tmp_ e25_2)) ⟨o25, rfl, hX25⟩
 refine fl_skip ?_
 refine hn22 _ _ ?_
 refine fl_seq (fun Q26 hn26 hp26 => ?_)
 refine rq_seq 7 o23 (bz 2) [dv [] [0] 5 (Zi n1), dv [0] [] 6 (.bool (decide (n1 < 0)))] z23 d23 ?_ ?_
 ·exact sM e23_0 <| sF (fun f => or_lss f.1 rfl rfl) <| steps_nil
 intro o27 a27 w27 d27 z27 hk27 hf27 hE27
 have e27_6 := gv (hf27 [1] rfl) rfl
 have hX27 := es_ hX23 hE27
 refine fl_cond e27_6 hs (fun c28 hs => ?_) (fun c28 hs => ?_)
 ·refine rq_seq 7 o27 (bz 1) [dv [] [] 2 (Zi (-1))] z27 d27 ?_ ?_
  ·exact sO (or_assign rfl) <| steps_nil
  intro o29 a29 w29 d29 z29 hk29 hf29 hE29
  have e29_2 := gv (hf29 [0] rfl) rfl
  have hX29 := es_ hX27 hE29
  refine fl_ret ?_
  refine hp26 _ _ _ rfl ?_
  obtain rfl := osome hs
  exact hret _ _ _ _ (.inl rfl) d29 (results1_ rfl (RVal.tmp_ e29_2)) ⟨o29, rfl, hX29⟩
 refine fl_skip ?_
 refine hn26 _ _ ?_
 refine rq_seq 7 o27 (bz 1) [dv [] [] 2 (Zi 0)] z27 d27 ?_ ?_
 ·exact sO (or_assign rfl) <| steps_nil
 intro o30 a30 w30 d30 z30 hk30 hf30 hE30
 have e30_2 := gv (hf30 [0] rfl) rfl
 have hX30 := es_ hX27 hE30
 refine fl_ret ?_
 obtain rfl := osome hs
 exact hret _ _ _ _ (.inl rfl) d30 (results1_ rfl (RVal.tmp_ e30_2)) ⟨o30, rfl, hX30⟩
theorem ref01_In_w (w : World) (x1 : Int × Int) (b2 : Int × Int) (c3 : Int × Int) (p4 : Int × Int) (r : Bool) (hs : ref01_In x1 b2 c3 p4 = some r) :
  Calls Try.prog 41 #[P2 x1, P2 b2, P2 c3, P2 p4] w fun e w' => ∃ own' : Own, e = .returned (.bool r) ∧ Evo [] (fun _ => 0) own' w w' := by
 refine fl_enter (n := 55) rfl rfl rfl (Nat.le_of_ble_eq_true rfl) ?_
 intro a0 Q d0 z0 harg hret
 have ha0 := harg 0 _ rfl
 have ha1 := harg 1 _ rfl
 have ha2 := harg 2 _ rfl
 have ha3 := harg 3 _ rfl
 clear harg
 have hE0 : Evo [] (fun _ => 0) (fun _ => 0) w w := Evo.refl _ _ _
 refine rq_seq 55 (fun _ => 0) [0, 0, 0, 0, 0] [⟨[], [0], [], Fct.blk 37 4 (fun g => pt g 0) 44 #[Zi x1.1, Zi x1.2]⟩, ⟨[], [1], [], Fct.blk 39 5 (fun g => pt g 0) 44 #[Zi b2.1, Zi b2.2]⟩, ⟨[], [2], [], Fct.blk 41 6 (fun g => pt g 0) 44 #[Zi c3.1, Zi c3.2]⟩, ⟨[], [3], [], Fct.blk 43 7 (fun g => pt g 0) 44 #[Zi p4.1, Zi p4.2]⟩, dv [] [] 8 (.bool false)] z0 d0 ?_ ?_
 ·exact sS (fun s => nw1 (s.1.trans ha0)) <| sS (fun s => nw1 (s.1.trans ha1)) <| sS (fun s => nw1 (s.1.trans ha2)) <| sS (fun s => nw1 (s.1.trans ha3)) <| sO (or_assign rfl) <| steps_nil
 intro o44 a44 w44 d44 z44 hk44 hf44 hE44
 obtain ⟨⟨g36, (e44_4 : a44.eval (.tmp 4) = pt g36 0), (b44_g36 : BlkO o44 37 w44 g36 44 #[Zi x1.1, Zi x1.2])⟩, ⟨g38, (e44_5 : a44.eval (.tmp 5) = pt g38 0), (b44_g38 : BlkO o44 39 w44 g38 44 #[Zi b2.1, Zi b2.2])⟩, ⟨g40, (e44_6 : a44.eval (.tmp 6) = pt g40 0), (b44_g40 : BlkO o44 41 w44 g40 44 #[Zi c3.1, Zi c3.2])⟩, ⟨g42, (e44_7 : a44.eval (.tmp 7) = pt g42 0), (b44_g42 : BlkO o44 43 w44 g42 44 #[Zi p4.1, Zi p4.2])⟩, -⟩ := hf44 [0, 1, 2, 3] rfl
 have hX44 := es_ hE0 hE44
 refine fl_seq (fun Q45 hn45 hp45 => ?_)
 obtain ⟨r46, hr46, hs⟩ := obind hs
 obtain ⟨r47, hr47, hs⟩ := obind hs
 obtain ⟨r48, hr48, hs⟩ := obind hs
 refine rq_seq 55 o44 [0, 0, 0, 7, 15, 31, 31, 31, 255, 511, 1023, 2047, 2047, 2047, 16383, 32767] [dv [] [4] 12 (P2 x1), dv [] [5] 13 (P2 b2), dv [] [7] 14 (P2 p4), dv [0, 1, 2] [] 15 (.bool r46), dv [3] [] 16 (.bool r46), dc [4] [5] (!r46) 17 (P2 b2), dc [4] [6] (!r46) 18 (P2 c3), dc [4] [7] (!r46) 19 (P2 p4), dc [4, 5, 6, 7] [] (!r46) 20 (.bool r47), dv [4, 8] [] 21 (.bool (r46 || r47)), dv [9] [] 22 (.bool (r46 || r47)), dc [10] [6] (!(r46 || r47)) 23 (P2 c3), dc [10] [4] (!(r46 || r47)) 24 (P2 x1), dc [10] [7] (!(r46 || r47)) 25 (P2 p4), dc [10, 11, 12, 13] [] (!(r46 || r47)) 26 (.bool r48), dv [10, 14] [] 27 (.bool ((r46 || r47) || r48))] z44 d44 ?_ ?_
 ·exact sL ta44 e44_4 b44_g36 <| sL ta44 e44_5 b44_g38 <| sL ta44 e44_7 b44_g42 <| sF (fun f => or_call cf59 (args3 f.1 f.2.1 f.2.2.1) (ref01_On_w _ x1 b2 p4  r46 hr46) post_val) <| sV <| cFL ta44 e44_5 b44_g38 <| cFL ta44 e44_6 b44_g40 <| cFL ta44 e44_7 b44_g42 <| cF (fun f _ _ hg => or_call cf59 (args3 (f.2.1.1 hg) (f.2.2.1.1 hg) (f.2.2.2.1.1 hg)) (ref01_On_w _ b2 c3 p4  r47 (gd_t hr47 hg)) post_val) <| sF (fun f => or_or f.1 rfl (fun hx => f.2.1.1 hx) rfl) <| sV <| cFL ta44 e44_6 b44_g40 <| cFL ta44 e44_4 b44_g36 <| cFL ta44 e44_7 b44_g42 <| cF (fun f _ _ hg => or_call cf59 (args3 (f.2.1.1 hg) (f.2.2.1.1 hg) (f.2.2.2.1.1 hg)) (ref01_On_w _ c3 x1 p4  r48 (gd_t hr48 hg)) post_val) <| sF (fun f => or_or f.1 rfl (fun hx => f.2.1.1 hx) rfl) <| steps_nil
 intro o49 a49 w49 d49 z49 hk49 hf49 hE49
 obtain ⟨e49_4, e49_5, e49_6, e49_7⟩ := kt4 hk49 e44_4 e44_5 e44_6 e44_7
 have e49_27 := gv (hf49 [15] rfl) rfl
 have hX49 := es_ hX44 hE49
 obtain ⟨b49_g36, b49_g38, b49_g40, b49_g42⟩ := be4 hE49 b44_g36 b44_g38 b44_g40 b44_g42
 refine fl_cond e49_27 hs (fun c50 hs => ?_) (fun c50 hs => ?_)
 ·refine rq_seq 55 o49 (bz 1) [dv [] [] 8 (.bool true)] z49 d49 ?_ ?_
  ·exact sO (or_assign rfl) <| steps_nil
  intro o51 a51 w51 d51 z51 hk51 hf51 hE51
  have e51_8 := gv (hf51 [0] rfl) rfl
  have hX51 := es_ hX49 hE51
  refine fl_ret ?_
  refine hp45 _ _ _ rfl ?_
  obtain rfl := osome hs
  exact hret _ _ _ _ (.inl rfl) d51 (results1_ rfl (RVal.tmp_ e51_8)) ⟨o51, rfl, hX51⟩
 refine fl_skip ?_
 refine hn45 _ _ ?_
 obtain ⟨r52, hr52, hs⟩ := obind hs
 obtain ⟨r53, hr53, hs⟩ := obind hs
 obtain ⟨r54, hr54, hs⟩ := obind hs
 obtain ⟨r55, hr55, hs⟩ := obind hs
 obtain ⟨r56, hr56, hs⟩ := obind hs
 obtain ⟨r57, hr57, hs⟩ := obind hs
 refine rd_seq g_mixed 55 [] o49 [] [0, 0, 0, 7, 15, 0, 0, 0, 255, 511, 0, 0, 0, 8191, 16383, 32767, 65535, 131071] [dv [] [4] 28 (P2 x1), dv [] [5] 29 (P2 b2), dv [] [7] 30 (P2 p4), dv [0, 1, 2] [] 31 (Zi r52), dv [3] [] 32 (Zi r53), dv [] [5] 33 (P2 b2), dv [] [6] 34 (P2 c3), dv [] [7] 35 (P2 p4), dv [5, 6, 7] [] 36 (Zi r54), dv [8] [] 37 (Zi r55), dv [] [6] 38 (P2 c3), dv [] [4] 39 (P2 x1), dv [] [7] 40 (P2 p4), dv [10, 11, 12] [] 41 (Zi r56), dv [13] [] 42 (Zi r57), dv [4] [] 9 (Zi r53), dv [9] [] 10 (Zi r55), dv [14] [] 11 (Zi r57)] z49 d49 nm_ ?_ ?_
 ·exact sL ta44 e49_4 b49_g36 <| sL ta44 e49_5 b49_g38 <| sL ta44 e49_7 b49_g42 <| sF (fun f => or_call cf61 (args3 f.1 f.2.1 f.2.2.1) (ref01_Cross_w _ x1 b2 p4  r52 hr52) post_val) <| sF (fun f => or_call cf60 (args1 f.1) (ref01_Sign_w _ r52  r53 hr53) post_val) <| sL ta44 e49_5 b49_g38 <| sL ta44 e49_6 b49_g40 <| sL ta44 e49_7 b49_g42 <| sF (fun f => or_call cf61 (args3 f.1 f.2.1 f.2.2.1) (ref01_Cross_w _ b2 c3 p4  r54 hr54) post_val) <| sF (fun f => or_call cf60 (args1 f.1) (ref01_Sign_w _ r54  r55 hr55) post_val) <| sL ta44 e49_6 b49_g40 <| sL ta44 e49_4 b49_g36 <| sL ta44 e49_7 b49_g42 <| sF (fun f => or_call cf61 (args3 f.1 f.2.1 f.2.2.1) (ref01_Cross_w _ c3 x1 p4  r56 hr56) post_val) <| sF (fun f => or_call cf60 (args1 f.1) (ref01_Sign_w _ r56  r57 hr57) post_val) <| sA <| sA <| sA <| steps_nil
 intro o58 a58 w58 d58 z58 hk58 hf58 hE58
 have e58_9 := gv (hf58 [15] rfl) rfl
 have e58_10 := gv (hf58 [16] rfl) rfl
 have e58_11 := gv (hf58 [17] rfl) rfl
 have hX58 := es_ hX49 hE58
 obtain ⟨x59, hx59, hs⟩ := obind hs
 refine rq_seq 55 o58 [0, 0, 3, 7, 15, 15, 63, 127, 255, 511, 1023, 2047, 4095] [dv [] [9] 43 (Zi r53), dv [] [10] 44 (Zi r55), dv [0, 1] [] 45 (.bool (decide (r53 = r55))), dv [2] [] 46 (.bool (decide (r53 = r55))), dc [3] [10] (decide (r53 = r55)) 47 (Zi r55), dc [3] [11] (decide (r53 = r55)) 48 (Zi r57), dc [3, 4, 5] [] (decide (r53 = r55)) 49 (.bool (decide (r55 = r57))), dv [3, 6] [] 50 (.bool x59), dv [7] [] 51 (.bool x59), dc [8] [9] x59 52 (Zi r53), dc [8, 9] [] x59 53 (.bool (!decide (r53 = 0))), dv [8, 10] [] 54 (.bool (x59 && (!decide (r53 = 0)))), dv [11] [] 8 (.bool (x59 && (!decide (r53 = 0))))] z58 d58 ?_ ?_
 ·exact sM e58_9 <| sM e58_10 <| sF (fun f => or_eql f.1 f.2.1 rfl) <| sV <| cT (fun _ s _ _ => or_move (s.1.trans e58_10)) <| cT (fun _ s _ _ => or_move (s.1.trans e58_11)) <| cT (fun f _ _ hg => or_eql (f.2.1.1 hg) (f.2.2.1.1 hg) rfl) <| sF (fun f => or_and f.1 (fun hx => f.2.1.1 hx) rfl (osome hx59).symm) <| sV <| cT (fun _ s _ _ => or_move (s.1.trans e58_9)) <| cT (fun f _ _ hg => or_neq (f.2.1.1 hg) rfl rfl) <| sF (fun f => or_and f.1 (fun hx => f.2.1.1 hx) rfl rfl) <| sA <| steps_nil
 intro o60 a60 w60 d60 z60 hk60 hf60 hE60
 have e60_8 := gv (hf60 [12] rfl) rfl
 have hX60 := es_ hX58 hE60
 refine fl_ret ?_
 obtain rfl := osome hs
 exact hret _ _ _ _ (.inl rfl) d60 (results1_ rfl (RVal.tmp_ e60_8)) ⟨o60, rfl, hX60⟩
theorem ref18_Why_w (w : World) (g1 : (List Int) × (List (Int × Int)) × (List ((Int × Int) × (Int × Int)))) (Ag1_0 : Option Addr) (cg1_0 : Nat) (Ag1_1 : Option Addr) (cg1_1 : Nat) (Ag1_2 : Option Addr) (cg1_2 : Nat) (x2 : Int × Int) (b3 : Int × Int) (c4 : Int × Int) (hAg1_0 : RdO (fun _ => 0) [0] w R3 Ag1_0 cg1_0 g1.1) (hAg1_1 : RdO (fun _ => 0) [0] w R44 Ag1_1 cg1_1 g1.2.1) (hAg1_2 : RdO (fun _ => 0) [0] w R92 Ag1_2 cg1_2 g1.2.2) (r : Int) (hs : ref18_Why g1 x2 b3 c4 = some r) :
  Calls Try.prog 16 #[.agg #[sl Ag1_0 g1.1 cg1_0, sl Ag1_1 g1.2.1 cg1_1, sl Ag1_2 g1.2.2 cg1_2], P2 x2, P2 b3, P2 c4] w fun e w' => ∃ own' : Own, e = .returned (Zi r) ∧ Evo [] (fun _ => 0) own' w w' := by
 refine fl_enter (n := 106) rfl rfl rfl (Nat.le_of_ble_eq_true rfl) ?_
 intro a0 Q d0 z0 harg hret
 have ha0 := harg 0 _ rfl
 have ha1 := harg 1 _ rfl
 have ha2 := harg 2 _ rfl
 have ha3 := harg 3 _ rfl
 clear harg
 have hE0 : Evo [] (fun _ => 0) (fun _ => 0) w w := Evo.refl _ _ _
 refine rq_seq 106 (fun _ => 0) [0, 0, 0, 0, 0] [⟨[], [0], [], Fct.blk 108 4 (fun g => pt g 0) 38 #[sl Ag1_0 g1.1 cg1_0, sl Ag1_1 g1.2.1 cg1_1, sl Ag1_2 g1.2.2 cg1_2]⟩, ⟨[], [1], [], Fct.blk 110 5 (fun g => pt g 0) 44 #[Zi x2.1, Zi x2.2]⟩, ⟨[], [2], [], Fct.blk 112 6 (fun g => pt g 0) 44 #[Zi b3.1, Zi b3.2]⟩, ⟨[], [3], [], Fct.blk 114 7 (fun g => pt g 0) 44 #[Zi c4.1, Zi c4.2]⟩, dv [] [] 8 (Zi 0)] z0 d0 ?_ ?_
 ·exact sS (fun s => nw1 (s.1.trans ha0)) <| sS (fun s => nw1 (s.1.trans ha1)) <| sS (fun s => nw1 (s.1.trans ha2)) <| sS (fun s => nw1 (s.1.trans ha3)) <| sO (or_assign rfl) <| steps_nil
 intro o115 a115 w115 d115 z115 hk115 hf115 hE115
 obtain ⟨⟨g107, (e115_4 : a115.eval (.tmp 4) = pt g107 0), (b115_g107 : BlkO o115 108 w115 g107 38 #[sl Ag1_0 g1.1 cg1_0, sl Ag1_1 g1.2.1 cg1_1, sl Ag1_2 g1.2.2 cg1_2])⟩, ⟨g109, (e115_5 : a115.eval (.tmp 5) = pt g109 0), (b115_g109 : BlkO o115 110 w115 g109 44 #[Zi x2.1, Zi x2.2])⟩, ⟨g111, (e115_6 : a115.eval (.tmp 6) = pt g111 0), (b115_g111 : BlkO o115 112 w115 g111 44 #[Zi b3.1, Zi b3.2])⟩, ⟨g113, (e115_7 : a115.eval (.tmp 7) = pt g113 0), (b115_g113 : BlkO o115 114 w115 g113 44 #[Zi c4.1, Zi c4.2])⟩, -⟩ := hf115 [0, 1, 2, 3] rfl
 have hX115 := es_ hE0 hE115
 refine fl_seq (fun Q116 hn116 hp116 => ?_)
 obtain ⟨x117, hx117, hs⟩ := obind hs
 obtain ⟨r120, hr120, hs⟩ := obind hs
 obtain ⟨x121, hx121, hs⟩ := obind hs
 obtain ⟨r122, hr122, hs⟩ := obind hs
 obtain ⟨r123, hr123, hs⟩ := obind hs
 obtain ⟨r124, hr124, hs⟩ := obind hs
 obtain ⟨x125, hx125, hs⟩ := obind hs
 refine rq_seq 106 o115 [0, 0, 3, 7, 15, 15, 63, 127, 255, 511, 511, 2047, 4095, 8191, 16383, 16383, 16383, 131071, 262143, 524287, 1048575, 2097151, 4194303, 4194303, 16777215, 33554431, 67108863, 134217727, 268435455, 268435455, 1073741823, 2147483647, 4294967295, 8589934591, 17179869183, 17179869183, 68719476735, 137438953471, 274877906943] [dv [] [5] 11 (P2 x2), dv [] [7] 12 (P2 c4), dv [0, 1] [] 13 (.bool (decide (x2 = c4))), dv [2] [] 14 (.bool (decide (x2 = c4))), dc [3] [5] (!(decide (x2 = c4))) 15 (P2 x2), dc [3] [6] (!(decide (x2 = c4))) 16 (P2 b3), dc [3, 4, 5] [] (!(decide (x2 = c4))) 17 (.bool (decide (x2 = b3))), dv [3, 6] [] 18 (.bool x117), dv [7] [] 19 (.bool x117), dc [8] [6] (!x117) 20 (P2 b3), dc [8] [7] (!x117) 21 (P2 c4), dc [8, 9, 10] [] (!x117) 22 (.bool (decide (b3 = c4))), dv [8, 11] [] 23 (.bool (x117 || (decide (b3 = c4)))), dv [12] [] 24 (.bool (x117 || (decide (b3 = c4)))), dc [13] [5] (!(x117 || (decide (b3 = c4)))) 25 (P2 x2), dc [13] [6] (!(x117 || (decide (b3 = c4)))) 26 (P2 b3), dc [13] [7] (!(x117 || (decide (b3 = c4)))) 27 (P2 c4), ⟨[13, 14, 15, 16], [], [], Fct.cond (!(x117 || (decide (b3 = c4)))) (some 28) (Fct.row 119 [] 28 44 R44 [x2, b3, c4])⟩, dc [13, 17] [] (!(x117 || (decide (b3 = c4)))) 29 (.bool r120), dc [13, 18] [] (!(x117 || (decide (b3 = c4)))) 30 (.bool (!r120)), dv [13, 19] [] 31 (.bool x121), dv [20] [] 32 (.bool x121), dc [21] [4] (!x121) 33 (.agg #[sl Ag1_0 g1.1 cg1_0, sl Ag1_1 g1.2.1 cg1_1, sl Ag1_2 g1.2.2 cg1_2]), dc [21] [5] (!x121) 34 (P2 x2), dc [21, 22, 23] [] (!x121) 35 (.bool r122), dc [21, 24] [] (!x121) 36 (.bool (!r122)), dv [21, 25] [] 37 (.bool (x121 || (!r122))), dv [26] [] 38 (.bool (x121 || (!r122))), dc [27] [4] (!(x121 || (!r122))) 39 (.agg #[sl Ag1_0 g1.1 cg1_0, sl Ag1_1 g1.2.1 cg1_1, sl Ag1_2 g1.2.2 cg1_2]), dc [27] [6] (!(x121 || (!r122))) 40 (P2 b3), dc [27, 28, 29] [] (!(x121 || (!r122))) 41 (.bool r123), dc [27, 30] [] (!(x121 || (!r122))) 42 (.bool (!r123)), dv [27, 31] [] 43 (.bool ((x121 || (!r122)) || (!r123))), dv [32] [] 44 (.bool ((x121 || (!r122)) || (!r123))), dc [33] [4] (!((x121 || (!r122)) || (!r123))) 45 (.agg #[sl Ag1_0 g1.1 cg1_0, sl Ag1_1 g1.2.1 cg1_1, sl Ag1_2 g1.2.2 cg1_2]), dc [33] [7] (!((x121 || (!r122)) || (!r123))) 46 (P2 c4), dc [33, 34, 35] [] (!((x121 || (!r122)) || (!r123))) 47 (.bool r124), dc [33, 36] [] (!((x121 || (!r122)) || (!r123))) 48 (.bool (!r124)), dv [33, 37] [] 49 (.bool x125)] z115 d115 ?_ ?_
 ·refine sL ta44 e115_5 b115_g109 <| sL ta44 e115_7 b115_g113 <| sF (fun f => or_eqlA sg44 f.1 f.2.1 (se44 x2.1 x2.2 c4.1 c4.2 _) rfl) <| sV <| cFL ta44 e115_5 b115_g109 <| cFL ta44 e115_6 b115_g111 <| cF (fun f _ _ hg => or_eqlA sg44 (f.2.1.1 hg) (f.2.2.1.1 hg) (se44 x2.1 x2.2 b3.1 b3.2 _) rfl) <| sF (fun f => or_or f.1 rfl (fun hx => f.2.1.1 hx) (osome hx117).symm) <| sV <| cFL ta44 e115_6 b115_g111 <| cFL ta44 e115_7 b115_g113 <| cF (fun f _ _ hg => or_eqlA sg44 (f.2.1.1 hg) (f.2.2.1.1 hg) (se44 b3.1 b3.2 c4.1 c4.2 _) rfl) <| sF (fun f => or_or f.1 rfl (fun hx => f.2.1.1 hx) rfl) <| sV <| cFL ta44 e115_5 b115_g109 <| cFL ta44 e115_6 b115_g111 <| cFL ta44 e115_7 b115_g113 <| cF (fun f _ _ hg => or_lit (lab := 119) (e := 44) (cs := #[Zi x2.1, Zi x2.2, Zi b3.1, Zi b3.2, Zi c4.1, Zi c4.2]) (F := E44) (nw3 (f.2.1.1 hg) (f.2.2.1.1 hg) (f.2.2.2.1.1 hg)) rfl rfl (show 3 ≤ maxLen by decide)) ?_
  refine sc (fun own a wx hf hsl hE => ?_) ?_
  ·obtain ⟨f_24, c_28, -⟩ := hf
   refine sg_f rfl rfl rfl f_24 (fun hg => ?_)
   obtain ⟨⟨A118, cA118⟩, f_28, b_A118⟩ := c_28.1 hg
   exact or_call cf38 (args1 f_28) (ref01_All_w _ [x2, b3, c4] A118 cA118 (RdO.zero (RwO.rd b_A118)) r120 (gd_t hr120 hg)) post_val
  exact cF (fun f _ _ hg => or_not (f.2.1.1 hg) rfl) <| sF (fun f => or_or f.1 rfl (fun hx => f.2.1.1 hx) (osome hx121).symm) <| sV <| cFL ta38 e115_4 b115_g107 <| cFL ta44 e115_5 b115_g109 <| cF (fun f _ hE hg => or_call cf18 (args2 (f.2.1.1 hg) (f.2.2.1.1 hg)) (ref18_Has_w _ g1 Ag1_0 cg1_0 Ag1_1 cg1_1 Ag1_2 cg1_2 x2 (RdO.zero (RdO.evo rfl hE (RdO.evo rfl hX115 hAg1_0))) (RdO.zero (RdO.evo rfl hE (RdO.evo rfl hX115 hAg1_1))) (RdO.zero (RdO.evo rfl hE (RdO.evo rfl hX115 hAg1_2))) r122 (gd_t hr122 hg)) post_val) <| cF (fun f _ _ hg => or_not (f.2.1.1 hg) rfl) <| sF (fun f => or_or f.1 rfl (fun hx => f.2.1.1 hx) rfl) <| sV <| cFL ta38 e115_4 b115_g107 <| cFL ta44 e115_6 b115_g111 <| cF (fun f _ hE hg => or_call cf18 (args2 (f.2.1.1 hg) (f.2.2.1.1 hg)) (ref18_Has_w _ g1 Ag1_0 cg1_0 Ag1_1 cg1_1 Ag1_2 cg1_2 b3 (RdO.zero (RdO.evo rfl hE (RdO.evo rfl hX115 hAg1_0))) (RdO.zero (RdO.evo rfl hE (RdO.evo rfl hX115 hAg1_1))) (RdO.zero (RdO.evo rfl hE (RdO.evo rfl hX115 hAg1_2))) r123 (gd_t hr123 hg)) post_val) <| cF (fun f _ _ hg => or_not (f.2.1.1 hg) rfl) <| sF (fun f => or_or f.1 rfl (fun hx => f.2.1.1 hx) rfl) <| sV <| cFL ta38 e115_4 b115_g107 <| cFL ta44 e115_7 b115_g113 <| cF (fun f _ hE hg => or_call cf18 (args2 (f.2.1.1 hg) (f.2.2.1.1 hg)) (ref18_Has_w _ g1 Ag1_0 cg1_0 Ag1_1 cg1_1 Ag1_2 cg1_2 c4 (RdO.zero (RdO.evo rfl hE (RdO.evo rfl hX115 hAg1_0))) (RdO.zero (RdO.evo rfl hE (RdO.evo rfl hX115 hAg1_1))) (RdO.zero (RdO.evo rfl hE (RdO.evo rfl hX115 hAg1_2))) r124 (gd_t hr124 hg)) post_val) <| cF (fun f _ _ hg => or_not (f.2.1.1 hg) rfl) <| sF (fun f => or_or f.1 rfl (fun hx => f.2.1.1 hx) (osome hx125).symm) <| steps_nil
 intro o126 a126 w126 d126 z126 hk126 hf126 hE126
 obtain ⟨e126_4, e126_5, e126_6, e126_7⟩ := kt4 hk126 e115_4 e115_5 e115_6 e115_7
 have e126_49 := gv (hf126 [38] rfl) rfl
 have hX126 := es_ hX115 hE126
 obtain ⟨b126_g107, b126_g109, b126_g111, b126_g113⟩ := be4 hE126 b115_g107 b115_g109 b115_g111 b115_g113
 refine fl_cond e126_49 hs (fun c127 hs => ?_) (fun c127 hs => ?_)
 ·refine rq_seq 106 o126 (bz 1) [dv [] [] 8 (Zi 1)] z126 d126 ?_ ?_
  ·exact sO (or_assign rfl) <| steps_nil
  intro o128 a128 w128 d128 z128 hk128 hf128 hE128
  have e128_8 := gv (hf128 [0] rfl) rfl
  have hX128 := es_ hX126 hE128
  refine fl_ret ?_
  refine hp116 _ _ _ rfl ?_
  obtain rfl := osome hs
  exact hret _ _ _ _ (.inl rfl) d128 (results1_ rfl (RVal.tmp_ e128_8)) ⟨o128, rfl, hX128⟩
 refine fl_skip ?_
 refine hn116 _ _ ?_
 refine fl_seq (fun Q129 hn129 hp129 => ?_)
 obtain ⟨r130, hr130, hs⟩ := obind hs
 obtain ⟨r131, hr131, hs⟩ := obind hs
 refine rq_seq 106 o126 [0, 1, 0, 4, 0, 16, 63, 127, 255, 511, 255, 1279, 255, 4351, 16383, 32767] [dv [] [4] 50 (pt g107 0), dv [0] [] 51 (sl Ag1_0 g1.1 cg1_0), dv [] [5] 52 (pt g109 0), dv [2] [] 53 (Zi x2.1), dv [] [7] 54 (pt g113 0), dv [4] [] 55 (Zi c4.1), dv [1, 3, 5] [] 56 (.bool r130), dv [6] [] 57 (.bool r130), dc [7] [4] (!r130) 58 (pt g107 0), dc [7, 8] [] (!r130) 59 (sl Ag1_0 g1.1 cg1_0), dc [7] [5] (!r130) 60 (pt g109 1), dc [7, 10] [] (!r130) 61 (Zi x2.2), dc [7] [7] (!r130) 62 (pt g113 1), dc [7, 12] [] (!r130) 63 (Zi c4.2), dc [7, 9, 11, 13] [] (!r130) 64 (.bool r131), dv [7, 14] [] 65 (.bool (r130 || r131))] z126 d126 ?_ ?_
 ·exact sS (fun s => or_field fo38_0 (s.1.trans e126_4) (by rfl)) <| sG to22 b126_g107 <| sS (fun s => or_field fo44_0 (s.1.trans e126_5) (by rfl)) <| sG to3 b126_g109 <| sS (fun s => or_field fo44_0 (s.1.trans e126_7) (by rfl)) <| sG to3 b126_g113 <| sFE (fun f hE => or_call cf39 (args3 f.1 f.2.1 f.2.2.1) (ref04_Apart_w _ g1.1 Ag1_0 cg1_0 x2.1 c4.1 (RdO.zero (RdO.evo rfl hE (RdO.evo rfl hX126 hAg1_0))) r130 hr130) post_val) <| sV <| cF (fun _ s _ _ => or_field fo38_0 (s.1.trans e126_4) (by rfl)) <| cF (fun f _ hE hg => ld1 to22 (f.2.1.1 hg) (be_ hE b126_g107)) <| cF (fun _ s _ _ => or_field fo44_1 (s.1.trans e126_5) (by rfl)) <| cF (fun f _ hE hg => ld1 to3 (f.2.1.1 hg) (be_ hE b126_g109)) <| cF (fun _ s _ _ => or_field fo44_1 (s.1.trans e126_7) (by rfl)) <| cF (fun f _ hE hg => ld1 to3 (f.2.1.1 hg) (be_ hE b126_g113)) <| cF (fun f _ hE hg => or_call cf39 (args3 (f.2.1.1 hg) (f.2.2.1.1 hg) (f.2.2.2.1.1 hg)) (ref04_Apart_w _ g1.1 Ag1_0 cg1_0 x2.2 c4.2 (RdO.zero (RdO.evo rfl hE (RdO.evo rfl hX126 hAg1_0))) r131 (gd_t hr131 hg)) post_val) <| sF (fun f => or_or f.1 rfl (fun hx => f.2.1.1 hx) rfl) <| steps_nil
 intro o132 a132 w132 d132 z132 hk132 hf132 hE132
 obtain ⟨e132_4, e132_5, e132_6, e132_7⟩ := kt4 hk132 e126_4 e126_5 e126_6 e126_7
 have e132_65 := gv (hf132 [15] rfl) rfl
 have hX132 := es_ hX126 hE132
 obtain ⟨b132_g107, b132_g109, b132_g111, b132_g113⟩ := be4 hE132 b126_g107 b126_g109 b126_g111 b126_g113
 refine fl_cond e132_65 hs (fun c133 hs => ?_) (fun c133 hs => ?_)
 ·refine rq_seq 106 o132 (bz 1) [dv [] [] 8 (Zi 2)] z132 d132 ?_ ?_
  ·exact sO (or_assign rfl) <| steps_nil
  intro o134 a134 w134 d134 z134 hk134 hf134 hE134
  have e134_8 := gv (hf134 [0] rfl) rfl
  have hX134 := es_ hX132 hE134
  refine fl_ret ?_
  refine hp129 _ _ _ rfl ?_
  obtain rfl := osome hs
  exact hret _ _ _ _ (.inl rfl) d134 (results1_ rfl (RVal.tmp_ e134_8)) ⟨o134, rfl, hX134⟩
 refine fl_skip ?_
 refine hn129 _ _ ?_
 refine fl_seq (fun Q135 hn135 hp135 => ?_)
 obtain ⟨r136, hr136, hs⟩ := obind hs
 refine rq_seq 106 o132 [0, 0, 0, 7] [dv [] [4] 66 (.agg #[sl Ag1_0 g1.1 cg1_0, sl Ag1_1 g1.2.1 cg1_1, sl Ag1_2 g1.2.2 cg1_2]), dv [] [5] 67 (P2 x2), dv [] [7] 68 (P2 c4), dv [0, 1, 2] [] 69 (.bool r136)] z132 d132 ?_ ?_
 ·exact sL ta38 e132_4 b132_g107 <| sL ta44 e132_5 b132_g109 <| sL ta44 e132_7 b132_g113 <| sFE (fun f hE => or_call cf20 (args3 f.1 f.2.1 f.2.2.1) (ref18_Joined_w _ g1 Ag1_0 cg1_0 Ag1_1 cg1_1 Ag1_2 cg1_2 x2 c4 (RdO.zero (RdO.evo rfl hE (RdO.evo rfl hX132 hAg1_0))) (RdO.zero (RdO.evo rfl hE (RdO.evo rfl hX132 hAg1_1))) (RdO.zero (RdO.evo rfl hE (RdO.evo rfl hX132 hAg1_2))) r136 hr136) post_val) <| steps_nil
 intro o137 a137 w137 d137 z137 hk137 hf137 hE137
 obtain ⟨e137_4, e137_5, e137_6, e137_7⟩ := kt4 hk137 e132_4 e132_5 e132_6 e132_7
 have e137_69 := gv (hf137 [3] rfl) rfl
 have hX137 := es_ hX132 hE137
 obtain ⟨b137_g107, b137_g109, b137_g111, b137_g113⟩ := be4 hE137 b132_g107 b132_g109 b132_g111 b132_g113
 refine fl_cond e137_69 hs (fun c138 hs => ?_) (fun c138 hs => ?_)
 ·refine rq_seq 106 o137 (bz 1) [dv [] [] 8 (Zi 3)] z137 d137 ?_ ?_
  ·exact sO (or_assign rfl) <| steps_nil
  intro o139 a139 w139 d139 z139 hk139 hf139 hE139
  have e139_8 := gv (hf139 [0] rfl) rfl
  have hX139 := es_ hX137 hE139
  refine fl_ret ?_
  refine hp135 _ _ _ rfl ?_
  obtain rfl := osome hs
  exact hret _ _ _ _ (.inl rfl) d139 (results1_ rfl (RVal.tmp_ e139_8)) ⟨o139, rfl, hX139⟩
 refine fl_skip ?_
 refine hn135 _ _ ?_
 refine fl_seq (fun Q140 hn140 hp140 => ?_)
 refine rq_seq 106 o137 (bz 1) [dv [] [] 9 (Zi 0)] z137 d137 ?_ ?_
 ·exact sO (or_assign rfl) <| steps_nil
 intro o141 a141 w141 d141 z141 hk141 hf141 hE141
 obtain ⟨e141_4, e141_5, e141_6, e141_7⟩ := kt4 hk141 e137_4 e137_5 e137_6 e137_7
 have e141_9 := gv (hf141 [0] rfl) rfl
 have hX141 := es_ hX137 hE141
 obtain ⟨b141_g107, b141_g109, b141_g111, b141_g113⟩ := be4 hE141 b137_g107 b137_g109 b137_g111 b137_g113
 refine fl_block (fun Q142 hn142 hx142 hp142 => ?_)
 refine fl_loop (body := (fun s => ref18_Why_b1 g1 x2 b3 c4 s)) (z := r) (show loopO _ _ = _ from hs) (fun (i162 : Int) a wx => ∃ (ox : Own), a.defers = [] ∧ a.tmps.size = 106 ∧ a.eval (.tmp 4) = pt g107 0 ∧ a.eval (.tmp 5) = pt g109 0 ∧ a.eval (.tmp 6) = pt g111 0 ∧ a.eval (.tmp 7) = pt g113 0 ∧ a.eval (.tmp 9) = Zi i162 ∧ Evo [] (fun _ => 0) ox w wx ∧ BlkO ox 108 wx g107 38 #[sl Ag1_0 g1.1 cg1_0, sl Ag1_1 g1.2.1 cg1_1, sl Ag1_2 g1.2.2 cg1_2] ∧ BlkO ox 110 wx g109 44 #[Zi x2.1, Zi x2.2] ∧ BlkO ox 112 wx g111 44 #[Zi b3.1, Zi b3.2] ∧ BlkO ox 114 wx g113 44 #[Zi c4.1, Zi c4.2]) ?_ ?_
 ·exact ⟨o141, d141, z141, e141_4, e141_5, e141_6, e141_7, e141_9, hX141, b141_g107, b141_g109, b141_g111, b141_g113⟩
 ·rintro i162 zz182 a182 w182 ⟨o182, d183, z183, e183_4, e183_5, e183_6, e183_7, e183_9, hE183, b183_g107, b183_g109, b183_g111, b183_g113⟩ hs Q182 hn182 hp182 z182
  have hs : ref18_Why_b1 g1 x2 b3 c4 i162 = some zz182 := hs
  refine fl_seq (fun Q184 hn184 hp184 => ?_)
  refine rq_seq 106 o182 [0, 0, 2, 6, 15] [dv [] [9] 70 (Zi i162), dv [] [4] 71 (pt g107 1), dv [1] [] 72 (sl Ag1_1 g1.2.1 cg1_1), dv [2] [] 73 (Zi (g1.2.1.length : Int)), dv [0, 3] [] 74 (.bool (decide (i162 < (g1.2.1.length : Int))))] z183 d183 ?_ ?_
  ·exact sM e183_9 <| sS (fun s => or_field fo38_1 (s.1.trans e183_4) (by rfl)) <| sG to35 b183_g107 <| sF (fun f => or_len tu35 f.1 rfl) <| sF (fun f => or_lss f.1 f.2.1 rfl) <| steps_nil
  intro o185 a185 w185 d185 z185 hk185 hf185 hE185
  obtain ⟨e185_4, e185_5, e185_6, e185_7, e185_9⟩ := kt5 hk185 e183_4 e183_5 e183_6 e183_7 e183_9
  have e185_74 := gv (hf185 [4] rfl) rfl
  have hX185 := es_ hE183 hE185
  obtain ⟨b185_g107, b185_g109, b185_g111, b185_g113⟩ := be4 hE185 b183_g107 b183_g109 b183_g111 b183_g113
  refine fl_cond e185_74 hs (fun c186 hs => ?_) (fun c186 hs => ?_)
  ·refine fl_skip ?_
   refine hn184 _ _ ?_
   refine fl_seq (fun Q187 hn187 hp187 => ?_)
   refine fl_block (fun Q188 hn188 hx188 hp188 => ?_)
   obtain ⟨x189, hx189, hs⟩ := obind hs
   refine rp_seq 106 o185 [191] [0, 1, 0, 7, 15, 0, 63] [dv [] [4] 77 (pt g107 1), dv [0] [] 78 (sl Ag1_1 g1.2.1 cg1_1), dv [] [9] 79 (Zi i162), dv [1, 2] [] 80 (.pointer (some ((adr Ag1_1).add ((i162 : Int).toNat * R44.s)))), dv [3] [] 81 (P2 x189), ⟨[], [], [], Fct.blk 191 10 (fun g => pt g 0) 44 #[Zi 0, Zi 0]⟩, ⟨[5, 4], [], [191], Fct.blk 192 10 (fun g => pt g 0) 44 #[Zi x189.1, Zi x189.2]⟩] z185 d185 ?_ ?_
   ·refine sS (fun s => or_field fo38_1 (s.1.trans e185_4) (by rfl)) <| sG to35 b185_g107 <| sM e185_9 <| sF (fun f => or_index (R := R44) (l := g1.2.1) tl35 f.1 f.2.1 (RdO.some_ (RdO.evo rfl hX185 hAg1_1) hx189) hx189) <| sFE (fun f hE => or_load (l := E44.f x189) ta44 f.1 (RdO.cells (F := E44) (RdO.evo rfl hE (RdO.evo rfl hX185 hAg1_1)) hx189) rfl) <| sO (nw0) ?_
    refine sc (fun own a wx hf hsl hE => ?_) ?_
    ·obtain ⟨⟨g190, f_10, b_g190⟩, f_81, -⟩ := hf
     exact px (or_store (l := #[Zi x189.1, Zi x189.2]) (lab := 191) (lab2 := 192) ts44 f_10 f_81 b_g190 (by simp) (by kernel_rfl) (mem_of rfl) (by decide) (by kernel_rfl) (fun own' a' w' ha hb => ⟨_, (ha 10).trans f_10, hb⟩))
    exact steps_nil
   intro o193 a193 w193 d193 z193 hk193 hf193 hE193
   obtain ⟨e193_4, e193_5, e193_6, e193_7, e193_9⟩ := kt5 hk193 e185_4 e185_5 e185_6 e185_7 e185_9
   obtain ⟨⟨g190, (e193_10 : a193.eval (.tmp 10) = pt g190 0), (b193_g190 : BlkO o193 192 w193 g190 44 #[Zi x189.1, Zi x189.2])⟩, -⟩ := hf193 [6] rfl
   have hX193 := es_ hX185 hE193
   obtain ⟨b193_g107, b193_g109, b193_g111, b193_g113⟩ := be4 hE193 b185_g107 b185_g109 b185_g111 b185_g113
   obtain ⟨x194, hx194, hs⟩ := obind hs
   obtain ⟨r195, hr195, hs⟩ := obind hs
   obtain ⟨x196, hx196, hs⟩ := obind hs
   obtain ⟨r197, hr197, hs⟩ := obind hs
   refine rq_seq 106 o193 [0, 0, 3, 7, 15, 15, 63, 127, 255, 511, 511, 2047, 4095, 8191, 16383, 32767, 65535, 131071, 262143, 262143, 262143, 262143, 4194303, 8388607] [dv [] [10] 82 (P2 x189), dv [] [5] 83 (P2 x2), dv [0, 1] [] 84 (.bool (!decide (x189 = x2))), dv [2] [] 85 (.bool (!decide (x189 = x2))), dc [3] [10] (!decide (x189 = x2)) 86 (P2 x189), dc [3] [6] (!decide (x189 = x2)) 87 (P2 b3), dc [3, 4, 5] [] (!decide (x189 = x2)) 88 (.bool (!decide (x189 = b3))), dv [3, 6] [] 89 (.bool x194), dv [7] [] 90 (.bool x194), dc [8] [10] x194 91 (P2 x189), dc [8] [7] x194 92 (P2 c4), dc [8, 9, 10] [] x194 93 (.bool (!decide (x189 = c4))), dv [8, 11] [] 94 (.bool (x194 && (!decide (x189 = c4)))), dv [12] [] 95 (.bool (x194 && (!decide (x189 = c4)))), dc [13] [10] (x194 && (!decide (x189 = c4))) 96 (P2 x189), dc [13, 14] [] (x194 && (!decide (x189 = c4))) 97 (.bool r195), dv [13, 15] [] 98 (.bool x196), dv [16] [] 99 (.bool x196), dc [17] [5] x196 100 (P2 x2), dc [17] [6] x196 101 (P2 b3), dc [17] [7] x196 102 (P2 c4), dc [17] [10] x196 103 (P2 x189), dc [17, 18, 19, 20, 21] [] x196 104 (.bool r197), dv [17, 22] [] 105 (.bool (x196 && r197))] z193 d193 ?_ ?_
   ·exact sL ta44 e193_10 b193_g190 <| sL ta44 e193_5 b193_g109 <| sF (fun f => or_neqA sg44 f.1 f.2.1 (sn44 x189.1 x189.2 x2.1 x2.2 _) rfl) <| sV <| cTL ta44 e193_10 b193_g190 <| cTL ta44 e193_6 b193_g111 <| cT (fun f _ _ hg => or_neqA sg44 (f.2.1.1 hg) (f.2.2.1.1 hg) (sn44 x189.1 x189.2 b3.1 b3.2 _) rfl) <| sF (fun f => or_and f.1 (fun hx => f.2.1.1 hx) rfl (osome hx194).symm) <| sV <| cTL ta44 e193_10 b193_g190 <| cTL ta44 e193_7 b193_g113 <| cT (fun f _ _ hg => or_neqA sg44 (f.2.1.1 hg) (f.2.2.1.1 hg) (sn44 x189.1 x189.2 c4.1 c4.2 _) rfl) <| sF (fun f => or_and f.1 (fun hx => f.2.1.1 hx) rfl rfl) <| sV <| cTL ta44 e193_10 b193_g190 <| cT (fun f _ _ hg => or_call cf40 (args1 (f.2.1.1 hg)) (ref01_May_w _ x189  r195 (gd_t hr195 hg)) post_val) <| sF (fun f => or_and f.1 (fun hx => f.2.1.1 hx) rfl (osome hx196).symm) <| sV <| cTL ta44 e193_5 b193_g109 <| cTL ta44 e193_6 b193_g111 <| cTL ta44 e193_7 b193_g113 <| cTL ta44 e193_10 b193_g190 <| cT (fun f _ _ hg => or_call cf41 (args4 (f.2.1.1 hg) (f.2.2.1.1 hg) (f.2.2.2.1.1 hg) (f.2.2.2.2.1.1 hg)) (ref01_In_w _ x2 b3 c4 x189  r197 (gd_t hr197 hg)) post_val) <| sF (fun f => or_and f.1 (fun hx => f.2.1.1 hx) rfl rfl) <| steps_nil
   intro o198 a198 w198 d198 z198 hk198 hf198 hE198
   obtain ⟨e198_4, e198_5, e198_6, e198_7, e198_9⟩ := kt5 hk198 e193_4 e193_5 e193_6 e193_7 e193_9
   have e198_105 := gv (hf198 [23] rfl) rfl
   have hX198 := es_ hX193 hE198
   obtain ⟨b198_g107, b198_g109, b198_g111, b198_g113⟩ := be4 hE198 b193_g107 b193_g109 b193_g111 b193_g113
   refine fl_cond e198_105 hs (fun c199 hs => ?_) (fun c199 hs => ?_)
   ·refine rq_seq 106 o198 (bz 1) [dv [] [] 8 (Zi 4)] z198 d198 ?_ ?_
    ·exact sO (or_assign rfl) <| steps_nil
    intro o200 a200 w200 d200 z200 hk200 hf200 hE200
    have e200_8 := gv (hf200 [0] rfl) rfl
    have hX200 := es_ hX198 hE200
    refine fl_ret ?_
    refine hp188 _ _ _ rfl ?_
    refine hp187 _ _ _ rfl ?_
    replace hs := z182 _ hs
    refine hp182 _ _ _ rfl ?_
    refine hp142 _ _ _ rfl ?_
    refine hp140 _ _ _ rfl ?_
    obtain rfl := osome hs
    exact hret _ _ _ _ (.inl rfl) d200 (results1_ rfl (RVal.tmp_ e200_8)) ⟨o200, rfl, hX200⟩
   refine fl_skip ?_
   refine hn188 _ _ ?_
   refine hn187 _ _ ?_
   refine rq 106 o198 (bz 3) [dv [] [9] 75 (Zi i162), dv [0] [] 76 (Zi (ad i162 1)), dv [1] [] 9 (Zi (ad i162 1))] z198 d198 ?_ ?_
   ·exact sM e198_9 <| sF (fun f => or_add f.1 rfl rfl) <| sA <| steps_nil
   intro o201 a201 w201 d201 z201 hk201 hf201 hE201
   obtain ⟨e201_4, e201_5, e201_6, e201_7⟩ := kt4 hk201 e198_4 e198_5 e198_6 e198_7
   have e201_9 := gv (hf201 [2] rfl) rfl
   have hX201 := es_ hX198 hE201
   obtain ⟨b201_g107, b201_g109, b201_g111, b201_g113⟩ := be4 hE201 b198_g107 b198_g109 b198_g111 b198_g113
   exact hn182 _ _ _ hs ⟨o201, d201, z201, e201_4, e201_5, e201_6, e201_7, e201_9, hX201, b201_g107, b201_g109, b201_g111, b201_g113⟩
  refine fl_exit ?_
  refine hp184 _ _ _ rfl ?_
  replace hs := z182 _ hs
  refine hp182 _ _ _ rfl ?_
  refine hx142 _ _ ?_
  refine hn140 _ _ ?_
  refine rq_seq 106 o185 (bz 1) [dv [] [] 8 (Zi 0)] z185 d185 ?_ ?_
  ·exact sO (or_assign rfl) <| steps_nil
  intro o202 a202 w202 d202 z202 hk202 hf202 hE202
  have e202_8 := gv (hf202 [0] rfl) rfl
  have hX202 := es_ hX185 hE202
  refine fl_ret ?_
  obtain rfl := osome hs
  exact hret _ _ _ _ (.inl rfl) d202 (results1_ rfl (RVal.tmp_ e202_8)) ⟨o202, rfl, hX202⟩
end Go.Proofs.Ytoccfdohlefifaa
