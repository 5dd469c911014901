import Derived.Test.YtoccfdohlefifaaWp2
import Derived.Test.YtoccfdohlefifaaSp3
namespace Go.Proofs.Ytoccfdohlefifaa
open Go.RowKit
set_option linter.unusedVariables false
set_option maxRecDepth 10000
set_option maxHeartbeats 2000000 in
theorem rows_Index_Find_w (w : World) (x1 : (List ((Int × Int) × (Int × Int))) × (List ((Int × Int) × (List Int))) × (List Int)) (gx1 : Nat) (tx1 : TypeId) (Ax1_0 : Option Addr) (cx1_0 : Nat) (mx1_1 : Nat) (Ax1_2 : Option Addr) (cx1_2 : Nat) (b2 : (Int × Int) × (Int × Int)) (hgx1 : BlkO (fun _ => 0) 0 w gx1 tx1 #[.slice Ax1_0 x1.1.length cx1_0, .map (some mx1_1), .slice Ax1_2 x1.2.2.length cx1_2]) (hAx1_0 : RdO (fun _ => 0) [0] w R80 Ax1_0 cx1_0 x1.1) (hmx1_1 : MpN (fun _ => 0) 0 0 [0] w mx1_1 vv111 3 R3 x1.2.1) (hAx1_2 : RdO (fun _ => 0) [0] w R3 Ax1_2 cx1_2 x1.2.2) (r : List Int) (hs : rows_Index_Find x1 b2 = some r) :
    Calls Try.prog 35 #[.pointer (some ⟨gx1, 0, none⟩), .agg #[.int .i64 b2.1.1, .int .i64 b2.1.2, .int .i64 b2.2.1, .int .i64 b2.2.2]] w fun e w' => ∃ (own' : Own) (x : Option Addr × Nat), e = .returned (.slice x.1 r.length x.2) ∧ Evo [] (fun _ => 0) own' w w' ∧ RwO own' 1 [] w' 3 R3 x.1 x.2 r := by
  refine fl_enterM (n := 104) (kD := 11) (by decide) rfl rfl rfl (Nat.le_of_ble_eq_true rfl) ?_
  intro a0 Q hd0 hz0 harg hret
  have ha0 := harg 0 _ rfl
  have ha1 := harg 1 _ rfl
  clear harg
  have hE0 : Evo [] (fun _ => 0) (fun _ => 0) w w := Evo.refl _ _ _
  have hmk0 : MkO (fun _ => 0) 11 w [] := MkO.nil_
  refine rg0_seq 104 (fun _ => 0) [0, 0, 0] [⟨[], [0], [], Fct.blk 3089 2 (fun g => .pointer (some ⟨g, 0, none⟩)) 70 #[.pointer (some ⟨gx1, 0, none⟩)]⟩,     ⟨[], [1], [], Fct.blk 3091 3 (fun g => .pointer (some ⟨g, 0, none⟩)) 80 #[.int .i64 b2.1.1, .int .i64 b2.1.2, .int .i64 b2.2.1, .int .i64 b2.2.2]⟩,     ⟨[], [], [], Fct.val 4 (.slice none 0 0)⟩] hz0 hd0 (by kernel_rfl) ?_ ?_
  · refine sc (fun _ _ _ _ s _ => px (or_new [(0, .pointer (some ⟨gx1, 0, none⟩))] rfl rfl ⟨(s.1.trans ha0), trivial⟩ (by kernel_rfl))) ?_
    refine sc (fun _ _ _ _ s _ => px (or_new [(1, .agg #[.int .i64 b2.1.1, .int .i64 b2.1.2, .int .i64 b2.2.1, .int .i64 b2.2.2])] rfl rfl ⟨(s.1.trans ha1), trivial⟩ (by kernel_rfl))) ?_
    refine sc (fun _ _ _ _ _ _ => px (or_assign rfl)) ?_
    exact steps_nil
  intro own3092 a3092 w3092 hd3092 hz3092 hk3092 hf3092 hE3092
  obtain ⟨⟨g3088, (e3092_2 : a3092.eval (.tmp 2) = .pointer (some ⟨g3088, 0, none⟩)), (b3092_g3088 : BlkO own3092 3089 w3092 g3088 70 #[.pointer (some ⟨gx1, 0, none⟩)])⟩, ⟨g3090, (e3092_3 : a3092.eval (.tmp 3) = .pointer (some ⟨g3090, 0, none⟩)), (b3092_g3090 : BlkO own3092 3091 w3092 g3090 80 #[.int .i64 b2.1.1, .int .i64 b2.1.2, .int .i64 b2.2.1, .int .i64 b2.2.2])⟩, -⟩ := hf3092 [0, 1] rfl
  have hX3092 := es_ hE0 hE3092
  have b3092_Ax1_0 := RdO.evo rfl hE3092 hAx1_0
  have b3092_mx1_1 := MpN.evo rfl hE3092 hmx1_1
  have b3092_Ax1_2 := RdO.evo rfl hE3092 hAx1_2
  have b3092_gx1 := be_ hE3092 hgx1
  have b3092_mk := MkO.evo (by decide) hE3092 hmk0
  refine fl_seq (fun Q3093 hn3093 hp3093 => ?_)
  obtain ⟨r3094, hr3094, hs⟩ := obind hs
  refine rg0_seq 104 own3092 (bz 7) [⟨[], [2], [], Fct.val 14 (.pointer (some ⟨gx1, 0, none⟩))⟩,     ⟨[0], [], [], Fct.val 15 (.bool false)⟩,     ⟨[1], [], [], Fct.val 16 (.bool false)⟩,     ⟨[2], [3], [], Fct.cond (!false) (some 17) (Fct.val 17 (.agg #[.int .i64 b2.1.1, .int .i64 b2.1.2, .int .i64 b2.2.1, .int .i64 b2.2.2]))⟩,     ⟨[2, 3], [], [], Fct.cond (!false) (some 18) (Fct.val 18 (.bool r3094))⟩,     ⟨[2, 4], [], [], Fct.cond (!false) (some 19) (Fct.val 19 (.bool (!r3094)))⟩,     ⟨[2, 5], [], [], Fct.val 20 (.bool (false || (!r3094)))⟩] hz3092 hd3092 (by kernel_rfl) ?_ ?_
  · refine sc (fun _ _ _ _ s hE => px (or_load1 to70 (s.1.trans e3092_2) (Blk.at_ (be_ hE b3092_g3088).2 0 rfl))) ?_
    refine sc (fun _ _ _ f _ _ => px (or_k [(14, .pointer (some ⟨gx1, 0, none⟩))] rfl rfl ⟨f.1, trivial⟩ (by kernel_rfl))) ?_
    refine sc (fun _ _ _ f _ _ => px (or_move f.1)) ?_
    refine sc (fun _ _ _ f s hE => sg_f rfl rfl rfl f.1 (fun hg => or_load (l := [.int .i64 b2.1.1, .int .i64 b2.1.2, .int .i64 b2.2.1, .int .i64 b2.2.2]) ta80 (s.1.trans e3092_3) (Blk.cellsFrom (be_ hE b3092_g3090).2 0 rfl) rfl)) ?_
    refine sc (fun _ _ _ f _ _ => sg_f rfl rfl rfl f.1 (fun hg => or_call cf48 (args1 (f.2.1.1 hg)) (rows_Right_w _ b2  r3094 (gd_t hr3094 hg)) post_val)) ?_
    refine sc (fun _ _ _ f _ _ => sg_f rfl rfl rfl f.1 (fun hg => or_not (f.2.1.1 hg) rfl)) ?_
    refine sc (fun _ _ _ f _ _ => px (or_or f.1 rfl (fun hx => f.2.1.1 hx) rfl)) ?_
    exact steps_nil
  intro own3095 a3095 w3095 hd3095 hz3095 hk3095 hf3095 hE3095
  have e3095_2 := (hk3095 2 rfl).trans e3092_2
  have e3095_3 := (hk3095 3 rfl).trans e3092_3
  obtain ⟨(e3095_20 : a3095.eval (.tmp 20) = .bool (false || (!r3094))), -⟩ := hf3095 [6] rfl
  have hX3095 := es_ hX3092 hE3095
  have b3095_Ax1_0 := RdO.evo rfl hE3095 b3092_Ax1_0
  have b3095_mx1_1 := MpN.evo rfl hE3095 b3092_mx1_1
  have b3095_Ax1_2 := RdO.evo rfl hE3095 b3092_Ax1_2
  have b3095_gx1 := be_ hE3095 b3092_gx1
  have b3095_mk := MkO.evo (by decide) hE3095 b3092_mk
  have b3095_g3088 := be_ hE3095 b3092_g3088
  have b3095_g3090 := be_ hE3095 b3092_g3090
  refine fl_cond e3095_20 hs (fun c3096 hs => ?_) (fun c3096 hs => ?_)
  · refine rg0_seq 104 own3095 (bz 1) [⟨[], [], [], Fct.val 4 (.slice none 0 0)⟩] hz3095 hd3095 (by kernel_rfl) ?_ ?_
    · refine sc (fun _ _ _ _ _ _ => px (or_assign rfl)) ?_
      exact steps_nil
    intro own3097 a3097 w3097 hd3097 hz3097 hk3097 hf3097 hE3097
    obtain ⟨(e3097_4 : a3097.eval (.tmp 4) = .slice none 0 0), -⟩ := hf3097 [0] rfl
    have hX3097 := es_ hX3095 hE3097
    have b3097_mk := MkO.evo (by decide) hE3097 b3095_mk
    refine fl_ret ?_
    refine hp3093 _ _ _ rfl ?_
    refine hret _ _ _ _ _ (.inl rfl) hd3097 b3097_mk (fun own3098 w3098 hE3098 => ?_)
    have hX3099 := es_ hX3097 hE3098
    obtain rfl := osome hs
    exact ⟨_, results1_ rfl (RVal.tmp_ e3097_4), ⟨own3098, (none, 0), rfl, hX3099, RwO.nil_⟩⟩
  refine fl_skip ?_
  refine hn3093 _ _ ?_
  refine rg0_seq 104 own3095 (bz 1) [⟨[], [], [], Fct.blk 3101 5 (fun g => .pointer (some ⟨g, 0, none⟩)) 22 #[.slice none 0 0]⟩] hz3095 hd3095 (by kernel_rfl) ?_ ?_
  · refine sc (fun _ _ _ _ _ _ => px (or_new [] rfl rfl trivial (by kernel_rfl))) ?_
    exact steps_nil
  intro own3102 a3102 w3102 hd3102 hz3102 hk3102 hf3102 hE3102
  have e3102_2 := (hk3102 2 rfl).trans e3095_2
  have e3102_3 := (hk3102 3 rfl).trans e3095_3
  obtain ⟨⟨g3100, (e3102_5 : a3102.eval (.tmp 5) = .pointer (some ⟨g3100, 0, none⟩)), (b3102_g3100 : BlkO own3102 3101 w3102 g3100 22 #[.slice none 0 0])⟩, -⟩ := hf3102 [0] rfl
  have hX3102 := es_ hX3095 hE3102
  have b3102_Ax1_0 := RdO.evo rfl hE3102 b3095_Ax1_0
  have b3102_mx1_1 := MpN.evo rfl hE3102 b3095_mx1_1
  have b3102_Ax1_2 := RdO.evo rfl hE3102 b3095_Ax1_2
  have b3102_gx1 := be_ hE3102 b3095_gx1
  have b3102_mk := MkO.evo (by decide) hE3102 b3095_mk
  have b3102_g3088 := be_ hE3102 b3095_g3088
  have b3102_g3090 := be_ hE3102 b3095_g3090
  refine fl_seq (fun Q3103 hn3103 hp3103 => ?_)
  obtain ⟨r3104, hr3104, hs⟩ := obind hs
  refine rg0_seq 104 own3102 (bz 2) [⟨[], [3], [], Fct.val 21 (.agg #[.int .i64 b2.1.1, .int .i64 b2.1.2, .int .i64 b2.2.1, .int .i64 b2.2.2])⟩,     ⟨[0], [], [], Fct.val 22 (.bool r3104)⟩] hz3102 hd3102 (by kernel_rfl) ?_ ?_
  · refine sc (fun _ _ _ _ s hE => px (or_load (l := [.int .i64 b2.1.1, .int .i64 b2.1.2, .int .i64 b2.2.1, .int .i64 b2.2.2]) ta80 (s.1.trans e3102_3) (Blk.cellsFrom (be_ hE b3102_g3090).2 0 rfl) rfl)) ?_
    refine sc (fun _ _ _ f _ _ => px (or_call cf49 (args1 f.1) (rows_great_w _ b2  r3104 hr3104) post_val)) ?_
    exact steps_nil
  intro own3105 a3105 w3105 hd3105 hz3105 hk3105 hf3105 hE3105
  have e3105_2 := (hk3105 2 rfl).trans e3102_2
  have e3105_3 := (hk3105 3 rfl).trans e3102_3
  have e3105_5 := (hk3105 5 rfl).trans e3102_5
  obtain ⟨(e3105_22 : a3105.eval (.tmp 22) = .bool r3104), -⟩ := hf3105 [1] rfl
  have hX3105 := es_ hX3102 hE3105
  have b3105_Ax1_0 := RdO.evo rfl hE3105 b3102_Ax1_0
  have b3105_mx1_1 := MpN.evo rfl hE3105 b3102_mx1_1
  have b3105_Ax1_2 := RdO.evo rfl hE3105 b3102_Ax1_2
  have b3105_gx1 := be_ hE3105 b3102_gx1
  have b3105_mk := MkO.evo (by decide) hE3105 b3102_mk
  have b3105_g3088 := be_ hE3105 b3102_g3088
  have b3105_g3090 := be_ hE3105 b3102_g3090
  have b3105_g3100 := be_ hE3105 b3102_g3100
  refine fl_cond e3105_22 hs (fun c3106 hs => ?_) (fun c3106 hs => ?_)
  · refine fl_seq (fun Q3107 hn3107 hp3107 => ?_)
    refine rg0_seq 104 own3105 [0, 1, 3, 7, 15, 0] [⟨[], [2], [], Fct.val 23 (.pointer (some ⟨gx1, 0, none⟩))⟩,     ⟨[0], [], [], Fct.val 24 (.pointer (some ⟨gx1, 0, none⟩))⟩,     ⟨[1], [], [], Fct.val 25 (.pointer (some ⟨gx1, 0, none⟩))⟩,     ⟨[2], [], [], Fct.val 26 (.slice Ax1_0 x1.1.length cx1_0)⟩,     ⟨[3], [], [], Fct.val 27 (.int .i64 (x1.1.length : Int))⟩,     ⟨[], [], [], Fct.val 28 (.int .i64 0)⟩] hz3105 hd3105 (by kernel_rfl) ?_ ?_
    · refine sc (fun _ _ _ _ s hE => px (or_load1 to70 (s.1.trans e3105_2) (Blk.at_ (be_ hE b3105_g3088).2 0 rfl))) ?_
      refine sc (fun _ _ _ f _ _ => px (or_k [(23, .pointer (some ⟨gx1, 0, none⟩))] rfl rfl ⟨f.1, trivial⟩ (by kernel_rfl))) ?_
      refine sc (fun _ _ _ f _ _ => px (or_field fo106_0 f.1 (by rfl))) ?_
      refine sc (fun _ _ _ f _ hE => px (or_load1 to103 f.1 (Blk.at_ (be_ hE b3105_gx1).2 0 rfl))) ?_
      refine sc (fun _ _ _ f _ _ => px (or_len tu103 f.1 rfl)) ?_
      refine sc (fun _ _ _ _ _ _ => px (or_move rfl)) ?_
      exact steps_nil
    intro own3108 a3108 w3108 hd3108 hz3108 hk3108 hf3108 hE3108
    have e3108_3 := (hk3108 3 rfl).trans e3105_3
    have e3108_5 := (hk3108 5 rfl).trans e3105_5
    obtain ⟨(e3108_26 : a3108.eval (.tmp 26) = .slice Ax1_0 x1.1.length cx1_0), (e3108_27 : a3108.eval (.tmp 27) = .int .i64 (x1.1.length : Int)), (e3108_28 : a3108.eval (.tmp 28) = .int .i64 0), -⟩ := hf3108 [3, 4, 5] rfl
    have hX3108 := es_ hX3105 hE3108
    have b3108_Ax1_0 := RdO.evo rfl hE3108 b3105_Ax1_0
    have b3108_mk := MkO.evo (by decide) hE3108 b3105_mk
    have b3108_g3090 := be_ hE3108 b3105_g3090
    have b3108_g3100 := be_ hE3108 b3105_g3100
    refine fl_block (fun Q3109 hn3109 hx3109 hp3109 => ?_)
    refine fl_loop (body := (fun s => rows_Index_Find_b1 x1 b2 s.1 s.2)) (z := r) (show loopO _ _ = _ from hs) (fun (s : (List Int) × Int) a wx => match s with | (out3223, x3225) => ∃ (ox : Own) (A3221 : Option Addr) (c3222 : Nat), a.defers = mkD [] ∧ a.tmps.size = 104 ∧ a.eval (.tmp 3) = .pointer (some ⟨g3090, 0, none⟩) ∧ a.eval (.tmp 5) = .pointer (some ⟨g3100, 0, none⟩) ∧ a.eval (.tmp 26) = .slice Ax1_0 x1.1.length cx1_0 ∧ a.eval (.tmp 27) = .int .i64 (x1.1.length : Int) ∧ a.eval (.tmp 28) = .int .i64 x3225 ∧ Evo [] (fun _ => 0) ox w wx ∧ BlkO ox 3091 wx g3090 80 #[.int .i64 b2.1.1, .int .i64 b2.1.2, .int .i64 b2.2.1, .int .i64 b2.2.2] ∧ BlkO ox 3220 wx g3100 22 #[.slice A3221 out3223.length c3222] ∧ RwO ox 3224 [] wx 3 R3 A3221 c3222 out3223 ∧ RdO ox [0] wx R80 Ax1_0 cx1_0 x1.1 ∧ MkO ox 11 wx []) ?_ ?_
    · exact ⟨(rl [(3101, 3220)] own3108), none, 0, hd3108, hz3108, e3108_3, e3108_5, e3108_26, e3108_27, e3108_28, (Evo.rl_ hX3108 (fun _ => Nat.le_refl 0) rfl), (BlkO.rl_ (mm := [(3101, 3220)]) b3108_g3090), (BlkO.rl_ (mm := [(3101, 3220)]) b3108_g3100), RwO.nil_, (RdO.rl_ (mm := [(3101, 3220)]) b3108_Ax1_0), (MkO.rl_ (mm := [(3101, 3220)]) b3108_mk)⟩
    · rintro ⟨out3223, x3225⟩ zz3336 a3336 w3336 ⟨own3336, A3221, c3222, hd3337, hz3337, e3337_3, e3337_5, e3337_26, e3337_27, e3337_28, hE3337, b3337_g3090, b3337_g3100, b3337_A3221, b3337_Ax1_0, b3337_mk⟩ hs Q3336 hn3336 hp3336 hz3336
      have hs : rows_Index_Find_b1 x1 b2 out3223 x3225 = some zz3336 := hs
      refine rg0_seq 104 own3336 (bz 1) [⟨[], [28, 27], [], Fct.val 29 (.bool (decide (x3225 < (x1.1.length : Int))))⟩] hz3337 hd3337 (by kernel_rfl) ?_ ?_
      · refine sc (fun _ _ _ _ s _ => px (or_lss (s.1.trans e3337_28) (s.2.1.trans e3337_27) rfl)) ?_
        exact steps_nil
      intro own3338 a3338 w3338 hd3338 hz3338 hk3338 hf3338 hE3338
      have e3338_3 := (hk3338 3 rfl).trans e3337_3
      have e3338_5 := (hk3338 5 rfl).trans e3337_5
      have e3338_26 := (hk3338 26 rfl).trans e3337_26
      have e3338_27 := (hk3338 27 rfl).trans e3337_27
      have e3338_28 := (hk3338 28 rfl).trans e3337_28
      obtain ⟨(e3338_29 : a3338.eval (.tmp 29) = .bool (decide (x3225 < (x1.1.length : Int)))), -⟩ := hf3338 [0] rfl
      have hX3338 := es_ hE3337 hE3338
      have b3338_g3090 := be_ hE3338 b3337_g3090
      have b3338_g3100 := be_ hE3338 b3337_g3100
      have b3338_A3221 := re_ hE3338 b3337_A3221
      have b3338_Ax1_0 := RdO.evo rfl hE3338 b3337_Ax1_0
      have b3338_mk := MkO.evo (by decide) hE3338 b3337_mk
      refine fl_seq (fun Q3339 hn3339 hp3339 => ?_)
      refine fl_cond e3338_29 hs (fun c3340 hs => ?_) (fun c3340 hs => ?_)
      · refine fl_skip ?_
        refine hn3339 _ _ ?_
        refine fl_seq (fun Q3341 hn3341 hp3341 => ?_)
        refine fl_block (fun Q3394 hn3394 hx3394 hp3394 => ?_)
        have K3422 : ∀ (a3422 : Act) (w3422 : World) (own3422 : Own) (out3420 : List Int) (A3418 : Option Addr) (c3419 : Nat), a3422.defers = mkD [] → a3422.tmps.size = 104 → a3422.eval (.tmp 3) = .pointer (some ⟨g3090, 0, none⟩) → a3422.eval (.tmp 5) = .pointer (some ⟨g3100, 0, none⟩) → a3422.eval (.tmp 26) = .slice Ax1_0 x1.1.length cx1_0 → a3422.eval (.tmp 27) = .int .i64 (x1.1.length : Int) → a3422.eval (.tmp 28) = .int .i64 x3225 → Evo [] (fun _ => 0) own3422 w w3422 → BlkO own3422 3091 w3422 g3090 80 #[.int .i64 b2.1.1, .int .i64 b2.1.2, .int .i64 b2.2.1, .int .i64 b2.2.2] → BlkO own3422 3417 w3422 g3100 22 #[.slice A3418 out3420.length c3419] → RwO own3422 3421 [] w3422 3 R3 A3418 c3419 out3420 → RdO own3422 [0] w3422 R80 Ax1_0 cx1_0 x1.1 → MkO own3422 11 w3422 [] → rows_Index_Find_k2 x3225 out3420 = some zz3336 → (Q3394 .normal a3422 w3422 ∧ Q3394 (.exit 1) a3422 w3422) := by
          intro a3422 w3422 own3422 out3420 A3418 c3419 hd3423 hz3423 e3423_3 e3423_5 e3423_26 e3423_27 e3423_28 hE3423 b3423_g3090 b3423_g3100 b3423_A3418 b3423_Ax1_0 b3423_mk hs
          refine and_both (hn3394 _ _) (hx3394 _ _) ?_
          refine hn3341 _ _ ?_
          refine rg0 104 own3422 (bz 2) [⟨[], [28], [], Fct.val 40 (.int .i64 (ad x3225 1))⟩,     ⟨[0], [], [], Fct.val 28 (.int .i64 (ad x3225 1))⟩] hz3423 hd3423 (by kernel_rfl) ?_ ?_
          · refine sc (fun _ _ _ _ s _ => px (or_add (s.1.trans e3423_28) rfl rfl)) ?_
            refine sc (fun _ _ _ f _ _ => px (or_move f.1)) ?_
            exact steps_nil
          intro own3424 a3424 w3424 hd3424 hz3424 hk3424 hf3424 hE3424
          have e3424_3 := (hk3424 3 rfl).trans e3423_3
          have e3424_5 := (hk3424 5 rfl).trans e3423_5
          have e3424_26 := (hk3424 26 rfl).trans e3423_26
          have e3424_27 := (hk3424 27 rfl).trans e3423_27
          obtain ⟨(e3424_28 : a3424.eval (.tmp 28) = .int .i64 (ad x3225 1)), -⟩ := hf3424 [1] rfl
          have hX3424 := es_ hE3423 hE3424
          have b3424_g3090 := be_ hE3424 b3423_g3090
          have b3424_g3100 := be_ hE3424 b3423_g3100
          have b3424_A3418 := re_ hE3424 b3423_A3418
          have b3424_Ax1_0 := RdO.evo rfl hE3424 b3423_Ax1_0
          have b3424_mk := MkO.evo (by decide) hE3424 b3423_mk
          exact hn3336 _ _ _ hs ⟨(rl [(3417, 3220), (3421, 3224)] own3424), A3418, c3419, hd3424, hz3424, e3424_3, e3424_5, e3424_26, e3424_27, e3424_28, (Evo.rl_ hX3424 (fun _ => Nat.le_refl 0) rfl), (BlkO.rl_ (mm := [(3417, 3220), (3421, 3224)]) b3424_g3090), (BlkO.rl_ (mm := [(3417, 3220), (3421, 3224)]) b3424_g3100), (RwO.rl_ (mm := [(3417, 3220), (3421, 3224)]) b3424_A3418), (RdO.rl_ (mm := [(3417, 3220), (3421, 3224)]) b3424_Ax1_0), (MkO.rl_ (mm := [(3417, 3220), (3421, 3224)]) b3424_mk)⟩
        obtain ⟨x3425, hx3425, hs⟩ := obind hs
        refine rg_plain_seq (n := 104) (rs := []) (own0 := own3338) (K := [3427]) (bs := [0, 0, 2, 0, 15, 31]) (ds := [⟨[], [28], [], Fct.val 30 (.int .i64 x3225)⟩,     ⟨[], [26, 28], [], Fct.val 31 (.pointer (some ((adr Ax1_0).add ((x3225 : Int).toNat * R80.s))))⟩,     ⟨[1], [], [], Fct.val 32 (.agg #[.int .i64 x3425.1.1, .int .i64 x3425.1.2, .int .i64 x3425.2.1, .int .i64 x3425.2.2])⟩,     ⟨[], [], [], Fct.blk 3427 7 (fun g => .pointer (some ⟨g, 0, none⟩)) 80 #[.int .i64 0, .int .i64 0, .int .i64 0, .int .i64 0]⟩,     ⟨[0], [], [], Fct.val 6 (.int .i64 x3225)⟩,     ⟨[3, 2], [], [3427], Fct.blk 3428 7 (fun g => .pointer (some ⟨g, 0, none⟩)) 80 #[.int .i64 x3425.1.1, .int .i64 x3425.1.2, .int .i64 x3425.2.1, .int .i64 x3425.2.2]⟩]) (by kernel_rfl) hz3338 hd3338 nm_ ?_ ?_
        · refine sc (fun _ _ _ _ s _ => px (or_move (s.1.trans e3338_28))) ?_
          refine sc (fun _ _ _ _ s _ => px (or_index (R := R80) (l := x1.1) tl103 (s.1.trans e3338_26) (s.2.1.trans e3338_28) (RdO.some_ b3338_Ax1_0 hx3425) hx3425)) ?_
          refine sc (fun _ _ _ f _ hE => px (or_load (l := E80.f x3425) ta80 f.1 (RdO.cells (F := E80) (RdO.evo rfl hE b3338_Ax1_0) hx3425) rfl)) ?_
          refine sc (fun _ _ _ _ _ _ => px (or_new [] rfl rfl trivial (by kernel_rfl))) ?_
          refine sc (fun _ _ _ f _ _ => px (or_assign f.1)) ?_
          refine sc (fun own a wx hf hsl hE => ?_) ?_
          · obtain ⟨⟨g3426, f_7, b_g3426⟩, f_32, -⟩ := hf
            exact px (or_store (l := #[.int .i64 x3425.1.1, .int .i64 x3425.1.2, .int .i64 x3425.2.1, .int .i64 x3425.2.2]) (lab := 3427) (lab2 := 3428) ts80 f_7 f_32 b_g3426 (by simp) (by kernel_rfl) (mem_of rfl) (by decide) (by kernel_rfl) (fun own' a' w' ha hb => ⟨_, (ha 7).trans f_7, hb⟩))
          exact steps_nil
        intro own3429 a3429 w3429 hd3429 hz3429 hk3429 hf3429 hE3429
        have e3429_3 := (hk3429 3 rfl).trans e3338_3
        have e3429_5 := (hk3429 5 rfl).trans e3338_5
        have e3429_26 := (hk3429 26 rfl).trans e3338_26
        have e3429_27 := (hk3429 27 rfl).trans e3338_27
        have e3429_28 := (hk3429 28 rfl).trans e3338_28
        obtain ⟨⟨g3426, (e3429_7 : a3429.eval (.tmp 7) = .pointer (some ⟨g3426, 0, none⟩)), (b3429_g3426 : BlkO own3429 3428 w3429 g3426 80 #[.int .i64 x3425.1.1, .int .i64 x3425.1.2, .int .i64 x3425.2.1, .int .i64 x3425.2.2])⟩, (e3429_6 : a3429.eval (.tmp 6) = .int .i64 x3225), -⟩ := hf3429 [5, 4] rfl
        have hX3429 := es_ hX3338 hE3429
        have b3429_g3090 := be_ hE3429 b3338_g3090
        have b3429_g3100 := be_ hE3429 b3338_g3100
        have b3429_A3221 := re_ hE3429 b3338_A3221
        have b3429_Ax1_0 := RdO.evo rfl hE3429 b3338_Ax1_0
        have b3429_mk := MkO.evo (by decide) hE3429 b3338_mk
        obtain ⟨r3430, hr3430, hs⟩ := obind hs
        refine rg0_seq 104 own3429 [0, 0, 3] [⟨[], [3], [], Fct.val 33 (.agg #[.int .i64 b2.1.1, .int .i64 b2.1.2, .int .i64 b2.2.1, .int .i64 b2.2.2])⟩,     ⟨[], [7], [], Fct.val 34 (.agg #[.int .i64 x3425.1.1, .int .i64 x3425.1.2, .int .i64 x3425.2.1, .int .i64 x3425.2.2])⟩,     ⟨[0, 1], [], [], Fct.val 35 (.bool r3430)⟩] hz3429 hd3429 (by kernel_rfl) ?_ ?_
        · refine sc (fun _ _ _ _ s hE => px (or_load (l := [.int .i64 b2.1.1, .int .i64 b2.1.2, .int .i64 b2.2.1, .int .i64 b2.2.2]) ta80 (s.1.trans e3429_3) (Blk.cellsFrom (be_ hE b3429_g3090).2 0 rfl) rfl)) ?_
          refine sc (fun _ _ _ _ s hE => px (or_load (l := [.int .i64 x3425.1.1, .int .i64 x3425.1.2, .int .i64 x3425.2.1, .int .i64 x3425.2.2]) ta80 (s.1.trans e3429_7) (Blk.cellsFrom (be_ hE b3429_g3426).2 0 rfl) rfl)) ?_
          refine sc (fun _ _ _ f _ _ => px (or_call cf55 (args2 f.1 f.2.1) (rows_Meet_w _ b2 x3425  r3430 hr3430) post_val)) ?_
          exact steps_nil
        intro own3431 a3431 w3431 hd3431 hz3431 hk3431 hf3431 hE3431
        have e3431_3 := (hk3431 3 rfl).trans e3429_3
        have e3431_5 := (hk3431 5 rfl).trans e3429_5
        have e3431_6 := (hk3431 6 rfl).trans e3429_6
        have e3431_26 := (hk3431 26 rfl).trans e3429_26
        have e3431_27 := (hk3431 27 rfl).trans e3429_27
        have e3431_28 := (hk3431 28 rfl).trans e3429_28
        obtain ⟨(e3431_35 : a3431.eval (.tmp 35) = .bool r3430), -⟩ := hf3431 [2] rfl
        have hX3431 := es_ hX3429 hE3431
        have b3431_g3090 := be_ hE3431 b3429_g3090
        have b3431_g3100 := be_ hE3431 b3429_g3100
        have b3431_A3221 := re_ hE3431 b3429_A3221
        have b3431_Ax1_0 := RdO.evo rfl hE3431 b3429_Ax1_0
        have b3431_mk := MkO.evo (by decide) hE3431 b3429_mk
        refine fl_cond e3431_35 hs (fun c3432 hs => ?_) (fun c3432 hs => ?_)
        · obtain ⟨x3442, hx3442, hs⟩ := obind hs
          refine rg_plain (n := 104) (rs := [Fct.rowAt 3224 [] 3 R3 A3221 c3222 out3223, Fct.at_ 3220 g3100 22 #[.slice A3221 out3223.length c3222]]) (own0 := own3431) (K := [3224, 3220]) (bs := [0, 0, 2, 7, 15]) (ds := [⟨[6], [5], [], Fct.val 36 (.slice A3221 out3223.length c3222)⟩,     ⟨[], [6], [], Fct.val 37 (.int .i64 x3225)⟩,     ⟨[1], [], [], Fct.row 3441 [] 38 3 R3 [x3225]⟩,     ⟨[0, 2, 5], [], [3224], Fct.row 3443 [] 39 3 R3 x3442⟩,     ⟨[3, 6], [5], [3220], Fct.by_ [3445] [39] (fun l own w => ∀ (A3444 : Option Addr) (cA3444 : Nat), l.getD 0 undef = .slice A3444 x3442.length cA3444 → BlkO own 3445 w g3100 22 #[.slice A3444 x3442.length cA3444]) (fun hk he h _ _ h0' => BlkO.evo (not_hit hk (by decide)) he (h _ _ h0'))⟩]) (by kernel_rfl) hz3431 hd3431 (by simp only [List.forall_mem_cons]; exact ⟨b3431_A3221, b3431_g3100, fun _ h => nomatch h⟩) ?_ ?_
          · refine sc (fun own a wx hf hsl hE => ?_) ?_
            · obtain ⟨(b_g3100 : BlkO own 3220 wx g3100 22 #[.slice A3221 out3223.length c3222]), -⟩ := hf
              obtain ⟨s_5, -⟩ := hsl
              exact px (or_load1 to22 (s_5.trans e3431_5) (Blk.at_ b_g3100.2 0 rfl))
            refine sc (fun _ _ _ _ s _ => px (or_move (s.1.trans e3431_6))) ?_
            refine sc (fun _ _ _ f _ _ => px (or_lit (lab := 3441) (e := 3) (cs := #[.int .i64 x3225]) (F := E3) (or_new [(37, .int .i64 x3225)] rfl rfl ⟨f.1, trivial⟩ (by kernel_rfl)) rfl rfl (show 1 ≤ maxLen by decide))) ?_
            refine sc (fun own a wx hf hsl hE => ?_) ?_
            · obtain ⟨f_36, ⟨⟨A3440, cA3440⟩, f_38, b_A3440⟩, b_A3221, -⟩ := hf
              exact px (or_append (R := R3) (lab := 3224) (lab2 := 3443) (L := []) (L3 := []) tp22 f_36 b_A3221 (by decide) f_38 (RwO.rd b_A3440) hx3442 (by decide) (by decide) (mem_of rfl) (.inl (Rep.fl_flat _)))
            refine sc (fun own a wx hf hsl hE => ?_) ?_
            · obtain ⟨⟨⟨A3444, cA3444⟩, (f_39 : a.eval (.tmp 39) = .slice A3444 x3442.length cA3444), b_A3444⟩, b_g3100, -⟩ := hf
              obtain ⟨s_5, -⟩ := hsl
              exact px (or_store1 (lab := 3220) (lab2 := 3445) ts22 (s_5.trans e3431_5) f_39 b_g3100 (by simp) rfl (mem_of rfl) (by decide) rfl (fun own' a' w' ha hb => fun _ _ h0' => by cases (f_39.symm.trans ((ha 39).symm.trans h0')); exact hb))
            exact steps_nil
          intro own3446 a3446 w3446 hd3446 hz3446 hk3446 hf3446 hE3446
          have e3446_3 := (hk3446 3 rfl).trans e3431_3
          have e3446_5 := (hk3446 5 rfl).trans e3431_5
          have e3446_26 := (hk3446 26 rfl).trans e3431_26
          have e3446_27 := (hk3446 27 rfl).trans e3431_27
          have e3446_28 := (hk3446 28 rfl).trans e3431_28
          obtain ⟨⟨⟨A3444, cA3444⟩, (f_39 : a3446.eval (.tmp 39) = .slice A3444 x3442.length cA3444), (b3446_A3444 : RwO own3446 3443 [] w3446 3 R3 A3444 cA3444 x3442)⟩, (bq_g3100 : ∀ (A3444 : Option Addr) (cA3444 : Nat), a3446.eval (.tmp 39) = .slice A3444 x3442.length cA3444 → BlkO own3446 3445 w3446 g3100 22 #[.slice A3444 x3442.length cA3444]), -⟩ := hf3446 [3, 4] rfl
          have b3446_g3100 := bq_g3100 _ _ f_39
          have hX3446 := es_ hX3431 hE3446
          have b3446_g3090 := be_ hE3446 b3431_g3090
          have b3446_Ax1_0 := RdO.evo rfl hE3446 b3431_Ax1_0
          have b3446_mk := MkO.evo (by decide) hE3446 b3431_mk
          exact (K3422 _ _ (rl [(3443, 3421), (3445, 3417)] own3446) _ A3444 cA3444 hd3446 hz3446 e3446_3 e3446_5 e3446_26 e3446_27 e3446_28 (Evo.rl_ hX3446 (fun _ => Nat.le_refl 0) rfl) (BlkO.rl_ (mm := [(3443, 3421), (3445, 3417)]) b3446_g3090) (BlkO.rl_ (mm := [(3443, 3421), (3445, 3417)]) b3446_g3100) (RwO.rl_ (mm := [(3443, 3421), (3445, 3417)]) b3446_A3444) (RdO.rl_ (mm := [(3443, 3421), (3445, 3417)]) b3446_Ax1_0) (MkO.rl_ (mm := [(3443, 3421), (3445, 3417)]) b3446_mk) hs).1
        refine fl_skip ?_
        exact (K3422 _ _ (rl [(3220, 3417), (3224, 3421)] own3431) _ A3221 c3222 hd3431 hz3431 e3431_3 e3431_5 e3431_26 e3431_27 e3431_28 (Evo.rl_ hX3431 (fun _ => Nat.le_refl 0) rfl) (BlkO.rl_ (mm := [(3220, 3417), (3224, 3421)]) b3431_g3090) (BlkO.rl_ (mm := [(3220, 3417), (3224, 3421)]) b3431_g3100) (RwO.rl_ (mm := [(3220, 3417), (3224, 3421)]) b3431_A3221) (RdO.rl_ (mm := [(3220, 3417), (3224, 3421)]) b3431_Ax1_0) (MkO.rl_ (mm := [(3220, 3417), (3224, 3421)]) b3431_mk) hs).1
      refine fl_exit ?_
      refine hp3339 _ _ _ rfl ?_
      replace hs := hz3336 _ hs
      refine hp3336 _ _ _ rfl ?_
      refine hx3109 _ _ ?_
      refine hn3107 _ _ ?_
      refine rg0_seq 104 own3338 (bz 2) [⟨[], [5], [], Fct.val 41 (.slice A3221 out3223.length c3222)⟩,     ⟨[0], [], [], Fct.val 4 (.slice A3221 out3223.length c3222)⟩] hz3338 hd3338 (by kernel_rfl) ?_ ?_
      · refine sc (fun _ _ _ _ s hE => px (or_load1 to22 (s.1.trans e3338_5) (Blk.at_ (be_ hE b3338_g3100).2 0 rfl))) ?_
        refine sc (fun _ _ _ f _ _ => px (or_assign f.1)) ?_
        exact steps_nil
      intro own3447 a3447 w3447 hd3447 hz3447 hk3447 hf3447 hE3447
      obtain ⟨(e3447_4 : a3447.eval (.tmp 4) = .slice A3221 out3223.length c3222), -⟩ := hf3447 [1] rfl
      have hX3447 := es_ hX3338 hE3447
      have b3447_A3221 := re_ hE3447 b3338_A3221
      have b3447_mk := MkO.evo (by decide) hE3447 b3338_mk
      refine fl_ret ?_
      refine hp3103 _ _ _ rfl ?_
      refine hret _ _ _ _ _ (.inl rfl) hd3447 b3447_mk (fun own3448 w3448 hE3448 => ?_)
      have hX3449 := es_ hX3447 hE3448
      have b3449_A3221 := re_ hE3448 b3447_A3221
      obtain rfl := (osome hs).symm
      exact ⟨_, results1_ rfl (RVal.tmp_ e3447_4), ⟨(rl [(3224, 1)] own3448), (A3221, c3222), rfl, (Evo.rl_ hX3449 (fun _ => Nat.le_refl 0) rfl), (RwO.rl_ (mm := [(3224, 1)]) b3449_A3221)⟩⟩
  refine fl_skip ?_
  refine hn3103 _ _ ?_
  refine fl_seq (fun Q3450 hn3450 hp3450 => ?_)
  refine rg0_seq 104 own3105 [0, 1, 3, 7, 15, 0] [⟨[], [2], [], Fct.val 42 (.pointer (some ⟨gx1, 0, none⟩))⟩,     ⟨[0], [], [], Fct.val 43 (.pointer (some ⟨gx1, 0, none⟩))⟩,     ⟨[1], [], [], Fct.val 44 (.pointer (some ⟨gx1, 2, none⟩))⟩,     ⟨[2], [], [], Fct.val 45 (.slice Ax1_2 x1.2.2.length cx1_2)⟩,     ⟨[3], [], [], Fct.val 46 (.int .i64 (x1.2.2.length : Int))⟩,     ⟨[], [], [], Fct.val 47 (.int .i64 0)⟩] hz3105 hd3105 (by kernel_rfl) ?_ ?_
  · refine sc (fun _ _ _ _ s hE => px (or_load1 to70 (s.1.trans e3105_2) (Blk.at_ (be_ hE b3105_g3088).2 0 rfl))) ?_
    refine sc (fun _ _ _ f _ _ => px (or_k [(42, .pointer (some ⟨gx1, 0, none⟩))] rfl rfl ⟨f.1, trivial⟩ (by kernel_rfl))) ?_
    refine sc (fun _ _ _ f _ _ => px (or_field fo106_2 f.1 (by rfl))) ?_
    refine sc (fun _ _ _ f _ hE => px (or_load1 to22 f.1 (Blk.at_ (be_ hE b3105_gx1).2 2 rfl))) ?_
    refine sc (fun _ _ _ f _ _ => px (or_len tu22 f.1 rfl)) ?_
    refine sc (fun _ _ _ _ _ _ => px (or_move rfl)) ?_
    exact steps_nil
  intro own3451 a3451 w3451 hd3451 hz3451 hk3451 hf3451 hE3451
  have e3451_2 := (hk3451 2 rfl).trans e3105_2
  have e3451_3 := (hk3451 3 rfl).trans e3105_3
  have e3451_5 := (hk3451 5 rfl).trans e3105_5
  obtain ⟨(e3451_45 : a3451.eval (.tmp 45) = .slice Ax1_2 x1.2.2.length cx1_2), (e3451_46 : a3451.eval (.tmp 46) = .int .i64 (x1.2.2.length : Int)), (e3451_47 : a3451.eval (.tmp 47) = .int .i64 0), -⟩ := hf3451 [3, 4, 5] rfl
  have hX3451 := es_ hX3105 hE3451
  have b3451_Ax1_0 := RdO.evo rfl hE3451 b3105_Ax1_0
  have b3451_mx1_1 := MpN.evo rfl hE3451 b3105_mx1_1
  have b3451_Ax1_2 := RdO.evo rfl hE3451 b3105_Ax1_2
  have b3451_gx1 := be_ hE3451 b3105_gx1
  have b3451_mk := MkO.evo (by decide) hE3451 b3105_mk
  have b3451_g3088 := be_ hE3451 b3105_g3088
  have b3451_g3090 := be_ hE3451 b3105_g3090
  have b3451_g3100 := be_ hE3451 b3105_g3100
  refine fl_block (fun Q3452 hn3452 hx3452 hp3452 => ?_)
  refine fl_loop (body := (fun s => rows_Index_Find_b3 x1 b2 s.1 s.2)) (z := r) (show loopO _ _ = _ from hs) (fun (s : (List Int) × Int) a wx => match s with | (out3558, x3560) => ∃ (ox : Own) (A3556 : Option Addr) (c3557 : Nat), a.defers = mkD [] ∧ a.tmps.size = 104 ∧ a.eval (.tmp 2) = .pointer (some ⟨g3088, 0, none⟩) ∧ a.eval (.tmp 3) = .pointer (some ⟨g3090, 0, none⟩) ∧ a.eval (.tmp 5) = .pointer (some ⟨g3100, 0, none⟩) ∧ a.eval (.tmp 45) = .slice Ax1_2 x1.2.2.length cx1_2 ∧ a.eval (.tmp 46) = .int .i64 (x1.2.2.length : Int) ∧ a.eval (.tmp 47) = .int .i64 x3560 ∧ Evo [] (fun _ => 0) ox w wx ∧ BlkO ox 3089 wx g3088 70 #[.pointer (some ⟨gx1, 0, none⟩)] ∧ BlkO ox 0 wx gx1 tx1 #[.slice Ax1_0 x1.1.length cx1_0, .map (some mx1_1), .slice Ax1_2 x1.2.2.length cx1_2] ∧ RdO ox [0] wx R80 Ax1_0 cx1_0 x1.1 ∧ MpN ox 0 0 [0] wx mx1_1 vv111 3 R3 x1.2.1 ∧ RdO ox [0] wx R3 Ax1_2 cx1_2 x1.2.2 ∧ BlkO ox 3091 wx g3090 80 #[.int .i64 b2.1.1, .int .i64 b2.1.2, .int .i64 b2.2.1, .int .i64 b2.2.2] ∧ BlkO ox 3555 wx g3100 22 #[.slice A3556 out3558.length c3557] ∧ RwO ox 3559 [] wx 3 R3 A3556 c3557 out3558 ∧ MkO ox 11 wx []) ?_ ?_
  · exact ⟨(rl [(3101, 3555)] own3451), none, 0, hd3451, hz3451, e3451_2, e3451_3, e3451_5, e3451_45, e3451_46, e3451_47, (Evo.rl_ hX3451 (fun _ => Nat.le_refl 0) rfl), (BlkO.rl_ (mm := [(3101, 3555)]) b3451_g3088), (BlkO.rl_ (mm := [(3101, 3555)]) b3451_gx1), (RdO.rl_ (mm := [(3101, 3555)]) b3451_Ax1_0), (MpN.rl_ (mm := [(3101, 3555)]) b3451_mx1_1), (RdO.rl_ (mm := [(3101, 3555)]) b3451_Ax1_2), (BlkO.rl_ (mm := [(3101, 3555)]) b3451_g3090), (BlkO.rl_ (mm := [(3101, 3555)]) b3451_g3100), RwO.nil_, (MkO.rl_ (mm := [(3101, 3555)]) b3451_mk)⟩
  · rintro ⟨out3558, x3560⟩ zz3663 a3663 w3663 ⟨own3663, A3556, c3557, hd3664, hz3664, e3664_2, e3664_3, e3664_5, e3664_45, e3664_46, e3664_47, hE3664, b3664_g3088, b3664_gx1, b3664_Ax1_0, b3664_mx1_1, b3664_Ax1_2, b3664_g3090, b3664_g3100, b3664_A3556, b3664_mk⟩ hs Q3663 hn3663 hp3663 hz3663
    have hs : rows_Index_Find_b3 x1 b2 out3558 x3560 = some zz3663 := hs
    refine rg0_seq 104 own3663 (bz 1) [⟨[], [47, 46], [], Fct.val 48 (.bool (decide (x3560 < (x1.2.2.length : Int))))⟩] hz3664 hd3664 (by kernel_rfl) ?_ ?_
    · refine sc (fun _ _ _ _ s _ => px (or_lss (s.1.trans e3664_47) (s.2.1.trans e3664_46) rfl)) ?_
      exact steps_nil
    intro own3665 a3665 w3665 hd3665 hz3665 hk3665 hf3665 hE3665
    have e3665_2 := (hk3665 2 rfl).trans e3664_2
    have e3665_3 := (hk3665 3 rfl).trans e3664_3
    have e3665_5 := (hk3665 5 rfl).trans e3664_5
    have e3665_45 := (hk3665 45 rfl).trans e3664_45
    have e3665_46 := (hk3665 46 rfl).trans e3664_46
    have e3665_47 := (hk3665 47 rfl).trans e3664_47
    obtain ⟨(e3665_48 : a3665.eval (.tmp 48) = .bool (decide (x3560 < (x1.2.2.length : Int)))), -⟩ := hf3665 [0] rfl
    have hX3665 := es_ hE3664 hE3665
    have b3665_g3088 := be_ hE3665 b3664_g3088
    have b3665_gx1 := be_ hE3665 b3664_gx1
    have b3665_Ax1_0 := RdO.evo rfl hE3665 b3664_Ax1_0
    have b3665_mx1_1 := MpN.evo rfl hE3665 b3664_mx1_1
    have b3665_Ax1_2 := RdO.evo rfl hE3665 b3664_Ax1_2
    have b3665_g3090 := be_ hE3665 b3664_g3090
    have b3665_g3100 := be_ hE3665 b3664_g3100
    have b3665_A3556 := re_ hE3665 b3664_A3556
    have b3665_mk := MkO.evo (by decide) hE3665 b3664_mk
    refine fl_seq (fun Q3666 hn3666 hp3666 => ?_)
    refine fl_cond e3665_48 hs (fun c3667 hs => ?_) (fun c3667 hs => ?_)
    · refine fl_skip ?_
      refine hn3666 _ _ ?_
      refine fl_seq (fun Q3668 hn3668 hp3668 => ?_)
      refine fl_block (fun Q3717 hn3717 hx3717 hp3717 => ?_)
      have K3743 : ∀ (a3743 : Act) (w3743 : World) (own3743 : Own) (out3741 : List Int) (A3739 : Option Addr) (c3740 : Nat), a3743.defers = mkD [] → a3743.tmps.size = 104 → a3743.eval (.tmp 2) = .pointer (some ⟨g3088, 0, none⟩) → a3743.eval (.tmp 3) = .pointer (some ⟨g3090, 0, none⟩) → a3743.eval (.tmp 5) = .pointer (some ⟨g3100, 0, none⟩) → a3743.eval (.tmp 45) = .slice Ax1_2 x1.2.2.length cx1_2 → a3743.eval (.tmp 46) = .int .i64 (x1.2.2.length : Int) → a3743.eval (.tmp 47) = .int .i64 x3560 → Evo [] (fun _ => 0) own3743 w w3743 → BlkO own3743 3089 w3743 g3088 70 #[.pointer (some ⟨gx1, 0, none⟩)] → BlkO own3743 0 w3743 gx1 tx1 #[.slice Ax1_0 x1.1.length cx1_0, .map (some mx1_1), .slice Ax1_2 x1.2.2.length cx1_2] → RdO own3743 [0] w3743 R80 Ax1_0 cx1_0 x1.1 → MpN own3743 0 0 [0] w3743 mx1_1 vv111 3 R3 x1.2.1 → RdO own3743 [0] w3743 R3 Ax1_2 cx1_2 x1.2.2 → BlkO own3743 3091 w3743 g3090 80 #[.int .i64 b2.1.1, .int .i64 b2.1.2, .int .i64 b2.2.1, .int .i64 b2.2.2] → BlkO own3743 3738 w3743 g3100 22 #[.slice A3739 out3741.length c3740] → RwO own3743 3742 [] w3743 3 R3 A3739 c3740 out3741 → MkO own3743 11 w3743 [] → rows_Index_Find_k4 x3560 out3741 = some zz3663 → (Q3717 .normal a3743 w3743 ∧ Q3717 (.exit 3) a3743 w3743) := by
        intro a3743 w3743 own3743 out3741 A3739 c3740 hd3744 hz3744 e3744_2 e3744_3 e3744_5 e3744_45 e3744_46 e3744_47 hE3744 b3744_g3088 b3744_gx1 b3744_Ax1_0 b3744_mx1_1 b3744_Ax1_2 b3744_g3090 b3744_g3100 b3744_A3739 b3744_mk hs
        refine and_both (hn3717 _ _) (hx3717 _ _) ?_
        refine hn3668 _ _ ?_
        refine rg0 104 own3743 (bz 2) [⟨[], [47], [], Fct.val 64 (.int .i64 (ad x3560 1))⟩,     ⟨[0], [], [], Fct.val 47 (.int .i64 (ad x3560 1))⟩] hz3744 hd3744 (by kernel_rfl) ?_ ?_
        · refine sc (fun _ _ _ _ s _ => px (or_add (s.1.trans e3744_47) rfl rfl)) ?_
          refine sc (fun _ _ _ f _ _ => px (or_move f.1)) ?_
          exact steps_nil
        intro own3745 a3745 w3745 hd3745 hz3745 hk3745 hf3745 hE3745
        have e3745_2 := (hk3745 2 rfl).trans e3744_2
        have e3745_3 := (hk3745 3 rfl).trans e3744_3
        have e3745_5 := (hk3745 5 rfl).trans e3744_5
        have e3745_45 := (hk3745 45 rfl).trans e3744_45
        have e3745_46 := (hk3745 46 rfl).trans e3744_46
        obtain ⟨(e3745_47 : a3745.eval (.tmp 47) = .int .i64 (ad x3560 1)), -⟩ := hf3745 [1] rfl
        have hX3745 := es_ hE3744 hE3745
        have b3745_g3088 := be_ hE3745 b3744_g3088
        have b3745_gx1 := be_ hE3745 b3744_gx1
        have b3745_Ax1_0 := RdO.evo rfl hE3745 b3744_Ax1_0
        have b3745_mx1_1 := MpN.evo rfl hE3745 b3744_mx1_1
        have b3745_Ax1_2 := RdO.evo rfl hE3745 b3744_Ax1_2
        have b3745_g3090 := be_ hE3745 b3744_g3090
        have b3745_g3100 := be_ hE3745 b3744_g3100
        have b3745_A3739 := re_ hE3745 b3744_A3739
        have b3745_mk := MkO.evo (by decide) hE3745 b3744_mk
        exact hn3663 _ _ _ hs ⟨(rl [(3738, 3555), (3742, 3559)] own3745), A3739, c3740, hd3745, hz3745, e3745_2, e3745_3, e3745_5, e3745_45, e3745_46, e3745_47, (Evo.rl_ hX3745 (fun _ => Nat.le_refl 0) rfl), (BlkO.rl_ (mm := [(3738, 3555), (3742, 3559)]) b3745_g3088), (BlkO.rl_ (mm := [(3738, 3555), (3742, 3559)]) b3745_gx1), (RdO.rl_ (mm := [(3738, 3555), (3742, 3559)]) b3745_Ax1_0), (MpN.rl_ (mm := [(3738, 3555), (3742, 3559)]) b3745_mx1_1), (RdO.rl_ (mm := [(3738, 3555), (3742, 3559)]) b3745_Ax1_2), (BlkO.rl_ (mm := [(3738, 3555), (3742, 3559)]) b3745_g3090), (BlkO.rl_ (mm := [(3738, 3555), (3742, 3559)]) b3745_g3100), (RwO.rl_ (mm := [(3738, 3555), (3742, 3559)]) b3745_A3739), (MkO.rl_ (mm := [(3738, 3555), (3742, 3559)]) b3745_mk)⟩
      obtain ⟨x3746, hx3746, hs⟩ := obind hs
      refine rg0_seq 104 own3665 (bz 3) [⟨[], [45, 47], [], Fct.val 49 (.pointer (some ((adr Ax1_2).add ((x3560 : Int).toNat * R3.s))))⟩,     ⟨[0], [], [], Fct.val 50 (.int .i64 x3746)⟩,     ⟨[1], [], [], Fct.val 9 (.int .i64 x3746)⟩] hz3665 hd3665 (by kernel_rfl) ?_ ?_
      · refine sc (fun _ _ _ _ s _ => px (or_index (R := R3) (l := x1.2.2) tl22 (s.1.trans e3665_45) (s.2.1.trans e3665_47) (RdO.some_ b3665_Ax1_2 hx3746) hx3746)) ?_
        refine sc (fun _ _ _ f _ hE => px (or_load1 to3 f.1 (CellsAt.zero (RdO.cells (F := E3) (RdO.evo rfl hE b3665_Ax1_2) hx3746) rfl))) ?_
        refine sc (fun _ _ _ f _ _ => px (or_assign f.1)) ?_
        exact steps_nil
      intro own3747 a3747 w3747 hd3747 hz3747 hk3747 hf3747 hE3747
      have e3747_2 := (hk3747 2 rfl).trans e3665_2
      have e3747_3 := (hk3747 3 rfl).trans e3665_3
      have e3747_5 := (hk3747 5 rfl).trans e3665_5
      have e3747_45 := (hk3747 45 rfl).trans e3665_45
      have e3747_46 := (hk3747 46 rfl).trans e3665_46
      have e3747_47 := (hk3747 47 rfl).trans e3665_47
      obtain ⟨(e3747_9 : a3747.eval (.tmp 9) = .int .i64 x3746), -⟩ := hf3747 [2] rfl
      have hX3747 := es_ hX3665 hE3747
      have b3747_g3088 := be_ hE3747 b3665_g3088
      have b3747_gx1 := be_ hE3747 b3665_gx1
      have b3747_Ax1_0 := RdO.evo rfl hE3747 b3665_Ax1_0
      have b3747_mx1_1 := MpN.evo rfl hE3747 b3665_mx1_1
      have b3747_Ax1_2 := RdO.evo rfl hE3747 b3665_Ax1_2
      have b3747_g3090 := be_ hE3747 b3665_g3090
      have b3747_g3100 := be_ hE3747 b3665_g3100
      have b3747_A3556 := re_ hE3747 b3665_A3556
      have b3747_mk := MkO.evo (by decide) hE3747 b3665_mk
      obtain ⟨x3748, hx3748, hs⟩ := obind hs
      obtain ⟨r3749, hr3749, hs⟩ := obind hs
      refine rg_draw_seq g_mixed (n := 104) (rs := []) (own0 := own3747) (K := []) (bs := [0, 0, 2, 6, 14, 0, 62, 126, 255]) (ds := [⟨[], [3], [], Fct.val 51 (.agg #[.int .i64 b2.1.1, .int .i64 b2.1.2, .int .i64 b2.2.1, .int .i64 b2.2.2])⟩,     ⟨[], [2], [], Fct.val 52 (.pointer (some ⟨gx1, 0, none⟩))⟩,     ⟨[1], [], [], Fct.val 53 (.pointer (some ⟨gx1, 0, none⟩))⟩,     ⟨[2], [], [], Fct.val 54 (.pointer (some ⟨gx1, 0, none⟩))⟩,     ⟨[3], [], [], Fct.val 55 (.slice Ax1_0 x1.1.length cx1_0)⟩,     ⟨[], [9], [], Fct.val 56 (.int .i64 x3746)⟩,     ⟨[4, 5], [], [], Fct.val 57 (.pointer (some ((adr Ax1_0).add ((x3746 : Int).toNat * R80.s))))⟩,     ⟨[6], [], [], Fct.val 58 (.agg #[.int .i64 x3748.1.1, .int .i64 x3748.1.2, .int .i64 x3748.2.1, .int .i64 x3748.2.2])⟩,     ⟨[0, 7], [], [], Fct.val 59 (.bool r3749)⟩]) (by kernel_rfl) hz3747 hd3747 nm_ ?_ ?_
      · refine sc (fun _ _ _ _ s hE => px (or_load (l := [.int .i64 b2.1.1, .int .i64 b2.1.2, .int .i64 b2.2.1, .int .i64 b2.2.2]) ta80 (s.1.trans e3747_3) (Blk.cellsFrom (be_ hE b3747_g3090).2 0 rfl) rfl)) ?_
        refine sc (fun _ _ _ _ s hE => px (or_load1 to70 (s.1.trans e3747_2) (Blk.at_ (be_ hE b3747_g3088).2 0 rfl))) ?_
        refine sc (fun _ _ _ f _ _ => px (or_k [(52, .pointer (some ⟨gx1, 0, none⟩))] rfl rfl ⟨f.1, trivial⟩ (by kernel_rfl))) ?_
        refine sc (fun _ _ _ f _ _ => px (or_field fo106_0 f.1 (by rfl))) ?_
        refine sc (fun _ _ _ f _ hE => px (or_load1 to103 f.1 (Blk.at_ (be_ hE b3747_gx1).2 0 rfl))) ?_
        refine sc (fun _ _ _ _ s _ => px (or_move (s.1.trans e3747_9))) ?_
        refine sc (fun _ _ _ f _ _ => px (or_index (R := R80) (l := x1.1) tl103 f.1 f.2.1 (RdO.some_ b3747_Ax1_0 hx3748) hx3748)) ?_
        refine sc (fun _ _ _ f _ hE => px (or_load (l := E80.f x3748) ta80 f.1 (RdO.cells (F := E80) (RdO.evo rfl hE b3747_Ax1_0) hx3748) rfl)) ?_
        refine sc (fun _ _ _ f _ _ => px (or_call cf55 (args2 f.1 f.2.1) (rows_Meet_w _ b2 x3748  r3749 hr3749) post_val)) ?_
        exact steps_nil
      intro own3750 a3750 w3750 hd3750 hz3750 hk3750 hf3750 hE3750
      have e3750_2 := (hk3750 2 rfl).trans e3747_2
      have e3750_3 := (hk3750 3 rfl).trans e3747_3
      have e3750_5 := (hk3750 5 rfl).trans e3747_5
      have e3750_9 := (hk3750 9 rfl).trans e3747_9
      have e3750_45 := (hk3750 45 rfl).trans e3747_45
      have e3750_46 := (hk3750 46 rfl).trans e3747_46
      have e3750_47 := (hk3750 47 rfl).trans e3747_47
      obtain ⟨(e3750_59 : a3750.eval (.tmp 59) = .bool r3749), -⟩ := hf3750 [8] rfl
      have hX3750 := es_ hX3747 hE3750
      have b3750_g3088 := be_ hE3750 b3747_g3088
      have b3750_gx1 := be_ hE3750 b3747_gx1
      have b3750_Ax1_0 := RdO.evo rfl hE3750 b3747_Ax1_0
      have b3750_mx1_1 := MpN.evo rfl hE3750 b3747_mx1_1
      have b3750_Ax1_2 := RdO.evo rfl hE3750 b3747_Ax1_2
      have b3750_g3090 := be_ hE3750 b3747_g3090
      have b3750_g3100 := be_ hE3750 b3747_g3100
      have b3750_A3556 := re_ hE3750 b3747_A3556
      have b3750_mk := MkO.evo (by decide) hE3750 b3747_mk
      refine fl_cond e3750_59 hs (fun c3751 hs => ?_) (fun c3751 hs => ?_)
      · obtain ⟨x3761, hx3761, hs⟩ := obind hs
        refine rg_plain (n := 104) (rs := [Fct.rowAt 3559 [] 3 R3 A3556 c3557 out3558, Fct.at_ 3555 g3100 22 #[.slice A3556 out3558.length c3557]]) (own0 := own3750) (K := [3559, 3555]) (bs := [0, 0, 2, 7, 15]) (ds := [⟨[6], [5], [], Fct.val 60 (.slice A3556 out3558.length c3557)⟩,     ⟨[], [9], [], Fct.val 61 (.int .i64 x3746)⟩,     ⟨[1], [], [], Fct.row 3760 [] 62 3 R3 [x3746]⟩,     ⟨[0, 2, 5], [], [3559], Fct.row 3762 [] 63 3 R3 x3761⟩,     ⟨[3, 6], [5], [3555], Fct.by_ [3764] [63] (fun l own w => ∀ (A3763 : Option Addr) (cA3763 : Nat), l.getD 0 undef = .slice A3763 x3761.length cA3763 → BlkO own 3764 w g3100 22 #[.slice A3763 x3761.length cA3763]) (fun hk he h _ _ h0' => BlkO.evo (not_hit hk (by decide)) he (h _ _ h0'))⟩]) (by kernel_rfl) hz3750 hd3750 (by simp only [List.forall_mem_cons]; exact ⟨b3750_A3556, b3750_g3100, fun _ h => nomatch h⟩) ?_ ?_
        · refine sc (fun own a wx hf hsl hE => ?_) ?_
          · obtain ⟨(b_g3100 : BlkO own 3555 wx g3100 22 #[.slice A3556 out3558.length c3557]), -⟩ := hf
            obtain ⟨s_5, -⟩ := hsl
            exact px (or_load1 to22 (s_5.trans e3750_5) (Blk.at_ b_g3100.2 0 rfl))
          refine sc (fun _ _ _ _ s _ => px (or_move (s.1.trans e3750_9))) ?_
          refine sc (fun _ _ _ f _ _ => px (or_lit (lab := 3760) (e := 3) (cs := #[.int .i64 x3746]) (F := E3) (or_new [(61, .int .i64 x3746)] rfl rfl ⟨f.1, trivial⟩ (by kernel_rfl)) rfl rfl (show 1 ≤ maxLen by decide))) ?_
          refine sc (fun own a wx hf hsl hE => ?_) ?_
          · obtain ⟨f_60, ⟨⟨A3759, cA3759⟩, f_62, b_A3759⟩, b_A3556, -⟩ := hf
            exact px (or_append (R := R3) (lab := 3559) (lab2 := 3762) (L := []) (L3 := []) tp22 f_60 b_A3556 (by decide) f_62 (RwO.rd b_A3759) hx3761 (by decide) (by decide) (mem_of rfl) (.inl (Rep.fl_flat _)))
          refine sc (fun own a wx hf hsl hE => ?_) ?_
          · obtain ⟨⟨⟨A3763, cA3763⟩, (f_63 : a.eval (.tmp 63) = .slice A3763 x3761.length cA3763), b_A3763⟩, b_g3100, -⟩ := hf
            obtain ⟨s_5, -⟩ := hsl
            exact px (or_store1 (lab := 3555) (lab2 := 3764) ts22 (s_5.trans e3750_5) f_63 b_g3100 (by simp) rfl (mem_of rfl) (by decide) rfl (fun own' a' w' ha hb => fun _ _ h0' => by cases (f_63.symm.trans ((ha 63).symm.trans h0')); exact hb))
          exact steps_nil
        intro own3765 a3765 w3765 hd3765 hz3765 hk3765 hf3765 hE3765
        have e3765_2 := (hk3765 2 rfl).trans e3750_2
        have e3765_3 := (hk3765 3 rfl).trans e3750_3
        have e3765_5 := (hk3765 5 rfl).trans e3750_5
        have e3765_45 := (hk3765 45 rfl).trans e3750_45
        have e3765_46 := (hk3765 46 rfl).trans e3750_46
        have e3765_47 := (hk3765 47 rfl).trans e3750_47
        obtain ⟨⟨⟨A3763, cA3763⟩, (f_63 : a3765.eval (.tmp 63) = .slice A3763 x3761.length cA3763), (b3765_A3763 : RwO own3765 3762 [] w3765 3 R3 A3763 cA3763 x3761)⟩, (bq_g3100 : ∀ (A3763 : Option Addr) (cA3763 : Nat), a3765.eval (.tmp 63) = .slice A3763 x3761.length cA3763 → BlkO own3765 3764 w3765 g3100 22 #[.slice A3763 x3761.length cA3763]), -⟩ := hf3765 [3, 4] rfl
        have b3765_g3100 := bq_g3100 _ _ f_63
        have hX3765 := es_ hX3750 hE3765
        have b3765_g3088 := be_ hE3765 b3750_g3088
        have b3765_gx1 := be_ hE3765 b3750_gx1
        have b3765_Ax1_0 := RdO.evo rfl hE3765 b3750_Ax1_0
        have b3765_mx1_1 := MpN.evo rfl hE3765 b3750_mx1_1
        have b3765_Ax1_2 := RdO.evo rfl hE3765 b3750_Ax1_2
        have b3765_g3090 := be_ hE3765 b3750_g3090
        have b3765_mk := MkO.evo (by decide) hE3765 b3750_mk
        exact (K3743 _ _ (rl [(3762, 3742), (3764, 3738)] own3765) _ A3763 cA3763 hd3765 hz3765 e3765_2 e3765_3 e3765_5 e3765_45 e3765_46 e3765_47 (Evo.rl_ hX3765 (fun _ => Nat.le_refl 0) rfl) (BlkO.rl_ (mm := [(3762, 3742), (3764, 3738)]) b3765_g3088) (BlkO.rl_ (mm := [(3762, 3742), (3764, 3738)]) b3765_gx1) (RdO.rl_ (mm := [(3762, 3742), (3764, 3738)]) b3765_Ax1_0) (MpN.rl_ (mm := [(3762, 3742), (3764, 3738)]) b3765_mx1_1) (RdO.rl_ (mm := [(3762, 3742), (3764, 3738)]) b3765_Ax1_2) (BlkO.rl_ (mm := [(3762, 3742), (3764, 3738)]) b3765_g3090) (BlkO.rl_ (mm := [(3762, 3742), (3764, 3738)]) b3765_g3100) (RwO.rl_ (mm := [(3762, 3742), (3764, 3738)]) b3765_A3763) (MkO.rl_ (mm := [(3762, 3742), (3764, 3738)]) b3765_mk) hs).1
      refine fl_skip ?_
      exact (K3743 _ _ (rl [(3555, 3738), (3559, 3742)] own3750) _ A3556 c3557 hd3750 hz3750 e3750_2 e3750_3 e3750_5 e3750_45 e3750_46 e3750_47 (Evo.rl_ hX3750 (fun _ => Nat.le_refl 0) rfl) (BlkO.rl_ (mm := [(3555, 3738), (3559, 3742)]) b3750_g3088) (BlkO.rl_ (mm := [(3555, 3738), (3559, 3742)]) b3750_gx1) (RdO.rl_ (mm := [(3555, 3738), (3559, 3742)]) b3750_Ax1_0) (MpN.rl_ (mm := [(3555, 3738), (3559, 3742)]) b3750_mx1_1) (RdO.rl_ (mm := [(3555, 3738), (3559, 3742)]) b3750_Ax1_2) (BlkO.rl_ (mm := [(3555, 3738), (3559, 3742)]) b3750_g3090) (BlkO.rl_ (mm := [(3555, 3738), (3559, 3742)]) b3750_g3100) (RwO.rl_ (mm := [(3555, 3738), (3559, 3742)]) b3750_A3556) (MkO.rl_ (mm := [(3555, 3738), (3559, 3742)]) b3750_mk) hs).1
    refine fl_exit ?_
    refine hp3666 _ _ _ rfl ?_
    replace hs := hz3663 _ hs
    refine hp3663 _ _ _ rfl ?_
    refine hx3452 _ _ ?_
    refine hn3450 _ _ ?_
    refine rg_plain_seq (n := 104) (rs := []) (own0 := own3665) (K := [3769]) (bs := [0, 0, 3]) (ds := [⟨[], [], [], Fct.map_ 3767 65 vv3 vv4 ([] : List (Int × Bool))⟩,     ⟨[], [], [], Fct.blk 3769 10 (fun g => .pointer (some ⟨g, 0, none⟩)) 118 #[.map none]⟩,     ⟨[1, 0], [], [3769], Fct.by_ [3770] [10, 65] (fun l own w => ∃ g3768 : Nat, l.getD 0 undef = .pointer (some ⟨g3768, 0, none⟩) ∧ (∀ (g3766 : Nat), l.getD 1 undef = .map (some g3766) → BlkO own 3770 w g3768 118 #[.map (some g3766)])) (fun hk he h => by obtain ⟨g, e, h⟩ := h; exact ⟨g, e, fun _ h0' => BlkO.evo (not_hit hk (by decide)) he (h _ h0')⟩)⟩]) (by kernel_rfl) hz3665 hd3665 nm_ ?_ ?_
    · refine sc (fun _ _ _ _ _ _ => px (or_makeMap)) ?_
      refine sc (fun _ _ _ _ _ _ => px (or_new [] rfl rfl trivial (by kernel_rfl))) ?_
      refine sc (fun own a wx hf hsl hE => ?_) ?_
      · obtain ⟨⟨g3768, f_10, b_g3768⟩, ⟨g3766, (f_65 : a.eval (.tmp 65) = .map (some g3766)), b_g3766⟩, -⟩ := hf
        exact px (or_store1 (lab := 3769) (lab2 := 3770) ts118 f_10 f_65 b_g3768 (by simp) rfl (mem_of rfl) (by decide) rfl (fun own' a' w' ha hb => ⟨_, (ha 10).trans f_10, fun _ h0' => by cases (f_65.symm.trans ((ha 65).symm.trans h0')); exact hb⟩))
      exact steps_nil
    intro own3771 a3771 w3771 hd3771 hz3771 hk3771 hf3771 hE3771
    have e3771_2 := (hk3771 2 rfl).trans e3665_2
    have e3771_3 := (hk3771 3 rfl).trans e3665_3
    have e3771_5 := (hk3771 5 rfl).trans e3665_5
    obtain ⟨⟨g3766, (f_65 : a3771.eval (.tmp 65) = .map (some g3766)), (b3771_g3766 : MpO own3771 3767 w3771 g3766 vv3 vv4 ([] : List (Int × Bool)))⟩, ⟨g3768, (e3771_10 : a3771.eval (.tmp 10) = .pointer (some ⟨g3768, 0, none⟩)), (bq_g3768 : ∀ (g3766 : Nat), a3771.eval (.tmp 65) = .map (some g3766) → BlkO own3771 3770 w3771 g3768 118 #[.map (some g3766)])⟩, -⟩ := hf3771 [0, 2] rfl
    have b3771_g3768 := bq_g3768 _ f_65
    have hX3771 := es_ hX3665 hE3771
    have b3771_g3088 := be_ hE3771 b3665_g3088
    have b3771_gx1 := be_ hE3771 b3665_gx1
    have b3771_Ax1_0 := RdO.evo rfl hE3771 b3665_Ax1_0
    have b3771_mx1_1 := MpN.evo rfl hE3771 b3665_mx1_1
    have b3771_Ax1_2 := RdO.evo rfl hE3771 b3665_Ax1_2
    have b3771_g3090 := be_ hE3771 b3665_g3090
    have b3771_g3100 := be_ hE3771 b3665_g3100
    have b3771_A3556 := re_ hE3771 b3665_A3556
    have b3771_mk := MkO.evo (by decide) hE3771 b3665_mk
    refine fl_seq (fun Q3772 hn3772 hp3772 => ?_)
    refine rg0_seq 104 own3771 (bz 2) [⟨[], [3], [], Fct.val 66 (.agg #[.int .i64 b2.1.1, .int .i64 b2.1.2, .int .i64 b2.2.1, .int .i64 b2.2.2])⟩,     ⟨[0], [], [], Fct.mems [3774] 67 (fun (x : Option Addr × Nat) => .func (.func 64) #[] #[.pointer (some ⟨x.2, 0, none⟩)]) (fun (x : Option Addr × Nat) own w => BlkO own 3774 w x.2 80 #[.int .i64 b2.1.1, .int .i64 b2.1.2, .int .i64 b2.2.1, .int .i64 b2.2.2]) (fun hk he h => BlkO.evo (not_hit hk (by decide)) he h)⟩] hz3771 hd3771 (by kernel_rfl) ?_ ?_
    · refine sc (fun _ _ _ _ s hE => px (or_load (l := [.int .i64 b2.1.1, .int .i64 b2.1.2, .int .i64 b2.2.1, .int .i64 b2.2.2]) ta80 (s.1.trans e3771_3) (Blk.cellsFrom (be_ hE b3771_g3090).2 0 rfl) rfl)) ?_
      refine sc (fun _ _ _ f _ _ => px (or_call cf50 (args1 f.1) (rows_fields_w _ b2  () rfl) (post_mems (m := (fun _ => 0)) (m' := (look0 [(1, 3774)])) (fun _ _ => .inl rfl) (fun own' w' a' x h1 h => ⟨x, h1, BlkO.back_ h (by decide)⟩)))) ?_
      exact steps_nil
    intro own3775 a3775 w3775 hd3775 hz3775 hk3775 hf3775 hE3775
    have e3775_2 := (hk3775 2 rfl).trans e3771_2
    have e3775_3 := (hk3775 3 rfl).trans e3771_3
    have e3775_5 := (hk3775 5 rfl).trans e3771_5
    have e3775_10 := (hk3775 10 rfl).trans e3771_10
    obtain ⟨⟨⟨A3773, cA3773⟩, (e3775_67 : a3775.eval (.tmp 67) = .func (.func 64) #[] #[.pointer (some ⟨cA3773, 0, none⟩)]), (b3775_cA3773 : BlkO own3775 3774 w3775 cA3773 80 #[.int .i64 b2.1.1, .int .i64 b2.1.2, .int .i64 b2.2.1, .int .i64 b2.2.2])⟩, -⟩ := hf3775 [1] rfl
    have hX3775 := es_ hX3771 hE3775
    have b3775_g3088 := be_ hE3775 b3771_g3088
    have b3775_gx1 := be_ hE3775 b3771_gx1
    have b3775_Ax1_0 := RdO.evo rfl hE3775 b3771_Ax1_0
    have b3775_mx1_1 := MpN.evo rfl hE3775 b3771_mx1_1
    have b3775_Ax1_2 := RdO.evo rfl hE3775 b3771_Ax1_2
    have b3775_g3090 := be_ hE3775 b3771_g3090
    have b3775_g3100 := be_ hE3775 b3771_g3100
    have b3775_A3556 := re_ hE3775 b3771_A3556
    have b3775_mk := MkO.evo (by decide) hE3775 b3771_mk
    have b3775_g3766 := MpO.evo (by decide) hE3775 b3771_g3766
    have b3775_g3768 := be_ hE3775 b3771_g3768
    refine fl_block (fun Q3776 hn3776 hx3776 hp3776 => ?_)
    obtain ⟨zz5367, hzz5367, hs⟩ := rngO_some hs
    refine fl_range (S := (List Int) × (List (Int × Bool))) (D := Empty) (X := (Int × Int)) (encs := (fun (x : (Int × Int)) => #[.agg #[.int .i64 x.1, .int .i64 x.2]])) (n := 104) [3555, 3559, 3767, 5374, 5902, 5906, 5907, 6128, 6132, 6133, 6147, 6159, 6161] 5368 11 rfl
        (fun (sr : (List Int) × (List (Int × Bool))) (ox : Own) (wx : World) => match sr with | (out4572, met4574) => ∃ (A4570 : Option Addr) (c4571 : Nat), Evo [] (fun _ => 0) ox w wx ∧ BlkO ox 3089 wx g3088 70 #[.pointer (some ⟨gx1, 0, none⟩)] ∧ BlkO ox 0 wx gx1 tx1 #[.slice Ax1_0 x1.1.length cx1_0, .map (some mx1_1), .slice Ax1_2 x1.2.2.length cx1_2] ∧ RdO ox [0] wx R80 Ax1_0 cx1_0 x1.1 ∧ MpN ox 0 0 [0] wx mx1_1 vv111 3 R3 x1.2.1 ∧ RdO ox [0] wx R3 Ax1_2 cx1_2 x1.2.2 ∧ BlkO ox 3091 wx g3090 80 #[.int .i64 b2.1.1, .int .i64 b2.1.2, .int .i64 b2.2.1, .int .i64 b2.2.2] ∧ BlkO ox 3555 wx g3100 22 #[.slice A4570 out4572.length c4571] ∧ RwO ox 3559 [] wx 3 R3 A4570 c4571 out4572 ∧ BlkO ox 3770 wx g3768 118 #[.map (some g3766)] ∧ MpO ox 3767 wx g3766 vv3 vv4 met4574 ∧ BlkO ox 3774 wx cA3773 80 #[.int .i64 b2.1.1, .int .i64 b2.1.2, .int .i64 b2.2.1, .int .i64 b2.2.2])
        (fun (e : Empty) (_ : Own) (_ : World) => nomatch e)
        (fun (e : Empty) => nomatch e) (fun (sr : (List Int) × (List (Int × Bool))) (xr : (Int × Int)) => rows_Index_Find_b7 x1 b2 sr.1 sr.2 xr) hz3775 rfl e3775_67 cf64 (cargs := fun l => #[.func (.yield l) #[] #[], .pointer (some ⟨cA3773, 0, none⟩)]) (fun _ => by simp) (fun _ => rfl) hd3775 b3775_mk ?_ ?_ (out3558, ([] : List (Int × Bool))) zz5367 ⟨A3556, c3557, hX3775, b3775_g3088, b3775_gx1, b3775_Ax1_0, b3775_mx1_1, b3775_Ax1_2, b3775_g3090, b3775_g3100, b3775_A3556, b3775_g3768, b3775_g3766, b3775_cA3773⟩ ?_ ?_ ?_ ?_
    · rintro ⟨out4572, met4574⟩ ox ox1 wx wx1 hEs ⟨A4570, c4571, h5367_0, h5367_1, h5367_2, h5367_3, h5367_4, h5367_5, h5367_6, h5367_7, h5367_8, h5367_9, h5367_10, h5367_11⟩
      exact ⟨A4570, c4571, (es_ h5367_0 hEs), (be_ hEs h5367_1), (be_ hEs h5367_2), (RdO.evo rfl hEs h5367_3), (MpN.evo rfl hEs h5367_4), (RdO.evo rfl hEs h5367_5), (be_ hEs h5367_6), (be_ hEs h5367_7), (re_ hEs h5367_8), (be_ hEs h5367_9), (MpO.evo (by decide) hEs h5367_10), (be_ hEs h5367_11)⟩
    · intro e; exact nomatch e
    · intro l5367 own1 w1 J5367 hE1 hJ1 hR1
      exact (rows_fields_1_w w1 (forth own1 (look0 (kj 5368 [3555, 3559, 3767, 5374, 5902, 5906, 5907, 6128, 6132, 6133, 6147, 6159, 6161]))) (((List Int) × (List (Int × Bool))) ⊕ Empty) (yb (fun (sr : (List Int) × (List (Int × Bool))) (xr : (Int × Int)) => rows_Index_Find_b7 x1 b2 sr.1 sr.2 xr)) J5367 l5367 (Sum.inl (out3558, ([] : List (Int × Bool)))) b2 cA3773 80 (look0_le rfl) hR1 hJ1 (BlkO.forth_ (be_ hE1 b3775_cA3773)) zz5367 hzz5367).mono fun e wz ⟨oz, he, _, hJz⟩ => ⟨_, oz, he, hJz⟩
    · rintro l5371 ⟨out4572, met4574⟩ x5370 zz2 own5371 a5371 w5371 Ds5371 ⟨A4570, c4571, hE5372, b5372_g3088, b5372_gx1, b5372_Ax1_0, b5372_mx1_1, b5372_Ax1_2, b5372_g3090, b5372_g3100, b5372_A4570, b5372_g3768, b5372_g3766, b5372_cA3773⟩ - hrc5371 hs ⟨hd5371, hz5371, hkp5371, hpar5371⟩ Q5371 hn5371
      have hs : rows_Index_Find_b7 x1 b2 out4572 met4574 x5370 = some zz2 := hs
      replace hz5371 := hz5371.trans hz3775
      have e5371_2 : a5371.eval (.tmp 2) = .pointer (some ⟨g3088, 0, none⟩) := (hkp5371 2 rfl).trans e3775_2
      have e5371_3 : a5371.eval (.tmp 3) = .pointer (some ⟨g3090, 0, none⟩) := (hkp5371 3 rfl).trans e3775_3
      have e5371_5 : a5371.eval (.tmp 5) = .pointer (some ⟨g3100, 0, none⟩) := (hkp5371 5 rfl).trans e3775_5
      have e5371_10 : a5371.eval (.tmp 10) = .pointer (some ⟨g3768, 0, none⟩) := (hkp5371 10 rfl).trans e3775_10
      have e5371_67 : a5371.eval (.tmp 67) = .func (.func 64) #[] #[.pointer (some ⟨cA3773, 0, none⟩)] := (hkp5371 67 rfl).trans e3775_67
      have e5371_68 : a5371.eval (.tmp 68) = .agg #[.int .i64 x5370.1, .int .i64 x5370.2] := hpar5371 0 68 _ rfl rfl
      have hE5371 := Evo.refl [3555, 3559, 3767, 5374, 5902, 5906, 5907, 6128, 6132, 6133, 6147, 6159, 6161] own5371 w5371
      have hrc0_5371 := hrc5371
      refine rg_plain (n := 104) (rs := []) (own0 := own5371) (K := [5374]) (bs := (bz 2)) (ds := [⟨[], [], [], Fct.blk 5374 11 (fun g => .pointer (some ⟨g, 0, none⟩)) 111 #[.int .i64 0, .int .i64 0]⟩,     ⟨[0], [68], [5374], Fct.blk 5375 11 (fun g => .pointer (some ⟨g, 0, none⟩)) 111 #[.int .i64 x5370.1, .int .i64 x5370.2]⟩]) (by kernel_rfl) hz5371 hd5371 nm_ ?_ ?_
      · refine sc (fun _ _ _ _ _ _ => px (or_new [] rfl rfl trivial (by kernel_rfl))) ?_
        refine sc (fun own a wx hf hsl hE => ?_) ?_
        · obtain ⟨⟨g5373, f_11, b_g5373⟩, -⟩ := hf
          obtain ⟨s_68, -⟩ := hsl
          exact px (or_store (l := #[.int .i64 x5370.1, .int .i64 x5370.2]) (lab := 5374) (lab2 := 5375) ts111 f_11 (s_68.trans e5371_68) b_g5373 (by simp) (by kernel_rfl) (mem_of rfl) (by decide) (by kernel_rfl) (fun own' a' w' ha hb => ⟨_, (ha 11).trans f_11, hb⟩))
        exact steps_nil
      intro own5376 a5376 w5376 hd5376 hz5376 hk5376 hf5376 hE5376
      have e5376_2 := (hk5376 2 rfl).trans e5371_2
      have e5376_3 := (hk5376 3 rfl).trans e5371_3
      have e5376_5 := (hk5376 5 rfl).trans e5371_5
      have e5376_10 := (hk5376 10 rfl).trans e5371_10
      have e5376_67 := (hk5376 67 rfl).trans e5371_67
      obtain ⟨⟨g5373, (e5376_11 : a5376.eval (.tmp 11) = .pointer (some ⟨g5373, 0, none⟩)), (b5376_g5373 : BlkO own5376 5375 w5376 g5373 111 #[.int .i64 x5370.1, .int .i64 x5370.2])⟩, -⟩ := hf5376 [1] rfl
      have hX5376 := Evo.stepK hE5371 hE5376 rfl
      have b5376_g3088 := be_ hE5376 b5372_g3088
      have b5376_gx1 := be_ hE5376 b5372_gx1
      have b5376_Ax1_0 := RdO.evo rfl hE5376 b5372_Ax1_0
      have b5376_mx1_1 := MpN.evo rfl hE5376 b5372_mx1_1
      have b5376_Ax1_2 := RdO.evo rfl hE5376 b5372_Ax1_2
      have b5376_g3090 := be_ hE5376 b5372_g3090
      have b5376_g3100 := be_ hE5376 b5372_g3100
      have b5376_A4570 := re_ hE5376 b5372_A4570
      have b5376_g3768 := be_ hE5376 b5372_g3768
      have b5376_g3766 := MpO.evo (by decide) hE5376 b5372_g3766
      have b5376_cA3773 := be_ hE5376 b5372_cA3773
      refine hn5371 _ _ _ hX5376 (fun w5377 own5377 hE5377 hrc5377 => ?_)
      have b5377_g3088 := be_ hE5377 b5376_g3088
      have b5377_gx1 := be_ hE5377 b5376_gx1
      have b5377_Ax1_0 := RdO.evo rfl hE5377 b5376_Ax1_0
      have b5377_mx1_1 := MpN.evo rfl hE5377 b5376_mx1_1
      have b5377_Ax1_2 := RdO.evo rfl hE5377 b5376_Ax1_2
      have b5377_g3090 := be_ hE5377 b5376_g3090
      have b5377_g3100 := be_ hE5377 b5376_g3100
      have b5377_A4570 := re_ hE5377 b5376_A4570
      have b5377_g3768 := be_ hE5377 b5376_g3768
      have b5377_g3766 := MpO.evo (by decide) hE5377 b5376_g3766
      have b5377_cA3773 := be_ hE5377 b5376_cA3773
      have b5377_g5373 := be_ hE5377 b5376_g5373
      have hU5377 := es_ (es_ hE5372 hX5376) hE5377
      have hX5377 := Evo.refl [3555, 3559, 3767, 5374, 5902, 5906, 5907, 6128, 6132, 6133, 6147, 6159, 6161] own5377 w5377
      have hmk5377 : MkO own5377 11 w5377 [] := MkO.nil_
      refine fl_block (fun Q5378 hn5378 hx5378 hp5378 => ?_)
      refine fl_fwd (l := 0) rfl ?_
      intro Q5771 hj5771 hp5771
      refine fl_seq (fun Q5772 hn5772 hp5772 => ?_)
      refine fl_label ?_
      refine hn5772 _ _ ?_
      refine rg_draw_seq g_mixed (n := 104) (rs := []) (own0 := own5377) (K := []) (bs := [0, 1, 3, 7, 0, 31, 63, 0]) (ds := [⟨[], [2], [], Fct.val 69 (.pointer (some ⟨gx1, 0, none⟩))⟩,     ⟨[0], [], [], Fct.val 70 (.pointer (some ⟨gx1, 0, none⟩))⟩,     ⟨[1], [], [], Fct.val 71 (.pointer (some ⟨gx1, 1, none⟩))⟩,     ⟨[2], [], [], Fct.val 72 (.map (some mx1_1))⟩,     ⟨[], [11], [], Fct.val 73 (.agg #[.int .i64 x5370.1, .int .i64 x5370.2])⟩,     ⟨[3, 4], [], [], Fct.view [0, 0] 74 R3 ((lkM x1.2.1 x5370).getD [])⟩,     ⟨[5], [], [], Fct.val 75 (.int .i64 (((lkM x1.2.1 x5370).getD []).length : Int))⟩,     ⟨[], [], [], Fct.val 76 (.int .i64 0)⟩]) (by kernel_rfl) hz5376 hd5376 nm_ ?_ ?_
      · refine sc (fun _ _ _ _ s hE => px (or_load1 to70 (s.1.trans e5376_2) (Blk.at_ (be_ hE b5377_g3088).2 0 rfl))) ?_
        refine sc (fun _ _ _ f _ _ => px (or_k [(69, .pointer (some ⟨gx1, 0, none⟩))] rfl rfl ⟨f.1, trivial⟩ (by kernel_rfl))) ?_
        refine sc (fun _ _ _ f _ _ => px (or_field fo106_1 f.1 (by rfl))) ?_
        refine sc (fun _ _ _ f _ hE => px (or_load1 to104 f.1 (Blk.at_ (be_ hE b5377_gx1).2 1 rfl))) ?_
        refine sc (fun _ _ _ _ s hE => px (or_load (l := [.int .i64 x5370.1, .int .i64 x5370.2]) ta111 (s.1.trans e5376_11) (Blk.cellsFrom (be_ hE b5377_g5373).2 0 rfl) rfl)) ?_
        refine sc (fun _ _ _ f _ hE => px (or_mview (k := x5370) ko111 tm104 tzv104 f.1 f.2.1 (MpN.evo rfl hE b5377_mx1_1) rfl)) ?_
        refine sc (fun own a wx hf hsl hE => ?_) ?_
        · obtain ⟨⟨⟨A5773, cA5773⟩, f_74, b_A5773⟩, -⟩ := hf
          exact px (or_len tu22 f_74 rfl)
        refine sc (fun _ _ _ _ _ _ => px (or_move rfl)) ?_
        exact steps_nil
      intro own5774 a5774 w5774 hd5774 hz5774 hk5774 hf5774 hE5774
      have e5774_2 := (hk5774 2 rfl).trans e5376_2
      have e5774_3 := (hk5774 3 rfl).trans e5376_3
      have e5774_5 := (hk5774 5 rfl).trans e5376_5
      have e5774_10 := (hk5774 10 rfl).trans e5376_10
      have e5774_67 := (hk5774 67 rfl).trans e5376_67
      obtain ⟨⟨⟨A5773, cA5773⟩, (e5774_74 : a5774.eval (.tmp 74) = .slice A5773 ((lkM x1.2.1 x5370).getD []).length cA5773), (b5774_A5773 : RdO own5774 [0, 0] w5774 R3 A5773 cA5773 ((lkM x1.2.1 x5370).getD []))⟩, (e5774_75 : a5774.eval (.tmp 75) = .int .i64 (((lkM x1.2.1 x5370).getD []).length : Int)), (e5774_76 : a5774.eval (.tmp 76) = .int .i64 0), -⟩ := hf5774 [5, 6, 7] rfl
      have hX5774 := Evo.stepK hX5377 hE5774 rfl
      have b5774_g3088 := be_ hE5774 b5377_g3088
      have b5774_gx1 := be_ hE5774 b5377_gx1
      have b5774_Ax1_0 := RdO.evo rfl hE5774 b5377_Ax1_0
      have b5774_mx1_1 := MpN.evo rfl hE5774 b5377_mx1_1
      have b5774_Ax1_2 := RdO.evo rfl hE5774 b5377_Ax1_2
      have b5774_g3090 := be_ hE5774 b5377_g3090
      have b5774_g3100 := be_ hE5774 b5377_g3100
      have b5774_A4570 := re_ hE5774 b5377_A4570
      have b5774_g3768 := be_ hE5774 b5377_g3768
      have b5774_g3766 := MpO.evo (by decide) hE5774 b5377_g3766
      have b5774_cA3773 := be_ hE5774 b5377_cA3773
      have b5774_rc := RcO.evo (by decide) hE5774 hrc5377
      have b5774_mk := MkO.evo (by decide) hE5774 hmk5377
      refine fl_block (fun Q5775 hn5775 hx5775 hp5775 => ?_)
      refine fl_loop (body := (fun s => rows_Index_Find_b5 x1 b2 x5370 s.1 s.2.1 s.2.2)) (z := zz2) (show loopO _ _ = _ from hs) (fun (s : (List Int) × (List (Int × Bool)) × Int) a wx => match s with | (out5905, met5908, x5909) => ∃ (ox : Own) (A5903 : Option Addr) (c5904 : Nat), a.defers = mkD [] ∧ a.tmps.size = 104 ∧ a.eval (.tmp 2) = .pointer (some ⟨g3088, 0, none⟩) ∧ a.eval (.tmp 3) = .pointer (some ⟨g3090, 0, none⟩) ∧ a.eval (.tmp 5) = .pointer (some ⟨g3100, 0, none⟩) ∧ a.eval (.tmp 10) = .pointer (some ⟨g3768, 0, none⟩) ∧ a.eval (.tmp 67) = .func (.func 64) #[] #[.pointer (some ⟨cA3773, 0, none⟩)] ∧ a.eval (.tmp 74) = .slice A5773 ((lkM x1.2.1 x5370).getD []).length cA5773 ∧ a.eval (.tmp 75) = .int .i64 (((lkM x1.2.1 x5370).getD []).length : Int) ∧ a.eval (.tmp 76) = .int .i64 x5909 ∧ Evo [3555, 3559, 3767, 5374, 5902, 5906, 5907, 6128, 6132, 6133, 6147, 6159, 6161] own5377 ox w5377 wx ∧ BlkO ox 3089 wx g3088 70 #[.pointer (some ⟨gx1, 0, none⟩)] ∧ BlkO ox 0 wx gx1 tx1 #[.slice Ax1_0 x1.1.length cx1_0, .map (some mx1_1), .slice Ax1_2 x1.2.2.length cx1_2] ∧ RdO ox [0] wx R80 Ax1_0 cx1_0 x1.1 ∧ MpN ox 0 0 [0] wx mx1_1 vv111 3 R3 x1.2.1 ∧ RdO ox [0] wx R3 Ax1_2 cx1_2 x1.2.2 ∧ BlkO ox 3091 wx g3090 80 #[.int .i64 b2.1.1, .int .i64 b2.1.2, .int .i64 b2.2.1, .int .i64 b2.2.2] ∧ BlkO ox 5902 wx g3100 22 #[.slice A5903 out5905.length c5904] ∧ RwO ox 5906 [] wx 3 R3 A5903 c5904 out5905 ∧ BlkO ox 3770 wx g3768 118 #[.map (some g3766)] ∧ MpO ox 5907 wx g3766 vv3 vv4 met5908 ∧ BlkO ox 3774 wx cA3773 80 #[.int .i64 b2.1.1, .int .i64 b2.1.2, .int .i64 b2.2.1, .int .i64 b2.2.2] ∧ RdO ox [0, 0] wx R3 A5773 cA5773 ((lkM x1.2.1 x5370).getD []) ∧ MkO ox 11 wx [] ∧ RcO ox 5368 wx l5371) ?_ ?_
      · exact ⟨(rl [(3555, 5902), (3559, 5906), (3767, 5907)] own5774), A4570, c4571, hd5774, hz5774, e5774_2, e5774_3, e5774_5, e5774_10, e5774_67, e5774_74, e5774_75, e5774_76, (Evo.rlK hX5774 rfl), (BlkO.rl_ (mm := [(3555, 5902), (3559, 5906), (3767, 5907)]) b5774_g3088), (BlkO.rl_ (mm := [(3555, 5902), (3559, 5906), (3767, 5907)]) b5774_gx1), (RdO.rl_ (mm := [(3555, 5902), (3559, 5906), (3767, 5907)]) b5774_Ax1_0), (MpN.rl_ (mm := [(3555, 5902), (3559, 5906), (3767, 5907)]) b5774_mx1_1), (RdO.rl_ (mm := [(3555, 5902), (3559, 5906), (3767, 5907)]) b5774_Ax1_2), (BlkO.rl_ (mm := [(3555, 5902), (3559, 5906), (3767, 5907)]) b5774_g3090), (BlkO.rl_ (mm := [(3555, 5902), (3559, 5906), (3767, 5907)]) b5774_g3100), (RwO.rl_ (mm := [(3555, 5902), (3559, 5906), (3767, 5907)]) b5774_A4570), (BlkO.rl_ (mm := [(3555, 5902), (3559, 5906), (3767, 5907)]) b5774_g3768), (MpO.rl_ (mm := [(3555, 5902), (3559, 5906), (3767, 5907)]) b5774_g3766), (BlkO.rl_ (mm := [(3555, 5902), (3559, 5906), (3767, 5907)]) b5774_cA3773), (RdO.rl_ (mm := [(3555, 5902), (3559, 5906), (3767, 5907)]) b5774_A5773), (MkO.rl_ (mm := [(3555, 5902), (3559, 5906), (3767, 5907)]) b5774_mk), (RcO.rl_ (mm := [(3555, 5902), (3559, 5906), (3767, 5907)]) b5774_rc)⟩
      · rintro ⟨out5905, met5908, x5909⟩ zz6036 a6036 w6036 ⟨own6036, A5903, c5904, hd6037, hz6037, e6037_2, e6037_3, e6037_5, e6037_10, e6037_67, e6037_74, e6037_75, e6037_76, hE6037, b6037_g3088, b6037_gx1, b6037_Ax1_0, b6037_mx1_1, b6037_Ax1_2, b6037_g3090, b6037_g3100, b6037_A5903, b6037_g3768, b6037_g3766, b6037_cA3773, b6037_A5773, b6037_mk, b6037_rc⟩ hs Q6036 hn6036 hp6036 hz6036
        have hs : rows_Index_Find_b5 x1 b2 x5370 out5905 met5908 x5909 = some zz6036 := hs
        refine rg0_seq 104 own6036 (bz 1) [⟨[], [76, 75], [], Fct.val 77 (.bool (decide (x5909 < (((lkM x1.2.1 x5370).getD []).length : Int))))⟩] hz6037 hd6037 (by kernel_rfl) ?_ ?_
        · refine sc (fun _ _ _ _ s _ => px (or_lss (s.1.trans e6037_76) (s.2.1.trans e6037_75) rfl)) ?_
          exact steps_nil
        intro own6038 a6038 w6038 hd6038 hz6038 hk6038 hf6038 hE6038
        have e6038_2 := (hk6038 2 rfl).trans e6037_2
        have e6038_3 := (hk6038 3 rfl).trans e6037_3
        have e6038_5 := (hk6038 5 rfl).trans e6037_5
        have e6038_10 := (hk6038 10 rfl).trans e6037_10
        have e6038_67 := (hk6038 67 rfl).trans e6037_67
        have e6038_74 := (hk6038 74 rfl).trans e6037_74
        have e6038_75 := (hk6038 75 rfl).trans e6037_75
        have e6038_76 := (hk6038 76 rfl).trans e6037_76
        obtain ⟨(e6038_77 : a6038.eval (.tmp 77) = .bool (decide (x5909 < (((lkM x1.2.1 x5370).getD []).length : Int)))), -⟩ := hf6038 [0] rfl
        have hX6038 := Evo.stepK hE6037 hE6038 rfl
        have b6038_g3088 := be_ hE6038 b6037_g3088
        have b6038_gx1 := be_ hE6038 b6037_gx1
        have b6038_Ax1_0 := RdO.evo rfl hE6038 b6037_Ax1_0
        have b6038_mx1_1 := MpN.evo rfl hE6038 b6037_mx1_1
        have b6038_Ax1_2 := RdO.evo rfl hE6038 b6037_Ax1_2
        have b6038_g3090 := be_ hE6038 b6037_g3090
        have b6038_g3100 := be_ hE6038 b6037_g3100
        have b6038_A5903 := re_ hE6038 b6037_A5903
        have b6038_g3768 := be_ hE6038 b6037_g3768
        have b6038_g3766 := MpO.evo (by decide) hE6038 b6037_g3766
        have b6038_cA3773 := be_ hE6038 b6037_cA3773
        have b6038_A5773 := RdO.evo rfl hE6038 b6037_A5773
        have b6038_mk := MkO.evo (by decide) hE6038 b6037_mk
        have b6038_rc := RcO.evo (by decide) hE6038 b6037_rc
        refine fl_seq (fun Q6039 hn6039 hp6039 => ?_)
        refine fl_cond e6038_77 hs (fun c6040 hs => ?_) (fun c6040 hs => ?_)
        · refine fl_skip ?_
          refine hn6039 _ _ ?_
          refine fl_seq (fun Q6041 hn6041 hp6041 => ?_)
          refine fl_block (fun Q6102 hn6102 hx6102 hp6102 => ?_)
          have K6135 : ∀ (a6135 : Act) (w6135 : World) (own6135 : Own) (out6131 : List Int) (met6134 : List (Int × Bool)) (A6129 : Option Addr) (c6130 : Nat), a6135.defers = mkD [] → a6135.tmps.size = 104 → a6135.eval (.tmp 2) = .pointer (some ⟨g3088, 0, none⟩) → a6135.eval (.tmp 3) = .pointer (some ⟨g3090, 0, none⟩) → a6135.eval (.tmp 5) = .pointer (some ⟨g3100, 0, none⟩) → a6135.eval (.tmp 10) = .pointer (some ⟨g3768, 0, none⟩) → a6135.eval (.tmp 67) = .func (.func 64) #[] #[.pointer (some ⟨cA3773, 0, none⟩)] → a6135.eval (.tmp 74) = .slice A5773 ((lkM x1.2.1 x5370).getD []).length cA5773 → a6135.eval (.tmp 75) = .int .i64 (((lkM x1.2.1 x5370).getD []).length : Int) → a6135.eval (.tmp 76) = .int .i64 x5909 → Evo [3555, 3559, 3767, 5374, 5902, 5906, 5907, 6128, 6132, 6133, 6147, 6159, 6161] own5377 own6135 w5377 w6135 → BlkO own6135 3089 w6135 g3088 70 #[.pointer (some ⟨gx1, 0, none⟩)] → BlkO own6135 0 w6135 gx1 tx1 #[.slice Ax1_0 x1.1.length cx1_0, .map (some mx1_1), .slice Ax1_2 x1.2.2.length cx1_2] → RdO own6135 [0] w6135 R80 Ax1_0 cx1_0 x1.1 → MpN own6135 0 0 [0] w6135 mx1_1 vv111 3 R3 x1.2.1 → RdO own6135 [0] w6135 R3 Ax1_2 cx1_2 x1.2.2 → BlkO own6135 3091 w6135 g3090 80 #[.int .i64 b2.1.1, .int .i64 b2.1.2, .int .i64 b2.2.1, .int .i64 b2.2.2] → BlkO own6135 6128 w6135 g3100 22 #[.slice A6129 out6131.length c6130] → RwO own6135 6132 [] w6135 3 R3 A6129 c6130 out6131 → BlkO own6135 3770 w6135 g3768 118 #[.map (some g3766)] → MpO own6135 6133 w6135 g3766 vv3 vv4 met6134 → BlkO own6135 3774 w6135 cA3773 80 #[.int .i64 b2.1.1, .int .i64 b2.1.2, .int .i64 b2.2.1, .int .i64 b2.2.2] → RdO own6135 [0, 0] w6135 R3 A5773 cA5773 ((lkM x1.2.1 x5370).getD []) → MkO own6135 11 w6135 [] → RcO own6135 5368 w6135 l5371 → rows_Index_Find_k6 x5909 out6131 met6134 = some zz6036 → (Q6102 .normal a6135 w6135 ∧ Q6102 (.exit 7) a6135 w6135) := by
            intro a6135 w6135 own6135 out6131 met6134 A6129 c6130 hd6136 hz6136 e6136_2 e6136_3 e6136_5 e6136_10 e6136_67 e6136_74 e6136_75 e6136_76 hE6136 b6136_g3088 b6136_gx1 b6136_Ax1_0 b6136_mx1_1 b6136_Ax1_2 b6136_g3090 b6136_g3100 b6136_A6129 b6136_g3768 b6136_g3766 b6136_cA3773 b6136_A5773 b6136_mk b6136_rc hs
            refine and_both (hn6102 _ _) (hx6102 _ _) ?_
            refine hn6041 _ _ ?_
            refine rg0 104 own6135 (bz 2) [⟨[], [76], [], Fct.val 101 (.int .i64 (ad x5909 1))⟩,     ⟨[0], [], [], Fct.val 76 (.int .i64 (ad x5909 1))⟩] hz6136 hd6136 (by kernel_rfl) ?_ ?_
            · refine sc (fun _ _ _ _ s _ => px (or_add (s.1.trans e6136_76) rfl rfl)) ?_
              refine sc (fun _ _ _ f _ _ => px (or_move f.1)) ?_
              exact steps_nil
            intro own6137 a6137 w6137 hd6137 hz6137 hk6137 hf6137 hE6137
            have e6137_2 := (hk6137 2 rfl).trans e6136_2
            have e6137_3 := (hk6137 3 rfl).trans e6136_3
            have e6137_5 := (hk6137 5 rfl).trans e6136_5
            have e6137_10 := (hk6137 10 rfl).trans e6136_10
            have e6137_67 := (hk6137 67 rfl).trans e6136_67
            have e6137_74 := (hk6137 74 rfl).trans e6136_74
            have e6137_75 := (hk6137 75 rfl).trans e6136_75
            obtain ⟨(e6137_76 : a6137.eval (.tmp 76) = .int .i64 (ad x5909 1)), -⟩ := hf6137 [1] rfl
            have hX6137 := Evo.stepK hE6136 hE6137 rfl
            have b6137_g3088 := be_ hE6137 b6136_g3088
            have b6137_gx1 := be_ hE6137 b6136_gx1
            have b6137_Ax1_0 := RdO.evo rfl hE6137 b6136_Ax1_0
            have b6137_mx1_1 := MpN.evo rfl hE6137 b6136_mx1_1
            have b6137_Ax1_2 := RdO.evo rfl hE6137 b6136_Ax1_2
            have b6137_g3090 := be_ hE6137 b6136_g3090
            have b6137_g3100 := be_ hE6137 b6136_g3100
            have b6137_A6129 := re_ hE6137 b6136_A6129
            have b6137_g3768 := be_ hE6137 b6136_g3768
            have b6137_g3766 := MpO.evo (by decide) hE6137 b6136_g3766
            have b6137_cA3773 := be_ hE6137 b6136_cA3773
            have b6137_A5773 := RdO.evo rfl hE6137 b6136_A5773
            have b6137_mk := MkO.evo (by decide) hE6137 b6136_mk
            have b6137_rc := RcO.evo (by decide) hE6137 b6136_rc
            exact hn6036 _ _ _ hs ⟨(rl [(6128, 5902), (6132, 5906), (6133, 5907)] own6137), A6129, c6130, hd6137, hz6137, e6137_2, e6137_3, e6137_5, e6137_10, e6137_67, e6137_74, e6137_75, e6137_76, (Evo.rlK hX6137 rfl), (BlkO.rl_ (mm := [(6128, 5902), (6132, 5906), (6133, 5907)]) b6137_g3088), (BlkO.rl_ (mm := [(6128, 5902), (6132, 5906), (6133, 5907)]) b6137_gx1), (RdO.rl_ (mm := [(6128, 5902), (6132, 5906), (6133, 5907)]) b6137_Ax1_0), (MpN.rl_ (mm := [(6128, 5902), (6132, 5906), (6133, 5907)]) b6137_mx1_1), (RdO.rl_ (mm := [(6128, 5902), (6132, 5906), (6133, 5907)]) b6137_Ax1_2), (BlkO.rl_ (mm := [(6128, 5902), (6132, 5906), (6133, 5907)]) b6137_g3090), (BlkO.rl_ (mm := [(6128, 5902), (6132, 5906), (6133, 5907)]) b6137_g3100), (RwO.rl_ (mm := [(6128, 5902), (6132, 5906), (6133, 5907)]) b6137_A6129), (BlkO.rl_ (mm := [(6128, 5902), (6132, 5906), (6133, 5907)]) b6137_g3768), (MpO.rl_ (mm := [(6128, 5902), (6132, 5906), (6133, 5907)]) b6137_g3766), (BlkO.rl_ (mm := [(6128, 5902), (6132, 5906), (6133, 5907)]) b6137_cA3773), (RdO.rl_ (mm := [(6128, 5902), (6132, 5906), (6133, 5907)]) b6137_A5773), (MkO.rl_ (mm := [(6128, 5902), (6132, 5906), (6133, 5907)]) b6137_mk), (RcO.rl_ (mm := [(6128, 5902), (6132, 5906), (6133, 5907)]) b6137_rc)⟩
          obtain ⟨x6138, hx6138, hs⟩ := obind hs
          refine rg0_seq 104 own6038 (bz 3) [⟨[], [74, 76], [], Fct.val 78 (.pointer (some ((adr A5773).add ((x5909 : Int).toNat * R3.s))))⟩,     ⟨[0], [], [], Fct.val 79 (.int .i64 x6138)⟩,     ⟨[1], [], [], Fct.val 13 (.int .i64 x6138)⟩] hz6038 hd6038 (by kernel_rfl) ?_ ?_
          · refine sc (fun _ _ _ _ s _ => px (or_index (R := R3) (l := ((lkM x1.2.1 x5370).getD [])) tl22 (s.1.trans e6038_74) (s.2.1.trans e6038_76) (RdO.some_ b6038_A5773 hx6138) hx6138)) ?_
            refine sc (fun _ _ _ f _ hE => px (or_load1 to3 f.1 (CellsAt.zero (RdO.cells (F := E3) (RdO.evo rfl hE b6038_A5773) hx6138) rfl))) ?_
            refine sc (fun _ _ _ f _ _ => px (or_assign f.1)) ?_
            exact steps_nil
          intro own6139 a6139 w6139 hd6139 hz6139 hk6139 hf6139 hE6139
          have e6139_2 := (hk6139 2 rfl).trans e6038_2
          have e6139_3 := (hk6139 3 rfl).trans e6038_3
          have e6139_5 := (hk6139 5 rfl).trans e6038_5
          have e6139_10 := (hk6139 10 rfl).trans e6038_10
          have e6139_67 := (hk6139 67 rfl).trans e6038_67
          have e6139_74 := (hk6139 74 rfl).trans e6038_74
          have e6139_75 := (hk6139 75 rfl).trans e6038_75
          have e6139_76 := (hk6139 76 rfl).trans e6038_76
          obtain ⟨(e6139_13 : a6139.eval (.tmp 13) = .int .i64 x6138), -⟩ := hf6139 [2] rfl
          have hX6139 := Evo.stepK hX6038 hE6139 rfl
          have b6139_g3088 := be_ hE6139 b6038_g3088
          have b6139_gx1 := be_ hE6139 b6038_gx1
          have b6139_Ax1_0 := RdO.evo rfl hE6139 b6038_Ax1_0
          have b6139_mx1_1 := MpN.evo rfl hE6139 b6038_mx1_1
          have b6139_Ax1_2 := RdO.evo rfl hE6139 b6038_Ax1_2
          have b6139_g3090 := be_ hE6139 b6038_g3090
          have b6139_g3100 := be_ hE6139 b6038_g3100
          have b6139_A5903 := re_ hE6139 b6038_A5903
          have b6139_g3768 := be_ hE6139 b6038_g3768
          have b6139_g3766 := MpO.evo (by decide) hE6139 b6038_g3766
          have b6139_cA3773 := be_ hE6139 b6038_cA3773
          have b6139_A5773 := RdO.evo rfl hE6139 b6038_A5773
          have b6139_mk := MkO.evo (by decide) hE6139 b6038_mk
          have b6139_rc := RcO.evo (by decide) hE6139 b6038_rc
          refine fl_seq (fun Q6140 hn6140 hp6140 => ?_)
          obtain ⟨x6141, hx6141, hs⟩ := obind hs
          obtain ⟨r6142, hr6142, hs⟩ := obind hs
          obtain ⟨x6143, hx6143, hs⟩ := obind hs
          refine rg_draw_seq g_mixed (n := 104) (rs := []) (own0 := own6139) (K := []) (bs := [0, 0, 3, 7, 15, 15, 47, 111, 239, 15, 1007, 2031, 4095, 8191, 16383]) (ds := [⟨[], [10], [], Fct.val 80 (.map (some g3766))⟩,     ⟨[], [13], [], Fct.val 81 (.int .i64 x6138)⟩,     ⟨[0, 1], [], [], Fct.val 82 (.bool ((lkM met5908 x6138).getD false))⟩,     ⟨[2], [], [], Fct.val 83 (.bool ((lkM met5908 x6138).getD false))⟩,     ⟨[3], [3], [], Fct.cond (!((lkM met5908 x6138).getD false)) (some 84) (Fct.val 84 (.agg #[.int .i64 b2.1.1, .int .i64 b2.1.2, .int .i64 b2.2.1, .int .i64 b2.2.2]))⟩,     ⟨[3], [2], [], Fct.cond (!((lkM met5908 x6138).getD false)) (some 85) (Fct.val 85 (.pointer (some ⟨gx1, 0, none⟩)))⟩,     ⟨[3, 5], [], [], Fct.cond (!((lkM met5908 x6138).getD false)) (some 86) (Fct.val 86 (.pointer (some ⟨gx1, 0, none⟩)))⟩,     ⟨[3, 6], [], [], Fct.cond (!((lkM met5908 x6138).getD false)) (some 87) (Fct.val 87 (.pointer (some ⟨gx1, 0, none⟩)))⟩,     ⟨[3, 7], [], [], Fct.cond (!((lkM met5908 x6138).getD false)) (some 88) (Fct.val 88 (.slice Ax1_0 x1.1.length cx1_0))⟩,     ⟨[3], [13], [], Fct.cond (!((lkM met5908 x6138).getD false)) (some 89) (Fct.val 89 (.int .i64 x6138))⟩,     ⟨[3, 8, 9], [], [], Fct.cond (!((lkM met5908 x6138).getD false)) (some 90) (Fct.val 90 (.pointer (some ((adr Ax1_0).add ((x6138 : Int).toNat * R80.s)))))⟩,     ⟨[3, 10], [], [], Fct.cond (!((lkM met5908 x6138).getD false)) (some 91) (Fct.val 91 (.agg #[.int .i64 x6141.1.1, .int .i64 x6141.1.2, .int .i64 x6141.2.1, .int .i64 x6141.2.2]))⟩,     ⟨[3, 4, 11], [], [], Fct.cond (!((lkM met5908 x6138).getD false)) (some 92) (Fct.val 92 (.bool r6142))⟩,     ⟨[3, 12], [], [], Fct.cond (!((lkM met5908 x6138).getD false)) (some 93) (Fct.val 93 (.bool (!r6142)))⟩,     ⟨[3, 13], [], [], Fct.val 94 (.bool x6143)⟩]) (by kernel_rfl) hz6139 hd6139 nm_ ?_ ?_
          · refine sc (fun _ _ _ _ s hE => px (or_load1 to118 (s.1.trans e6139_10) (Blk.at_ (be_ hE b6139_g3768).2 0 rfl))) ?_
            refine sc (fun _ _ _ _ s _ => px (or_move (s.1.trans e6139_13))) ?_
            refine sc (fun _ _ _ f _ hE => px (or_lookupE (kf := vv3) (vf := vv4) (k := x6138) (dv := false) ko3 tm118 tzv118 f.1 f.2.1 (MpO.evo (by decide) hE b6139_g3766) rfl)) ?_
            refine sc (fun _ _ _ f _ _ => px (or_move f.1)) ?_
            refine sc (fun _ _ _ f s hE => sg_f rfl rfl rfl f.1 (fun hg => or_load (l := [.int .i64 b2.1.1, .int .i64 b2.1.2, .int .i64 b2.2.1, .int .i64 b2.2.2]) ta80 (s.1.trans e6139_3) (Blk.cellsFrom (be_ hE b6139_g3090).2 0 rfl) rfl)) ?_
            refine sc (fun _ _ _ f s hE => sg_f rfl rfl rfl f.1 (fun hg => or_load1 to70 (s.1.trans e6139_2) (Blk.at_ (be_ hE b6139_g3088).2 0 rfl))) ?_
            refine sc (fun _ _ _ f _ _ => sg_f rfl rfl rfl f.1 (fun hg => or_k [(85, .pointer (some ⟨gx1, 0, none⟩))] rfl rfl ⟨(f.2.1.1 hg), trivial⟩ (by kernel_rfl))) ?_
            refine sc (fun _ _ _ f _ _ => sg_f rfl rfl rfl f.1 (fun hg => or_field fo106_0 (f.2.1.1 hg) (by rfl))) ?_
            refine sc (fun _ _ _ f _ hE => sg_f rfl rfl rfl f.1 (fun hg => or_load1 to103 (f.2.1.1 hg) (Blk.at_ (be_ hE b6139_gx1).2 0 rfl))) ?_
            refine sc (fun _ _ _ f s _ => sg_f rfl rfl rfl f.1 (fun hg => or_move (s.1.trans e6139_13))) ?_
            refine sc (fun _ _ _ f _ _ => sg_f rfl rfl rfl f.1 (fun hg => or_index (R := R80) (l := x1.1) tl103 (f.2.1.1 hg) (f.2.2.1.1 hg) (RdO.some_ b6139_Ax1_0 (gd_t hx6141 hg)) (gd_t hx6141 hg))) ?_
            refine sc (fun _ _ _ f _ hE => sg_f rfl rfl rfl f.1 (fun hg => or_load (l := E80.f x6141) ta80 (f.2.1.1 hg) (RdO.cells (F := E80) (RdO.evo rfl hE b6139_Ax1_0) (gd_t hx6141 hg)) rfl)) ?_
            refine sc (fun _ _ _ f _ _ => sg_f rfl rfl rfl f.1 (fun hg => or_call cf55 (args2 (f.2.1.1 hg) (f.2.2.1.1 hg)) (rows_Meet_w _ b2 x6141  r6142 (gd_t hr6142 hg)) post_val)) ?_
            refine sc (fun _ _ _ f _ _ => sg_f rfl rfl rfl f.1 (fun hg => or_not (f.2.1.1 hg) rfl)) ?_
            refine sc (fun _ _ _ f _ _ => px (or_or f.1 rfl (fun hx => f.2.1.1 hx) (osome hx6143).symm)) ?_
            exact steps_nil
          intro own6144 a6144 w6144 hd6144 hz6144 hk6144 hf6144 hE6144
          have e6144_2 := (hk6144 2 rfl).trans e6139_2
          have e6144_3 := (hk6144 3 rfl).trans e6139_3
          have e6144_5 := (hk6144 5 rfl).trans e6139_5
          have e6144_10 := (hk6144 10 rfl).trans e6139_10
          have e6144_13 := (hk6144 13 rfl).trans e6139_13
          have e6144_67 := (hk6144 67 rfl).trans e6139_67
          have e6144_74 := (hk6144 74 rfl).trans e6139_74
          have e6144_75 := (hk6144 75 rfl).trans e6139_75
          have e6144_76 := (hk6144 76 rfl).trans e6139_76
          obtain ⟨(e6144_94 : a6144.eval (.tmp 94) = .bool x6143), -⟩ := hf6144 [14] rfl
          have hX6144 := Evo.stepK hX6139 hE6144 rfl
          have b6144_g3088 := be_ hE6144 b6139_g3088
          have b6144_gx1 := be_ hE6144 b6139_gx1
          have b6144_Ax1_0 := RdO.evo rfl hE6144 b6139_Ax1_0
          have b6144_mx1_1 := MpN.evo rfl hE6144 b6139_mx1_1
          have b6144_Ax1_2 := RdO.evo rfl hE6144 b6139_Ax1_2
          have b6144_g3090 := be_ hE6144 b6139_g3090
          have b6144_g3100 := be_ hE6144 b6139_g3100
          have b6144_A5903 := re_ hE6144 b6139_A5903
          have b6144_g3768 := be_ hE6144 b6139_g3768
          have b6144_g3766 := MpO.evo (by decide) hE6144 b6139_g3766
          have b6144_cA3773 := be_ hE6144 b6139_cA3773
          have b6144_A5773 := RdO.evo rfl hE6144 b6139_A5773
          have b6144_mk := MkO.evo (by decide) hE6144 b6139_mk
          have b6144_rc := RcO.evo (by decide) hE6144 b6139_rc
          refine fl_cond e6144_94 hs (fun c6145 hs => ?_) (fun c6145 hs => ?_)
          · refine fl_exit ?_
            refine hp6140 _ _ _ rfl ?_
            exact (K6135 _ _ (rl [(5902, 6128), (5906, 6132), (5907, 6133)] own6144) _ _ A5903 c5904 hd6144 hz6144 e6144_2 e6144_3 e6144_5 e6144_10 e6144_67 e6144_74 e6144_75 e6144_76 (Evo.rlK hX6144 rfl) (BlkO.rl_ (mm := [(5902, 6128), (5906, 6132), (5907, 6133)]) b6144_g3088) (BlkO.rl_ (mm := [(5902, 6128), (5906, 6132), (5907, 6133)]) b6144_gx1) (RdO.rl_ (mm := [(5902, 6128), (5906, 6132), (5907, 6133)]) b6144_Ax1_0) (MpN.rl_ (mm := [(5902, 6128), (5906, 6132), (5907, 6133)]) b6144_mx1_1) (RdO.rl_ (mm := [(5902, 6128), (5906, 6132), (5907, 6133)]) b6144_Ax1_2) (BlkO.rl_ (mm := [(5902, 6128), (5906, 6132), (5907, 6133)]) b6144_g3090) (BlkO.rl_ (mm := [(5902, 6128), (5906, 6132), (5907, 6133)]) b6144_g3100) (RwO.rl_ (mm := [(5902, 6128), (5906, 6132), (5907, 6133)]) b6144_A5903) (BlkO.rl_ (mm := [(5902, 6128), (5906, 6132), (5907, 6133)]) b6144_g3768) (MpO.rl_ (mm := [(5902, 6128), (5906, 6132), (5907, 6133)]) b6144_g3766) (BlkO.rl_ (mm := [(5902, 6128), (5906, 6132), (5907, 6133)]) b6144_cA3773) (RdO.rl_ (mm := [(5902, 6128), (5906, 6132), (5907, 6133)]) b6144_A5773) (MkO.rl_ (mm := [(5902, 6128), (5906, 6132), (5907, 6133)]) b6144_mk) (RcO.rl_ (mm := [(5902, 6128), (5906, 6132), (5907, 6133)]) b6144_rc) hs).2
          refine fl_skip ?_
          refine hn6140 _ _ ?_
          obtain ⟨D6146, hD6146, hs⟩ := obind hs
          refine rg_plain_seq (n := 104) (rs := [Fct.mapAt 5907 g3766 vv3 vv4 met5908]) (own0 := own6144) (K := [5907]) (bs := [0, 0, 3]) (ds := [⟨[], [10], [], Fct.val 95 (.map (some g3766))⟩,     ⟨[], [13], [], Fct.val 96 (.int .i64 x6138)⟩,     ⟨[0, 1, 3], [], [5907], Fct.mapAt 6147 g3766 vv3 vv4 D6146⟩]) (by kernel_rfl) hz6144 hd6144 (by simp only [List.forall_mem_cons]; exact ⟨b6144_g3766, fun _ h => nomatch h⟩) ?_ ?_
          · refine sc (fun _ _ _ _ s hE => px (or_load1 to118 (s.1.trans e6144_10) (Blk.at_ (be_ hE b6144_g3768).2 0 rfl))) ?_
            refine sc (fun _ _ _ _ s _ => px (or_move (s.1.trans e6144_13))) ?_
            refine sc (fun own a wx hf hsl hE => ?_) ?_
            · obtain ⟨f_95, f_96, b_g3766, -⟩ := hf
              exact px (or_mapUpdate (kf := vv3) (vf := vv4) (k := x6138) (v := true) (lab := 5907) (lab2 := 6147) ko3 tm118 f_95 f_96 rfl b_g3766 (osome hD6146).symm (mem_of rfl) (by decide) (fun own' a' w' hb => hb))
            exact steps_nil
          intro own6148 a6148 w6148 hd6148 hz6148 hk6148 hf6148 hE6148
          have e6148_2 := (hk6148 2 rfl).trans e6144_2
          have e6148_3 := (hk6148 3 rfl).trans e6144_3
          have e6148_5 := (hk6148 5 rfl).trans e6144_5
          have e6148_10 := (hk6148 10 rfl).trans e6144_10
          have e6148_13 := (hk6148 13 rfl).trans e6144_13
          have e6148_67 := (hk6148 67 rfl).trans e6144_67
          have e6148_74 := (hk6148 74 rfl).trans e6144_74
          have e6148_75 := (hk6148 75 rfl).trans e6144_75
          have e6148_76 := (hk6148 76 rfl).trans e6144_76
          obtain ⟨(b6148_g3766 : MpO own6148 6147 w6148 g3766 vv3 vv4 D6146), -⟩ := hf6148 [2] rfl
          have hX6148 := Evo.stepK hX6144 hE6148 rfl
          have b6148_g3088 := be_ hE6148 b6144_g3088
          have b6148_gx1 := be_ hE6148 b6144_gx1
          have b6148_Ax1_0 := RdO.evo rfl hE6148 b6144_Ax1_0
          have b6148_mx1_1 := MpN.evo rfl hE6148 b6144_mx1_1
          have b6148_Ax1_2 := RdO.evo rfl hE6148 b6144_Ax1_2
          have b6148_g3090 := be_ hE6148 b6144_g3090
          have b6148_g3100 := be_ hE6148 b6144_g3100
          have b6148_A5903 := re_ hE6148 b6144_A5903
          have b6148_g3768 := be_ hE6148 b6144_g3768
          have b6148_cA3773 := be_ hE6148 b6144_cA3773
          have b6148_A5773 := RdO.evo rfl hE6148 b6144_A5773
          have b6148_mk := MkO.evo (by decide) hE6148 b6144_mk
          have b6148_rc := RcO.evo (by decide) hE6148 b6144_rc
          obtain ⟨x6158, hx6158, hs⟩ := obind hs
          refine rg_plain (n := 104) (rs := [Fct.rowAt 5906 [] 3 R3 A5903 c5904 out5905, Fct.at_ 5902 g3100 22 #[.slice A5903 out5905.length c5904]]) (own0 := own6148) (K := [5906, 5902]) (bs := [0, 0, 2, 7, 15]) (ds := [⟨[6], [5], [], Fct.val 97 (.slice A5903 out5905.length c5904)⟩,     ⟨[], [13], [], Fct.val 98 (.int .i64 x6138)⟩,     ⟨[1], [], [], Fct.row 6157 [] 99 3 R3 [x6138]⟩,     ⟨[0, 2, 5], [], [5906], Fct.row 6159 [] 100 3 R3 x6158⟩,     ⟨[3, 6], [5], [5902], Fct.by_ [6161] [100] (fun l own w => ∀ (A6160 : Option Addr) (cA6160 : Nat), l.getD 0 undef = .slice A6160 x6158.length cA6160 → BlkO own 6161 w g3100 22 #[.slice A6160 x6158.length cA6160]) (fun hk he h _ _ h0' => BlkO.evo (not_hit hk (by decide)) he (h _ _ h0'))⟩]) (by kernel_rfl) hz6148 hd6148 (by simp only [List.forall_mem_cons]; exact ⟨b6148_A5903, b6148_g3100, fun _ h => nomatch h⟩) ?_ ?_
          · refine sc (fun own a wx hf hsl hE => ?_) ?_
            · obtain ⟨(b_g3100 : BlkO own 5902 wx g3100 22 #[.slice A5903 out5905.length c5904]), -⟩ := hf
              obtain ⟨s_5, -⟩ := hsl
              exact px (or_load1 to22 (s_5.trans e6148_5) (Blk.at_ b_g3100.2 0 rfl))
            refine sc (fun _ _ _ _ s _ => px (or_move (s.1.trans e6148_13))) ?_
            refine sc (fun _ _ _ f _ _ => px (or_lit (lab := 6157) (e := 3) (cs := #[.int .i64 x6138]) (F := E3) (or_new [(98, .int .i64 x6138)] rfl rfl ⟨f.1, trivial⟩ (by kernel_rfl)) rfl rfl (show 1 ≤ maxLen by decide))) ?_
            refine sc (fun own a wx hf hsl hE => ?_) ?_
            · obtain ⟨f_97, ⟨⟨A6156, cA6156⟩, f_99, b_A6156⟩, b_A5903, -⟩ := hf
              exact px (or_append (R := R3) (lab := 5906) (lab2 := 6159) (L := []) (L3 := []) tp22 f_97 b_A5903 (by decide) f_99 (RwO.rd b_A6156) hx6158 (by decide) (by decide) (mem_of rfl) (.inl (Rep.fl_flat _)))
            refine sc (fun own a wx hf hsl hE => ?_) ?_
            · obtain ⟨⟨⟨A6160, cA6160⟩, (f_100 : a.eval (.tmp 100) = .slice A6160 x6158.length cA6160), b_A6160⟩, b_g3100, -⟩ := hf
              obtain ⟨s_5, -⟩ := hsl
              exact px (or_store1 (lab := 5902) (lab2 := 6161) ts22 (s_5.trans e6148_5) f_100 b_g3100 (by simp) rfl (mem_of rfl) (by decide) rfl (fun own' a' w' ha hb => fun _ _ h0' => by cases (f_100.symm.trans ((ha 100).symm.trans h0')); exact hb))
            exact steps_nil
          intro own6162 a6162 w6162 hd6162 hz6162 hk6162 hf6162 hE6162
          have e6162_2 := (hk6162 2 rfl).trans e6148_2
          have e6162_3 := (hk6162 3 rfl).trans e6148_3
          have e6162_5 := (hk6162 5 rfl).trans e6148_5
          have e6162_10 := (hk6162 10 rfl).trans e6148_10
          have e6162_67 := (hk6162 67 rfl).trans e6148_67
          have e6162_74 := (hk6162 74 rfl).trans e6148_74
          have e6162_75 := (hk6162 75 rfl).trans e6148_75
          have e6162_76 := (hk6162 76 rfl).trans e6148_76
          obtain ⟨⟨⟨A6160, cA6160⟩, (f_100 : a6162.eval (.tmp 100) = .slice A6160 x6158.length cA6160), (b6162_A6160 : RwO own6162 6159 [] w6162 3 R3 A6160 cA6160 x6158)⟩, (bq_g3100 : ∀ (A6160 : Option Addr) (cA6160 : Nat), a6162.eval (.tmp 100) = .slice A6160 x6158.length cA6160 → BlkO own6162 6161 w6162 g3100 22 #[.slice A6160 x6158.length cA6160]), -⟩ := hf6162 [3, 4] rfl
          have b6162_g3100 := bq_g3100 _ _ f_100
          have hX6162 := Evo.stepK hX6148 hE6162 rfl
          have b6162_g3088 := be_ hE6162 b6148_g3088
          have b6162_gx1 := be_ hE6162 b6148_gx1
          have b6162_Ax1_0 := RdO.evo rfl hE6162 b6148_Ax1_0
          have b6162_mx1_1 := MpN.evo rfl hE6162 b6148_mx1_1
          have b6162_Ax1_2 := RdO.evo rfl hE6162 b6148_Ax1_2
          have b6162_g3090 := be_ hE6162 b6148_g3090
          have b6162_g3768 := be_ hE6162 b6148_g3768
          have b6162_cA3773 := be_ hE6162 b6148_cA3773
          have b6162_A5773 := RdO.evo rfl hE6162 b6148_A5773
          have b6162_mk := MkO.evo (by decide) hE6162 b6148_mk
          have b6162_rc := RcO.evo (by decide) hE6162 b6148_rc
          have b6162_g3766 := MpO.evo (by decide) hE6162 b6148_g3766
          exact (K6135 _ _ (rl [(6147, 6133), (6159, 6132), (6161, 6128)] own6162) _ _ A6160 cA6160 hd6162 hz6162 e6162_2 e6162_3 e6162_5 e6162_10 e6162_67 e6162_74 e6162_75 e6162_76 (Evo.rlK hX6162 rfl) (BlkO.rl_ (mm := [(6147, 6133), (6159, 6132), (6161, 6128)]) b6162_g3088) (BlkO.rl_ (mm := [(6147, 6133), (6159, 6132), (6161, 6128)]) b6162_gx1) (RdO.rl_ (mm := [(6147, 6133), (6159, 6132), (6161, 6128)]) b6162_Ax1_0) (MpN.rl_ (mm := [(6147, 6133), (6159, 6132), (6161, 6128)]) b6162_mx1_1) (RdO.rl_ (mm := [(6147, 6133), (6159, 6132), (6161, 6128)]) b6162_Ax1_2) (BlkO.rl_ (mm := [(6147, 6133), (6159, 6132), (6161, 6128)]) b6162_g3090) (BlkO.rl_ (mm := [(6147, 6133), (6159, 6132), (6161, 6128)]) b6162_g3100) (RwO.rl_ (mm := [(6147, 6133), (6159, 6132), (6161, 6128)]) b6162_A6160) (BlkO.rl_ (mm := [(6147, 6133), (6159, 6132), (6161, 6128)]) b6162_g3768) (MpO.rl_ (mm := [(6147, 6133), (6159, 6132), (6161, 6128)]) b6162_g3766) (BlkO.rl_ (mm := [(6147, 6133), (6159, 6132), (6161, 6128)]) b6162_cA3773) (RdO.rl_ (mm := [(6147, 6133), (6159, 6132), (6161, 6128)]) b6162_A5773) (MkO.rl_ (mm := [(6147, 6133), (6159, 6132), (6161, 6128)]) b6162_mk) (RcO.rl_ (mm := [(6147, 6133), (6159, 6132), (6161, 6128)]) b6162_rc) hs).1
        refine fl_exit ?_
        refine hp6039 _ _ _ rfl ?_
        replace hs := hz6036 _ hs
        refine hp6036 _ _ _ rfl ?_
        refine hx5775 _ _ ?_
        refine hp5771.normal _ _ ?_
        refine hn5378 _ _ ?_
        exact ⟨_, (rl [(5902, 3555), (5906, 3559), (5907, 3767)] own6038), osome hs, (Evo.rlK hX6038 rfl), A5903, c5904, (es_ hU5377 (Evo.rlK hX6038 rfl)), (BlkO.rl_ (mm := [(5902, 3555), (5906, 3559), (5907, 3767)]) b6038_g3088), (BlkO.rl_ (mm := [(5902, 3555), (5906, 3559), (5907, 3767)]) b6038_gx1), (RdO.rl_ (mm := [(5902, 3555), (5906, 3559), (5907, 3767)]) b6038_Ax1_0), (MpN.rl_ (mm := [(5902, 3555), (5906, 3559), (5907, 3767)]) b6038_mx1_1), (RdO.rl_ (mm := [(5902, 3555), (5906, 3559), (5907, 3767)]) b6038_Ax1_2), (BlkO.rl_ (mm := [(5902, 3555), (5906, 3559), (5907, 3767)]) b6038_g3090), (BlkO.rl_ (mm := [(5902, 3555), (5906, 3559), (5907, 3767)]) b6038_g3100), (RwO.rl_ (mm := [(5902, 3555), (5906, 3559), (5907, 3767)]) b6038_A5903), (BlkO.rl_ (mm := [(5902, 3555), (5906, 3559), (5907, 3767)]) b6038_g3768), (MpO.rl_ (mm := [(5902, 3555), (5906, 3559), (5907, 3767)]) b6038_g3766), (BlkO.rl_ (mm := [(5902, 3555), (5906, 3559), (5907, 3767)]) b6038_cA3773)⟩
    · rintro ⟨out4572, met4574⟩ a6163 own6163 w6163 Ds6163 hzz6163 hd6163 hz6163 hkp6163 hmk6163 ⟨A4570, c4571, hE6163, b6163_g3088, b6163_gx1, b6163_Ax1_0, b6163_mx1_1, b6163_Ax1_2, b6163_g3090, b6163_g3100, b6163_A4570, b6163_g3768, b6163_g3766, b6163_cA3773⟩
      subst hzz6163
      have hs : rows_Index_Find_b8 out4572 met4574 = some r := hs
      have e6163_2 : a6163.eval (.tmp 2) = .pointer (some ⟨g3088, 0, none⟩) := (hkp6163 2).trans e3775_2
      have e6163_3 : a6163.eval (.tmp 3) = .pointer (some ⟨g3090, 0, none⟩) := (hkp6163 3).trans e3775_3
      have e6163_5 : a6163.eval (.tmp 5) = .pointer (some ⟨g3100, 0, none⟩) := (hkp6163 5).trans e3775_5
      have e6163_10 : a6163.eval (.tmp 10) = .pointer (some ⟨g3768, 0, none⟩) := (hkp6163 10).trans e3775_10
      have e6163_67 : a6163.eval (.tmp 67) = .func (.func 64) #[] #[.pointer (some ⟨cA3773, 0, none⟩)] := (hkp6163 67).trans e3775_67
      refine hn3776 _ _ ?_
      refine hn3772 _ _ ?_
      obtain ⟨r6164, hr6164, hs⟩ := obind hs
      refine rg0_seq 104 own6163 (bz 3) [⟨[], [5], [], Fct.val 102 (.slice A4570 out4572.length c4571)⟩,     ⟨[0], [], [], Fct.row 6166 [] 103 3 R3 r6164⟩,     ⟨[1], [], [], Fct.rel [4, 103] (fun l => ∀ (A6165 : Option Addr) (cA6165 : Nat), l.getD 1 undef = .slice A6165 r6164.length cA6165 → l.getD 0 undef = .slice A6165 r6164.length cA6165)⟩] hz6163 hd6163 (by kernel_rfl) ?_ ?_
      · refine sc (fun _ _ _ _ s hE => px (or_load1 to22 (s.1.trans e6163_5) (Blk.at_ (be_ hE b6163_g3100).2 0 rfl))) ?_
        refine sc (fun _ _ _ f _ hE => px (or_call cf56 (args1 f.1) (order_Uniq_w _ out4572 A4570 c4571 (RdO.zero (RwO.rd (re_ hE b6163_A4570))) r6164 hr6164) (post_row (m' := (look0 [(1, 6166)])) (.inl (Rep.fl_flat _)) rfl rfl (fun _ => rfl)))) ?_
        refine sc (fun own a wx hf hsl hE => ?_) ?_
        · obtain ⟨⟨⟨A6165, cA6165⟩, (f_103 : a.eval (.tmp 103) = .slice A6165 r6164.length cA6165), b_A6165⟩, -⟩ := hf
          exact px (or_mono (f := Fct.val 4 (.slice A6165 r6164.length cA6165)) (or_assign f_103) (fun own' a' w' v' hp h => fun _ _ h0' => by cases (f_103.symm.trans ((hp.2 103 (by decide)).symm.trans h0')); exact h))
        exact steps_nil
      intro own6167 a6167 w6167 hd6167 hz6167 hk6167 hf6167 hE6167
      obtain ⟨⟨⟨A6165, cA6165⟩, (f_103 : a6167.eval (.tmp 103) = .slice A6165 r6164.length cA6165), (b6167_A6165 : RwO own6167 6166 [] w6167 3 R3 A6165 cA6165 r6164)⟩, (q_4 : ∀ (A6165 : Option Addr) (cA6165 : Nat), a6167.eval (.tmp 103) = .slice A6165 r6164.length cA6165 → a6167.eval (.tmp 4) = .slice A6165 r6164.length cA6165), -⟩ := hf6167 [1, 2] rfl
      have e6167_4 := q_4 _ _ f_103
      have hX6167 := es_ hE6163 hE6167
      have b6167_mk := MkO.evo (by decide) hE6167 hmk6163
      refine fl_ret ?_
      refine hret _ _ _ _ _ (.inl rfl) hd6167 b6167_mk (fun own6168 w6168 hE6168 => ?_)
      have hX6169 := es_ hX6167 hE6168
      have b6169_A6165 := re_ hE6168 b6167_A6165
      obtain rfl := (osome hs).symm
      exact ⟨_, results1_ rfl (RVal.tmp_ e6167_4), ⟨(rl [(6166, 1)] own6168), (A6165, cA6165), rfl, (Evo.rl_ hX6169 (fun _ => Nat.le_refl 0) rfl), (RwO.rl_ (mm := [(6166, 1)]) b6169_A6165)⟩⟩
    · intro e; exact nomatch e
theorem exact_Cross_w (w : World) (x1 : Int × Int) (b2 : Int × Int) (c3 : Int × Int) (r : Int) (hs : exact_Cross x1 b2 c3 = some r) :
    Calls Try.prog 63 #[.agg #[.int .i64 x1.1, .int .i64 x1.2], .agg #[.int .i64 b2.1, .int .i64 b2.2], .agg #[.int .i64 c3.1, .int .i64 c3.2]] w fun e w' => ∃ own' : Own, e = .returned (.int .i64 r) ∧ Evo [] (fun _ => 0) own' w w' := by
  refine fl_enter (n := 36) rfl rfl rfl (Nat.le_of_ble_eq_true rfl) ?_
  intro a0 Q hd0 hz0 harg hret
  have ha0 := harg 0 _ rfl
  have ha1 := harg 1 _ rfl
  have ha2 := harg 2 _ rfl
  clear harg
  have hE0 : Evo [] (fun _ => 0) (fun _ => 0) w w := Evo.refl _ _ _
  refine rg0_seq 36 (fun _ => 0) [0, 0, 0, 0] [⟨[], [0], [], Fct.blk 28 3 (fun g => .pointer (some ⟨g, 0, none⟩)) 25 #[.int .i64 x1.1, .int .i64 x1.2]⟩,     ⟨[], [1], [], Fct.blk 30 4 (fun g => .pointer (some ⟨g, 0, none⟩)) 25 #[.int .i64 b2.1, .int .i64 b2.2]⟩,     ⟨[], [2], [], Fct.blk 32 5 (fun g => .pointer (some ⟨g, 0, none⟩)) 25 #[.int .i64 c3.1, .int .i64 c3.2]⟩,     ⟨[], [], [], Fct.val 6 (.int .i64 0)⟩] hz0 hd0 (by kernel_rfl) ?_ ?_
  · refine sc (fun _ _ _ _ s _ => px (or_new [(0, .agg #[.int .i64 x1.1, .int .i64 x1.2])] rfl rfl ⟨(s.1.trans ha0), trivial⟩ (by kernel_rfl))) ?_
    refine sc (fun _ _ _ _ s _ => px (or_new [(1, .agg #[.int .i64 b2.1, .int .i64 b2.2])] rfl rfl ⟨(s.1.trans ha1), trivial⟩ (by kernel_rfl))) ?_
    refine sc (fun _ _ _ _ s _ => px (or_new [(2, .agg #[.int .i64 c3.1, .int .i64 c3.2])] rfl rfl ⟨(s.1.trans ha2), trivial⟩ (by kernel_rfl))) ?_
    refine sc (fun _ _ _ _ _ _ => px (or_assign rfl)) ?_
    exact steps_nil
  intro own33 a33 w33 hd33 hz33 hk33 hf33 hE33
  obtain ⟨⟨g27, (e33_3 : a33.eval (.tmp 3) = .pointer (some ⟨g27, 0, none⟩)), (b33_g27 : BlkO own33 28 w33 g27 25 #[.int .i64 x1.1, .int .i64 x1.2])⟩, ⟨g29, (e33_4 : a33.eval (.tmp 4) = .pointer (some ⟨g29, 0, none⟩)), (b33_g29 : BlkO own33 30 w33 g29 25 #[.int .i64 b2.1, .int .i64 b2.2])⟩, ⟨g31, (e33_5 : a33.eval (.tmp 5) = .pointer (some ⟨g31, 0, none⟩)), (b33_g31 : BlkO own33 32 w33 g31 25 #[.int .i64 c3.1, .int .i64 c3.2])⟩, -⟩ := hf33 [0, 1, 2] rfl
  have hX33 := es_ hE0 hE33
  refine fl_seq (fun Q34 hn34 hp34 => ?_)
  obtain ⟨r37, hr37, hs⟩ := obind hs
  refine rg0_seq 36 own33 [0, 0, 0, 7, 15, 31] [⟨[], [3], [], Fct.val 7 (.agg #[.int .i64 x1.1, .int .i64 x1.2])⟩,     ⟨[], [4], [], Fct.val 8 (.agg #[.int .i64 b2.1, .int .i64 b2.2])⟩,     ⟨[], [5], [], Fct.val 9 (.agg #[.int .i64 c3.1, .int .i64 c3.2])⟩,     ⟨[0, 1, 2], [], [], Fct.row 36 [] 10 25 R25 [x1, b2, c3]⟩,     ⟨[3], [], [], Fct.val 11 (.bool r37)⟩,     ⟨[4], [], [], Fct.val 12 (.bool (!r37))⟩] hz33 hd33 (by kernel_rfl) ?_ ?_
  · refine sc (fun _ _ _ _ s hE => px (or_load (l := [.int .i64 x1.1, .int .i64 x1.2]) ta25 (s.1.trans e33_3) (Blk.cellsFrom (be_ hE b33_g27).2 0 rfl) rfl)) ?_
    refine sc (fun _ _ _ _ s hE => px (or_load (l := [.int .i64 b2.1, .int .i64 b2.2]) ta25 (s.1.trans e33_4) (Blk.cellsFrom (be_ hE b33_g29).2 0 rfl) rfl)) ?_
    refine sc (fun _ _ _ _ s hE => px (or_load (l := [.int .i64 c3.1, .int .i64 c3.2]) ta25 (s.1.trans e33_5) (Blk.cellsFrom (be_ hE b33_g31).2 0 rfl) rfl)) ?_
    refine sc (fun _ _ _ f _ _ => px (or_lit (lab := 36) (e := 25) (cs := #[.int .i64 x1.1, .int .i64 x1.2, .int .i64 b2.1, .int .i64 b2.2, .int .i64 c3.1, .int .i64 c3.2]) (F := E25) (or_new [(7, .agg #[.int .i64 x1.1, .int .i64 x1.2]), (8, .agg #[.int .i64 b2.1, .int .i64 b2.2]), (9, .agg #[.int .i64 c3.1, .int .i64 c3.2])] rfl rfl ⟨f.1, f.2.1, f.2.2.1, trivial⟩ (by kernel_rfl)) rfl rfl (show 3 ≤ maxLen by decide))) ?_
    refine sc (fun own a wx hf hsl hE => ?_) ?_
    · obtain ⟨⟨⟨A35, cA35⟩, f_10, b_A35⟩, -⟩ := hf
      exact px (or_call cf32 (args1 f_10) (exact_Right_w _ [x1, b2, c3] A35 cA35 (RdO.zero (RwO.rd b_A35)) r37 hr37) post_val)
    refine sc (fun _ _ _ f _ _ => px (or_not f.1 rfl)) ?_
    exact steps_nil
  intro own38 a38 w38 hd38 hz38 hk38 hf38 hE38
  have e38_3 := (hk38 3 rfl).trans e33_3
  have e38_4 := (hk38 4 rfl).trans e33_4
  have e38_5 := (hk38 5 rfl).trans e33_5
  obtain ⟨(e38_12 : a38.eval (.tmp 12) = .bool (!r37)), -⟩ := hf38 [5] rfl
  have hX38 := es_ hX33 hE38
  have b38_g27 := be_ hE38 b33_g27
  have b38_g29 := be_ hE38 b33_g29
  have b38_g31 := be_ hE38 b33_g31
  refine fl_cond e38_12 hs (fun c39 hs => ?_) (fun c39 hs => ?_)
  · refine rg0_seq 36 own38 (bz 1) [⟨[], [], [], Fct.val 6 (.int .i64 0)⟩] hz38 hd38 (by kernel_rfl) ?_ ?_
    · refine sc (fun _ _ _ _ _ _ => px (or_assign rfl)) ?_
      exact steps_nil
    intro own40 a40 w40 hd40 hz40 hk40 hf40 hE40
    obtain ⟨(e40_6 : a40.eval (.tmp 6) = .int .i64 0), -⟩ := hf40 [0] rfl
    have hX40 := es_ hX38 hE40
    refine fl_ret ?_
    refine hp34 _ _ _ rfl ?_
    obtain rfl := osome hs
    exact hret _ _ _ _ (.inl rfl) hd40 (results1_ rfl (RVal.tmp_ e40_6)) ⟨own40, rfl, hX40⟩
  refine fl_skip ?_
  refine hn34 _ _ ?_
  obtain ⟨x41, hx41, hs⟩ := obind hs
  refine rg0_seq 36 own38 [0, 1, 0, 4, 15, 0, 32, 0, 128, 480, 1023, 0, 2048, 0, 8192, 30720, 0, 65536, 0, 262144, 983040, 2095104, 4194303, 8388607] [⟨[], [4], [], Fct.val 13 (.pointer (some ⟨g29, 0, none⟩))⟩,     ⟨[0], [], [], Fct.val 14 (.int .i64 b2.1)⟩,     ⟨[], [3], [], Fct.val 15 (.pointer (some ⟨g27, 0, none⟩))⟩,     ⟨[2], [], [], Fct.val 16 (.int .i64 x1.1)⟩,     ⟨[1, 3], [], [], Fct.val 17 (.int .i64 (sb b2.1 x1.1))⟩,     ⟨[], [5], [], Fct.val 18 (.pointer (some ⟨g31, 1, none⟩))⟩,     ⟨[5], [], [], Fct.val 19 (.int .i64 c3.2)⟩,     ⟨[], [3], [], Fct.val 20 (.pointer (some ⟨g27, 1, none⟩))⟩,     ⟨[7], [], [], Fct.val 21 (.int .i64 x1.2)⟩,     ⟨[6, 8], [], [], Fct.val 22 (.int .i64 (sb c3.2 x1.2))⟩,     ⟨[4, 9], [], [], Fct.val 23 (.int .i64 (ml (sb b2.1 x1.1) (sb c3.2 x1.2)))⟩,     ⟨[], [4], [], Fct.val 24 (.pointer (some ⟨g29, 1, none⟩))⟩,     ⟨[11], [], [], Fct.val 25 (.int .i64 b2.2)⟩,     ⟨[], [3], [], Fct.val 26 (.pointer (some ⟨g27, 1, none⟩))⟩,     ⟨[13], [], [], Fct.val 27 (.int .i64 x1.2)⟩,     ⟨[12, 14], [], [], Fct.val 28 (.int .i64 (sb b2.2 x1.2))⟩,     ⟨[], [5], [], Fct.val 29 (.pointer (some ⟨g31, 0, none⟩))⟩,     ⟨[16], [], [], Fct.val 30 (.int .i64 c3.1)⟩,     ⟨[], [3], [], Fct.val 31 (.pointer (some ⟨g27, 0, none⟩))⟩,     ⟨[18], [], [], Fct.val 32 (.int .i64 x1.1)⟩,     ⟨[17, 19], [], [], Fct.val 33 (.int .i64 (sb c3.1 x1.1))⟩,     ⟨[15, 20], [], [], Fct.val 34 (.int .i64 (ml (sb b2.2 x1.2) (sb c3.1 x1.1)))⟩,     ⟨[10, 21], [], [], Fct.val 35 (.int .i64 x41)⟩,     ⟨[22], [], [], Fct.val 6 (.int .i64 x41)⟩] hz38 hd38 (by kernel_rfl) ?_ ?_
  · refine sc (fun _ _ _ _ s _ => px (or_field fo25_0 (s.1.trans e38_4) (by rfl))) ?_
    refine sc (fun _ _ _ f _ hE => px (or_load1 to3 f.1 (Blk.at_ (be_ hE b38_g29).2 0 rfl))) ?_
    refine sc (fun _ _ _ _ s _ => px (or_field fo25_0 (s.1.trans e38_3) (by rfl))) ?_
    refine sc (fun _ _ _ f _ hE => px (or_load1 to3 f.1 (Blk.at_ (be_ hE b38_g27).2 0 rfl))) ?_
    refine sc (fun _ _ _ f _ _ => px (or_sub f.1 f.2.1 rfl)) ?_
    refine sc (fun _ _ _ _ s _ => px (or_field fo25_1 (s.1.trans e38_5) (by rfl))) ?_
    refine sc (fun _ _ _ f _ hE => px (or_load1 to3 f.1 (Blk.at_ (be_ hE b38_g31).2 1 rfl))) ?_
    refine sc (fun _ _ _ _ s _ => px (or_field fo25_1 (s.1.trans e38_3) (by rfl))) ?_
    refine sc (fun _ _ _ f _ hE => px (or_load1 to3 f.1 (Blk.at_ (be_ hE b38_g27).2 1 rfl))) ?_
    refine sc (fun _ _ _ f _ _ => px (or_sub f.1 f.2.1 rfl)) ?_
    refine sc (fun _ _ _ f _ _ => px (or_mul f.1 f.2.1 rfl)) ?_
    refine sc (fun _ _ _ _ s _ => px (or_field fo25_1 (s.1.trans e38_4) (by rfl))) ?_
    refine sc (fun _ _ _ f _ hE => px (or_load1 to3 f.1 (Blk.at_ (be_ hE b38_g29).2 1 rfl))) ?_
    refine sc (fun _ _ _ _ s _ => px (or_field fo25_1 (s.1.trans e38_3) (by rfl))) ?_
    refine sc (fun _ _ _ f _ hE => px (or_load1 to3 f.1 (Blk.at_ (be_ hE b38_g27).2 1 rfl))) ?_
    refine sc (fun _ _ _ f _ _ => px (or_sub f.1 f.2.1 rfl)) ?_
    refine sc (fun _ _ _ _ s _ => px (or_field fo25_0 (s.1.trans e38_5) (by rfl))) ?_
    refine sc (fun _ _ _ f _ hE => px (or_load1 to3 f.1 (Blk.at_ (be_ hE b38_g31).2 0 rfl))) ?_
    refine sc (fun _ _ _ _ s _ => px (or_field fo25_0 (s.1.trans e38_3) (by rfl))) ?_
    refine sc (fun _ _ _ f _ hE => px (or_load1 to3 f.1 (Blk.at_ (be_ hE b38_g27).2 0 rfl))) ?_
    refine sc (fun _ _ _ f _ _ => px (or_sub f.1 f.2.1 rfl)) ?_
    refine sc (fun _ _ _ f _ _ => px (or_mul f.1 f.2.1 rfl)) ?_
    refine sc (fun _ _ _ f _ _ => px (or_sub f.1 f.2.1 (osome hx41).symm)) ?_
    refine sc (fun _ _ _ f _ _ => px (or_assign f.1)) ?_
    exact steps_nil
  intro own42 a42 w42 hd42 hz42 hk42 hf42 hE42
  obtain ⟨(e42_6 : a42.eval (.tmp 6) = .int .i64 x41), -⟩ := hf42 [23] rfl
  have hX42 := es_ hX38 hE42
  refine fl_ret ?_
  obtain rfl := (osome hs).symm
  exact hret _ _ _ _ (.inl rfl) hd42 (results1_ rfl (RVal.tmp_ e42_6)) ⟨own42, rfl, hX42⟩
theorem exact_Turn_w (w : World) (x1 : Int × Int) (b2 : Int × Int) (c3 : Int × Int) (r : Int) (hs : exact_Turn x1 b2 c3 = some r) :
    Calls Try.prog 46 #[.agg #[.int .i64 x1.1, .int .i64 x1.2], .agg #[.int .i64 b2.1, .int .i64 b2.2], .agg #[.int .i64 c3.1, .int .i64 c3.2]] w fun e w' => ∃ own' : Own, e = .returned (.int .i64 r) ∧ Evo [] (fun _ => 0) own' w w' := by
  refine fl_enter (n := 18) rfl rfl rfl (Nat.le_of_ble_eq_true rfl) ?_
  intro a0 Q hd0 hz0 harg hret
  have ha0 := harg 0 _ rfl
  have ha1 := harg 1 _ rfl
  have ha2 := harg 2 _ rfl
  clear harg
  have hE0 : Evo [] (fun _ => 0) (fun _ => 0) w w := Evo.refl _ _ _
  refine rg0_seq 18 (fun _ => 0) [0, 0, 0, 0] [⟨[], [0], [], Fct.blk 30 3 (fun g => .pointer (some ⟨g, 0, none⟩)) 25 #[.int .i64 x1.1, .int .i64 x1.2]⟩,     ⟨[], [1], [], Fct.blk 32 4 (fun g => .pointer (some ⟨g, 0, none⟩)) 25 #[.int .i64 b2.1, .int .i64 b2.2]⟩,     ⟨[], [2], [], Fct.blk 34 5 (fun g => .pointer (some ⟨g, 0, none⟩)) 25 #[.int .i64 c3.1, .int .i64 c3.2]⟩,     ⟨[], [], [], Fct.val 6 (.int .i64 0)⟩] hz0 hd0 (by kernel_rfl) ?_ ?_
  · refine sc (fun _ _ _ _ s _ => px (or_new [(0, .agg #[.int .i64 x1.1, .int .i64 x1.2])] rfl rfl ⟨(s.1.trans ha0), trivial⟩ (by kernel_rfl))) ?_
    refine sc (fun _ _ _ _ s _ => px (or_new [(1, .agg #[.int .i64 b2.1, .int .i64 b2.2])] rfl rfl ⟨(s.1.trans ha1), trivial⟩ (by kernel_rfl))) ?_
    refine sc (fun _ _ _ _ s _ => px (or_new [(2, .agg #[.int .i64 c3.1, .int .i64 c3.2])] rfl rfl ⟨(s.1.trans ha2), trivial⟩ (by kernel_rfl))) ?_
    refine sc (fun _ _ _ _ _ _ => px (or_assign rfl)) ?_
    exact steps_nil
  intro own35 a35 w35 hd35 hz35 hk35 hf35 hE35
  obtain ⟨⟨g29, (e35_3 : a35.eval (.tmp 3) = .pointer (some ⟨g29, 0, none⟩)), (b35_g29 : BlkO own35 30 w35 g29 25 #[.int .i64 x1.1, .int .i64 x1.2])⟩, ⟨g31, (e35_4 : a35.eval (.tmp 4) = .pointer (some ⟨g31, 0, none⟩)), (b35_g31 : BlkO own35 32 w35 g31 25 #[.int .i64 b2.1, .int .i64 b2.2])⟩, ⟨g33, (e35_5 : a35.eval (.tmp 5) = .pointer (some ⟨g33, 0, none⟩)), (b35_g33 : BlkO own35 34 w35 g33 25 #[.int .i64 c3.1, .int .i64 c3.2])⟩, -⟩ := hf35 [0, 1, 2] rfl
  have hX35 := es_ hE0 hE35
  refine fl_seq (fun Q36 hn36 hp36 => ?_)
  obtain ⟨r37, hr37, hs⟩ := obind hs
  refine rg0_seq 18 own35 [0, 0, 0, 7, 15] [⟨[], [3], [], Fct.val 8 (.agg #[.int .i64 x1.1, .int .i64 x1.2])⟩,     ⟨[], [4], [], Fct.val 9 (.agg #[.int .i64 b2.1, .int .i64 b2.2])⟩,     ⟨[], [5], [], Fct.val 10 (.agg #[.int .i64 c3.1, .int .i64 c3.2])⟩,     ⟨[0, 1, 2], [], [], Fct.val 11 (.int .i64 r37)⟩,     ⟨[3], [], [], Fct.val 7 (.int .i64 r37)⟩] hz35 hd35 (by kernel_rfl) ?_ ?_
  · refine sc (fun _ _ _ _ s hE => px (or_load (l := [.int .i64 x1.1, .int .i64 x1.2]) ta25 (s.1.trans e35_3) (Blk.cellsFrom (be_ hE b35_g29).2 0 rfl) rfl)) ?_
    refine sc (fun _ _ _ _ s hE => px (or_load (l := [.int .i64 b2.1, .int .i64 b2.2]) ta25 (s.1.trans e35_4) (Blk.cellsFrom (be_ hE b35_g31).2 0 rfl) rfl)) ?_
    refine sc (fun _ _ _ _ s hE => px (or_load (l := [.int .i64 c3.1, .int .i64 c3.2]) ta25 (s.1.trans e35_5) (Blk.cellsFrom (be_ hE b35_g33).2 0 rfl) rfl)) ?_
    refine sc (fun _ _ _ f _ _ => px (or_call cf63 (args3 f.1 f.2.1 f.2.2.1) (exact_Cross_w _ x1 b2 c3  r37 hr37) post_val)) ?_
    refine sc (fun _ _ _ f _ _ => px (or_assign f.1)) ?_
    exact steps_nil
  intro own38 a38 w38 hd38 hz38 hk38 hf38 hE38
  obtain ⟨(e38_7 : a38.eval (.tmp 7) = .int .i64 r37), -⟩ := hf38 [4] rfl
  have hX38 := es_ hX35 hE38
  refine fl_block (fun Q39 hn39 hx39 hp39 => ?_)
  refine rg0_seq 18 own38 (bz 3) [⟨[], [7], [], Fct.val 13 (.int .i64 r37)⟩,     ⟨[0], [], [], Fct.val 14 (.bool (decide (0 < r37)))⟩,     ⟨[1], [], [], Fct.val 12 (.bool (decide (0 < r37)))⟩] hz38 hd38 (by kernel_rfl) ?_ ?_
  · refine sc (fun _ _ _ _ s _ => px (or_move (s.1.trans e38_7))) ?_
    refine sc (fun _ _ _ f _ _ => px (or_gtr f.1 rfl rfl)) ?_
    refine sc (fun _ _ _ f _ _ => px (or_assign f.1)) ?_
    exact steps_nil
  intro own40 a40 w40 hd40 hz40 hk40 hf40 hE40
  have e40_7 := (hk40 7 rfl).trans e38_7
  obtain ⟨(e40_12 : a40.eval (.tmp 12) = .bool (decide (0 < r37))), -⟩ := hf40 [2] rfl
  have hX40 := es_ hX38 hE40
  refine fl_cond e40_12 hs (fun c41 hs => ?_) (fun c41 hs => ?_)
  · refine rg0_seq 18 own40 (bz 1) [⟨[], [], [], Fct.val 6 (.int .i64 1)⟩] hz40 hd40 (by kernel_rfl) ?_ ?_
    · refine sc (fun _ _ _ _ _ _ => px (or_assign rfl)) ?_
      exact steps_nil
    intro own42 a42 w42 hd42 hz42 hk42 hf42 hE42
    obtain ⟨(e42_6 : a42.eval (.tmp 6) = .int .i64 1), -⟩ := hf42 [0] rfl
    have hX42 := es_ hX40 hE42
    refine fl_ret ?_
    refine hp39 _ _ _ rfl ?_
    refine hp36 _ _ _ rfl ?_
    obtain rfl := osome hs
    exact hret _ _ _ _ (.inl rfl) hd42 (results1_ rfl (RVal.tmp_ e42_6)) ⟨own42, rfl, hX42⟩
  refine rg0_seq 18 own40 (bz 3) [⟨[], [7], [], Fct.val 16 (.int .i64 r37)⟩,     ⟨[0], [], [], Fct.val 17 (.bool (decide (r37 < 0)))⟩,     ⟨[1], [], [], Fct.val 15 (.bool (decide (r37 < 0)))⟩] hz40 hd40 (by kernel_rfl) ?_ ?_
  · refine sc (fun _ _ _ _ s _ => px (or_move (s.1.trans e40_7))) ?_
    refine sc (fun _ _ _ f _ _ => px (or_lss f.1 rfl rfl)) ?_
    refine sc (fun _ _ _ f _ _ => px (or_assign f.1)) ?_
    exact steps_nil
  intro own43 a43 w43 hd43 hz43 hk43 hf43 hE43
  obtain ⟨(e43_15 : a43.eval (.tmp 15) = .bool (decide (r37 < 0))), -⟩ := hf43 [2] rfl
  have hX43 := es_ hX40 hE43
  refine fl_cond e43_15 hs (fun c44 hs => ?_) (fun c44 hs => ?_)
  · refine rg0_seq 18 own43 (bz 1) [⟨[], [], [], Fct.val 6 (.int .i64 (-1))⟩] hz43 hd43 (by kernel_rfl) ?_ ?_
    · refine sc (fun _ _ _ _ _ _ => px (or_assign rfl)) ?_
      exact steps_nil
    intro own45 a45 w45 hd45 hz45 hk45 hf45 hE45
    obtain ⟨(e45_6 : a45.eval (.tmp 6) = .int .i64 (-1)), -⟩ := hf45 [0] rfl
    have hX45 := es_ hX43 hE45
    refine fl_ret ?_
    refine hp39 _ _ _ rfl ?_
    refine hp36 _ _ _ rfl ?_
    obtain rfl := osome hs
    exact hret _ _ _ _ (.inl rfl) hd45 (results1_ rfl (RVal.tmp_ e45_6)) ⟨own45, rfl, hX45⟩
  refine fl_skip ?_
  refine hn39 _ _ ?_
  refine hn36 _ _ ?_
  refine rg0_seq 18 own43 (bz 1) [⟨[], [], [], Fct.val 6 (.int .i64 0)⟩] hz43 hd43 (by kernel_rfl) ?_ ?_
  · refine sc (fun _ _ _ _ _ _ => px (or_assign rfl)) ?_
    exact steps_nil
  intro own46 a46 w46 hd46 hz46 hk46 hf46 hE46
  obtain ⟨(e46_6 : a46.eval (.tmp 6) = .int .i64 0), -⟩ := hf46 [0] rfl
  have hX46 := es_ hX43 hE46
  refine fl_ret ?_
  obtain rfl := osome hs
  exact hret _ _ _ _ (.inl rfl) hd46 (results1_ rfl (RVal.tmp_ e46_6)) ⟨own46, rfl, hX46⟩
theorem exact_between_w (w : World) (x1 : Int × Int) (b2 : Int × Int) (p3 : Int × Int) (r : Bool) (hs : exact_between x1 b2 p3 = some r) :
    Calls Try.prog 69 #[.agg #[.int .i64 x1.1, .int .i64 x1.2], .agg #[.int .i64 b2.1, .int .i64 b2.2], .agg #[.int .i64 p3.1, .int .i64 p3.2]] w fun e w' => ∃ own' : Own, e = .returned (.bool r) ∧ Evo [] (fun _ => 0) own' w w' := by
  refine fl_enter (n := 35) rfl rfl rfl (Nat.le_of_ble_eq_true rfl) ?_
  intro a0 Q hd0 hz0 harg hret
  have ha0 := harg 0 _ rfl
  have ha1 := harg 1 _ rfl
  have ha2 := harg 2 _ rfl
  clear harg
  have hE0 : Evo [] (fun _ => 0) (fun _ => 0) w w := Evo.refl _ _ _
  refine rg0_seq 35 (fun _ => 0) [0, 0, 0, 0] [⟨[], [0], [], Fct.blk 22 3 (fun g => .pointer (some ⟨g, 0, none⟩)) 25 #[.int .i64 x1.1, .int .i64 x1.2]⟩,     ⟨[], [1], [], Fct.blk 24 4 (fun g => .pointer (some ⟨g, 0, none⟩)) 25 #[.int .i64 b2.1, .int .i64 b2.2]⟩,     ⟨[], [2], [], Fct.blk 26 5 (fun g => .pointer (some ⟨g, 0, none⟩)) 25 #[.int .i64 p3.1, .int .i64 p3.2]⟩,     ⟨[], [], [], Fct.val 6 (.bool false)⟩] hz0 hd0 (by kernel_rfl) ?_ ?_
  · refine sc (fun _ _ _ _ s _ => px (or_new [(0, .agg #[.int .i64 x1.1, .int .i64 x1.2])] rfl rfl ⟨(s.1.trans ha0), trivial⟩ (by kernel_rfl))) ?_
    refine sc (fun _ _ _ _ s _ => px (or_new [(1, .agg #[.int .i64 b2.1, .int .i64 b2.2])] rfl rfl ⟨(s.1.trans ha1), trivial⟩ (by kernel_rfl))) ?_
    refine sc (fun _ _ _ _ s _ => px (or_new [(2, .agg #[.int .i64 p3.1, .int .i64 p3.2])] rfl rfl ⟨(s.1.trans ha2), trivial⟩ (by kernel_rfl))) ?_
    refine sc (fun _ _ _ _ _ _ => px (or_assign rfl)) ?_
    exact steps_nil
  intro own27 a27 w27 hd27 hz27 hk27 hf27 hE27
  obtain ⟨⟨g21, (e27_3 : a27.eval (.tmp 3) = .pointer (some ⟨g21, 0, none⟩)), (b27_g21 : BlkO own27 22 w27 g21 25 #[.int .i64 x1.1, .int .i64 x1.2])⟩, ⟨g23, (e27_4 : a27.eval (.tmp 4) = .pointer (some ⟨g23, 0, none⟩)), (b27_g23 : BlkO own27 24 w27 g23 25 #[.int .i64 b2.1, .int .i64 b2.2])⟩, ⟨g25, (e27_5 : a27.eval (.tmp 5) = .pointer (some ⟨g25, 0, none⟩)), (b27_g25 : BlkO own27 26 w27 g25 25 #[.int .i64 p3.1, .int .i64 p3.2])⟩, -⟩ := hf27 [0, 1, 2] rfl
  have hX27 := es_ hE0 hE27
  obtain ⟨r28, hr28, hs⟩ := obind hs
  obtain ⟨r29, hr29, hs⟩ := obind hs
  refine rg0_seq 35 own27 [0, 1, 0, 4, 0, 16, 60, 0, 128, 0, 512, 1920, 4095, 8191, 16383, 32767, 16383, 81919, 16383, 278527, 999423, 16383, 2113535, 16383, 8404991, 31473663, 67108863, 134217727, 268435455] [⟨[], [5], [], Fct.val 7 (.pointer (some ⟨g25, 0, none⟩))⟩,     ⟨[0], [], [], Fct.val 8 (.int .i64 p3.1)⟩,     ⟨[], [3], [], Fct.val 9 (.pointer (some ⟨g21, 0, none⟩))⟩,     ⟨[2], [], [], Fct.val 10 (.int .i64 x1.1)⟩,     ⟨[], [4], [], Fct.val 11 (.pointer (some ⟨g23, 0, none⟩))⟩,     ⟨[4], [], [], Fct.val 12 (.int .i64 b2.1)⟩,     ⟨[3, 5], [], [], Fct.val 13 (.int .i64 (mn x1.1 b2.1))⟩,     ⟨[], [3], [], Fct.val 14 (.pointer (some ⟨g21, 0, none⟩))⟩,     ⟨[7], [], [], Fct.val 15 (.int .i64 x1.1)⟩,     ⟨[], [4], [], Fct.val 16 (.pointer (some ⟨g23, 0, none⟩))⟩,     ⟨[9], [], [], Fct.val 17 (.int .i64 b2.1)⟩,     ⟨[8, 10], [], [], Fct.val 18 (.int .i64 (mx x1.1 b2.1))⟩,     ⟨[1, 6, 11], [], [], Fct.val 19 (.bool r28)⟩,     ⟨[12], [], [], Fct.val 20 (.bool r28)⟩,     ⟨[13], [5], [], Fct.cond r28 (some 21) (Fct.val 21 (.pointer (some ⟨g25, 1, none⟩)))⟩,     ⟨[13, 14], [], [], Fct.cond r28 (some 22) (Fct.val 22 (.int .i64 p3.2))⟩,     ⟨[13], [3], [], Fct.cond r28 (some 23) (Fct.val 23 (.pointer (some ⟨g21, 1, none⟩)))⟩,     ⟨[13, 16], [], [], Fct.cond r28 (some 24) (Fct.val 24 (.int .i64 x1.2))⟩,     ⟨[13], [4], [], Fct.cond r28 (some 25) (Fct.val 25 (.pointer (some ⟨g23, 1, none⟩)))⟩,     ⟨[13, 18], [], [], Fct.cond r28 (some 26) (Fct.val 26 (.int .i64 b2.2))⟩,     ⟨[13, 17, 19], [], [], Fct.cond r28 (some 27) (Fct.val 27 (.int .i64 (mn x1.2 b2.2)))⟩,     ⟨[13], [3], [], Fct.cond r28 (some 28) (Fct.val 28 (.pointer (some ⟨g21, 1, none⟩)))⟩,     ⟨[13, 21], [], [], Fct.cond r28 (some 29) (Fct.val 29 (.int .i64 x1.2))⟩,     ⟨[13], [4], [], Fct.cond r28 (some 30) (Fct.val 30 (.pointer (some ⟨g23, 1, none⟩)))⟩,     ⟨[13, 23], [], [], Fct.cond r28 (some 31) (Fct.val 31 (.int .i64 b2.2))⟩,     ⟨[13, 22, 24], [], [], Fct.cond r28 (some 32) (Fct.val 32 (.int .i64 (mx x1.2 b2.2)))⟩,     ⟨[13, 15, 20, 25], [], [], Fct.cond r28 (some 33) (Fct.val 33 (.bool r29))⟩,     ⟨[13, 26], [], [], Fct.val 34 (.bool (r28 && r29))⟩,     ⟨[27], [], [], Fct.val 6 (.bool (r28 && r29))⟩] hz27 hd27 (by kernel_rfl) ?_ ?_
  · refine sc (fun _ _ _ _ s _ => px (or_field fo25_0 (s.1.trans e27_5) (by rfl))) ?_
    refine sc (fun _ _ _ f _ hE => px (or_load1 to3 f.1 (Blk.at_ (be_ hE b27_g25).2 0 rfl))) ?_
    refine sc (fun _ _ _ _ s _ => px (or_field fo25_0 (s.1.trans e27_3) (by rfl))) ?_
    refine sc (fun _ _ _ f _ hE => px (or_load1 to3 f.1 (Blk.at_ (be_ hE b27_g21).2 0 rfl))) ?_
    refine sc (fun _ _ _ _ s _ => px (or_field fo25_0 (s.1.trans e27_4) (by rfl))) ?_
    refine sc (fun _ _ _ f _ hE => px (or_load1 to3 f.1 (Blk.at_ (be_ hE b27_g23).2 0 rfl))) ?_
    refine sc (fun _ _ _ f _ _ => px (or_min f.1 f.2.1)) ?_
    refine sc (fun _ _ _ _ s _ => px (or_field fo25_0 (s.1.trans e27_3) (by rfl))) ?_
    refine sc (fun _ _ _ f _ hE => px (or_load1 to3 f.1 (Blk.at_ (be_ hE b27_g21).2 0 rfl))) ?_
    refine sc (fun _ _ _ _ s _ => px (or_field fo25_0 (s.1.trans e27_4) (by rfl))) ?_
    refine sc (fun _ _ _ f _ hE => px (or_load1 to3 f.1 (Blk.at_ (be_ hE b27_g23).2 0 rfl))) ?_
    refine sc (fun _ _ _ f _ _ => px (or_max f.1 f.2.1)) ?_
    refine sc (fun _ _ _ f _ _ => px (or_call cf52 (args3 f.1 f.2.1 f.2.2.1) (exact_within_w _ p3.1 (mn x1.1 b2.1) (mx x1.1 b2.1)  r28 hr28) post_val)) ?_
    refine sc (fun _ _ _ f _ _ => px (or_move f.1)) ?_
    refine sc (fun _ _ _ f s _ => sg_t rfl rfl rfl f.1 (fun hg => or_field fo25_1 (s.1.trans e27_5) (by rfl))) ?_
    refine sc (fun _ _ _ f _ hE => sg_t rfl rfl rfl f.1 (fun hg => or_load1 to3 (f.2.1.1 hg) (Blk.at_ (be_ hE b27_g25).2 1 rfl))) ?_
    refine sc (fun _ _ _ f s _ => sg_t rfl rfl rfl f.1 (fun hg => or_field fo25_1 (s.1.trans e27_3) (by rfl))) ?_
    refine sc (fun _ _ _ f _ hE => sg_t rfl rfl rfl f.1 (fun hg => or_load1 to3 (f.2.1.1 hg) (Blk.at_ (be_ hE b27_g21).2 1 rfl))) ?_
    refine sc (fun _ _ _ f s _ => sg_t rfl rfl rfl f.1 (fun hg => or_field fo25_1 (s.1.trans e27_4) (by rfl))) ?_
    refine sc (fun _ _ _ f _ hE => sg_t rfl rfl rfl f.1 (fun hg => or_load1 to3 (f.2.1.1 hg) (Blk.at_ (be_ hE b27_g23).2 1 rfl))) ?_
    refine sc (fun _ _ _ f _ _ => sg_t rfl rfl rfl f.1 (fun hg => or_min (f.2.1.1 hg) (f.2.2.1.1 hg))) ?_
    refine sc (fun _ _ _ f s _ => sg_t rfl rfl rfl f.1 (fun hg => or_field fo25_1 (s.1.trans e27_3) (by rfl))) ?_
    refine sc (fun _ _ _ f _ hE => sg_t rfl rfl rfl f.1 (fun hg => or_load1 to3 (f.2.1.1 hg) (Blk.at_ (be_ hE b27_g21).2 1 rfl))) ?_
    refine sc (fun _ _ _ f s _ => sg_t rfl rfl rfl f.1 (fun hg => or_field fo25_1 (s.1.trans e27_4) (by rfl))) ?_
    refine sc (fun _ _ _ f _ hE => sg_t rfl rfl rfl f.1 (fun hg => or_load1 to3 (f.2.1.1 hg) (Blk.at_ (be_ hE b27_g23).2 1 rfl))) ?_
    refine sc (fun _ _ _ f _ _ => sg_t rfl rfl rfl f.1 (fun hg => or_max (f.2.1.1 hg) (f.2.2.1.1 hg))) ?_
    refine sc (fun _ _ _ f _ _ => sg_t rfl rfl rfl f.1 (fun hg => or_call cf52 (args3 (f.2.1.1 hg) (f.2.2.1.1 hg) (f.2.2.2.1.1 hg)) (exact_within_w _ p3.2 (mn x1.2 b2.2) (mx x1.2 b2.2)  r29 (gd_t hr29 hg)) post_val)) ?_
    refine sc (fun _ _ _ f _ _ => px (or_and f.1 (fun hx => f.2.1.1 hx) rfl rfl)) ?_
    refine sc (fun _ _ _ f _ _ => px (or_assign f.1)) ?_
    exact steps_nil
  intro own30 a30 w30 hd30 hz30 hk30 hf30 hE30
  obtain ⟨(e30_6 : a30.eval (.tmp 6) = .bool (r28 && r29)), -⟩ := hf30 [28] rfl
  have hX30 := es_ hX27 hE30
  refine fl_ret ?_
  obtain rfl := osome hs
  exact hret _ _ _ _ (.inl rfl) hd30 (results1_ rfl (RVal.tmp_ e30_6)) ⟨own30, rfl, hX30⟩
theorem exact_On_w (w : World) (x1 : Int × Int) (b2 : Int × Int) (p3 : Int × Int) (r : Bool) (hs : exact_On x1 b2 p3 = some r) :
    Calls Try.prog 57 #[.agg #[.int .i64 x1.1, .int .i64 x1.2], .agg #[.int .i64 b2.1, .int .i64 b2.2], .agg #[.int .i64 p3.1, .int .i64 p3.2]] w fun e w' => ∃ own' : Own, e = .returned (.bool r) ∧ Evo [] (fun _ => 0) own' w w' := by
  refine fl_enter (n := 25) rfl rfl rfl (Nat.le_of_ble_eq_true rfl) ?_
  intro a0 Q hd0 hz0 harg hret
  have ha0 := harg 0 _ rfl
  have ha1 := harg 1 _ rfl
  have ha2 := harg 2 _ rfl
  clear harg
  have hE0 : Evo [] (fun _ => 0) (fun _ => 0) w w := Evo.refl _ _ _
  refine rg0_seq 25 (fun _ => 0) [0, 0, 0, 0] [⟨[], [0], [], Fct.blk 25 3 (fun g => .pointer (some ⟨g, 0, none⟩)) 25 #[.int .i64 x1.1, .int .i64 x1.2]⟩,     ⟨[], [1], [], Fct.blk 27 4 (fun g => .pointer (some ⟨g, 0, none⟩)) 25 #[.int .i64 b2.1, .int .i64 b2.2]⟩,     ⟨[], [2], [], Fct.blk 29 5 (fun g => .pointer (some ⟨g, 0, none⟩)) 25 #[.int .i64 p3.1, .int .i64 p3.2]⟩,     ⟨[], [], [], Fct.val 6 (.bool false)⟩] hz0 hd0 (by kernel_rfl) ?_ ?_
  · refine sc (fun _ _ _ _ s _ => px (or_new [(0, .agg #[.int .i64 x1.1, .int .i64 x1.2])] rfl rfl ⟨(s.1.trans ha0), trivial⟩ (by kernel_rfl))) ?_
    refine sc (fun _ _ _ _ s _ => px (or_new [(1, .agg #[.int .i64 b2.1, .int .i64 b2.2])] rfl rfl ⟨(s.1.trans ha1), trivial⟩ (by kernel_rfl))) ?_
    refine sc (fun _ _ _ _ s _ => px (or_new [(2, .agg #[.int .i64 p3.1, .int .i64 p3.2])] rfl rfl ⟨(s.1.trans ha2), trivial⟩ (by kernel_rfl))) ?_
    refine sc (fun _ _ _ _ _ _ => px (or_assign rfl)) ?_
    exact steps_nil
  intro own30 a30 w30 hd30 hz30 hk30 hf30 hE30
  obtain ⟨⟨g24, (e30_3 : a30.eval (.tmp 3) = .pointer (some ⟨g24, 0, none⟩)), (b30_g24 : BlkO own30 25 w30 g24 25 #[.int .i64 x1.1, .int .i64 x1.2])⟩, ⟨g26, (e30_4 : a30.eval (.tmp 4) = .pointer (some ⟨g26, 0, none⟩)), (b30_g26 : BlkO own30 27 w30 g26 25 #[.int .i64 b2.1, .int .i64 b2.2])⟩, ⟨g28, (e30_5 : a30.eval (.tmp 5) = .pointer (some ⟨g28, 0, none⟩)), (b30_g28 : BlkO own30 29 w30 g28 25 #[.int .i64 p3.1, .int .i64 p3.2])⟩, -⟩ := hf30 [0, 1, 2] rfl
  have hX30 := es_ hE0 hE30
  obtain ⟨r33, hr33, hs⟩ := obind hs
  obtain ⟨r34, hr34, hs⟩ := obind hs
  obtain ⟨r35, hr35, hs⟩ := obind hs
  refine rg0_seq 25 own30 [0, 0, 0, 7, 15, 31, 63, 63, 63, 511, 1023, 2047, 4095, 8191, 8191, 8191, 65535, 131071, 262143] [⟨[], [3], [], Fct.val 7 (.agg #[.int .i64 x1.1, .int .i64 x1.2])⟩,     ⟨[], [4], [], Fct.val 8 (.agg #[.int .i64 b2.1, .int .i64 b2.2])⟩,     ⟨[], [5], [], Fct.val 9 (.agg #[.int .i64 p3.1, .int .i64 p3.2])⟩,     ⟨[0, 1, 2], [], [], Fct.row 32 [] 10 25 R25 [x1, b2, p3]⟩,     ⟨[3], [], [], Fct.val 11 (.bool r33)⟩,     ⟨[4], [], [], Fct.val 12 (.bool r33)⟩,     ⟨[5], [3], [], Fct.cond r33 (some 13) (Fct.val 13 (.agg #[.int .i64 x1.1, .int .i64 x1.2]))⟩,     ⟨[5], [4], [], Fct.cond r33 (some 14) (Fct.val 14 (.agg #[.int .i64 b2.1, .int .i64 b2.2]))⟩,     ⟨[5], [5], [], Fct.cond r33 (some 15) (Fct.val 15 (.agg #[.int .i64 p3.1, .int .i64 p3.2]))⟩,     ⟨[5, 6, 7, 8], [], [], Fct.cond r33 (some 16) (Fct.val 16 (.int .i64 r34))⟩,     ⟨[5, 9], [], [], Fct.cond r33 (some 17) (Fct.val 17 (.bool (decide (r34 = 0))))⟩,     ⟨[5, 10], [], [], Fct.val 18 (.bool (r33 && (decide (r34 = 0))))⟩,     ⟨[11], [], [], Fct.val 19 (.bool (r33 && (decide (r34 = 0))))⟩,     ⟨[12], [3], [], Fct.cond (r33 && (decide (r34 = 0))) (some 20) (Fct.val 20 (.agg #[.int .i64 x1.1, .int .i64 x1.2]))⟩,     ⟨[12], [4], [], Fct.cond (r33 && (decide (r34 = 0))) (some 21) (Fct.val 21 (.agg #[.int .i64 b2.1, .int .i64 b2.2]))⟩,     ⟨[12], [5], [], Fct.cond (r33 && (decide (r34 = 0))) (some 22) (Fct.val 22 (.agg #[.int .i64 p3.1, .int .i64 p3.2]))⟩,     ⟨[12, 13, 14, 15], [], [], Fct.cond (r33 && (decide (r34 = 0))) (some 23) (Fct.val 23 (.bool r35))⟩,     ⟨[12, 16], [], [], Fct.val 24 (.bool ((r33 && (decide (r34 = 0))) && r35))⟩,     ⟨[17], [], [], Fct.val 6 (.bool ((r33 && (decide (r34 = 0))) && r35))⟩] hz30 hd30 (by kernel_rfl) ?_ ?_
  · refine sc (fun _ _ _ _ s hE => px (or_load (l := [.int .i64 x1.1, .int .i64 x1.2]) ta25 (s.1.trans e30_3) (Blk.cellsFrom (be_ hE b30_g24).2 0 rfl) rfl)) ?_
    refine sc (fun _ _ _ _ s hE => px (or_load (l := [.int .i64 b2.1, .int .i64 b2.2]) ta25 (s.1.trans e30_4) (Blk.cellsFrom (be_ hE b30_g26).2 0 rfl) rfl)) ?_
    refine sc (fun _ _ _ _ s hE => px (or_load (l := [.int .i64 p3.1, .int .i64 p3.2]) ta25 (s.1.trans e30_5) (Blk.cellsFrom (be_ hE b30_g28).2 0 rfl) rfl)) ?_
    refine sc (fun _ _ _ f _ _ => px (or_lit (lab := 32) (e := 25) (cs := #[.int .i64 x1.1, .int .i64 x1.2, .int .i64 b2.1, .int .i64 b2.2, .int .i64 p3.1, .int .i64 p3.2]) (F := E25) (or_new [(7, .agg #[.int .i64 x1.1, .int .i64 x1.2]), (8, .agg #[.int .i64 b2.1, .int .i64 b2.2]), (9, .agg #[.int .i64 p3.1, .int .i64 p3.2])] rfl rfl ⟨f.1, f.2.1, f.2.2.1, trivial⟩ (by kernel_rfl)) rfl rfl (show 3 ≤ maxLen by decide))) ?_
    refine sc (fun own a wx hf hsl hE => ?_) ?_
    · obtain ⟨⟨⟨A31, cA31⟩, f_10, b_A31⟩, -⟩ := hf
      exact px (or_call cf32 (args1 f_10) (exact_Right_w _ [x1, b2, p3] A31 cA31 (RdO.zero (RwO.rd b_A31)) r33 hr33) post_val)
    refine sc (fun _ _ _ f _ _ => px (or_move f.1)) ?_
    refine sc (fun _ _ _ f s hE => sg_t rfl rfl rfl f.1 (fun hg => or_load (l := [.int .i64 x1.1, .int .i64 x1.2]) ta25 (s.1.trans e30_3) (Blk.cellsFrom (be_ hE b30_g24).2 0 rfl) rfl)) ?_
    refine sc (fun _ _ _ f s hE => sg_t rfl rfl rfl f.1 (fun hg => or_load (l := [.int .i64 b2.1, .int .i64 b2.2]) ta25 (s.1.trans e30_4) (Blk.cellsFrom (be_ hE b30_g26).2 0 rfl) rfl)) ?_
    refine sc (fun _ _ _ f s hE => sg_t rfl rfl rfl f.1 (fun hg => or_load (l := [.int .i64 p3.1, .int .i64 p3.2]) ta25 (s.1.trans e30_5) (Blk.cellsFrom (be_ hE b30_g28).2 0 rfl) rfl)) ?_
    refine sc (fun _ _ _ f _ _ => sg_t rfl rfl rfl f.1 (fun hg => or_call cf46 (args3 (f.2.1.1 hg) (f.2.2.1.1 hg) (f.2.2.2.1.1 hg)) (exact_Turn_w _ x1 b2 p3  r34 (gd_t hr34 hg)) post_val)) ?_
    refine sc (fun _ _ _ f _ _ => sg_t rfl rfl rfl f.1 (fun hg => or_eql (f.2.1.1 hg) rfl rfl)) ?_
    refine sc (fun _ _ _ f _ _ => px (or_and f.1 (fun hx => f.2.1.1 hx) rfl rfl)) ?_
    refine sc (fun _ _ _ f _ _ => px (or_move f.1)) ?_
    refine sc (fun _ _ _ f s hE => sg_t rfl rfl rfl f.1 (fun hg => or_load (l := [.int .i64 x1.1, .int .i64 x1.2]) ta25 (s.1.trans e30_3) (Blk.cellsFrom (be_ hE b30_g24).2 0 rfl) rfl)) ?_
    refine sc (fun _ _ _ f s hE => sg_t rfl rfl rfl f.1 (fun hg => or_load (l := [.int .i64 b2.1, .int .i64 b2.2]) ta25 (s.1.trans e30_4) (Blk.cellsFrom (be_ hE b30_g26).2 0 rfl) rfl)) ?_
    refine sc (fun _ _ _ f s hE => sg_t rfl rfl rfl f.1 (fun hg => or_load (l := [.int .i64 p3.1, .int .i64 p3.2]) ta25 (s.1.trans e30_5) (Blk.cellsFrom (be_ hE b30_g28).2 0 rfl) rfl)) ?_
    refine sc (fun _ _ _ f _ _ => sg_t rfl rfl rfl f.1 (fun hg => or_call cf69 (args3 (f.2.1.1 hg) (f.2.2.1.1 hg) (f.2.2.2.1.1 hg)) (exact_between_w _ x1 b2 p3  r35 (gd_t hr35 hg)) post_val)) ?_
    refine sc (fun _ _ _ f _ _ => px (or_and f.1 (fun hx => f.2.1.1 hx) rfl rfl)) ?_
    refine sc (fun _ _ _ f _ _ => px (or_assign f.1)) ?_
    exact steps_nil
  intro own36 a36 w36 hd36 hz36 hk36 hf36 hE36
  obtain ⟨(e36_6 : a36.eval (.tmp 6) = .bool ((r33 && (decide (r34 = 0))) && r35)), -⟩ := hf36 [18] rfl
  have hX36 := es_ hX30 hE36
  refine fl_ret ?_
  obtain rfl := osome hs
  exact hret _ _ _ _ (.inl rfl) hd36 (results1_ rfl (RVal.tmp_ e36_6)) ⟨own36, rfl, hX36⟩
theorem exact_InTriangle_1_w (w : World) (x1 : Int × Int) (y2 : Int × Int) (f2 : Int × Int) (gf2 : Nat) (tf2 : TypeId) (f3 : Int) (gf3 : Nat) (tf3 : TypeId) (hgf2 : BlkO (fun _ => 0) 0 w gf2 tf2 #[.int .i64 f2.1, .int .i64 f2.2]) (hgf3 : BlkO (fun _ => 0) 0 w gf3 tf3 #[.int .i64 f3]) (r : Bool) (hs : exact_InTriangle_1 x1 y2 f2 f3 = some r) :
    Calls Try.prog 58 #[.agg #[.int .i64 x1.1, .int .i64 x1.2], .agg #[.int .i64 y2.1, .int .i64 y2.2], .pointer (some ⟨gf2, 0, none⟩), .pointer (some ⟨gf3, 0, none⟩)] w fun e w' => ∃ own' : Own, e = .returned (.bool r) ∧ Evo [] (fun _ => 0) own' w w' := by
  refine fl_enter (n := 14) rfl rfl rfl (Nat.le_of_ble_eq_true rfl) ?_
  intro a0 Q hd0 hz0 harg hret
  have ha0 := harg 0 _ rfl
  have ha1 := harg 1 _ rfl
  have ha2 := harg 2 _ rfl
  have ha3 := harg 3 _ rfl
  clear harg
  have hE0 : Evo [] (fun _ => 0) (fun _ => 0) w w := Evo.refl _ _ _
  refine rg0_seq 14 (fun _ => 0) [0, 0, 0] [⟨[], [0], [], Fct.blk 19 4 (fun g => .pointer (some ⟨g, 0, none⟩)) 25 #[.int .i64 x1.1, .int .i64 x1.2]⟩,     ⟨[], [1], [], Fct.blk 21 5 (fun g => .pointer (some ⟨g, 0, none⟩)) 25 #[.int .i64 y2.1, .int .i64 y2.2]⟩,     ⟨[], [], [], Fct.val 6 (.bool false)⟩] hz0 hd0 (by kernel_rfl) ?_ ?_
  · refine sc (fun _ _ _ _ s _ => px (or_new [(0, .agg #[.int .i64 x1.1, .int .i64 x1.2])] rfl rfl ⟨(s.1.trans ha0), trivial⟩ (by kernel_rfl))) ?_
    refine sc (fun _ _ _ _ s _ => px (or_new [(1, .agg #[.int .i64 y2.1, .int .i64 y2.2])] rfl rfl ⟨(s.1.trans ha1), trivial⟩ (by kernel_rfl))) ?_
    refine sc (fun _ _ _ _ _ _ => px (or_assign rfl)) ?_
    exact steps_nil
  intro own22 a22 w22 hd22 hz22 hk22 hf22 hE22
  have e22_2 := (hk22 2 rfl).trans ha2
  have e22_3 := (hk22 3 rfl).trans ha3
  obtain ⟨⟨g18, (e22_4 : a22.eval (.tmp 4) = .pointer (some ⟨g18, 0, none⟩)), (b22_g18 : BlkO own22 19 w22 g18 25 #[.int .i64 x1.1, .int .i64 x1.2])⟩, ⟨g20, (e22_5 : a22.eval (.tmp 5) = .pointer (some ⟨g20, 0, none⟩)), (b22_g20 : BlkO own22 21 w22 g20 25 #[.int .i64 y2.1, .int .i64 y2.2])⟩, -⟩ := hf22 [0, 1] rfl
  have hX22 := es_ hE0 hE22
  have b22_gf2 := be_ hE22 hgf2
  have b22_gf3 := be_ hE22 hgf3
  obtain ⟨r23, hr23, hs⟩ := obind hs
  refine rg_draw_seq g_mixed (n := 14) (rs := []) (own0 := own22) (K := []) (bs := [0, 0, 0, 7, 0, 16, 63, 127]) (ds := [⟨[], [4], [], Fct.val 7 (.agg #[.int .i64 x1.1, .int .i64 x1.2])⟩,     ⟨[], [5], [], Fct.val 8 (.agg #[.int .i64 y2.1, .int .i64 y2.2])⟩,     ⟨[], [2], [], Fct.val 9 (.agg #[.int .i64 f2.1, .int .i64 f2.2])⟩,     ⟨[0, 1, 2], [], [], Fct.val 10 (.int .i64 r23)⟩,     ⟨[], [3], [], Fct.val 11 (.int .i64 f3)⟩,     ⟨[4], [], [], Fct.val 12 (.int .i64 (ng f3))⟩,     ⟨[3, 5], [], [], Fct.val 13 (.bool (!decide (r23 = (ng f3))))⟩,     ⟨[6], [], [], Fct.val 6 (.bool (!decide (r23 = (ng f3))))⟩]) (by kernel_rfl) hz22 hd22 nm_ ?_ ?_
  · refine sc (fun _ _ _ _ s hE => px (or_load (l := [.int .i64 x1.1, .int .i64 x1.2]) ta25 (s.1.trans e22_4) (Blk.cellsFrom (be_ hE b22_g18).2 0 rfl) rfl)) ?_
    refine sc (fun _ _ _ _ s hE => px (or_load (l := [.int .i64 y2.1, .int .i64 y2.2]) ta25 (s.1.trans e22_5) (Blk.cellsFrom (be_ hE b22_g20).2 0 rfl) rfl)) ?_
    refine sc (fun _ _ _ _ s hE => px (or_load (l := [.int .i64 f2.1, .int .i64 f2.2]) ta25 (s.1.trans e22_2) (Blk.cellsFrom (be_ hE b22_gf2).2 0 rfl) rfl)) ?_
    refine sc (fun _ _ _ f _ _ => px (or_call cf46 (args3 f.1 f.2.1 f.2.2.1) (exact_Turn_w _ x1 y2 f2  r23 hr23) post_val)) ?_
    refine sc (fun _ _ _ _ s hE => px (or_load1 to3 (s.1.trans e22_3) (Blk.at_ (be_ hE b22_gf3).2 0 rfl))) ?_
    refine sc (fun _ _ _ f _ _ => px (or_neg f.1 rfl)) ?_
    refine sc (fun _ _ _ f _ _ => px (or_neq f.1 f.2.1 rfl)) ?_
    refine sc (fun _ _ _ f _ _ => px (or_assign f.1)) ?_
    exact steps_nil
  intro own24 a24 w24 hd24 hz24 hk24 hf24 hE24
  obtain ⟨(e24_6 : a24.eval (.tmp 6) = .bool (!decide (r23 = (ng f3)))), -⟩ := hf24 [7] rfl
  have hX24 := es_ hX22 hE24
  refine fl_ret ?_
  obtain rfl := osome hs
  exact hret _ _ _ _ (.inl rfl) hd24 (results1_ rfl (RVal.tmp_ e24_6)) ⟨own24, rfl, hX24⟩
theorem exact_InTriangle_w (w : World) (x1 : Int × Int) (b2 : Int × Int) (c3 : Int × Int) (p4 : Int × Int) (r : Bool) (hs : exact_InTriangle x1 b2 c3 p4 = some r) :
    Calls Try.prog 36 #[.agg #[.int .i64 x1.1, .int .i64 x1.2], .agg #[.int .i64 b2.1, .int .i64 b2.2], .agg #[.int .i64 c3.1, .int .i64 c3.2], .agg #[.int .i64 p4.1, .int .i64 p4.2]] w fun e w' => ∃ own' : Own, e = .returned (.bool r) ∧ Evo [] (fun _ => 0) own' w w' := by
  refine fl_enter (n := 65) rfl rfl rfl (Nat.le_of_ble_eq_true rfl) ?_
  intro a0 Q hd0 hz0 harg hret
  have ha0 := harg 0 _ rfl
  have ha1 := harg 1 _ rfl
  have ha2 := harg 2 _ rfl
  have ha3 := harg 3 _ rfl
  clear harg
  have hE0 : Evo [] (fun _ => 0) (fun _ => 0) w w := Evo.refl _ _ _
  refine rg0_seq 65 (fun _ => 0) [0, 0, 0, 0, 0] [⟨[], [0], [], Fct.blk 47 4 (fun g => .pointer (some ⟨g, 0, none⟩)) 25 #[.int .i64 x1.1, .int .i64 x1.2]⟩,     ⟨[], [1], [], Fct.blk 49 5 (fun g => .pointer (some ⟨g, 0, none⟩)) 25 #[.int .i64 b2.1, .int .i64 b2.2]⟩,     ⟨[], [2], [], Fct.blk 51 6 (fun g => .pointer (some ⟨g, 0, none⟩)) 25 #[.int .i64 c3.1, .int .i64 c3.2]⟩,     ⟨[], [3], [], Fct.blk 53 7 (fun g => .pointer (some ⟨g, 0, none⟩)) 25 #[.int .i64 p4.1, .int .i64 p4.2]⟩,     ⟨[], [], [], Fct.val 8 (.bool false)⟩] hz0 hd0 (by kernel_rfl) ?_ ?_
  · refine sc (fun _ _ _ _ s _ => px (or_new [(0, .agg #[.int .i64 x1.1, .int .i64 x1.2])] rfl rfl ⟨(s.1.trans ha0), trivial⟩ (by kernel_rfl))) ?_
    refine sc (fun _ _ _ _ s _ => px (or_new [(1, .agg #[.int .i64 b2.1, .int .i64 b2.2])] rfl rfl ⟨(s.1.trans ha1), trivial⟩ (by kernel_rfl))) ?_
    refine sc (fun _ _ _ _ s _ => px (or_new [(2, .agg #[.int .i64 c3.1, .int .i64 c3.2])] rfl rfl ⟨(s.1.trans ha2), trivial⟩ (by kernel_rfl))) ?_
    refine sc (fun _ _ _ _ s _ => px (or_new [(3, .agg #[.int .i64 p4.1, .int .i64 p4.2])] rfl rfl ⟨(s.1.trans ha3), trivial⟩ (by kernel_rfl))) ?_
    refine sc (fun _ _ _ _ _ _ => px (or_assign rfl)) ?_
    exact steps_nil
  intro own54 a54 w54 hd54 hz54 hk54 hf54 hE54
  obtain ⟨⟨g46, (e54_4 : a54.eval (.tmp 4) = .pointer (some ⟨g46, 0, none⟩)), (b54_g46 : BlkO own54 47 w54 g46 25 #[.int .i64 x1.1, .int .i64 x1.2])⟩, ⟨g48, (e54_5 : a54.eval (.tmp 5) = .pointer (some ⟨g48, 0, none⟩)), (b54_g48 : BlkO own54 49 w54 g48 25 #[.int .i64 b2.1, .int .i64 b2.2])⟩, ⟨g50, (e54_6 : a54.eval (.tmp 6) = .pointer (some ⟨g50, 0, none⟩)), (b54_g50 : BlkO own54 51 w54 g50 25 #[.int .i64 c3.1, .int .i64 c3.2])⟩, ⟨g52, (e54_7 : a54.eval (.tmp 7) = .pointer (some ⟨g52, 0, none⟩)), (b54_g52 : BlkO own54 53 w54 g52 25 #[.int .i64 p4.1, .int .i64 p4.2])⟩, -⟩ := hf54 [0, 1, 2, 3] rfl
  have hX54 := es_ hE0 hE54
  refine fl_seq (fun Q55 hn55 hp55 => ?_)
  obtain ⟨r58, hr58, hs⟩ := obind hs
  refine rg0_seq 65 own54 [0, 0, 0, 0, 15, 31, 63] [⟨[], [4], [], Fct.val 11 (.agg #[.int .i64 x1.1, .int .i64 x1.2])⟩,     ⟨[], [5], [], Fct.val 12 (.agg #[.int .i64 b2.1, .int .i64 b2.2])⟩,     ⟨[], [6], [], Fct.val 13 (.agg #[.int .i64 c3.1, .int .i64 c3.2])⟩,     ⟨[], [7], [], Fct.val 14 (.agg #[.int .i64 p4.1, .int .i64 p4.2])⟩,     ⟨[0, 1, 2, 3], [], [], Fct.row 57 [] 15 25 R25 [x1, b2, c3, p4]⟩,     ⟨[4], [], [], Fct.val 16 (.bool r58)⟩,     ⟨[5], [], [], Fct.val 17 (.bool (!r58))⟩] hz54 hd54 (by kernel_rfl) ?_ ?_
  · refine sc (fun _ _ _ _ s hE => px (or_load (l := [.int .i64 x1.1, .int .i64 x1.2]) ta25 (s.1.trans e54_4) (Blk.cellsFrom (be_ hE b54_g46).2 0 rfl) rfl)) ?_
    refine sc (fun _ _ _ _ s hE => px (or_load (l := [.int .i64 b2.1, .int .i64 b2.2]) ta25 (s.1.trans e54_5) (Blk.cellsFrom (be_ hE b54_g48).2 0 rfl) rfl)) ?_
    refine sc (fun _ _ _ _ s hE => px (or_load (l := [.int .i64 c3.1, .int .i64 c3.2]) ta25 (s.1.trans e54_6) (Blk.cellsFrom (be_ hE b54_g50).2 0 rfl) rfl)) ?_
    refine sc (fun _ _ _ _ s hE => px (or_load (l := [.int .i64 p4.1, .int .i64 p4.2]) ta25 (s.1.trans e54_7) (Blk.cellsFrom (be_ hE b54_g52).2 0 rfl) rfl)) ?_
    refine sc (fun _ _ _ f _ _ => px (or_lit (lab := 57) (e := 25) (cs := #[.int .i64 x1.1, .int .i64 x1.2, .int .i64 b2.1, .int .i64 b2.2, .int .i64 c3.1, .int .i64 c3.2, .int .i64 p4.1, .int .i64 p4.2]) (F := E25) (or_new [(11, .agg #[.int .i64 x1.1, .int .i64 x1.2]), (12, .agg #[.int .i64 b2.1, .int .i64 b2.2]), (13, .agg #[.int .i64 c3.1, .int .i64 c3.2]), (14, .agg #[.int .i64 p4.1, .int .i64 p4.2])] rfl rfl ⟨f.1, f.2.1, f.2.2.1, f.2.2.2.1, trivial⟩ (by kernel_rfl)) rfl rfl (show 4 ≤ maxLen by decide))) ?_
    refine sc (fun own a wx hf hsl hE => ?_) ?_
    · obtain ⟨⟨⟨A56, cA56⟩, f_15, b_A56⟩, -⟩ := hf
      exact px (or_call cf32 (args1 f_15) (exact_Right_w _ [x1, b2, c3, p4] A56 cA56 (RdO.zero (RwO.rd b_A56)) r58 hr58) post_val)
    refine sc (fun _ _ _ f _ _ => px (or_not f.1 rfl)) ?_
    exact steps_nil
  intro own59 a59 w59 hd59 hz59 hk59 hf59 hE59
  have e59_4 := (hk59 4 rfl).trans e54_4
  have e59_5 := (hk59 5 rfl).trans e54_5
  have e59_6 := (hk59 6 rfl).trans e54_6
  have e59_7 := (hk59 7 rfl).trans e54_7
  obtain ⟨(e59_17 : a59.eval (.tmp 17) = .bool (!r58)), -⟩ := hf59 [6] rfl
  have hX59 := es_ hX54 hE59
  have b59_g46 := be_ hE59 b54_g46
  have b59_g48 := be_ hE59 b54_g48
  have b59_g50 := be_ hE59 b54_g50
  have b59_g52 := be_ hE59 b54_g52
  refine fl_cond e59_17 hs (fun c60 hs => ?_) (fun c60 hs => ?_)
  · refine rg0_seq 65 own59 (bz 1) [⟨[], [], [], Fct.val 8 (.bool false)⟩] hz59 hd59 (by kernel_rfl) ?_ ?_
    · refine sc (fun _ _ _ _ _ _ => px (or_assign rfl)) ?_
      exact steps_nil
    intro own61 a61 w61 hd61 hz61 hk61 hf61 hE61
    obtain ⟨(e61_8 : a61.eval (.tmp 8) = .bool false), -⟩ := hf61 [0] rfl
    have hX61 := es_ hX59 hE61
    refine fl_ret ?_
    refine hp55 _ _ _ rfl ?_
    obtain rfl := osome hs
    exact hret _ _ _ _ (.inl rfl) hd61 (results1_ rfl (RVal.tmp_ e61_8)) ⟨own61, rfl, hX61⟩
  refine fl_skip ?_
  refine hn55 _ _ ?_
  refine fl_seq (fun Q62 hn62 hp62 => ?_)
  obtain ⟨r63, hr63, hs⟩ := obind hs
  refine rg0_seq 65 own59 [0, 0, 0, 7, 15] [⟨[], [4], [], Fct.val 18 (.agg #[.int .i64 x1.1, .int .i64 x1.2])⟩,     ⟨[], [5], [], Fct.val 19 (.agg #[.int .i64 b2.1, .int .i64 b2.2])⟩,     ⟨[], [6], [], Fct.val 20 (.agg #[.int .i64 c3.1, .int .i64 c3.2])⟩,     ⟨[0, 1, 2], [], [], Fct.val 21 (.int .i64 r63)⟩,     ⟨[3], [], [], Fct.val 22 (.bool (decide (r63 = 0)))⟩] hz59 hd59 (by kernel_rfl) ?_ ?_
  · refine sc (fun _ _ _ _ s hE => px (or_load (l := [.int .i64 x1.1, .int .i64 x1.2]) ta25 (s.1.trans e59_4) (Blk.cellsFrom (be_ hE b59_g46).2 0 rfl) rfl)) ?_
    refine sc (fun _ _ _ _ s hE => px (or_load (l := [.int .i64 b2.1, .int .i64 b2.2]) ta25 (s.1.trans e59_5) (Blk.cellsFrom (be_ hE b59_g48).2 0 rfl) rfl)) ?_
    refine sc (fun _ _ _ _ s hE => px (or_load (l := [.int .i64 c3.1, .int .i64 c3.2]) ta25 (s.1.trans e59_6) (Blk.cellsFrom (be_ hE b59_g50).2 0 rfl) rfl)) ?_
    refine sc (fun _ _ _ f _ _ => px (or_call cf46 (args3 f.1 f.2.1 f.2.2.1) (exact_Turn_w _ x1 b2 c3  r63 hr63) post_val)) ?_
    refine sc (fun _ _ _ f _ _ => px (or_eql f.1 rfl rfl)) ?_
    exact steps_nil
  intro own64 a64 w64 hd64 hz64 hk64 hf64 hE64
  have e64_4 := (hk64 4 rfl).trans e59_4
  have e64_5 := (hk64 5 rfl).trans e59_5
  have e64_6 := (hk64 6 rfl).trans e59_6
  have e64_7 := (hk64 7 rfl).trans e59_7
  obtain ⟨(e64_22 : a64.eval (.tmp 22) = .bool (decide (r63 = 0))), -⟩ := hf64 [4] rfl
  have hX64 := es_ hX59 hE64
  have b64_g46 := be_ hE64 b59_g46
  have b64_g48 := be_ hE64 b59_g48
  have b64_g50 := be_ hE64 b59_g50
  have b64_g52 := be_ hE64 b59_g52
  refine fl_cond e64_22 hs (fun c65 hs => ?_) (fun c65 hs => ?_)
  · obtain ⟨r66, hr66, hs⟩ := obind hs
    obtain ⟨r67, hr67, hs⟩ := obind hs
    obtain ⟨r68, hr68, hs⟩ := obind hs
    refine rg0_seq 65 own64 [0, 0, 0, 7, 15, 31, 31, 31, 255, 511, 1023, 2047, 2047, 2047, 16383, 32767, 65535] [⟨[], [4], [], Fct.val 23 (.agg #[.int .i64 x1.1, .int .i64 x1.2])⟩,     ⟨[], [5], [], Fct.val 24 (.agg #[.int .i64 b2.1, .int .i64 b2.2])⟩,     ⟨[], [7], [], Fct.val 25 (.agg #[.int .i64 p4.1, .int .i64 p4.2])⟩,     ⟨[0, 1, 2], [], [], Fct.val 26 (.bool r66)⟩,     ⟨[3], [], [], Fct.val 27 (.bool r66)⟩,     ⟨[4], [5], [], Fct.cond (!r66) (some 28) (Fct.val 28 (.agg #[.int .i64 b2.1, .int .i64 b2.2]))⟩,     ⟨[4], [6], [], Fct.cond (!r66) (some 29) (Fct.val 29 (.agg #[.int .i64 c3.1, .int .i64 c3.2]))⟩,     ⟨[4], [7], [], Fct.cond (!r66) (some 30) (Fct.val 30 (.agg #[.int .i64 p4.1, .int .i64 p4.2]))⟩,     ⟨[4, 5, 6, 7], [], [], Fct.cond (!r66) (some 31) (Fct.val 31 (.bool r67))⟩,     ⟨[4, 8], [], [], Fct.val 32 (.bool (r66 || r67))⟩,     ⟨[9], [], [], Fct.val 33 (.bool (r66 || r67))⟩,     ⟨[10], [6], [], Fct.cond (!(r66 || r67)) (some 34) (Fct.val 34 (.agg #[.int .i64 c3.1, .int .i64 c3.2]))⟩,     ⟨[10], [4], [], Fct.cond (!(r66 || r67)) (some 35) (Fct.val 35 (.agg #[.int .i64 x1.1, .int .i64 x1.2]))⟩,     ⟨[10], [7], [], Fct.cond (!(r66 || r67)) (some 36) (Fct.val 36 (.agg #[.int .i64 p4.1, .int .i64 p4.2]))⟩,     ⟨[10, 11, 12, 13], [], [], Fct.cond (!(r66 || r67)) (some 37) (Fct.val 37 (.bool r68))⟩,     ⟨[10, 14], [], [], Fct.val 38 (.bool ((r66 || r67) || r68))⟩,     ⟨[15], [], [], Fct.val 8 (.bool ((r66 || r67) || r68))⟩] hz64 hd64 (by kernel_rfl) ?_ ?_
    · refine sc (fun _ _ _ _ s hE => px (or_load (l := [.int .i64 x1.1, .int .i64 x1.2]) ta25 (s.1.trans e64_4) (Blk.cellsFrom (be_ hE b64_g46).2 0 rfl) rfl)) ?_
      refine sc (fun _ _ _ _ s hE => px (or_load (l := [.int .i64 b2.1, .int .i64 b2.2]) ta25 (s.1.trans e64_5) (Blk.cellsFrom (be_ hE b64_g48).2 0 rfl) rfl)) ?_
      refine sc (fun _ _ _ _ s hE => px (or_load (l := [.int .i64 p4.1, .int .i64 p4.2]) ta25 (s.1.trans e64_7) (Blk.cellsFrom (be_ hE b64_g52).2 0 rfl) rfl)) ?_
      refine sc (fun _ _ _ f _ _ => px (or_call cf57 (args3 f.1 f.2.1 f.2.2.1) (exact_On_w _ x1 b2 p4  r66 hr66) post_val)) ?_
      refine sc (fun _ _ _ f _ _ => px (or_move f.1)) ?_
      refine sc (fun _ _ _ f s hE => sg_f rfl rfl rfl f.1 (fun hg => or_load (l := [.int .i64 b2.1, .int .i64 b2.2]) ta25 (s.1.trans e64_5) (Blk.cellsFrom (be_ hE b64_g48).2 0 rfl) rfl)) ?_
      refine sc (fun _ _ _ f s hE => sg_f rfl rfl rfl f.1 (fun hg => or_load (l := [.int .i64 c3.1, .int .i64 c3.2]) ta25 (s.1.trans e64_6) (Blk.cellsFrom (be_ hE b64_g50).2 0 rfl) rfl)) ?_
      refine sc (fun _ _ _ f s hE => sg_f rfl rfl rfl f.1 (fun hg => or_load (l := [.int .i64 p4.1, .int .i64 p4.2]) ta25 (s.1.trans e64_7) (Blk.cellsFrom (be_ hE b64_g52).2 0 rfl) rfl)) ?_
      refine sc (fun _ _ _ f _ _ => sg_f rfl rfl rfl f.1 (fun hg => or_call cf57 (args3 (f.2.1.1 hg) (f.2.2.1.1 hg) (f.2.2.2.1.1 hg)) (exact_On_w _ b2 c3 p4  r67 (gd_t hr67 hg)) post_val)) ?_
      refine sc (fun _ _ _ f _ _ => px (or_or f.1 rfl (fun hx => f.2.1.1 hx) rfl)) ?_
      refine sc (fun _ _ _ f _ _ => px (or_move f.1)) ?_
      refine sc (fun _ _ _ f s hE => sg_f rfl rfl rfl f.1 (fun hg => or_load (l := [.int .i64 c3.1, .int .i64 c3.2]) ta25 (s.1.trans e64_6) (Blk.cellsFrom (be_ hE b64_g50).2 0 rfl) rfl)) ?_
      refine sc (fun _ _ _ f s hE => sg_f rfl rfl rfl f.1 (fun hg => or_load (l := [.int .i64 x1.1, .int .i64 x1.2]) ta25 (s.1.trans e64_4) (Blk.cellsFrom (be_ hE b64_g46).2 0 rfl) rfl)) ?_
      refine sc (fun _ _ _ f s hE => sg_f rfl rfl rfl f.1 (fun hg => or_load (l := [.int .i64 p4.1, .int .i64 p4.2]) ta25 (s.1.trans e64_7) (Blk.cellsFrom (be_ hE b64_g52).2 0 rfl) rfl)) ?_
      refine sc (fun _ _ _ f _ _ => sg_f rfl rfl rfl f.1 (fun hg => or_call cf57 (args3 (f.2.1.1 hg) (f.2.2.1.1 hg) (f.2.2.2.1.1 hg)) (exact_On_w _ c3 x1 p4  r68 (gd_t hr68 hg)) post_val)) ?_
      refine sc (fun _ _ _ f _ _ => px (or_or f.1 rfl (fun hx => f.2.1.1 hx) rfl)) ?_
      refine sc (fun _ _ _ f _ _ => px (or_assign f.1)) ?_
      exact steps_nil
    intro own69 a69 w69 hd69 hz69 hk69 hf69 hE69
    obtain ⟨(e69_8 : a69.eval (.tmp 8) = .bool ((r66 || r67) || r68)), -⟩ := hf69 [16] rfl
    have hX69 := es_ hX64 hE69
    refine fl_ret ?_
    refine hp62 _ _ _ rfl ?_
    obtain rfl := osome hs
    exact hret _ _ _ _ (.inl rfl) hd69 (results1_ rfl (RVal.tmp_ e69_8)) ⟨own69, rfl, hX69⟩
  refine fl_skip ?_
  refine hn62 _ _ ?_
  obtain ⟨r70, hr70, hs⟩ := obind hs
  refine rg_plain_seq (n := 65) (rs := []) (own0 := own64) (K := [72]) (bs := [0, 0, 0, 7, 0, 31]) (ds := [⟨[], [4], [], Fct.val 39 (.agg #[.int .i64 x1.1, .int .i64 x1.2])⟩,     ⟨[], [5], [], Fct.val 40 (.agg #[.int .i64 b2.1, .int .i64 b2.2])⟩,     ⟨[], [6], [], Fct.val 41 (.agg #[.int .i64 c3.1, .int .i64 c3.2])⟩,     ⟨[0, 1, 2], [], [], Fct.val 42 (.int .i64 r70)⟩,     ⟨[], [], [], Fct.blk 72 9 (fun g => .pointer (some ⟨g, 0, none⟩)) 3 #[.int .i64 0]⟩,     ⟨[4, 3], [], [72], Fct.blk 73 9 (fun g => .pointer (some ⟨g, 0, none⟩)) 3 #[.int .i64 r70]⟩]) (by kernel_rfl) hz64 hd64 nm_ ?_ ?_
  · refine sc (fun _ _ _ _ s hE => px (or_load (l := [.int .i64 x1.1, .int .i64 x1.2]) ta25 (s.1.trans e64_4) (Blk.cellsFrom (be_ hE b64_g46).2 0 rfl) rfl)) ?_
    refine sc (fun _ _ _ _ s hE => px (or_load (l := [.int .i64 b2.1, .int .i64 b2.2]) ta25 (s.1.trans e64_5) (Blk.cellsFrom (be_ hE b64_g48).2 0 rfl) rfl)) ?_
    refine sc (fun _ _ _ _ s hE => px (or_load (l := [.int .i64 c3.1, .int .i64 c3.2]) ta25 (s.1.trans e64_6) (Blk.cellsFrom (be_ hE b64_g50).2 0 rfl) rfl)) ?_
    refine sc (fun _ _ _ f _ _ => px (or_call cf46 (args3 f.1 f.2.1 f.2.2.1) (exact_Turn_w _ x1 b2 c3  r70 hr70) post_val)) ?_
    refine sc (fun _ _ _ _ _ _ => px (or_new [] rfl rfl trivial (by kernel_rfl))) ?_
    refine sc (fun own a wx hf hsl hE => ?_) ?_
    · obtain ⟨⟨g71, f_9, b_g71⟩, f_42, -⟩ := hf
      exact px (or_store1 (lab := 72) (lab2 := 73) ts3 f_9 f_42 b_g71 (by simp) rfl (mem_of rfl) (by decide) rfl (fun own' a' w' ha hb => ⟨_, (ha 9).trans f_9, hb⟩))
    exact steps_nil
  intro own74 a74 w74 hd74 hz74 hk74 hf74 hE74
  have e74_4 := (hk74 4 rfl).trans e64_4
  have e74_5 := (hk74 5 rfl).trans e64_5
  have e74_6 := (hk74 6 rfl).trans e64_6
  have e74_7 := (hk74 7 rfl).trans e64_7
  obtain ⟨⟨g71, (e74_9 : a74.eval (.tmp 9) = .pointer (some ⟨g71, 0, none⟩)), (b74_g71 : BlkO own74 73 w74 g71 3 #[.int .i64 r70])⟩, -⟩ := hf74 [5] rfl
  have hX74 := es_ hX64 hE74
  have b74_g46 := be_ hE74 b64_g46
  have b74_g48 := be_ hE74 b64_g48
  have b74_g50 := be_ hE74 b64_g50
  have b74_g52 := be_ hE74 b64_g52
  refine rg0_seq 65 own74 (bz 2) [⟨[], [7, 9], [], Fct.val 43 (.func (.func 58) #[] #[.pointer (some ⟨g52, 0, none⟩), .pointer (some ⟨g71, 0, none⟩)])⟩,     ⟨[0], [], [], Fct.val 10 (.func (.func 58) #[] #[.pointer (some ⟨g52, 0, none⟩), .pointer (some ⟨g71, 0, none⟩)])⟩] hz74 hd74 (by kernel_rfl) ?_ ?_
  · refine sc (fun _ _ _ _ s _ => px (or_k [(7, .pointer (some ⟨g52, 0, none⟩)), (9, .pointer (some ⟨g71, 0, none⟩))] rfl rfl ⟨(s.1.trans e74_7), (s.2.1.trans e74_9), trivial⟩ (by kernel_rfl))) ?_
    refine sc (fun _ _ _ f _ _ => px (or_assign f.1)) ?_
    exact steps_nil
  intro own75 a75 w75 hd75 hz75 hk75 hf75 hE75
  have e75_4 := (hk75 4 rfl).trans e74_4
  have e75_5 := (hk75 5 rfl).trans e74_5
  have e75_6 := (hk75 6 rfl).trans e74_6
  have e75_7 := (hk75 7 rfl).trans e74_7
  obtain ⟨(e75_10 : a75.eval (.tmp 10) = .func (.func 58) #[] #[.pointer (some ⟨g52, 0, none⟩), .pointer (some ⟨g71, 0, none⟩)]), -⟩ := hf75 [1] rfl
  have hX75 := es_ hX74 hE75
  have b75_g46 := be_ hE75 b74_g46
  have b75_g48 := be_ hE75 b74_g48
  have b75_g50 := be_ hE75 b74_g50
  have b75_g52 := be_ hE75 b74_g52
  have b75_g71 := be_ hE75 b74_g71
  obtain ⟨r76, hr76, hs⟩ := obind hs
  obtain ⟨r77, hr77, hs⟩ := obind hs
  obtain ⟨r78, hr78, hs⟩ := obind hs
  obtain ⟨x79, hx79, hs⟩ := obind hs
  refine rg0_seq 65 own75 [0, 0, 3, 7, 15, 15, 15, 127, 255, 511, 511, 511, 4095, 8191, 16383, 32767, 32767, 32767, 262143, 524287, 1048575, 2097151] [⟨[], [7], [], Fct.val 44 (.agg #[.int .i64 p4.1, .int .i64 p4.2])⟩,     ⟨[], [4], [], Fct.val 45 (.agg #[.int .i64 x1.1, .int .i64 x1.2])⟩,     ⟨[0, 1], [], [], Fct.val 46 (.bool (decide (p4 = x1)))⟩,     ⟨[2], [], [], Fct.val 47 (.bool (decide (p4 = x1)))⟩,     ⟨[3], [10], [], Fct.cond (!(decide (p4 = x1))) (some 48) (Fct.val 48 (.func (.func 58) #[] #[.pointer (some ⟨g52, 0, none⟩), .pointer (some ⟨g71, 0, none⟩)]))⟩,     ⟨[3], [4], [], Fct.cond (!(decide (p4 = x1))) (some 49) (Fct.val 49 (.agg #[.int .i64 x1.1, .int .i64 x1.2]))⟩,     ⟨[3], [5], [], Fct.cond (!(decide (p4 = x1))) (some 50) (Fct.val 50 (.agg #[.int .i64 b2.1, .int .i64 b2.2]))⟩,     ⟨[3, 4, 5, 6], [], [], Fct.cond (!(decide (p4 = x1))) (some 51) (Fct.val 51 (.bool r76))⟩,     ⟨[3, 7], [], [], Fct.cond (!(decide (p4 = x1))) (some 52) (Fct.val 52 (.bool r76))⟩,     ⟨[8], [10], [], Fct.cond ((!(decide (p4 = x1))) && r76) (some 53) (Fct.val 53 (.func (.func 58) #[] #[.pointer (some ⟨g52, 0, none⟩), .pointer (some ⟨g71, 0, none⟩)]))⟩,     ⟨[8], [5], [], Fct.cond ((!(decide (p4 = x1))) && r76) (some 54) (Fct.val 54 (.agg #[.int .i64 b2.1, .int .i64 b2.2]))⟩,     ⟨[8], [6], [], Fct.cond ((!(decide (p4 = x1))) && r76) (some 55) (Fct.val 55 (.agg #[.int .i64 c3.1, .int .i64 c3.2]))⟩,     ⟨[8, 9, 10, 11], [], [], Fct.cond ((!(decide (p4 = x1))) && r76) (some 56) (Fct.val 56 (.bool r77))⟩,     ⟨[3, 8, 12], [], [], Fct.cond (!(decide (p4 = x1))) (some 57) (Fct.val 57 (.bool (r76 && r77)))⟩,     ⟨[3, 13], [], [], Fct.cond (!(decide (p4 = x1))) (some 58) (Fct.val 58 (.bool (r76 && r77)))⟩,     ⟨[14], [10], [], Fct.cond ((!(decide (p4 = x1))) && (r76 && r77)) (some 59) (Fct.val 59 (.func (.func 58) #[] #[.pointer (some ⟨g52, 0, none⟩), .pointer (some ⟨g71, 0, none⟩)]))⟩,     ⟨[14], [6], [], Fct.cond ((!(decide (p4 = x1))) && (r76 && r77)) (some 60) (Fct.val 60 (.agg #[.int .i64 c3.1, .int .i64 c3.2]))⟩,     ⟨[14], [4], [], Fct.cond ((!(decide (p4 = x1))) && (r76 && r77)) (some 61) (Fct.val 61 (.agg #[.int .i64 x1.1, .int .i64 x1.2]))⟩,     ⟨[14, 15, 16, 17], [], [], Fct.cond ((!(decide (p4 = x1))) && (r76 && r77)) (some 62) (Fct.val 62 (.bool r78))⟩,     ⟨[3, 14, 18], [], [], Fct.cond (!(decide (p4 = x1))) (some 63) (Fct.val 63 (.bool ((r76 && r77) && r78)))⟩,     ⟨[3, 19], [], [], Fct.val 64 (.bool x79)⟩,     ⟨[20], [], [], Fct.val 8 (.bool x79)⟩] hz75 hd75 (by kernel_rfl) ?_ ?_
  · refine sc (fun _ _ _ _ s hE => px (or_load (l := [.int .i64 p4.1, .int .i64 p4.2]) ta25 (s.1.trans e75_7) (Blk.cellsFrom (be_ hE b75_g52).2 0 rfl) rfl)) ?_
    refine sc (fun _ _ _ _ s hE => px (or_load (l := [.int .i64 x1.1, .int .i64 x1.2]) ta25 (s.1.trans e75_4) (Blk.cellsFrom (be_ hE b75_g46).2 0 rfl) rfl)) ?_
    refine sc (fun _ _ _ f _ _ => px (or_eqlA sg25 f.1 f.2.1 (se25 p4.1 p4.2 x1.1 x1.2 _) rfl)) ?_
    refine sc (fun _ _ _ f _ _ => px (or_move f.1)) ?_
    refine sc (fun _ _ _ f s _ => sg_f rfl rfl rfl f.1 (fun hg => or_move (s.1.trans e75_10))) ?_
    refine sc (fun _ _ _ f s hE => sg_f rfl rfl rfl f.1 (fun hg => or_load (l := [.int .i64 x1.1, .int .i64 x1.2]) ta25 (s.1.trans e75_4) (Blk.cellsFrom (be_ hE b75_g46).2 0 rfl) rfl)) ?_
    refine sc (fun _ _ _ f s hE => sg_f rfl rfl rfl f.1 (fun hg => or_load (l := [.int .i64 b2.1, .int .i64 b2.2]) ta25 (s.1.trans e75_5) (Blk.cellsFrom (be_ hE b75_g48).2 0 rfl) rfl)) ?_
    refine sc (fun _ _ _ f _ hE => sg_f rfl rfl rfl f.1 (fun hg => or_callf cf58 (f.2.1.1 hg) (args2 (f.2.2.1.1 hg) (f.2.2.2.1.1 hg)) rfl (exact_InTriangle_1_w _ x1 b2 p4 g52 25 r70 g71 3 (BlkO.zero_ (be_ hE b75_g52)) (BlkO.zero_ (be_ hE b75_g71)) r76 (gd_t hr76 hg)) post_val)) ?_
    refine sc (fun _ _ _ f _ _ => sg_f rfl rfl rfl f.1 (fun hg => or_move (f.2.1.1 hg))) ?_
    refine sc (fun _ _ _ f s _ => sg_tc rfl rfl rfl f.1 (fun hg => or_move (s.1.trans e75_10))) ?_
    refine sc (fun _ _ _ f s hE => sg_tc rfl rfl rfl f.1 (fun hg => or_load (l := [.int .i64 b2.1, .int .i64 b2.2]) ta25 (s.1.trans e75_5) (Blk.cellsFrom (be_ hE b75_g48).2 0 rfl) rfl)) ?_
    refine sc (fun _ _ _ f s hE => sg_tc rfl rfl rfl f.1 (fun hg => or_load (l := [.int .i64 c3.1, .int .i64 c3.2]) ta25 (s.1.trans e75_6) (Blk.cellsFrom (be_ hE b75_g50).2 0 rfl) rfl)) ?_
    refine sc (fun _ _ _ f _ hE => sg_tc rfl rfl rfl f.1 (fun hg => or_callf cf58 (f.2.1.1 hg) (args2 (f.2.2.1.1 hg) (f.2.2.2.1.1 hg)) rfl (exact_InTriangle_1_w _ b2 c3 p4 g52 25 r70 g71 3 (BlkO.zero_ (be_ hE b75_g52)) (BlkO.zero_ (be_ hE b75_g71)) r77 (gd_t hr77 hg)) post_val)) ?_
    refine sc (fun _ _ _ f _ _ => sg_f rfl rfl rfl f.1 (fun hg => or_and (f.2.1.1 hg) (fun hx => f.2.2.1.1 (gI hg hx)) rfl rfl)) ?_
    refine sc (fun _ _ _ f _ _ => sg_f rfl rfl rfl f.1 (fun hg => or_move (f.2.1.1 hg))) ?_
    refine sc (fun _ _ _ f s _ => sg_tc rfl rfl rfl f.1 (fun hg => or_move (s.1.trans e75_10))) ?_
    refine sc (fun _ _ _ f s hE => sg_tc rfl rfl rfl f.1 (fun hg => or_load (l := [.int .i64 c3.1, .int .i64 c3.2]) ta25 (s.1.trans e75_6) (Blk.cellsFrom (be_ hE b75_g50).2 0 rfl) rfl)) ?_
    refine sc (fun _ _ _ f s hE => sg_tc rfl rfl rfl f.1 (fun hg => or_load (l := [.int .i64 x1.1, .int .i64 x1.2]) ta25 (s.1.trans e75_4) (Blk.cellsFrom (be_ hE b75_g46).2 0 rfl) rfl)) ?_
    refine sc (fun _ _ _ f _ hE => sg_tc rfl rfl rfl f.1 (fun hg => or_callf cf58 (f.2.1.1 hg) (args2 (f.2.2.1.1 hg) (f.2.2.2.1.1 hg)) rfl (exact_InTriangle_1_w _ c3 x1 p4 g52 25 r70 g71 3 (BlkO.zero_ (be_ hE b75_g52)) (BlkO.zero_ (be_ hE b75_g71)) r78 (gd_t hr78 hg)) post_val)) ?_
    refine sc (fun _ _ _ f _ _ => sg_f rfl rfl rfl f.1 (fun hg => or_and (f.2.1.1 hg) (fun hx => f.2.2.1.1 (gI hg hx)) rfl rfl)) ?_
    refine sc (fun _ _ _ f _ _ => px (or_or f.1 rfl (fun hx => f.2.1.1 hx) (osome hx79).symm)) ?_
    refine sc (fun _ _ _ f _ _ => px (or_assign f.1)) ?_
    exact steps_nil
  intro own80 a80 w80 hd80 hz80 hk80 hf80 hE80
  obtain ⟨(e80_8 : a80.eval (.tmp 8) = .bool x79), -⟩ := hf80 [21] rfl
  have hX80 := es_ hX75 hE80
  refine fl_ret ?_
  obtain rfl := (osome hs).symm
  exact hret _ _ _ _ (.inl rfl) hd80 (results1_ rfl (RVal.tmp_ e80_8)) ⟨own80, rfl, hX80⟩
set_option maxHeartbeats 2000000 in
theorem guard_Guard_Why_w (w : World) (g1 : (((List ((Int × Int) × (Int × Int))) × (List ((Int × Int) × (List Int))) × (List Int))) × (List Int) × (List (Int × Int)) × (List ((Int × Int) × Bool)) × (List (((Int × Int) × (Int × Int)) × Bool))) (gg1 : Nat) (tg1 : TypeId) (gg1_0 : Nat) (tg1_0 : TypeId) (Ag1_0_0 : Option Addr) (cg1_0_0 : Nat) (mg1_0_1 : Nat) (Ag1_0_2 : Option Addr) (cg1_0_2 : Nat) (Ag1_1 : Option Addr) (cg1_1 : Nat) (Ag1_2 : Option Addr) (cg1_2 : Nat) (mg1_3 : Nat) (mg1_4 : Nat) (x2 : Int × Int) (b3 : Int × Int) (c4 : Int × Int) (hgg1 : BlkO (fun _ => 0) 0 w gg1 tg1 #[.pointer (some ⟨gg1_0, 0, none⟩), .slice Ag1_1 g1.2.1.length cg1_1, .slice Ag1_2 g1.2.2.1.length cg1_2, .map (some mg1_3), .map (some mg1_4)]) (hAg1_1 : RdO (fun _ => 0) [0] w R3 Ag1_1 cg1_1 g1.2.1) (hAg1_2 : RdO (fun _ => 0) [0] w R25 Ag1_2 cg1_2 g1.2.2.1) (hmg1_3 : MpO (fun _ => 0) 0 w mg1_3 vv25 vv4 g1.2.2.2.1) (hmg1_4 : MpO (fun _ => 0) 0 w mg1_4 vv81 vv4 g1.2.2.2.2) (hgg1_0 : BlkO (fun _ => 0) 0 w gg1_0 tg1_0 #[.slice Ag1_0_0 g1.1.1.length cg1_0_0, .map (some mg1_0_1), .slice Ag1_0_2 g1.1.2.2.length cg1_0_2]) (hAg1_0_0 : RdO (fun _ => 0) [0] w R80 Ag1_0_0 cg1_0_0 g1.1.1) (hmg1_0_1 : MpN (fun _ => 0) 0 0 [0] w mg1_0_1 vv111 3 R3 g1.1.2.1) (hAg1_0_2 : RdO (fun _ => 0) [0] w R3 Ag1_0_2 cg1_0_2 g1.1.2.2) (r : Int) (hs : guard_Guard_Why g1 x2 b3 c4 = some r) :
    Calls Try.prog 10 #[.pointer (some ⟨gg1, 0, none⟩), .agg #[.int .i64 x2.1, .int .i64 x2.2], .agg #[.int .i64 b3.1, .int .i64 b3.2], .agg #[.int .i64 c4.1, .int .i64 c4.2]] w fun e w' => ∃ own' : Own, e = .returned (.int .i64 r) ∧ Evo [] (fun _ => 0) own' w w' := by
  refine fl_enter (n := 155) rfl rfl rfl (Nat.le_of_ble_eq_true rfl) ?_
  intro a0 Q hd0 hz0 harg hret
  have ha0 := harg 0 _ rfl
  have ha1 := harg 1 _ rfl
  have ha2 := harg 2 _ rfl
  have ha3 := harg 3 _ rfl
  clear harg
  have hE0 : Evo [] (fun _ => 0) (fun _ => 0) w w := Evo.refl _ _ _
  refine rg0_seq 155 (fun _ => 0) [0, 0, 0, 0] [⟨[], [1], [], Fct.blk 117 5 (fun g => .pointer (some ⟨g, 0, none⟩)) 25 #[.int .i64 x2.1, .int .i64 x2.2]⟩,     ⟨[], [2], [], Fct.blk 119 6 (fun g => .pointer (some ⟨g, 0, none⟩)) 25 #[.int .i64 b3.1, .int .i64 b3.2]⟩,     ⟨[], [3], [], Fct.blk 121 7 (fun g => .pointer (some ⟨g, 0, none⟩)) 25 #[.int .i64 c4.1, .int .i64 c4.2]⟩,     ⟨[], [], [], Fct.val 8 (.int .i64 0)⟩] hz0 hd0 (by kernel_rfl) ?_ ?_
  · refine sc (fun _ _ _ _ s _ => px (or_new [(1, .agg #[.int .i64 x2.1, .int .i64 x2.2])] rfl rfl ⟨(s.1.trans ha1), trivial⟩ (by kernel_rfl))) ?_
    refine sc (fun _ _ _ _ s _ => px (or_new [(2, .agg #[.int .i64 b3.1, .int .i64 b3.2])] rfl rfl ⟨(s.1.trans ha2), trivial⟩ (by kernel_rfl))) ?_
    refine sc (fun _ _ _ _ s _ => px (or_new [(3, .agg #[.int .i64 c4.1, .int .i64 c4.2])] rfl rfl ⟨(s.1.trans ha3), trivial⟩ (by kernel_rfl))) ?_
    refine sc (fun _ _ _ _ _ _ => px (or_assign rfl)) ?_
    exact steps_nil
  intro own122 a122 w122 hd122 hz122 hk122 hf122 hE122
  have e122_0 := (hk122 0 rfl).trans ha0
  obtain ⟨⟨g116, (e122_5 : a122.eval (.tmp 5) = .pointer (some ⟨g116, 0, none⟩)), (b122_g116 : BlkO own122 117 w122 g116 25 #[.int .i64 x2.1, .int .i64 x2.2])⟩, ⟨g118, (e122_6 : a122.eval (.tmp 6) = .pointer (some ⟨g118, 0, none⟩)), (b122_g118 : BlkO own122 119 w122 g118 25 #[.int .i64 b3.1, .int .i64 b3.2])⟩, ⟨g120, (e122_7 : a122.eval (.tmp 7) = .pointer (some ⟨g120, 0, none⟩)), (b122_g120 : BlkO own122 121 w122 g120 25 #[.int .i64 c4.1, .int .i64 c4.2])⟩, -⟩ := hf122 [0, 1, 2] rfl
  have hX122 := es_ hE0 hE122
  have b122_Ag1_0_0 := RdO.evo rfl hE122 hAg1_0_0
  have b122_mg1_0_1 := MpN.evo rfl hE122 hmg1_0_1
  have b122_Ag1_0_2 := RdO.evo rfl hE122 hAg1_0_2
  have b122_gg1_0 := be_ hE122 hgg1_0
  have b122_Ag1_1 := RdO.evo rfl hE122 hAg1_1
  have b122_Ag1_2 := RdO.evo rfl hE122 hAg1_2
  have b122_mg1_3 := MpO.evo (by decide) hE122 hmg1_3
  have b122_mg1_4 := MpO.evo (by decide) hE122 hmg1_4
  have b122_gg1 := be_ hE122 hgg1
  refine fl_seq (fun Q123 hn123 hp123 => ?_)
  refine fl_block (fun Q124 hn124 hx124 hp124 => ?_)
  obtain ⟨x125, hx125, hs⟩ := obind hs
  obtain ⟨r128, hr128, hs⟩ := obind hs
  obtain ⟨x129, hx129, hs⟩ := obind hs
  obtain ⟨x130, hx130, hs⟩ := obind hs
  obtain ⟨x131, hx131, hs⟩ := obind hs
  obtain ⟨x132, hx132, hs⟩ := obind hs
  refine rg_draw_seq g_mixed (n := 155) (rs := []) (own0 := own122) (K := []) (bs := [0, 1, 3, 7, 7, 31, 63, 127, 255, 255, 1023, 2047, 4095, 8191, 8191, 32767, 65535, 131071, 262143, 262143, 262143, 2097151, 4194303, 8388607, 16777215, 33554431, 67108863, 134217727, 268435455, 536870911, 67108863, 2147483647, 4294967295, 8589934591, 17179869183, 34359738367, 68719476735, 137438953471, 274877906943, 34359738367, 1099511627775, 2199023255551, 4398046511103, 8796093022207, 17592186044415, 35184372088831, 70368744177663, 140737488355327, 17592186044415, 562949953421311, 1125899906842623, 2251799813685247, 4503599627370495]) (ds := [⟨[], [0], [], Fct.val 15 (.pointer (some ⟨gg1, 0, none⟩))⟩,     ⟨[0], [], [], Fct.val 16 (.bool false)⟩,     ⟨[1], [], [], Fct.val 17 (.bool false)⟩,     ⟨[2], [5], [], Fct.cond (!false) (some 18) (Fct.val 18 (.agg #[.int .i64 x2.1, .int .i64 x2.2]))⟩,     ⟨[2], [7], [], Fct.cond (!false) (some 19) (Fct.val 19 (.agg #[.int .i64 c4.1, .int .i64 c4.2]))⟩,     ⟨[2, 3, 4], [], [], Fct.cond (!false) (some 20) (Fct.val 20 (.bool (decide (x2 = c4))))⟩,     ⟨[2, 5], [], [], Fct.val 21 (.bool (false || (decide (x2 = c4))))⟩,     ⟨[6], [], [], Fct.val 22 (.bool (false || (decide (x2 = c4))))⟩,     ⟨[7], [6], [], Fct.cond (!(false || (decide (x2 = c4)))) (some 23) (Fct.val 23 (.agg #[.int .i64 b3.1, .int .i64 b3.2]))⟩,     ⟨[7], [5], [], Fct.cond (!(false || (decide (x2 = c4)))) (some 24) (Fct.val 24 (.agg #[.int .i64 x2.1, .int .i64 x2.2]))⟩,     ⟨[7, 8, 9], [], [], Fct.cond (!(false || (decide (x2 = c4)))) (some 25) (Fct.val 25 (.bool (decide (b3 = x2))))⟩,     ⟨[7, 10], [], [], Fct.val 26 (.bool x125)⟩,     ⟨[11], [], [], Fct.val 27 (.bool x125)⟩,     ⟨[12], [6], [], Fct.cond (!x125) (some 28) (Fct.val 28 (.agg #[.int .i64 b3.1, .int .i64 b3.2]))⟩,     ⟨[12], [7], [], Fct.cond (!x125) (some 29) (Fct.val 29 (.agg #[.int .i64 c4.1, .int .i64 c4.2]))⟩,     ⟨[12, 13, 14], [], [], Fct.cond (!x125) (some 30) (Fct.val 30 (.bool (decide (b3 = c4))))⟩,     ⟨[12, 15], [], [], Fct.val 31 (.bool (x125 || (decide (b3 = c4))))⟩,     ⟨[16], [], [], Fct.val 32 (.bool (x125 || (decide (b3 = c4))))⟩,     ⟨[17], [5], [], Fct.cond (!(x125 || (decide (b3 = c4)))) (some 33) (Fct.val 33 (.agg #[.int .i64 x2.1, .int .i64 x2.2]))⟩,     ⟨[17], [6], [], Fct.cond (!(x125 || (decide (b3 = c4)))) (some 34) (Fct.val 34 (.agg #[.int .i64 b3.1, .int .i64 b3.2]))⟩,     ⟨[17], [7], [], Fct.cond (!(x125 || (decide (b3 = c4)))) (some 35) (Fct.val 35 (.agg #[.int .i64 c4.1, .int .i64 c4.2]))⟩,     ⟨[17, 18, 19, 20], [], [], Fct.cond (!(x125 || (decide (b3 = c4)))) (some 36) (Fct.row 127 [] 36 25 R25 [x2, b3, c4])⟩,     ⟨[17, 21], [], [], Fct.cond (!(x125 || (decide (b3 = c4)))) (some 37) (Fct.val 37 (.bool r128))⟩,     ⟨[17, 22], [], [], Fct.cond (!(x125 || (decide (b3 = c4)))) (some 38) (Fct.val 38 (.bool (!r128)))⟩,     ⟨[17, 23], [], [], Fct.val 39 (.bool x129)⟩,     ⟨[24], [], [], Fct.val 40 (.bool x129)⟩,     ⟨[25], [0], [], Fct.cond (!x129) (some 41) (Fct.val 41 (.pointer (some ⟨gg1, 0, none⟩)))⟩,     ⟨[25, 26], [], [], Fct.cond (!x129) (some 42) (Fct.val 42 (.pointer (some ⟨gg1, 0, none⟩)))⟩,     ⟨[25, 27], [], [], Fct.cond (!x129) (some 43) (Fct.val 43 (.pointer (some ⟨gg1, 3, none⟩)))⟩,     ⟨[25, 28], [], [], Fct.cond (!x129) (some 44) (Fct.val 44 (.map (some mg1_3)))⟩,     ⟨[25], [5], [], Fct.cond (!x129) (some 45) (Fct.val 45 (.agg #[.int .i64 x2.1, .int .i64 x2.2]))⟩,     ⟨[25, 29, 30], [], [], Fct.cond (!x129) (some 46) (Fct.val 46 (.bool ((lkM g1.2.2.2.1 x2).getD false)))⟩,     ⟨[25, 31], [], [], Fct.cond (!x129) (some 47) (Fct.val 47 (.bool (!((lkM g1.2.2.2.1 x2).getD false))))⟩,     ⟨[25, 32], [], [], Fct.val 48 (.bool x130)⟩,     ⟨[33], [], [], Fct.val 49 (.bool x130)⟩,     ⟨[34], [0], [], Fct.cond (!x130) (some 50) (Fct.val 50 (.pointer (some ⟨gg1, 0, none⟩)))⟩,     ⟨[34, 35], [], [], Fct.cond (!x130) (some 51) (Fct.val 51 (.pointer (some ⟨gg1, 0, none⟩)))⟩,     ⟨[34, 36], [], [], Fct.cond (!x130) (some 52) (Fct.val 52 (.pointer (some ⟨gg1, 3, none⟩)))⟩,     ⟨[34, 37], [], [], Fct.cond (!x130) (some 53) (Fct.val 53 (.map (some mg1_3)))⟩,     ⟨[34], [6], [], Fct.cond (!x130) (some 54) (Fct.val 54 (.agg #[.int .i64 b3.1, .int .i64 b3.2]))⟩,     ⟨[34, 38, 39], [], [], Fct.cond (!x130) (some 55) (Fct.val 55 (.bool ((lkM g1.2.2.2.1 b3).getD false)))⟩,     ⟨[34, 40], [], [], Fct.cond (!x130) (some 56) (Fct.val 56 (.bool (!((lkM g1.2.2.2.1 b3).getD false))))⟩,     ⟨[34, 41], [], [], Fct.val 57 (.bool x131)⟩,     ⟨[42], [], [], Fct.val 58 (.bool x131)⟩,     ⟨[43], [0], [], Fct.cond (!x131) (some 59) (Fct.val 59 (.pointer (some ⟨gg1, 0, none⟩)))⟩,     ⟨[43, 44], [], [], Fct.cond (!x131) (some 60) (Fct.val 60 (.pointer (some ⟨gg1, 0, none⟩)))⟩,     ⟨[43, 45], [], [], Fct.cond (!x131) (some 61) (Fct.val 61 (.pointer (some ⟨gg1, 3, none⟩)))⟩,     ⟨[43, 46], [], [], Fct.cond (!x131) (some 62) (Fct.val 62 (.map (some mg1_3)))⟩,     ⟨[43], [7], [], Fct.cond (!x131) (some 63) (Fct.val 63 (.agg #[.int .i64 c4.1, .int .i64 c4.2]))⟩,     ⟨[43, 47, 48], [], [], Fct.cond (!x131) (some 64) (Fct.val 64 (.bool ((lkM g1.2.2.2.1 c4).getD false)))⟩,     ⟨[43, 49], [], [], Fct.cond (!x131) (some 65) (Fct.val 65 (.bool (!((lkM g1.2.2.2.1 c4).getD false))))⟩,     ⟨[43, 50], [], [], Fct.val 66 (.bool x132)⟩,     ⟨[51], [], [], Fct.val 14 (.bool x132)⟩]) (by kernel_rfl) hz122 hd122 nm_ ?_ ?_
  · refine sc (fun _ _ _ _ s _ => px (or_move (s.1.trans e122_0))) ?_
    refine sc (fun _ _ _ f _ _ => px (or_k [(15, .pointer (some ⟨gg1, 0, none⟩))] rfl rfl ⟨f.1, trivial⟩ (by kernel_rfl))) ?_
    refine sc (fun _ _ _ f _ _ => px (or_move f.1)) ?_
    refine sc (fun _ _ _ f s hE => sg_f rfl rfl rfl f.1 (fun hg => or_load (l := [.int .i64 x2.1, .int .i64 x2.2]) ta25 (s.1.trans e122_5) (Blk.cellsFrom (be_ hE b122_g116).2 0 rfl) rfl)) ?_
    refine sc (fun _ _ _ f s hE => sg_f rfl rfl rfl f.1 (fun hg => or_load (l := [.int .i64 c4.1, .int .i64 c4.2]) ta25 (s.1.trans e122_7) (Blk.cellsFrom (be_ hE b122_g120).2 0 rfl) rfl)) ?_
    refine sc (fun _ _ _ f _ _ => sg_f rfl rfl rfl f.1 (fun hg => or_eqlA sg25 (f.2.1.1 hg) (f.2.2.1.1 hg) (se25 x2.1 x2.2 c4.1 c4.2 _) rfl)) ?_
    refine sc (fun _ _ _ f _ _ => px (or_or f.1 rfl (fun hx => f.2.1.1 hx) rfl)) ?_
    refine sc (fun _ _ _ f _ _ => px (or_move f.1)) ?_
    refine sc (fun _ _ _ f s hE => sg_f rfl rfl rfl f.1 (fun hg => or_load (l := [.int .i64 b3.1, .int .i64 b3.2]) ta25 (s.1.trans e122_6) (Blk.cellsFrom (be_ hE b122_g118).2 0 rfl) rfl)) ?_
    refine sc (fun _ _ _ f s hE => sg_f rfl rfl rfl f.1 (fun hg => or_load (l := [.int .i64 x2.1, .int .i64 x2.2]) ta25 (s.1.trans e122_5) (Blk.cellsFrom (be_ hE b122_g116).2 0 rfl) rfl)) ?_
    refine sc (fun _ _ _ f _ _ => sg_f rfl rfl rfl f.1 (fun hg => or_eqlA sg25 (f.2.1.1 hg) (f.2.2.1.1 hg) (se25 b3.1 b3.2 x2.1 x2.2 _) rfl)) ?_
    refine sc (fun _ _ _ f _ _ => px (or_or f.1 rfl (fun hx => f.2.1.1 hx) (osome hx125).symm)) ?_
    refine sc (fun _ _ _ f _ _ => px (or_move f.1)) ?_
    refine sc (fun _ _ _ f s hE => sg_f rfl rfl rfl f.1 (fun hg => or_load (l := [.int .i64 b3.1, .int .i64 b3.2]) ta25 (s.1.trans e122_6) (Blk.cellsFrom (be_ hE b122_g118).2 0 rfl) rfl)) ?_
    refine sc (fun _ _ _ f s hE => sg_f rfl rfl rfl f.1 (fun hg => or_load (l := [.int .i64 c4.1, .int .i64 c4.2]) ta25 (s.1.trans e122_7) (Blk.cellsFrom (be_ hE b122_g120).2 0 rfl) rfl)) ?_
    refine sc (fun _ _ _ f _ _ => sg_f rfl rfl rfl f.1 (fun hg => or_eqlA sg25 (f.2.1.1 hg) (f.2.2.1.1 hg) (se25 b3.1 b3.2 c4.1 c4.2 _) rfl)) ?_
    refine sc (fun _ _ _ f _ _ => px (or_or f.1 rfl (fun hx => f.2.1.1 hx) rfl)) ?_
    refine sc (fun _ _ _ f _ _ => px (or_move f.1)) ?_
    refine sc (fun _ _ _ f s hE => sg_f rfl rfl rfl f.1 (fun hg => or_load (l := [.int .i64 x2.1, .int .i64 x2.2]) ta25 (s.1.trans e122_5) (Blk.cellsFrom (be_ hE b122_g116).2 0 rfl) rfl)) ?_
    refine sc (fun _ _ _ f s hE => sg_f rfl rfl rfl f.1 (fun hg => or_load (l := [.int .i64 b3.1, .int .i64 b3.2]) ta25 (s.1.trans e122_6) (Blk.cellsFrom (be_ hE b122_g118).2 0 rfl) rfl)) ?_
    refine sc (fun _ _ _ f s hE => sg_f rfl rfl rfl f.1 (fun hg => or_load (l := [.int .i64 c4.1, .int .i64 c4.2]) ta25 (s.1.trans e122_7) (Blk.cellsFrom (be_ hE b122_g120).2 0 rfl) rfl)) ?_
    refine sc (fun _ _ _ f _ _ => sg_f rfl rfl rfl f.1 (fun hg => or_lit (lab := 127) (e := 25) (cs := #[.int .i64 x2.1, .int .i64 x2.2, .int .i64 b3.1, .int .i64 b3.2, .int .i64 c4.1, .int .i64 c4.2]) (F := E25) (or_new [(33, .agg #[.int .i64 x2.1, .int .i64 x2.2]), (34, .agg #[.int .i64 b3.1, .int .i64 b3.2]), (35, .agg #[.int .i64 c4.1, .int .i64 c4.2])] rfl rfl ⟨(f.2.1.1 hg), (f.2.2.1.1 hg), (f.2.2.2.1.1 hg), trivial⟩ (by kernel_rfl)) rfl rfl (show 3 ≤ maxLen by decide))) ?_
    refine sc (fun own a wx hf hsl hE => ?_) ?_
    · obtain ⟨f_32, c_36, -⟩ := hf
      refine sg_f rfl rfl rfl f_32 (fun hg => ?_)
      obtain ⟨⟨A126, cA126⟩, f_36, b_A126⟩ := c_36.1 hg
      exact or_call cf32 (args1 f_36) (exact_Right_w _ [x2, b3, c4] A126 cA126 (RdO.zero (RwO.rd b_A126)) r128 (gd_t hr128 hg)) post_val
    refine sc (fun _ _ _ f _ _ => sg_f rfl rfl rfl f.1 (fun hg => or_not (f.2.1.1 hg) rfl)) ?_
    refine sc (fun _ _ _ f _ _ => px (or_or f.1 rfl (fun hx => f.2.1.1 hx) (osome hx129).symm)) ?_
    refine sc (fun _ _ _ f _ _ => px (or_move f.1)) ?_
    refine sc (fun _ _ _ f s _ => sg_f rfl rfl rfl f.1 (fun hg => or_move (s.1.trans e122_0))) ?_
    refine sc (fun _ _ _ f _ _ => sg_f rfl rfl rfl f.1 (fun hg => or_k [(41, .pointer (some ⟨gg1, 0, none⟩))] rfl rfl ⟨(f.2.1.1 hg), trivial⟩ (by kernel_rfl))) ?_
    refine sc (fun _ _ _ f _ _ => sg_f rfl rfl rfl f.1 (fun hg => or_field fo77_3 (f.2.1.1 hg) (by rfl))) ?_
    refine sc (fun _ _ _ f _ hE => sg_f rfl rfl rfl f.1 (fun hg => or_load1 to74 (f.2.1.1 hg) (Blk.at_ (be_ hE b122_gg1).2 3 rfl))) ?_
    refine sc (fun _ _ _ f s hE => sg_f rfl rfl rfl f.1 (fun hg => or_load (l := [.int .i64 x2.1, .int .i64 x2.2]) ta25 (s.1.trans e122_5) (Blk.cellsFrom (be_ hE b122_g116).2 0 rfl) rfl)) ?_
    refine sc (fun _ _ _ f _ hE => sg_f rfl rfl rfl f.1 (fun hg => or_lookupE (kf := vv25) (vf := vv4) (k := x2) (dv := false) ko25 tm74 tzv74 (f.2.1.1 hg) (f.2.2.1.1 hg) (MpO.evo (by decide) hE b122_mg1_3) rfl)) ?_
    refine sc (fun _ _ _ f _ _ => sg_f rfl rfl rfl f.1 (fun hg => or_not (f.2.1.1 hg) rfl)) ?_
    refine sc (fun _ _ _ f _ _ => px (or_or f.1 rfl (fun hx => f.2.1.1 hx) (osome hx130).symm)) ?_
    refine sc (fun _ _ _ f _ _ => px (or_move f.1)) ?_
    refine sc (fun _ _ _ f s _ => sg_f rfl rfl rfl f.1 (fun hg => or_move (s.1.trans e122_0))) ?_
    refine sc (fun _ _ _ f _ _ => sg_f rfl rfl rfl f.1 (fun hg => or_k [(50, .pointer (some ⟨gg1, 0, none⟩))] rfl rfl ⟨(f.2.1.1 hg), trivial⟩ (by kernel_rfl))) ?_
    refine sc (fun _ _ _ f _ _ => sg_f rfl rfl rfl f.1 (fun hg => or_field fo77_3 (f.2.1.1 hg) (by rfl))) ?_
    refine sc (fun _ _ _ f _ hE => sg_f rfl rfl rfl f.1 (fun hg => or_load1 to74 (f.2.1.1 hg) (Blk.at_ (be_ hE b122_gg1).2 3 rfl))) ?_
    refine sc (fun _ _ _ f s hE => sg_f rfl rfl rfl f.1 (fun hg => or_load (l := [.int .i64 b3.1, .int .i64 b3.2]) ta25 (s.1.trans e122_6) (Blk.cellsFrom (be_ hE b122_g118).2 0 rfl) rfl)) ?_
    refine sc (fun _ _ _ f _ hE => sg_f rfl rfl rfl f.1 (fun hg => or_lookupE (kf := vv25) (vf := vv4) (k := b3) (dv := false) ko25 tm74 tzv74 (f.2.1.1 hg) (f.2.2.1.1 hg) (MpO.evo (by decide) hE b122_mg1_3) rfl)) ?_
    refine sc (fun _ _ _ f _ _ => sg_f rfl rfl rfl f.1 (fun hg => or_not (f.2.1.1 hg) rfl)) ?_
    refine sc (fun _ _ _ f _ _ => px (or_or f.1 rfl (fun hx => f.2.1.1 hx) (osome hx131).symm)) ?_
    refine sc (fun _ _ _ f _ _ => px (or_move f.1)) ?_
    refine sc (fun _ _ _ f s _ => sg_f rfl rfl rfl f.1 (fun hg => or_move (s.1.trans e122_0))) ?_
    refine sc (fun _ _ _ f _ _ => sg_f rfl rfl rfl f.1 (fun hg => or_k [(59, .pointer (some ⟨gg1, 0, none⟩))] rfl rfl ⟨(f.2.1.1 hg), trivial⟩ (by kernel_rfl))) ?_
    refine sc (fun _ _ _ f _ _ => sg_f rfl rfl rfl f.1 (fun hg => or_field fo77_3 (f.2.1.1 hg) (by rfl))) ?_
    refine sc (fun _ _ _ f _ hE => sg_f rfl rfl rfl f.1 (fun hg => or_load1 to74 (f.2.1.1 hg) (Blk.at_ (be_ hE b122_gg1).2 3 rfl))) ?_
    refine sc (fun _ _ _ f s hE => sg_f rfl rfl rfl f.1 (fun hg => or_load (l := [.int .i64 c4.1, .int .i64 c4.2]) ta25 (s.1.trans e122_7) (Blk.cellsFrom (be_ hE b122_g120).2 0 rfl) rfl)) ?_
    refine sc (fun _ _ _ f _ hE => sg_f rfl rfl rfl f.1 (fun hg => or_lookupE (kf := vv25) (vf := vv4) (k := c4) (dv := false) ko25 tm74 tzv74 (f.2.1.1 hg) (f.2.2.1.1 hg) (MpO.evo (by decide) hE b122_mg1_3) rfl)) ?_
    refine sc (fun _ _ _ f _ _ => sg_f rfl rfl rfl f.1 (fun hg => or_not (f.2.1.1 hg) rfl)) ?_
    refine sc (fun _ _ _ f _ _ => px (or_or f.1 rfl (fun hx => f.2.1.1 hx) (osome hx132).symm)) ?_
    refine sc (fun _ _ _ f _ _ => px (or_assign f.1)) ?_
    exact steps_nil
  intro own133 a133 w133 hd133 hz133 hk133 hf133 hE133
  have e133_0 := (hk133 0 rfl).trans e122_0
  have e133_5 := (hk133 5 rfl).trans e122_5
  have e133_6 := (hk133 6 rfl).trans e122_6
  have e133_7 := (hk133 7 rfl).trans e122_7
  obtain ⟨(e133_14 : a133.eval (.tmp 14) = .bool x132), -⟩ := hf133 [52] rfl
  have hX133 := es_ hX122 hE133
  have b133_Ag1_0_0 := RdO.evo rfl hE133 b122_Ag1_0_0
  have b133_mg1_0_1 := MpN.evo rfl hE133 b122_mg1_0_1
  have b133_Ag1_0_2 := RdO.evo rfl hE133 b122_Ag1_0_2
  have b133_gg1_0 := be_ hE133 b122_gg1_0
  have b133_Ag1_1 := RdO.evo rfl hE133 b122_Ag1_1
  have b133_Ag1_2 := RdO.evo rfl hE133 b122_Ag1_2
  have b133_mg1_3 := MpO.evo (by decide) hE133 b122_mg1_3
  have b133_mg1_4 := MpO.evo (by decide) hE133 b122_mg1_4
  have b133_gg1 := be_ hE133 b122_gg1
  have b133_g116 := be_ hE133 b122_g116
  have b133_g118 := be_ hE133 b122_g118
  have b133_g120 := be_ hE133 b122_g120
  refine fl_cond e133_14 hs (fun c134 hs => ?_) (fun c134 hs => ?_)
  · refine rg0_seq 155 own133 (bz 1) [⟨[], [], [], Fct.val 8 (.int .i64 1)⟩] hz133 hd133 (by kernel_rfl) ?_ ?_
    · refine sc (fun _ _ _ _ _ _ => px (or_assign rfl)) ?_
      exact steps_nil
    intro own135 a135 w135 hd135 hz135 hk135 hf135 hE135
    obtain ⟨(e135_8 : a135.eval (.tmp 8) = .int .i64 1), -⟩ := hf135 [0] rfl
    have hX135 := es_ hX133 hE135
    refine fl_ret ?_
    refine hp124 _ _ _ rfl ?_
    refine hp123 _ _ _ rfl ?_
    obtain rfl := osome hs
    exact hret _ _ _ _ (.inl rfl) hd135 (results1_ rfl (RVal.tmp_ e135_8)) ⟨own135, rfl, hX135⟩
  obtain ⟨r136, hr136, hs⟩ := obind hs
  obtain ⟨r137, hr137, hs⟩ := obind hs
  refine rg_draw_seq g_mixed (n := 155) (rs := []) (own0 := own133) (K := []) (bs := [0, 1, 3, 7, 0, 16, 0, 64, 255, 511, 1023, 2047, 4095, 8191, 16383, 2047, 34815, 2047, 133119, 524287, 1048575, 2097151, 4194303]) (ds := [⟨[], [0], [], Fct.val 68 (.pointer (some ⟨gg1, 0, none⟩))⟩,     ⟨[0], [], [], Fct.val 69 (.pointer (some ⟨gg1, 0, none⟩))⟩,     ⟨[1], [], [], Fct.val 70 (.pointer (some ⟨gg1, 1, none⟩))⟩,     ⟨[2], [], [], Fct.val 71 (.slice Ag1_1 g1.2.1.length cg1_1)⟩,     ⟨[], [5], [], Fct.val 72 (.pointer (some ⟨g116, 0, none⟩))⟩,     ⟨[4], [], [], Fct.val 73 (.int .i64 x2.1)⟩,     ⟨[], [7], [], Fct.val 74 (.pointer (some ⟨g120, 0, none⟩))⟩,     ⟨[6], [], [], Fct.val 75 (.int .i64 c4.1)⟩,     ⟨[3, 5, 7], [], [], Fct.val 76 (.bool r136)⟩,     ⟨[8], [], [], Fct.val 77 (.bool (!r136))⟩,     ⟨[9], [], [], Fct.val 78 (.bool (!r136))⟩,     ⟨[10], [0], [], Fct.cond (!(!r136)) (some 79) (Fct.val 79 (.pointer (some ⟨gg1, 0, none⟩)))⟩,     ⟨[10, 11], [], [], Fct.cond (!(!r136)) (some 80) (Fct.val 80 (.pointer (some ⟨gg1, 0, none⟩)))⟩,     ⟨[10, 12], [], [], Fct.cond (!(!r136)) (some 81) (Fct.val 81 (.pointer (some ⟨gg1, 1, none⟩)))⟩,     ⟨[10, 13], [], [], Fct.cond (!(!r136)) (some 82) (Fct.val 82 (.slice Ag1_1 g1.2.1.length cg1_1))⟩,     ⟨[10], [5], [], Fct.cond (!(!r136)) (some 83) (Fct.val 83 (.pointer (some ⟨g116, 1, none⟩)))⟩,     ⟨[10, 15], [], [], Fct.cond (!(!r136)) (some 84) (Fct.val 84 (.int .i64 x2.2))⟩,     ⟨[10], [7], [], Fct.cond (!(!r136)) (some 85) (Fct.val 85 (.pointer (some ⟨g120, 1, none⟩)))⟩,     ⟨[10, 17], [], [], Fct.cond (!(!r136)) (some 86) (Fct.val 86 (.int .i64 c4.2))⟩,     ⟨[10, 14, 16, 18], [], [], Fct.cond (!(!r136)) (some 87) (Fct.val 87 (.bool r137))⟩,     ⟨[10, 19], [], [], Fct.cond (!(!r136)) (some 88) (Fct.val 88 (.bool (!r137)))⟩,     ⟨[10, 20], [], [], Fct.val 89 (.bool ((!r136) || (!r137)))⟩,     ⟨[21], [], [], Fct.val 67 (.bool ((!r136) || (!r137)))⟩]) (by kernel_rfl) hz133 hd133 nm_ ?_ ?_
  · refine sc (fun _ _ _ _ s _ => px (or_move (s.1.trans e133_0))) ?_
    refine sc (fun _ _ _ f _ _ => px (or_k [(68, .pointer (some ⟨gg1, 0, none⟩))] rfl rfl ⟨f.1, trivial⟩ (by kernel_rfl))) ?_
    refine sc (fun _ _ _ f _ _ => px (or_field fo77_1 f.1 (by rfl))) ?_
    refine sc (fun _ _ _ f _ hE => px (or_load1 to22 f.1 (Blk.at_ (be_ hE b133_gg1).2 1 rfl))) ?_
    refine sc (fun _ _ _ _ s _ => px (or_field fo25_0 (s.1.trans e133_5) (by rfl))) ?_
    refine sc (fun _ _ _ f _ hE => px (or_load1 to3 f.1 (Blk.at_ (be_ hE b133_g116).2 0 rfl))) ?_
    refine sc (fun _ _ _ _ s _ => px (or_field fo25_0 (s.1.trans e133_7) (by rfl))) ?_
    refine sc (fun _ _ _ f _ hE => px (or_load1 to3 f.1 (Blk.at_ (be_ hE b133_g120).2 0 rfl))) ?_
    refine sc (fun _ _ _ f _ hE => px (or_call cf33 (args3 f.1 f.2.1 f.2.2.1) (order_Common_w _ g1.2.1 Ag1_1 cg1_1 x2.1 c4.1 (RdO.zero (RdO.evo rfl hE b133_Ag1_1)) r136 hr136) post_val)) ?_
    refine sc (fun _ _ _ f _ _ => px (or_not f.1 rfl)) ?_
    refine sc (fun _ _ _ f _ _ => px (or_move f.1)) ?_
    refine sc (fun _ _ _ f s _ => sg_f rfl rfl rfl f.1 (fun hg => or_move (s.1.trans e133_0))) ?_
    refine sc (fun _ _ _ f _ _ => sg_f rfl rfl rfl f.1 (fun hg => or_k [(79, .pointer (some ⟨gg1, 0, none⟩))] rfl rfl ⟨(f.2.1.1 hg), trivial⟩ (by kernel_rfl))) ?_
    refine sc (fun _ _ _ f _ _ => sg_f rfl rfl rfl f.1 (fun hg => or_field fo77_1 (f.2.1.1 hg) (by rfl))) ?_
    refine sc (fun _ _ _ f _ hE => sg_f rfl rfl rfl f.1 (fun hg => or_load1 to22 (f.2.1.1 hg) (Blk.at_ (be_ hE b133_gg1).2 1 rfl))) ?_
    refine sc (fun _ _ _ f s _ => sg_f rfl rfl rfl f.1 (fun hg => or_field fo25_1 (s.1.trans e133_5) (by rfl))) ?_
    refine sc (fun _ _ _ f _ hE => sg_f rfl rfl rfl f.1 (fun hg => or_load1 to3 (f.2.1.1 hg) (Blk.at_ (be_ hE b133_g116).2 1 rfl))) ?_
    refine sc (fun _ _ _ f s _ => sg_f rfl rfl rfl f.1 (fun hg => or_field fo25_1 (s.1.trans e133_7) (by rfl))) ?_
    refine sc (fun _ _ _ f _ hE => sg_f rfl rfl rfl f.1 (fun hg => or_load1 to3 (f.2.1.1 hg) (Blk.at_ (be_ hE b133_g120).2 1 rfl))) ?_
    refine sc (fun _ _ _ f _ hE => sg_f rfl rfl rfl f.1 (fun hg => or_call cf33 (args3 (f.2.1.1 hg) (f.2.2.1.1 hg) (f.2.2.2.1.1 hg)) (order_Common_w _ g1.2.1 Ag1_1 cg1_1 x2.2 c4.2 (RdO.zero (RdO.evo rfl hE b133_Ag1_1)) r137 (gd_t hr137 hg)) post_val)) ?_
    refine sc (fun _ _ _ f _ _ => sg_f rfl rfl rfl f.1 (fun hg => or_not (f.2.1.1 hg) rfl)) ?_
    refine sc (fun _ _ _ f _ _ => px (or_or f.1 rfl (fun hx => f.2.1.1 hx) rfl)) ?_
    refine sc (fun _ _ _ f _ _ => px (or_assign f.1)) ?_
    exact steps_nil
  intro own138 a138 w138 hd138 hz138 hk138 hf138 hE138
  have e138_0 := (hk138 0 rfl).trans e133_0
  have e138_5 := (hk138 5 rfl).trans e133_5
  have e138_6 := (hk138 6 rfl).trans e133_6
  have e138_7 := (hk138 7 rfl).trans e133_7
  obtain ⟨(e138_67 : a138.eval (.tmp 67) = .bool ((!r136) || (!r137))), -⟩ := hf138 [22] rfl
  have hX138 := es_ hX133 hE138
  have b138_Ag1_0_0 := RdO.evo rfl hE138 b133_Ag1_0_0
  have b138_mg1_0_1 := MpN.evo rfl hE138 b133_mg1_0_1
  have b138_Ag1_0_2 := RdO.evo rfl hE138 b133_Ag1_0_2
  have b138_gg1_0 := be_ hE138 b133_gg1_0
  have b138_Ag1_1 := RdO.evo rfl hE138 b133_Ag1_1
  have b138_Ag1_2 := RdO.evo rfl hE138 b133_Ag1_2
  have b138_mg1_3 := MpO.evo (by decide) hE138 b133_mg1_3
  have b138_mg1_4 := MpO.evo (by decide) hE138 b133_mg1_4
  have b138_gg1 := be_ hE138 b133_gg1
  have b138_g116 := be_ hE138 b133_g116
  have b138_g118 := be_ hE138 b133_g118
  have b138_g120 := be_ hE138 b133_g120
  refine fl_cond e138_67 hs (fun c139 hs => ?_) (fun c139 hs => ?_)
  · refine rg0_seq 155 own138 (bz 1) [⟨[], [], [], Fct.val 8 (.int .i64 2)⟩] hz138 hd138 (by kernel_rfl) ?_ ?_
    · refine sc (fun _ _ _ _ _ _ => px (or_assign rfl)) ?_
      exact steps_nil
    intro own140 a140 w140 hd140 hz140 hk140 hf140 hE140
    obtain ⟨(e140_8 : a140.eval (.tmp 8) = .int .i64 2), -⟩ := hf140 [0] rfl
    have hX140 := es_ hX138 hE140
    refine fl_ret ?_
    refine hp124 _ _ _ rfl ?_
    refine hp123 _ _ _ rfl ?_
    obtain rfl := osome hs
    exact hret _ _ _ _ (.inl rfl) hd140 (results1_ rfl (RVal.tmp_ e140_8)) ⟨own140, rfl, hX140⟩
  obtain ⟨r141, hr141, hs⟩ := obind hs
  refine rg_draw_seq g_mixed (n := 155) (rs := []) (own0 := own138) (K := []) (bs := [0, 1, 3, 7, 0, 0, 48, 127, 255]) (ds := [⟨[], [0], [], Fct.val 91 (.pointer (some ⟨gg1, 0, none⟩))⟩,     ⟨[0], [], [], Fct.val 92 (.pointer (some ⟨gg1, 0, none⟩))⟩,     ⟨[1], [], [], Fct.val 93 (.pointer (some ⟨gg1, 4, none⟩))⟩,     ⟨[2], [], [], Fct.val 94 (.map (some mg1_4))⟩,     ⟨[], [5], [], Fct.val 95 (.agg #[.int .i64 x2.1, .int .i64 x2.2])⟩,     ⟨[], [7], [], Fct.val 96 (.agg #[.int .i64 c4.1, .int .i64 c4.2])⟩,     ⟨[4, 5], [], [], Fct.val 97 (.agg #[.int .i64 r141.1.1, .int .i64 r141.1.2, .int .i64 r141.2.1, .int .i64 r141.2.2])⟩,     ⟨[3, 6], [], [], Fct.val 98 (.bool ((lkM g1.2.2.2.2 r141).getD false))⟩,     ⟨[7], [], [], Fct.val 90 (.bool ((lkM g1.2.2.2.2 r141).getD false))⟩]) (by kernel_rfl) hz138 hd138 nm_ ?_ ?_
  · refine sc (fun _ _ _ _ s _ => px (or_move (s.1.trans e138_0))) ?_
    refine sc (fun _ _ _ f _ _ => px (or_k [(91, .pointer (some ⟨gg1, 0, none⟩))] rfl rfl ⟨f.1, trivial⟩ (by kernel_rfl))) ?_
    refine sc (fun _ _ _ f _ _ => px (or_field fo77_4 f.1 (by rfl))) ?_
    refine sc (fun _ _ _ f _ hE => px (or_load1 to75 f.1 (Blk.at_ (be_ hE b138_gg1).2 4 rfl))) ?_
    refine sc (fun _ _ _ _ s hE => px (or_load (l := [.int .i64 x2.1, .int .i64 x2.2]) ta25 (s.1.trans e138_5) (Blk.cellsFrom (be_ hE b138_g116).2 0 rfl) rfl)) ?_
    refine sc (fun _ _ _ _ s hE => px (or_load (l := [.int .i64 c4.1, .int .i64 c4.2]) ta25 (s.1.trans e138_7) (Blk.cellsFrom (be_ hE b138_g120).2 0 rfl) rfl)) ?_
    refine sc (fun _ _ _ f _ _ => px (or_call cf30 (args2 f.1 f.2.1) (guard_between_w _ x2 c4  r141 hr141) post_val)) ?_
    refine sc (fun _ _ _ f _ hE => px (or_lookupE (kf := vv81) (vf := vv4) (k := r141) (dv := false) ko81 tm75 tzv75 f.1 f.2.1 (MpO.evo (by decide) hE b138_mg1_4) rfl)) ?_
    refine sc (fun _ _ _ f _ _ => px (or_assign f.1)) ?_
    exact steps_nil
  intro own142 a142 w142 hd142 hz142 hk142 hf142 hE142
  have e142_0 := (hk142 0 rfl).trans e138_0
  have e142_5 := (hk142 5 rfl).trans e138_5
  have e142_6 := (hk142 6 rfl).trans e138_6
  have e142_7 := (hk142 7 rfl).trans e138_7
  obtain ⟨(e142_90 : a142.eval (.tmp 90) = .bool ((lkM g1.2.2.2.2 r141).getD false)), -⟩ := hf142 [8] rfl
  have hX142 := es_ hX138 hE142
  have b142_Ag1_0_0 := RdO.evo rfl hE142 b138_Ag1_0_0
  have b142_mg1_0_1 := MpN.evo rfl hE142 b138_mg1_0_1
  have b142_Ag1_0_2 := RdO.evo rfl hE142 b138_Ag1_0_2
  have b142_gg1_0 := be_ hE142 b138_gg1_0
  have b142_Ag1_1 := RdO.evo rfl hE142 b138_Ag1_1
  have b142_Ag1_2 := RdO.evo rfl hE142 b138_Ag1_2
  have b142_mg1_3 := MpO.evo (by decide) hE142 b138_mg1_3
  have b142_mg1_4 := MpO.evo (by decide) hE142 b138_mg1_4
  have b142_gg1 := be_ hE142 b138_gg1
  have b142_g116 := be_ hE142 b138_g116
  have b142_g118 := be_ hE142 b138_g118
  have b142_g120 := be_ hE142 b138_g120
  refine fl_cond e142_90 hs (fun c143 hs => ?_) (fun c143 hs => ?_)
  · refine rg0_seq 155 own142 (bz 1) [⟨[], [], [], Fct.val 8 (.int .i64 3)⟩] hz142 hd142 (by kernel_rfl) ?_ ?_
    · refine sc (fun _ _ _ _ _ _ => px (or_assign rfl)) ?_
      exact steps_nil
    intro own144 a144 w144 hd144 hz144 hk144 hf144 hE144
    obtain ⟨(e144_8 : a144.eval (.tmp 8) = .int .i64 3), -⟩ := hf144 [0] rfl
    have hX144 := es_ hX142 hE144
    refine fl_ret ?_
    refine hp124 _ _ _ rfl ?_
    refine hp123 _ _ _ rfl ?_
    obtain rfl := osome hs
    exact hret _ _ _ _ (.inl rfl) hd144 (results1_ rfl (RVal.tmp_ e144_8)) ⟨own144, rfl, hX144⟩
  refine fl_skip ?_
  refine hn124 _ _ ?_
  refine hn123 _ _ ?_
  obtain ⟨r147, hr147, hs⟩ := obind hs
  refine rg_plain_seq (n := 155) (rs := []) (own0 := own142) (K := [149]) (bs := [0, 0, 0, 7, 15, 31, 63, 63, 0, 383, 1023]) (ds := [⟨[], [5], [], Fct.val 100 (.agg #[.int .i64 x2.1, .int .i64 x2.2])⟩,     ⟨[], [6], [], Fct.val 101 (.agg #[.int .i64 b3.1, .int .i64 b3.2])⟩,     ⟨[], [7], [], Fct.val 102 (.agg #[.int .i64 c4.1, .int .i64 c4.2])⟩,     ⟨[0, 1, 2], [], [], Fct.row 146 [] 103 25 R25 [x2, b3, c4]⟩,     ⟨[3], [], [], Fct.val 104 (.tuple #[.agg #[.int .i64 r147.1.1.1, .int .i64 r147.1.1.2, .int .i64 r147.1.2.1, .int .i64 r147.1.2.2], .bool r147.2])⟩,     ⟨[4], [], [], Fct.val 99 (.tuple #[.agg #[.int .i64 r147.1.1.1, .int .i64 r147.1.1.2, .int .i64 r147.1.2.1, .int .i64 r147.1.2.2], .bool r147.2])⟩,     ⟨[5], [], [], Fct.val 105 (.agg #[.int .i64 r147.1.1.1, .int .i64 r147.1.1.2, .int .i64 r147.1.2.1, .int .i64 r147.1.2.2])⟩,     ⟨[5], [], [], Fct.val 106 (.bool r147.2)⟩,     ⟨[], [], [], Fct.blk 149 9 (fun g => .pointer (some ⟨g, 0, none⟩)) 80 #[.int .i64 0, .int .i64 0, .int .i64 0, .int .i64 0]⟩,     ⟨[8, 6], [], [149], Fct.blk 150 9 (fun g => .pointer (some ⟨g, 0, none⟩)) 80 #[.int .i64 r147.1.1.1, .int .i64 r147.1.1.2, .int .i64 r147.1.2.1, .int .i64 r147.1.2.2]⟩,     ⟨[7], [], [], Fct.val 10 (.bool r147.2)⟩]) (by kernel_rfl) hz142 hd142 nm_ ?_ ?_
  · refine sc (fun _ _ _ _ s hE => px (or_load (l := [.int .i64 x2.1, .int .i64 x2.2]) ta25 (s.1.trans e142_5) (Blk.cellsFrom (be_ hE b142_g116).2 0 rfl) rfl)) ?_
    refine sc (fun _ _ _ _ s hE => px (or_load (l := [.int .i64 b3.1, .int .i64 b3.2]) ta25 (s.1.trans e142_6) (Blk.cellsFrom (be_ hE b142_g118).2 0 rfl) rfl)) ?_
    refine sc (fun _ _ _ _ s hE => px (or_load (l := [.int .i64 c4.1, .int .i64 c4.2]) ta25 (s.1.trans e142_7) (Blk.cellsFrom (be_ hE b142_g120).2 0 rfl) rfl)) ?_
    refine sc (fun _ _ _ f _ _ => px (or_lit (lab := 146) (e := 25) (cs := #[.int .i64 x2.1, .int .i64 x2.2, .int .i64 b3.1, .int .i64 b3.2, .int .i64 c4.1, .int .i64 c4.2]) (F := E25) (or_new [(100, .agg #[.int .i64 x2.1, .int .i64 x2.2]), (101, .agg #[.int .i64 b3.1, .int .i64 b3.2]), (102, .agg #[.int .i64 c4.1, .int .i64 c4.2])] rfl rfl ⟨f.1, f.2.1, f.2.2.1, trivial⟩ (by kernel_rfl)) rfl rfl (show 3 ≤ maxLen by decide))) ?_
    refine sc (fun own a wx hf hsl hE => ?_) ?_
    · obtain ⟨⟨⟨A145, cA145⟩, f_103, b_A145⟩, -⟩ := hf
      exact px (or_call cf34 (args1 f_103) (rows_Of_w _ [x2, b3, c4] A145 cA145 (RdO.zero (RwO.rd b_A145)) r147 hr147) post_val)
    refine sc (fun _ _ _ f _ _ => px (or_move f.1)) ?_
    refine sc (fun _ _ _ f _ _ => px (or_k [(99, .tuple #[.agg #[.int .i64 r147.1.1.1, .int .i64 r147.1.1.2, .int .i64 r147.1.2.1, .int .i64 r147.1.2.2], .bool r147.2])] rfl rfl ⟨f.1, trivial⟩ (by kernel_rfl))) ?_
    refine sc (fun _ _ _ f _ _ => px (or_k [(99, .tuple #[.agg #[.int .i64 r147.1.1.1, .int .i64 r147.1.1.2, .int .i64 r147.1.2.1, .int .i64 r147.1.2.2], .bool r147.2])] rfl rfl ⟨f.1, trivial⟩ (by kernel_rfl))) ?_
    refine sc (fun _ _ _ _ _ _ => px (or_new [] rfl rfl trivial (by kernel_rfl))) ?_
    refine sc (fun own a wx hf hsl hE => ?_) ?_
    · obtain ⟨⟨g148, f_9, b_g148⟩, f_105, -⟩ := hf
      exact px (or_store (l := #[.int .i64 r147.1.1.1, .int .i64 r147.1.1.2, .int .i64 r147.1.2.1, .int .i64 r147.1.2.2]) (lab := 149) (lab2 := 150) ts80 f_9 f_105 b_g148 (by simp) (by kernel_rfl) (mem_of rfl) (by decide) (by kernel_rfl) (fun own' a' w' ha hb => ⟨_, (ha 9).trans f_9, hb⟩))
    refine sc (fun _ _ _ f _ _ => px (or_assign f.1)) ?_
    exact steps_nil
  intro own151 a151 w151 hd151 hz151 hk151 hf151 hE151
  have e151_0 := (hk151 0 rfl).trans e142_0
  have e151_5 := (hk151 5 rfl).trans e142_5
  have e151_6 := (hk151 6 rfl).trans e142_6
  have e151_7 := (hk151 7 rfl).trans e142_7
  obtain ⟨⟨g148, (e151_9 : a151.eval (.tmp 9) = .pointer (some ⟨g148, 0, none⟩)), (b151_g148 : BlkO own151 150 w151 g148 80 #[.int .i64 r147.1.1.1, .int .i64 r147.1.1.2, .int .i64 r147.1.2.1, .int .i64 r147.1.2.2])⟩, -⟩ := hf151 [9] rfl
  have hX151 := es_ hX142 hE151
  have b151_Ag1_0_0 := RdO.evo rfl hE151 b142_Ag1_0_0
  have b151_mg1_0_1 := MpN.evo rfl hE151 b142_mg1_0_1
  have b151_Ag1_0_2 := RdO.evo rfl hE151 b142_Ag1_0_2
  have b151_gg1_0 := be_ hE151 b142_gg1_0
  have b151_Ag1_1 := RdO.evo rfl hE151 b142_Ag1_1
  have b151_Ag1_2 := RdO.evo rfl hE151 b142_Ag1_2
  have b151_mg1_3 := MpO.evo (by decide) hE151 b142_mg1_3
  have b151_mg1_4 := MpO.evo (by decide) hE151 b142_mg1_4
  have b151_gg1 := be_ hE151 b142_gg1
  have b151_g116 := be_ hE151 b142_g116
  have b151_g118 := be_ hE151 b142_g118
  have b151_g120 := be_ hE151 b142_g120
  refine fl_seq (fun Q152 hn152 hp152 => ?_)
  obtain ⟨r153, hr153, hs⟩ := obind hs
  refine rg_draw_seq g_mixed (n := 155) (rs := []) (own0 := own151) (K := []) (bs := [0, 1, 3, 7, 15, 0, 63, 127, 0]) (ds := [⟨[], [0], [], Fct.val 107 (.pointer (some ⟨gg1, 0, none⟩))⟩,     ⟨[0], [], [], Fct.val 108 (.pointer (some ⟨gg1, 0, none⟩))⟩,     ⟨[1], [], [], Fct.val 109 (.pointer (some ⟨gg1, 0, none⟩))⟩,     ⟨[2], [], [], Fct.val 110 (.pointer (some ⟨gg1, 0, none⟩))⟩,     ⟨[3], [], [], Fct.val 111 (.pointer (some ⟨gg1_0, 0, none⟩))⟩,     ⟨[], [9], [], Fct.val 112 (.agg #[.int .i64 r147.1.1.1, .int .i64 r147.1.1.2, .int .i64 r147.1.2.1, .int .i64 r147.1.2.2])⟩,     ⟨[4, 5], [], [], Fct.row 155 [] 113 3 R3 r153⟩,     ⟨[6], [], [], Fct.val 114 (.int .i64 (r153.length : Int))⟩,     ⟨[], [], [], Fct.val 115 (.int .i64 0)⟩]) (by kernel_rfl) hz151 hd151 nm_ ?_ ?_
  · refine sc (fun _ _ _ _ s _ => px (or_move (s.1.trans e151_0))) ?_
    refine sc (fun _ _ _ f _ _ => px (or_k [(107, .pointer (some ⟨gg1, 0, none⟩))] rfl rfl ⟨f.1, trivial⟩ (by kernel_rfl))) ?_
    refine sc (fun _ _ _ f _ _ => px (or_field fo77_0 f.1 (by rfl))) ?_
    refine sc (fun _ _ _ f _ _ => px (or_field fo73_0 f.1 (by rfl))) ?_
    refine sc (fun _ _ _ f _ hE => px (or_load1 to70 f.1 (Blk.at_ (be_ hE b151_gg1).2 0 rfl))) ?_
    refine sc (fun _ _ _ _ s hE => px (or_load (l := [.int .i64 r147.1.1.1, .int .i64 r147.1.1.2, .int .i64 r147.1.2.1, .int .i64 r147.1.2.2]) ta80 (s.1.trans e151_9) (Blk.cellsFrom (be_ hE b151_g148).2 0 rfl) rfl)) ?_
    refine sc (fun _ _ _ f _ hE => px (or_call cf35 (args2 f.1 f.2.1) (rows_Index_Find_w _ g1.1 gg1_0 tg1_0 Ag1_0_0 cg1_0_0 mg1_0_1 Ag1_0_2 cg1_0_2 r147.1 (BlkO.zero_ (be_ hE b151_gg1_0)) (RdO.zero (RdO.evo rfl hE b151_Ag1_0_0)) (MpN.zero_ (MpN.evo rfl hE b151_mg1_0_1)) (RdO.zero (RdO.evo rfl hE b151_Ag1_0_2)) r153 hr153) (post_row (m' := (look0 [(1, 155)])) (.inl (Rep.fl_flat _)) rfl rfl (fun _ => rfl)))) ?_
    refine sc (fun own a wx hf hsl hE => ?_) ?_
    · obtain ⟨⟨⟨A154, cA154⟩, f_113, b_A154⟩, -⟩ := hf
      exact px (or_len tu22 f_113 rfl)
    refine sc (fun _ _ _ _ _ _ => px (or_move rfl)) ?_
    exact steps_nil
  intro own156 a156 w156 hd156 hz156 hk156 hf156 hE156
  have e156_0 := (hk156 0 rfl).trans e151_0
  have e156_5 := (hk156 5 rfl).trans e151_5
  have e156_6 := (hk156 6 rfl).trans e151_6
  have e156_7 := (hk156 7 rfl).trans e151_7
  obtain ⟨⟨⟨A154, cA154⟩, (e156_113 : a156.eval (.tmp 113) = .slice A154 r153.length cA154), (b156_A154 : RwO own156 155 [] w156 3 R3 A154 cA154 r153)⟩, (e156_114 : a156.eval (.tmp 114) = .int .i64 (r153.length : Int)), (e156_115 : a156.eval (.tmp 115) = .int .i64 0), -⟩ := hf156 [6, 7, 8] rfl
  have hX156 := es_ hX151 hE156
  have b156_Ag1_0_0 := RdO.evo rfl hE156 b151_Ag1_0_0
  have b156_mg1_0_1 := MpN.evo rfl hE156 b151_mg1_0_1
  have b156_Ag1_0_2 := RdO.evo rfl hE156 b151_Ag1_0_2
  have b156_gg1_0 := be_ hE156 b151_gg1_0
  have b156_Ag1_1 := RdO.evo rfl hE156 b151_Ag1_1
  have b156_Ag1_2 := RdO.evo rfl hE156 b151_Ag1_2
  have b156_mg1_3 := MpO.evo (by decide) hE156 b151_mg1_3
  have b156_mg1_4 := MpO.evo (by decide) hE156 b151_mg1_4
  have b156_gg1 := be_ hE156 b151_gg1
  have b156_g116 := be_ hE156 b151_g116
  have b156_g118 := be_ hE156 b151_g118
  have b156_g120 := be_ hE156 b151_g120
  refine fl_block (fun Q157 hn157 hx157 hp157 => ?_)
  refine fl_loop (body := (fun s => guard_Guard_Why_b1 g1 x2 b3 c4 r153 s)) (z := r) (show loopO _ _ = _ from hs) (fun (x178 : Int) a wx => ∃ (ox : Own), a.defers = [] ∧ a.tmps.size = 155 ∧ a.eval (.tmp 0) = .pointer (some ⟨gg1, 0, none⟩) ∧ a.eval (.tmp 5) = .pointer (some ⟨g116, 0, none⟩) ∧ a.eval (.tmp 6) = .pointer (some ⟨g118, 0, none⟩) ∧ a.eval (.tmp 7) = .pointer (some ⟨g120, 0, none⟩) ∧ a.eval (.tmp 113) = .slice A154 r153.length cA154 ∧ a.eval (.tmp 114) = .int .i64 (r153.length : Int) ∧ a.eval (.tmp 115) = .int .i64 x178 ∧ Evo [] (fun _ => 0) ox w wx ∧ BlkO ox 0 wx gg1 tg1 #[.pointer (some ⟨gg1_0, 0, none⟩), .slice Ag1_1 g1.2.1.length cg1_1, .slice Ag1_2 g1.2.2.1.length cg1_2, .map (some mg1_3), .map (some mg1_4)] ∧ BlkO ox 0 wx gg1_0 tg1_0 #[.slice Ag1_0_0 g1.1.1.length cg1_0_0, .map (some mg1_0_1), .slice Ag1_0_2 g1.1.2.2.length cg1_0_2] ∧ RdO ox [0] wx R80 Ag1_0_0 cg1_0_0 g1.1.1 ∧ MpN ox 0 0 [0] wx mg1_0_1 vv111 3 R3 g1.1.2.1 ∧ RdO ox [0] wx R3 Ag1_0_2 cg1_0_2 g1.1.2.2 ∧ RdO ox [0] wx R3 Ag1_1 cg1_1 g1.2.1 ∧ RdO ox [0] wx R25 Ag1_2 cg1_2 g1.2.2.1 ∧ MpO ox 0 wx mg1_3 vv25 vv4 g1.2.2.2.1 ∧ MpO ox 0 wx mg1_4 vv81 vv4 g1.2.2.2.2 ∧ BlkO ox 117 wx g116 25 #[.int .i64 x2.1, .int .i64 x2.2] ∧ BlkO ox 119 wx g118 25 #[.int .i64 b3.1, .int .i64 b3.2] ∧ BlkO ox 121 wx g120 25 #[.int .i64 c4.1, .int .i64 c4.2] ∧ RwO ox 155 [] wx 3 R3 A154 cA154 r153) ?_ ?_
  · exact ⟨own156, hd156, hz156, e156_0, e156_5, e156_6, e156_7, e156_113, e156_114, e156_115, hX156, b156_gg1, b156_gg1_0, b156_Ag1_0_0, b156_mg1_0_1, b156_Ag1_0_2, b156_Ag1_1, b156_Ag1_2, b156_mg1_3, b156_mg1_4, b156_g116, b156_g118, b156_g120, b156_A154⟩
  · rintro x178 zz199 a199 w199 ⟨own199, hd200, hz200, e200_0, e200_5, e200_6, e200_7, e200_113, e200_114, e200_115, hE200, b200_gg1, b200_gg1_0, b200_Ag1_0_0, b200_mg1_0_1, b200_Ag1_0_2, b200_Ag1_1, b200_Ag1_2, b200_mg1_3, b200_mg1_4, b200_g116, b200_g118, b200_g120, b200_A154⟩ hs Q199 hn199 hp199 hz199
    have hs : guard_Guard_Why_b1 g1 x2 b3 c4 r153 x178 = some zz199 := hs
    refine rg0_seq 155 own199 (bz 1) [⟨[], [115, 114], [], Fct.val 116 (.bool (decide (x178 < (r153.length : Int))))⟩] hz200 hd200 (by kernel_rfl) ?_ ?_
    · refine sc (fun _ _ _ _ s _ => px (or_lss (s.1.trans e200_115) (s.2.1.trans e200_114) rfl)) ?_
      exact steps_nil
    intro own201 a201 w201 hd201 hz201 hk201 hf201 hE201
    have e201_0 := (hk201 0 rfl).trans e200_0
    have e201_5 := (hk201 5 rfl).trans e200_5
    have e201_6 := (hk201 6 rfl).trans e200_6
    have e201_7 := (hk201 7 rfl).trans e200_7
    have e201_113 := (hk201 113 rfl).trans e200_113
    have e201_114 := (hk201 114 rfl).trans e200_114
    have e201_115 := (hk201 115 rfl).trans e200_115
    obtain ⟨(e201_116 : a201.eval (.tmp 116) = .bool (decide (x178 < (r153.length : Int)))), -⟩ := hf201 [0] rfl
    have hX201 := es_ hE200 hE201
    have b201_gg1 := be_ hE201 b200_gg1
    have b201_gg1_0 := be_ hE201 b200_gg1_0
    have b201_Ag1_0_0 := RdO.evo rfl hE201 b200_Ag1_0_0
    have b201_mg1_0_1 := MpN.evo rfl hE201 b200_mg1_0_1
    have b201_Ag1_0_2 := RdO.evo rfl hE201 b200_Ag1_0_2
    have b201_Ag1_1 := RdO.evo rfl hE201 b200_Ag1_1
    have b201_Ag1_2 := RdO.evo rfl hE201 b200_Ag1_2
    have b201_mg1_3 := MpO.evo (by decide) hE201 b200_mg1_3
    have b201_mg1_4 := MpO.evo (by decide) hE201 b200_mg1_4
    have b201_g116 := be_ hE201 b200_g116
    have b201_g118 := be_ hE201 b200_g118
    have b201_g120 := be_ hE201 b200_g120
    have b201_A154 := re_ hE201 b200_A154
    refine fl_seq (fun Q202 hn202 hp202 => ?_)
    refine fl_cond e201_116 hs (fun c203 hs => ?_) (fun c203 hs => ?_)
    · refine fl_skip ?_
      refine hn202 _ _ ?_
      refine fl_seq (fun Q204 hn204 hp204 => ?_)
      refine fl_block (fun Q205 hn205 hx205 hp205 => ?_)
      obtain ⟨x206, hx206, hs⟩ := obind hs
      refine rg0_seq 155 own201 (bz 3) [⟨[], [113, 115], [], Fct.val 117 (.pointer (some ((adr A154).add ((x178 : Int).toNat * R3.s))))⟩,     ⟨[0], [], [], Fct.val 118 (.int .i64 x206)⟩,     ⟨[1], [], [], Fct.val 12 (.int .i64 x206)⟩] hz201 hd201 (by kernel_rfl) ?_ ?_
      · refine sc (fun _ _ _ _ s _ => px (or_index (R := R3) (l := r153) tl22 (s.1.trans e201_113) (s.2.1.trans e201_115) (RdO.some_ (RwO.rd b201_A154) hx206) hx206)) ?_
        refine sc (fun _ _ _ f _ hE => px (or_load1 to3 f.1 (CellsAt.zero (RdO.cells (F := E3) (RwO.rd (re_ hE b201_A154)) hx206) rfl))) ?_
        refine sc (fun _ _ _ f _ _ => px (or_assign f.1)) ?_
        exact steps_nil
      intro own207 a207 w207 hd207 hz207 hk207 hf207 hE207
      have e207_0 := (hk207 0 rfl).trans e201_0
      have e207_5 := (hk207 5 rfl).trans e201_5
      have e207_6 := (hk207 6 rfl).trans e201_6
      have e207_7 := (hk207 7 rfl).trans e201_7
      have e207_113 := (hk207 113 rfl).trans e201_113
      have e207_114 := (hk207 114 rfl).trans e201_114
      have e207_115 := (hk207 115 rfl).trans e201_115
      obtain ⟨(e207_12 : a207.eval (.tmp 12) = .int .i64 x206), -⟩ := hf207 [2] rfl
      have hX207 := es_ hX201 hE207
      have b207_gg1 := be_ hE207 b201_gg1
      have b207_gg1_0 := be_ hE207 b201_gg1_0
      have b207_Ag1_0_0 := RdO.evo rfl hE207 b201_Ag1_0_0
      have b207_mg1_0_1 := MpN.evo rfl hE207 b201_mg1_0_1
      have b207_Ag1_0_2 := RdO.evo rfl hE207 b201_Ag1_0_2
      have b207_Ag1_1 := RdO.evo rfl hE207 b201_Ag1_1
      have b207_Ag1_2 := RdO.evo rfl hE207 b201_Ag1_2
      have b207_mg1_3 := MpO.evo (by decide) hE207 b201_mg1_3
      have b207_mg1_4 := MpO.evo (by decide) hE207 b201_mg1_4
      have b207_g116 := be_ hE207 b201_g116
      have b207_g118 := be_ hE207 b201_g118
      have b207_g120 := be_ hE207 b201_g120
      have b207_A154 := re_ hE207 b201_A154
      obtain ⟨x208, hx208, hs⟩ := obind hs
      refine rg_plain_seq (n := 155) (rs := []) (own0 := own207) (K := [210]) (bs := [0, 1, 3, 7, 0, 31, 63, 0, 255]) (ds := [⟨[], [0], [], Fct.val 119 (.pointer (some ⟨gg1, 0, none⟩))⟩,     ⟨[0], [], [], Fct.val 120 (.pointer (some ⟨gg1, 0, none⟩))⟩,     ⟨[1], [], [], Fct.val 121 (.pointer (some ⟨gg1, 2, none⟩))⟩,     ⟨[2], [], [], Fct.val 122 (.slice Ag1_2 g1.2.2.1.length cg1_2)⟩,     ⟨[], [12], [], Fct.val 123 (.int .i64 x206)⟩,     ⟨[3, 4], [], [], Fct.val 124 (.pointer (some ((adr Ag1_2).add ((x206 : Int).toNat * R25.s))))⟩,     ⟨[5], [], [], Fct.val 125 (.agg #[.int .i64 x208.1, .int .i64 x208.2])⟩,     ⟨[], [], [], Fct.blk 210 13 (fun g => .pointer (some ⟨g, 0, none⟩)) 25 #[.int .i64 0, .int .i64 0]⟩,     ⟨[7, 6], [], [210], Fct.blk 211 13 (fun g => .pointer (some ⟨g, 0, none⟩)) 25 #[.int .i64 x208.1, .int .i64 x208.2]⟩]) (by kernel_rfl) hz207 hd207 nm_ ?_ ?_
      · refine sc (fun _ _ _ _ s _ => px (or_move (s.1.trans e207_0))) ?_
        refine sc (fun _ _ _ f _ _ => px (or_k [(119, .pointer (some ⟨gg1, 0, none⟩))] rfl rfl ⟨f.1, trivial⟩ (by kernel_rfl))) ?_
        refine sc (fun _ _ _ f _ _ => px (or_field fo77_2 f.1 (by rfl))) ?_
        refine sc (fun _ _ _ f _ hE => px (or_load1 to55 f.1 (Blk.at_ (be_ hE b207_gg1).2 2 rfl))) ?_
        refine sc (fun _ _ _ _ s _ => px (or_move (s.1.trans e207_12))) ?_
        refine sc (fun _ _ _ f _ _ => px (or_index (R := R25) (l := g1.2.2.1) tl55 f.1 f.2.1 (RdO.some_ b207_Ag1_2 hx208) hx208)) ?_
        refine sc (fun _ _ _ f _ hE => px (or_load (l := E25.f x208) ta25 f.1 (RdO.cells (F := E25) (RdO.evo rfl hE b207_Ag1_2) hx208) rfl)) ?_
        refine sc (fun _ _ _ _ _ _ => px (or_new [] rfl rfl trivial (by kernel_rfl))) ?_
        refine sc (fun own a wx hf hsl hE => ?_) ?_
        · obtain ⟨⟨g209, f_13, b_g209⟩, f_125, -⟩ := hf
          exact px (or_store (l := #[.int .i64 x208.1, .int .i64 x208.2]) (lab := 210) (lab2 := 211) ts25 f_13 f_125 b_g209 (by simp) (by kernel_rfl) (mem_of rfl) (by decide) (by kernel_rfl) (fun own' a' w' ha hb => ⟨_, (ha 13).trans f_13, hb⟩))
        exact steps_nil
      intro own212 a212 w212 hd212 hz212 hk212 hf212 hE212
      have e212_0 := (hk212 0 rfl).trans e207_0
      have e212_5 := (hk212 5 rfl).trans e207_5
      have e212_6 := (hk212 6 rfl).trans e207_6
      have e212_7 := (hk212 7 rfl).trans e207_7
      have e212_113 := (hk212 113 rfl).trans e207_113
      have e212_114 := (hk212 114 rfl).trans e207_114
      have e212_115 := (hk212 115 rfl).trans e207_115
      obtain ⟨⟨g209, (e212_13 : a212.eval (.tmp 13) = .pointer (some ⟨g209, 0, none⟩)), (b212_g209 : BlkO own212 211 w212 g209 25 #[.int .i64 x208.1, .int .i64 x208.2])⟩, -⟩ := hf212 [8] rfl
      have hX212 := es_ hX207 hE212
      have b212_gg1 := be_ hE212 b207_gg1
      have b212_gg1_0 := be_ hE212 b207_gg1_0
      have b212_Ag1_0_0 := RdO.evo rfl hE212 b207_Ag1_0_0
      have b212_mg1_0_1 := MpN.evo rfl hE212 b207_mg1_0_1
      have b212_Ag1_0_2 := RdO.evo rfl hE212 b207_Ag1_0_2
      have b212_Ag1_1 := RdO.evo rfl hE212 b207_Ag1_1
      have b212_Ag1_2 := RdO.evo rfl hE212 b207_Ag1_2
      have b212_mg1_3 := MpO.evo (by decide) hE212 b207_mg1_3
      have b212_mg1_4 := MpO.evo (by decide) hE212 b207_mg1_4
      have b212_g116 := be_ hE212 b207_g116
      have b212_g118 := be_ hE212 b207_g118
      have b212_g120 := be_ hE212 b207_g120
      have b212_A154 := re_ hE212 b207_A154
      obtain ⟨x213, hx213, hs⟩ := obind hs
      obtain ⟨x214, hx214, hs⟩ := obind hs
      obtain ⟨r215, hr215, hs⟩ := obind hs
      refine rg_draw_seq g_mixed (n := 155) (rs := []) (own0 := own212) (K := []) (bs := [0, 0, 3, 7, 15, 15, 63, 127, 255, 511, 511, 2047, 4095, 8191, 16383, 32767, 65535, 131071, 16383, 524287, 1048575, 2097151, 4194303, 4194303, 4194303, 4194303, 67108863, 134217727]) (ds := [⟨[], [13], [], Fct.val 126 (.agg #[.int .i64 x208.1, .int .i64 x208.2])⟩,     ⟨[], [5], [], Fct.val 127 (.agg #[.int .i64 x2.1, .int .i64 x2.2])⟩,     ⟨[0, 1], [], [], Fct.val 128 (.bool (!decide (x208 = x2)))⟩,     ⟨[2], [], [], Fct.val 129 (.bool (!decide (x208 = x2)))⟩,     ⟨[3], [13], [], Fct.cond (!decide (x208 = x2)) (some 130) (Fct.val 130 (.agg #[.int .i64 x208.1, .int .i64 x208.2]))⟩,     ⟨[3], [6], [], Fct.cond (!decide (x208 = x2)) (some 131) (Fct.val 131 (.agg #[.int .i64 b3.1, .int .i64 b3.2]))⟩,     ⟨[3, 4, 5], [], [], Fct.cond (!decide (x208 = x2)) (some 132) (Fct.val 132 (.bool (!decide (x208 = b3))))⟩,     ⟨[3, 6], [], [], Fct.val 133 (.bool x213)⟩,     ⟨[7], [], [], Fct.val 134 (.bool x213)⟩,     ⟨[8], [13], [], Fct.cond x213 (some 135) (Fct.val 135 (.agg #[.int .i64 x208.1, .int .i64 x208.2]))⟩,     ⟨[8], [7], [], Fct.cond x213 (some 136) (Fct.val 136 (.agg #[.int .i64 c4.1, .int .i64 c4.2]))⟩,     ⟨[8, 9, 10], [], [], Fct.cond x213 (some 137) (Fct.val 137 (.bool (!decide (x208 = c4))))⟩,     ⟨[8, 11], [], [], Fct.val 138 (.bool (x213 && (!decide (x208 = c4))))⟩,     ⟨[12], [], [], Fct.val 139 (.bool (x213 && (!decide (x208 = c4))))⟩,     ⟨[13], [0], [], Fct.cond (x213 && (!decide (x208 = c4))) (some 140) (Fct.val 140 (.pointer (some ⟨gg1, 0, none⟩)))⟩,     ⟨[13, 14], [], [], Fct.cond (x213 && (!decide (x208 = c4))) (some 141) (Fct.val 141 (.pointer (some ⟨gg1, 0, none⟩)))⟩,     ⟨[13, 15], [], [], Fct.cond (x213 && (!decide (x208 = c4))) (some 142) (Fct.val 142 (.pointer (some ⟨gg1, 3, none⟩)))⟩,     ⟨[13, 16], [], [], Fct.cond (x213 && (!decide (x208 = c4))) (some 143) (Fct.val 143 (.map (some mg1_3)))⟩,     ⟨[13], [13], [], Fct.cond (x213 && (!decide (x208 = c4))) (some 144) (Fct.val 144 (.agg #[.int .i64 x208.1, .int .i64 x208.2]))⟩,     ⟨[13, 17, 18], [], [], Fct.cond (x213 && (!decide (x208 = c4))) (some 145) (Fct.val 145 (.bool ((lkM g1.2.2.2.1 x208).getD false)))⟩,     ⟨[13, 19], [], [], Fct.val 146 (.bool x214)⟩,     ⟨[20], [], [], Fct.val 147 (.bool x214)⟩,     ⟨[21], [5], [], Fct.cond x214 (some 148) (Fct.val 148 (.agg #[.int .i64 x2.1, .int .i64 x2.2]))⟩,     ⟨[21], [6], [], Fct.cond x214 (some 149) (Fct.val 149 (.agg #[.int .i64 b3.1, .int .i64 b3.2]))⟩,     ⟨[21], [7], [], Fct.cond x214 (some 150) (Fct.val 150 (.agg #[.int .i64 c4.1, .int .i64 c4.2]))⟩,     ⟨[21], [13], [], Fct.cond x214 (some 151) (Fct.val 151 (.agg #[.int .i64 x208.1, .int .i64 x208.2]))⟩,     ⟨[21, 22, 23, 24, 25], [], [], Fct.cond x214 (some 152) (Fct.val 152 (.bool r215))⟩,     ⟨[21, 26], [], [], Fct.val 153 (.bool (x214 && r215))⟩]) (by kernel_rfl) hz212 hd212 nm_ ?_ ?_
      · refine sc (fun _ _ _ _ s hE => px (or_load (l := [.int .i64 x208.1, .int .i64 x208.2]) ta25 (s.1.trans e212_13) (Blk.cellsFrom (be_ hE b212_g209).2 0 rfl) rfl)) ?_
        refine sc (fun _ _ _ _ s hE => px (or_load (l := [.int .i64 x2.1, .int .i64 x2.2]) ta25 (s.1.trans e212_5) (Blk.cellsFrom (be_ hE b212_g116).2 0 rfl) rfl)) ?_
        refine sc (fun _ _ _ f _ _ => px (or_neqA sg25 f.1 f.2.1 (sn25 x208.1 x208.2 x2.1 x2.2 _) rfl)) ?_
        refine sc (fun _ _ _ f _ _ => px (or_move f.1)) ?_
        refine sc (fun _ _ _ f s hE => sg_t rfl rfl rfl f.1 (fun hg => or_load (l := [.int .i64 x208.1, .int .i64 x208.2]) ta25 (s.1.trans e212_13) (Blk.cellsFrom (be_ hE b212_g209).2 0 rfl) rfl)) ?_
        refine sc (fun _ _ _ f s hE => sg_t rfl rfl rfl f.1 (fun hg => or_load (l := [.int .i64 b3.1, .int .i64 b3.2]) ta25 (s.1.trans e212_6) (Blk.cellsFrom (be_ hE b212_g118).2 0 rfl) rfl)) ?_
        refine sc (fun _ _ _ f _ _ => sg_t rfl rfl rfl f.1 (fun hg => or_neqA sg25 (f.2.1.1 hg) (f.2.2.1.1 hg) (sn25 x208.1 x208.2 b3.1 b3.2 _) rfl)) ?_
        refine sc (fun _ _ _ f _ _ => px (or_and f.1 (fun hx => f.2.1.1 hx) rfl (osome hx213).symm)) ?_
        refine sc (fun _ _ _ f _ _ => px (or_move f.1)) ?_
        refine sc (fun _ _ _ f s hE => sg_t rfl rfl rfl f.1 (fun hg => or_load (l := [.int .i64 x208.1, .int .i64 x208.2]) ta25 (s.1.trans e212_13) (Blk.cellsFrom (be_ hE b212_g209).2 0 rfl) rfl)) ?_
        refine sc (fun _ _ _ f s hE => sg_t rfl rfl rfl f.1 (fun hg => or_load (l := [.int .i64 c4.1, .int .i64 c4.2]) ta25 (s.1.trans e212_7) (Blk.cellsFrom (be_ hE b212_g120).2 0 rfl) rfl)) ?_
        refine sc (fun _ _ _ f _ _ => sg_t rfl rfl rfl f.1 (fun hg => or_neqA sg25 (f.2.1.1 hg) (f.2.2.1.1 hg) (sn25 x208.1 x208.2 c4.1 c4.2 _) rfl)) ?_
        refine sc (fun _ _ _ f _ _ => px (or_and f.1 (fun hx => f.2.1.1 hx) rfl rfl)) ?_
        refine sc (fun _ _ _ f _ _ => px (or_move f.1)) ?_
        refine sc (fun _ _ _ f s _ => sg_t rfl rfl rfl f.1 (fun hg => or_move (s.1.trans e212_0))) ?_
        refine sc (fun _ _ _ f _ _ => sg_t rfl rfl rfl f.1 (fun hg => or_k [(140, .pointer (some ⟨gg1, 0, none⟩))] rfl rfl ⟨(f.2.1.1 hg), trivial⟩ (by kernel_rfl))) ?_
        refine sc (fun _ _ _ f _ _ => sg_t rfl rfl rfl f.1 (fun hg => or_field fo77_3 (f.2.1.1 hg) (by rfl))) ?_
        refine sc (fun _ _ _ f _ hE => sg_t rfl rfl rfl f.1 (fun hg => or_load1 to74 (f.2.1.1 hg) (Blk.at_ (be_ hE b212_gg1).2 3 rfl))) ?_
        refine sc (fun _ _ _ f s hE => sg_t rfl rfl rfl f.1 (fun hg => or_load (l := [.int .i64 x208.1, .int .i64 x208.2]) ta25 (s.1.trans e212_13) (Blk.cellsFrom (be_ hE b212_g209).2 0 rfl) rfl)) ?_
        refine sc (fun _ _ _ f _ hE => sg_t rfl rfl rfl f.1 (fun hg => or_lookupE (kf := vv25) (vf := vv4) (k := x208) (dv := false) ko25 tm74 tzv74 (f.2.1.1 hg) (f.2.2.1.1 hg) (MpO.evo (by decide) hE b212_mg1_3) rfl)) ?_
        refine sc (fun _ _ _ f _ _ => px (or_and f.1 (fun hx => f.2.1.1 hx) rfl (osome hx214).symm)) ?_
        refine sc (fun _ _ _ f _ _ => px (or_move f.1)) ?_
        refine sc (fun _ _ _ f s hE => sg_t rfl rfl rfl f.1 (fun hg => or_load (l := [.int .i64 x2.1, .int .i64 x2.2]) ta25 (s.1.trans e212_5) (Blk.cellsFrom (be_ hE b212_g116).2 0 rfl) rfl)) ?_
        refine sc (fun _ _ _ f s hE => sg_t rfl rfl rfl f.1 (fun hg => or_load (l := [.int .i64 b3.1, .int .i64 b3.2]) ta25 (s.1.trans e212_6) (Blk.cellsFrom (be_ hE b212_g118).2 0 rfl) rfl)) ?_
        refine sc (fun _ _ _ f s hE => sg_t rfl rfl rfl f.1 (fun hg => or_load (l := [.int .i64 c4.1, .int .i64 c4.2]) ta25 (s.1.trans e212_7) (Blk.cellsFrom (be_ hE b212_g120).2 0 rfl) rfl)) ?_
        refine sc (fun _ _ _ f s hE => sg_t rfl rfl rfl f.1 (fun hg => or_load (l := [.int .i64 x208.1, .int .i64 x208.2]) ta25 (s.1.trans e212_13) (Blk.cellsFrom (be_ hE b212_g209).2 0 rfl) rfl)) ?_
        refine sc (fun _ _ _ f _ _ => sg_t rfl rfl rfl f.1 (fun hg => or_call cf36 (args4 (f.2.1.1 hg) (f.2.2.1.1 hg) (f.2.2.2.1.1 hg) (f.2.2.2.2.1.1 hg)) (exact_InTriangle_w _ x2 b3 c4 x208  r215 (gd_t hr215 hg)) post_val)) ?_
        refine sc (fun _ _ _ f _ _ => px (or_and f.1 (fun hx => f.2.1.1 hx) rfl rfl)) ?_
        exact steps_nil
      intro own216 a216 w216 hd216 hz216 hk216 hf216 hE216
      have e216_0 := (hk216 0 rfl).trans e212_0
      have e216_5 := (hk216 5 rfl).trans e212_5
      have e216_6 := (hk216 6 rfl).trans e212_6
      have e216_7 := (hk216 7 rfl).trans e212_7
      have e216_113 := (hk216 113 rfl).trans e212_113
      have e216_114 := (hk216 114 rfl).trans e212_114
      have e216_115 := (hk216 115 rfl).trans e212_115
      obtain ⟨(e216_153 : a216.eval (.tmp 153) = .bool (x214 && r215)), -⟩ := hf216 [27] rfl
      have hX216 := es_ hX212 hE216
      have b216_gg1 := be_ hE216 b212_gg1
      have b216_gg1_0 := be_ hE216 b212_gg1_0
      have b216_Ag1_0_0 := RdO.evo rfl hE216 b212_Ag1_0_0
      have b216_mg1_0_1 := MpN.evo rfl hE216 b212_mg1_0_1
      have b216_Ag1_0_2 := RdO.evo rfl hE216 b212_Ag1_0_2
      have b216_Ag1_1 := RdO.evo rfl hE216 b212_Ag1_1
      have b216_Ag1_2 := RdO.evo rfl hE216 b212_Ag1_2
      have b216_mg1_3 := MpO.evo (by decide) hE216 b212_mg1_3
      have b216_mg1_4 := MpO.evo (by decide) hE216 b212_mg1_4
      have b216_g116 := be_ hE216 b212_g116
      have b216_g118 := be_ hE216 b212_g118
      have b216_g120 := be_ hE216 b212_g120
      have b216_A154 := re_ hE216 b212_A154
      refine fl_cond e216_153 hs (fun c217 hs => ?_) (fun c217 hs => ?_)
      · refine rg0_seq 155 own216 (bz 1) [⟨[], [], [], Fct.val 8 (.int .i64 4)⟩] hz216 hd216 (by kernel_rfl) ?_ ?_
        · refine sc (fun _ _ _ _ _ _ => px (or_assign rfl)) ?_
          exact steps_nil
        intro own218 a218 w218 hd218 hz218 hk218 hf218 hE218
        obtain ⟨(e218_8 : a218.eval (.tmp 8) = .int .i64 4), -⟩ := hf218 [0] rfl
        have hX218 := es_ hX216 hE218
        refine fl_ret ?_
        refine hp205 _ _ _ rfl ?_
        refine hp204 _ _ _ rfl ?_
        replace hs := hz199 _ hs
        refine hp199 _ _ _ rfl ?_
        refine hp157 _ _ _ rfl ?_
        refine hp152 _ _ _ rfl ?_
        obtain rfl := osome hs
        exact hret _ _ _ _ (.inl rfl) hd218 (results1_ rfl (RVal.tmp_ e218_8)) ⟨own218, rfl, hX218⟩
      refine fl_skip ?_
      refine hn205 _ _ ?_
      refine hn204 _ _ ?_
      refine rg0 155 own216 (bz 2) [⟨[], [115], [], Fct.val 154 (.int .i64 (ad x178 1))⟩,     ⟨[0], [], [], Fct.val 115 (.int .i64 (ad x178 1))⟩] hz216 hd216 (by kernel_rfl) ?_ ?_
      · refine sc (fun _ _ _ _ s _ => px (or_add (s.1.trans e216_115) rfl rfl)) ?_
        refine sc (fun _ _ _ f _ _ => px (or_move f.1)) ?_
        exact steps_nil
      intro own219 a219 w219 hd219 hz219 hk219 hf219 hE219
      have e219_0 := (hk219 0 rfl).trans e216_0
      have e219_5 := (hk219 5 rfl).trans e216_5
      have e219_6 := (hk219 6 rfl).trans e216_6
      have e219_7 := (hk219 7 rfl).trans e216_7
      have e219_113 := (hk219 113 rfl).trans e216_113
      have e219_114 := (hk219 114 rfl).trans e216_114
      obtain ⟨(e219_115 : a219.eval (.tmp 115) = .int .i64 (ad x178 1)), -⟩ := hf219 [1] rfl
      have hX219 := es_ hX216 hE219
      have b219_gg1 := be_ hE219 b216_gg1
      have b219_gg1_0 := be_ hE219 b216_gg1_0
      have b219_Ag1_0_0 := RdO.evo rfl hE219 b216_Ag1_0_0
      have b219_mg1_0_1 := MpN.evo rfl hE219 b216_mg1_0_1
      have b219_Ag1_0_2 := RdO.evo rfl hE219 b216_Ag1_0_2
      have b219_Ag1_1 := RdO.evo rfl hE219 b216_Ag1_1
      have b219_Ag1_2 := RdO.evo rfl hE219 b216_Ag1_2
      have b219_mg1_3 := MpO.evo (by decide) hE219 b216_mg1_3
      have b219_mg1_4 := MpO.evo (by decide) hE219 b216_mg1_4
      have b219_g116 := be_ hE219 b216_g116
      have b219_g118 := be_ hE219 b216_g118
      have b219_g120 := be_ hE219 b216_g120
      have b219_A154 := re_ hE219 b216_A154
      exact hn199 _ _ _ hs ⟨own219, hd219, hz219, e219_0, e219_5, e219_6, e219_7, e219_113, e219_114, e219_115, hX219, b219_gg1, b219_gg1_0, b219_Ag1_0_0, b219_mg1_0_1, b219_Ag1_0_2, b219_Ag1_1, b219_Ag1_2, b219_mg1_3, b219_mg1_4, b219_g116, b219_g118, b219_g120, b219_A154⟩
    refine fl_exit ?_
    refine hp202 _ _ _ rfl ?_
    replace hs := hz199 _ hs
    refine hp199 _ _ _ rfl ?_
    refine hx157 _ _ ?_
    refine hn152 _ _ ?_
    refine rg0_seq 155 own201 (bz 1) [⟨[], [], [], Fct.val 8 (.int .i64 0)⟩] hz201 hd201 (by kernel_rfl) ?_ ?_
    · refine sc (fun _ _ _ _ _ _ => px (or_assign rfl)) ?_
      exact steps_nil
    intro own220 a220 w220 hd220 hz220 hk220 hf220 hE220
    obtain ⟨(e220_8 : a220.eval (.tmp 8) = .int .i64 0), -⟩ := hf220 [0] rfl
    have hX220 := es_ hX201 hE220
    refine fl_ret ?_
    obtain rfl := osome hs
    exact hret _ _ _ _ (.inl rfl) hd220 (results1_ rfl (RVal.tmp_ e220_8)) ⟨own220, rfl, hX220⟩
end Go.Proofs.Ytoccfdohlefifaa
