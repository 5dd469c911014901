import Derived.Test.YtoccfdohlefifaaWp3
import Derived.Test.YtoccfdohlefifaaSp4
namespace Go.Proofs.Ytoccfdohlefifaa
open Go.RowKit
set_option linter.unusedVariables false
set_option maxRecDepth 10000
set_option maxHeartbeats 2000000 in
theorem rows_Index_Find_w (w : World) (x1 : (List ((Int × Int) × (Int × Int))) × (List ((Int × Int) × (List Int))) × (List Int)) (gx1 : Nat) (tx1 : TypeId) (Ax1_0 : Option Addr) (cx1_0 : Nat) (mx1_1 : Nat) (Ax1_2 : Option Addr) (cx1_2 : Nat) (b2 : (Int × Int) × (Int × Int)) (hgx1 : BlkO (fun _ => 0) 0 w gx1 tx1 #[.slice Ax1_0 x1.1.length cx1_0, .map (some mx1_1), .slice Ax1_2 x1.2.2.length cx1_2]) (hAx1_0 : RdO (fun _ => 0) [0] w R80 Ax1_0 cx1_0 x1.1) (hmx1_1 : MpN (fun _ => 0) 0 0 [0] w mx1_1 vv111 3 R3 x1.2.1) (hAx1_2 : RdO (fun _ => 0) [0] w R3 Ax1_2 cx1_2 x1.2.2) (r : List Int) (hs : rows_Index_Find x1 b2 = some r) :
    Calls Try.prog 35 #[.pointer (some ⟨gx1, 0, none⟩), .agg #[.int .i64 b2.1.1, .int .i64 b2.1.2, .int .i64 b2.2.1, .int .i64 b2.2.2]] w fun e w' => ∃ (own' : Own) (x : Option Addr × Nat), e = .returned (.slice x.1 r.length x.2) ∧ Evo [] (fun _ => 0) own' w w' ∧ RwO own' 1 [] w' 3 R3 x.1 x.2 r := by
  refine fl_enterM (n := 104) (kD := 11) (by decide) rfl rfl rfl (Nat.le_of_ble_eq_true rfl) ?_
  intro a0 Q hd0 hz0 harg hret
  have ha0 := harg 0 _ rfl
  have ha1 := harg 1 _ rfl
  clear harg
  have hE0 : Evo [] (fun _ => 0) (fun _ => 0) w w := Evo.refl _ _ _
  have hmk0 : MkO (fun _ => 0) 11 w [] := MkO.nil_
  refine rg_plain_seq (n := 104) (rs := []) (own0 := (fun _ => 0)) (K := [])
      (bs := [0, 0, 0])
      (ds := [⟨[], [0], [], Fct.blk 3089 2 (fun g => .pointer (some ⟨g, 0, none⟩)) 70 #[.pointer (some ⟨gx1, 0, none⟩)]⟩,
      ⟨[], [1], [], Fct.blk 3091 3 (fun g => .pointer (some ⟨g, 0, none⟩)) 80 #[.int .i64 b2.1.1, .int .i64 b2.1.2, .int .i64 b2.2.1, .int .i64 b2.2.2]⟩,
      ⟨[], [], [], Fct.val 4 (.slice none 0 0)⟩]) (by kernel_rfl) hz0 hd0 (fun _ h => nomatch h) ?_ ?_
  · refine sc (fun _ _ _ _ s _ => px (or_new [(0, .pointer (some ⟨gx1, 0, none⟩))] rfl rfl ⟨(s.1.trans ha0), trivial⟩ (by kernel_rfl))) ?_
    refine sc (fun _ _ _ _ s _ => px (or_new [(1, .agg #[.int .i64 b2.1.1, .int .i64 b2.1.2, .int .i64 b2.2.1, .int .i64 b2.2.2])] rfl rfl ⟨(s.1.trans ha1), trivial⟩ (by kernel_rfl))) ?_
    refine sc (fun _ _ _ _ _ _ => px (or_assign rfl)) ?_
    exact steps_nil
  intro own3092 a3092 w3092 hd3092 hz3092 hk3092 hf3092 hE3092
  obtain ⟨⟨g3088, (f_2 : a3092.eval (.tmp 2) = .pointer (some ⟨g3088, 0, none⟩)), (b_g3088 : BlkO own3092 3089 w3092 g3088 70 #[.pointer (some ⟨gx1, 0, none⟩)])⟩, ⟨g3090, (f_3 : a3092.eval (.tmp 3) = .pointer (some ⟨g3090, 0, none⟩)), (b_g3090 : BlkO own3092 3091 w3092 g3090 80 #[.int .i64 b2.1.1, .int .i64 b2.1.2, .int .i64 b2.2.1, .int .i64 b2.2.2])⟩, -⟩ := hf3092 [0, 1] rfl
  have e3092_2 := f_2
  have e3092_3 := f_3
  have hX3092 := Evo.step hE0 (fun _ => Nat.le_refl 0) hE3092 rfl
  have b3092_Ax1_0 := RdO.evo rfl hE3092 hAx1_0
  have b3092_mx1_1 := MpN.evo rfl hE3092 hmx1_1
  have b3092_Ax1_2 := RdO.evo rfl hE3092 hAx1_2
  have b3092_gx1 := BlkO.evo (by decide) hE3092 hgx1
  have b3092_mk := MkO.evo (by decide) hE3092 hmk0
  have b3092_g3088 := b_g3088
  have b3092_g3090 := b_g3090
  refine fl_seq (fun Q3093 hn3093 hp3093 => ?_)
  obtain ⟨r3094, hr3094, hs⟩ := obind hs
  refine rg_plain_seq (n := 104) (rs := []) (own0 := own3092) (K := [])
      (bs := [0, 1, 3, 7, 15, 31, 63])
      (ds := [⟨[], [2], [], Fct.val 14 (.pointer (some ⟨gx1, 0, none⟩))⟩,
      ⟨[0], [], [], Fct.val 15 (.bool false)⟩,
      ⟨[1], [], [], Fct.val 16 (.bool false)⟩,
      ⟨[2], [3], [], Fct.cond (!false) (some 17) (Fct.val 17 (.agg #[.int .i64 b2.1.1, .int .i64 b2.1.2, .int .i64 b2.2.1, .int .i64 b2.2.2]))⟩,
      ⟨[2, 3], [], [], Fct.cond (!false) (some 18) (Fct.val 18 (.bool r3094))⟩,
      ⟨[2, 4], [], [], Fct.cond (!false) (some 19) (Fct.val 19 (.bool (!r3094)))⟩,
      ⟨[2, 5], [], [], Fct.val 20 (.bool (false || (!r3094)))⟩]) (by kernel_rfl) hz3092 hd3092 (fun _ h => nomatch h) ?_ ?_
  · refine sc (fun _ _ _ _ s hE => px (or_load1 to70 (s.1.trans e3092_2) (Blk.at_ (BlkO.evo (by decide) hE b3092_g3088).2 0 rfl))) ?_
    refine sc (fun _ _ _ f _ _ => px (or_k [(14, .pointer (some ⟨gx1, 0, none⟩))] rfl rfl ⟨f.1, trivial⟩ (by kernel_rfl))) ?_
    refine sc (fun _ _ _ f _ _ => px (or_move f.1)) ?_
    refine sc (fun own a wx hf hsl hE => ?_) ?_
    · obtain ⟨(f_16 : a.eval (.tmp 16) = .bool false), -⟩ := hf
      obtain ⟨s_3, -⟩ := hsl
      refine sg_f rfl rfl rfl f_16 (fun hg => ?_)
      exact or_load (l := [.int .i64 b2.1.1, .int .i64 b2.1.2, .int .i64 b2.2.1, .int .i64 b2.2.2]) ta80 (s_3.trans e3092_3) (Blk.cellsFrom (BlkO.evo (by decide) hE b3092_g3090).2 0 rfl) rfl
    refine sc (fun own a wx hf hsl hE => ?_) ?_
    · obtain ⟨(f_16 : a.eval (.tmp 16) = .bool false), c_17, -⟩ := hf
      refine sg_f rfl rfl rfl f_16 (fun hg => ?_)
      have f_17 : a.eval (.tmp 17) = .agg #[.int .i64 b2.1.1, .int .i64 b2.1.2, .int .i64 b2.2.1, .int .i64 b2.2.2] := c_17.1 hg
      exact or_call cf48 (args1 f_17) (rows_Right_w _ b2  r3094 (gd_t hr3094 hg)) post_val
    refine sc (fun own a wx hf hsl hE => ?_) ?_
    · obtain ⟨(f_16 : a.eval (.tmp 16) = .bool false), c_18, -⟩ := hf
      refine sg_f rfl rfl rfl f_16 (fun hg => ?_)
      have f_18 : a.eval (.tmp 18) = .bool r3094 := c_18.1 hg
      exact or_not f_18 rfl
    refine sc (fun own a wx hf hsl hE => ?_) ?_
    · obtain ⟨(f_16 : a.eval (.tmp 16) = .bool false), c_19, -⟩ := hf
      exact px (or_or f_16 rfl (fun hx => c_19.1 hx) rfl)
    exact steps_nil
  intro own3095 a3095 w3095 hd3095 hz3095 hk3095 hf3095 hE3095
  have e3095_2 := (hk3095 2 rfl).trans e3092_2
  have e3095_3 := (hk3095 3 rfl).trans e3092_3
  obtain ⟨(f_20 : a3095.eval (.tmp 20) = .bool (false || (!r3094))), -⟩ := hf3095 [6] rfl
  have e3095_20 := f_20
  have hX3095 := Evo.step hX3092 (fun _ => Nat.le_refl 0) hE3095 rfl
  have b3095_Ax1_0 := RdO.evo rfl hE3095 b3092_Ax1_0
  have b3095_mx1_1 := MpN.evo rfl hE3095 b3092_mx1_1
  have b3095_Ax1_2 := RdO.evo rfl hE3095 b3092_Ax1_2
  have b3095_gx1 := BlkO.evo (by decide) hE3095 b3092_gx1
  have b3095_mk := MkO.evo (by decide) hE3095 b3092_mk
  have b3095_g3088 := BlkO.evo (by decide) hE3095 b3092_g3088
  have b3095_g3090 := BlkO.evo (by decide) hE3095 b3092_g3090
  refine fl_cond e3095_20 hs (fun c3096 hs => ?_) (fun c3096 hs => ?_)
  · refine rg_plain_seq (n := 104) (rs := []) (own0 := own3095) (K := [])
        (bs := [0])
        (ds := [⟨[], [], [], Fct.val 4 (.slice none 0 0)⟩]) (by kernel_rfl) hz3095 hd3095 (fun _ h => nomatch h) ?_ ?_
    · refine sc (fun _ _ _ _ _ _ => px (or_assign rfl)) ?_
      exact steps_nil
    intro own3097 a3097 w3097 hd3097 hz3097 hk3097 hf3097 hE3097
    obtain ⟨(f_4 : a3097.eval (.tmp 4) = .slice none 0 0), -⟩ := hf3097 [0] rfl
    have e3097_4 := f_4
    have hX3097 := Evo.step hX3095 (fun _ => Nat.le_refl 0) hE3097 rfl
    have b3097_mk := MkO.evo (by decide) hE3097 b3095_mk
    refine fl_ret ?_
    refine hp3093 _ _ _ rfl ?_
    refine hret _ _ _ _ _ (.inl rfl) hd3097 b3097_mk (fun own3098 w3098 hE3098 => ?_)
    have hX3099 := Evo.step hX3097 (fun _ => Nat.le_refl 0) hE3098 rfl
    obtain rfl := osome hs
    exact ⟨_, results1_ rfl (RVal.tmp_ e3097_4), ⟨own3098, (none, 0), rfl, hX3099, RwO.nil_⟩⟩
  refine fl_skip ?_
  refine hn3093 _ _ ?_
  refine rg_plain_seq (n := 104) (rs := []) (own0 := own3095) (K := [])
      (bs := [0])
      (ds := [⟨[], [], [], Fct.blk 3101 5 (fun g => .pointer (some ⟨g, 0, none⟩)) 22 #[.slice none 0 0]⟩]) (by kernel_rfl) hz3095 hd3095 (fun _ h => nomatch h) ?_ ?_
  · refine sc (fun _ _ _ _ _ _ => px (or_new [] rfl rfl trivial (by kernel_rfl))) ?_
    exact steps_nil
  intro own3102 a3102 w3102 hd3102 hz3102 hk3102 hf3102 hE3102
  have e3102_2 := (hk3102 2 rfl).trans e3095_2
  have e3102_3 := (hk3102 3 rfl).trans e3095_3
  obtain ⟨⟨g3100, (f_5 : a3102.eval (.tmp 5) = .pointer (some ⟨g3100, 0, none⟩)), (b_g3100 : BlkO own3102 3101 w3102 g3100 22 #[.slice none 0 0])⟩, -⟩ := hf3102 [0] rfl
  have e3102_5 := f_5
  have hX3102 := Evo.step hX3095 (fun _ => Nat.le_refl 0) hE3102 rfl
  have b3102_Ax1_0 := RdO.evo rfl hE3102 b3095_Ax1_0
  have b3102_mx1_1 := MpN.evo rfl hE3102 b3095_mx1_1
  have b3102_Ax1_2 := RdO.evo rfl hE3102 b3095_Ax1_2
  have b3102_gx1 := BlkO.evo (by decide) hE3102 b3095_gx1
  have b3102_mk := MkO.evo (by decide) hE3102 b3095_mk
  have b3102_g3088 := BlkO.evo (by decide) hE3102 b3095_g3088
  have b3102_g3090 := BlkO.evo (by decide) hE3102 b3095_g3090
  have b3102_g3100 := b_g3100
  refine fl_seq (fun Q3103 hn3103 hp3103 => ?_)
  obtain ⟨r3104, hr3104, hs⟩ := obind hs
  refine rg_plain_seq (n := 104) (rs := []) (own0 := own3102) (K := [])
      (bs := [0, 1])
      (ds := [⟨[], [3], [], Fct.val 21 (.agg #[.int .i64 b2.1.1, .int .i64 b2.1.2, .int .i64 b2.2.1, .int .i64 b2.2.2])⟩,
      ⟨[0], [], [], Fct.val 22 (.bool r3104)⟩]) (by kernel_rfl) hz3102 hd3102 (fun _ h => nomatch h) ?_ ?_
  · refine sc (fun _ _ _ _ s hE => px (or_load (l := [.int .i64 b2.1.1, .int .i64 b2.1.2, .int .i64 b2.2.1, .int .i64 b2.2.2]) ta80 (s.1.trans e3102_3) (Blk.cellsFrom (BlkO.evo (by decide) hE b3102_g3090).2 0 rfl) rfl)) ?_
    refine sc (fun _ _ _ f _ _ => px (or_call cf49 (args1 f.1) (rows_great_w _ b2  r3104 hr3104) post_val)) ?_
    exact steps_nil
  intro own3105 a3105 w3105 hd3105 hz3105 hk3105 hf3105 hE3105
  have e3105_2 := (hk3105 2 rfl).trans e3102_2
  have e3105_3 := (hk3105 3 rfl).trans e3102_3
  have e3105_5 := (hk3105 5 rfl).trans e3102_5
  obtain ⟨(f_22 : a3105.eval (.tmp 22) = .bool r3104), -⟩ := hf3105 [1] rfl
  have e3105_22 := f_22
  have hX3105 := Evo.step hX3102 (fun _ => Nat.le_refl 0) hE3105 rfl
  have b3105_Ax1_0 := RdO.evo rfl hE3105 b3102_Ax1_0
  have b3105_mx1_1 := MpN.evo rfl hE3105 b3102_mx1_1
  have b3105_Ax1_2 := RdO.evo rfl hE3105 b3102_Ax1_2
  have b3105_gx1 := BlkO.evo (by decide) hE3105 b3102_gx1
  have b3105_mk := MkO.evo (by decide) hE3105 b3102_mk
  have b3105_g3088 := BlkO.evo (by decide) hE3105 b3102_g3088
  have b3105_g3090 := BlkO.evo (by decide) hE3105 b3102_g3090
  have b3105_g3100 := BlkO.evo (by decide) hE3105 b3102_g3100
  refine fl_cond e3105_22 hs (fun c3106 hs => ?_) (fun c3106 hs => ?_)
  · refine fl_seq (fun Q3107 hn3107 hp3107 => ?_)
    refine rg_plain_seq (n := 104) (rs := []) (own0 := own3105) (K := [])
        (bs := [0, 1, 3, 7, 15, 0])
        (ds := [⟨[], [2], [], Fct.val 23 (.pointer (some ⟨gx1, 0, none⟩))⟩,
        ⟨[0], [], [], Fct.val 24 (.pointer (some ⟨gx1, 0, none⟩))⟩,
        ⟨[1], [], [], Fct.val 25 (.pointer (some ⟨gx1, 0, none⟩))⟩,
        ⟨[2], [], [], Fct.val 26 (.slice Ax1_0 x1.1.length cx1_0)⟩,
        ⟨[3], [], [], Fct.val 27 (.int .i64 (x1.1.length : Int))⟩,
        ⟨[], [], [], Fct.val 28 (.int .i64 0)⟩]) (by kernel_rfl) hz3105 hd3105 (fun _ h => nomatch h) ?_ ?_
    · refine sc (fun _ _ _ _ s hE => px (or_load1 to70 (s.1.trans e3105_2) (Blk.at_ (BlkO.evo (by decide) hE b3105_g3088).2 0 rfl))) ?_
      refine sc (fun _ _ _ f _ _ => px (or_k [(23, .pointer (some ⟨gx1, 0, none⟩))] rfl rfl ⟨f.1, trivial⟩ (by kernel_rfl))) ?_
      refine sc (fun _ _ _ f _ _ => px (or_field fo106_0 f.1 (by rfl))) ?_
      refine sc (fun _ _ _ f _ hE => px (or_load1 to103 f.1 (Blk.at_ (BlkO.evo (by decide) hE b3105_gx1).2 0 rfl))) ?_
      refine sc (fun _ _ _ f _ _ => px (or_len tu103 f.1 rfl)) ?_
      refine sc (fun _ _ _ _ _ _ => px (or_move rfl)) ?_
      exact steps_nil
    intro own3108 a3108 w3108 hd3108 hz3108 hk3108 hf3108 hE3108
    have e3108_3 := (hk3108 3 rfl).trans e3105_3
    have e3108_5 := (hk3108 5 rfl).trans e3105_5
    obtain ⟨(f_26 : a3108.eval (.tmp 26) = .slice Ax1_0 x1.1.length cx1_0), (f_27 : a3108.eval (.tmp 27) = .int .i64 (x1.1.length : Int)), (f_28 : a3108.eval (.tmp 28) = .int .i64 0), -⟩ := hf3108 [3, 4, 5] rfl
    have e3108_26 := f_26
    have e3108_27 := f_27
    have e3108_28 := f_28
    have hX3108 := Evo.step hX3105 (fun _ => Nat.le_refl 0) hE3108 rfl
    have b3108_Ax1_0 := RdO.evo rfl hE3108 b3105_Ax1_0
    have b3108_mk := MkO.evo (by decide) hE3108 b3105_mk
    have b3108_g3090 := BlkO.evo (by decide) hE3108 b3105_g3090
    have b3108_g3100 := BlkO.evo (by decide) hE3108 b3105_g3100
    refine fl_block (fun Q3109 hn3109 hx3109 hp3109 => ?_)
    refine fl_loop (body := (fun s => rows_Index_Find_b1 x1 b2 s.1 s.2)) (z := r) (show loopO _ _ = _ from hs) (fun (s : (List Int) × Int) a wx => match s with | (out3223, x3225) => ∃ (ox : Own) (A3221 : Option Addr) (c3222 : Nat), a.defers = mkD [] ∧ a.tmps.size = 104 ∧ a.eval (.tmp 3) = .pointer (some ⟨g3090, 0, none⟩) ∧ a.eval (.tmp 5) = .pointer (some ⟨g3100, 0, none⟩) ∧ a.eval (.tmp 26) = .slice Ax1_0 x1.1.length cx1_0 ∧ a.eval (.tmp 27) = .int .i64 (x1.1.length : Int) ∧ a.eval (.tmp 28) = .int .i64 x3225 ∧ Evo [] (fun _ => 0) ox w wx ∧ BlkO ox 3091 wx g3090 80 #[.int .i64 b2.1.1, .int .i64 b2.1.2, .int .i64 b2.2.1, .int .i64 b2.2.2] ∧ BlkO ox 3220 wx g3100 22 #[.slice A3221 out3223.length c3222] ∧ RwO ox 3224 [] wx 3 R3 A3221 c3222 out3223 ∧ RdO ox [0] wx R80 Ax1_0 cx1_0 x1.1 ∧ MkO ox 11 wx []) ?_ ?_
    · exact ⟨(rl [(3101, 3220)] own3108), none, 0, hd3108, hz3108, e3108_3, e3108_5, e3108_26, e3108_27, e3108_28, (Evo.rl_ hX3108 (fun _ => Nat.le_refl 0) rfl), (BlkO.rl_ (mm := [(3101, 3220)]) b3108_g3090), (BlkO.rl_ (mm := [(3101, 3220)]) b3108_g3100), RwO.nil_, (RdO.rl_ (mm := [(3101, 3220)]) b3108_Ax1_0), (MkO.rl_ (mm := [(3101, 3220)]) b3108_mk)⟩
    · rintro ⟨out3223, x3225⟩ zz3336 a3336 w3336 ⟨own3336, A3221, c3222, hd3337, hz3337, e3337_3, e3337_5, e3337_26, e3337_27, e3337_28, hE3337, b3337_g3090, b3337_g3100, b3337_A3221, b3337_Ax1_0, b3337_mk⟩ hs Q3336 hn3336 hp3336 hz3336
      have hs : rows_Index_Find_b1 x1 b2 out3223 x3225 = some zz3336 := hs
      refine rg_plain_seq (n := 104) (rs := []) (own0 := own3336) (K := [])
          (bs := [0])
          (ds := [⟨[], [28, 27], [], Fct.val 29 (.bool (decide (x3225 < (x1.1.length : Int))))⟩]) (by kernel_rfl) hz3337 hd3337 (fun _ h => nomatch h) ?_ ?_
      · refine sc (fun _ _ _ _ s _ => px (or_lss (s.1.trans e3337_28) (s.2.1.trans e3337_27) rfl)) ?_
        exact steps_nil
      intro own3338 a3338 w3338 hd3338 hz3338 hk3338 hf3338 hE3338
      have e3338_3 := (hk3338 3 rfl).trans e3337_3
      have e3338_5 := (hk3338 5 rfl).trans e3337_5
      have e3338_26 := (hk3338 26 rfl).trans e3337_26
      have e3338_27 := (hk3338 27 rfl).trans e3337_27
      have e3338_28 := (hk3338 28 rfl).trans e3337_28
      obtain ⟨(f_29 : a3338.eval (.tmp 29) = .bool (decide (x3225 < (x1.1.length : Int)))), -⟩ := hf3338 [0] rfl
      have e3338_29 := f_29
      have hX3338 := Evo.step hE3337 (fun _ => Nat.le_refl 0) hE3338 rfl
      have b3338_g3090 := BlkO.evo (by decide) hE3338 b3337_g3090
      have b3338_g3100 := BlkO.evo (by decide) hE3338 b3337_g3100
      have b3338_A3221 := RwO.evo rfl hE3338 b3337_A3221
      have b3338_Ax1_0 := RdO.evo rfl hE3338 b3337_Ax1_0
      have b3338_mk := MkO.evo (by decide) hE3338 b3337_mk
      refine fl_seq (fun Q3339 hn3339 hp3339 => ?_)
      refine fl_cond e3338_29 hs (fun c3340 hs => ?_) (fun c3340 hs => ?_)
      · refine fl_skip ?_
        refine hn3339 _ _ ?_
        refine fl_seq (fun Q3341 hn3341 hp3341 => ?_)
        refine fl_block (fun Q3394 hn3394 hx3394 hp3394 => ?_)
        have K3422 : ∀ (a3422 : Act) (w3422 : World) (own3422 : Own) (out3420 : List Int) (A3418 : Option Addr) (c3419 : Nat), a3422.defers = mkD [] → a3422.tmps.size = 104 → a3422.eval (.tmp 3) = .pointer (some ⟨g3090, 0, none⟩) → a3422.eval (.tmp 5) = .pointer (some ⟨g3100, 0, none⟩) → a3422.eval (.tmp 26) = .slice Ax1_0 x1.1.length cx1_0 → a3422.eval (.tmp 27) = .int .i64 (x1.1.length : Int) → a3422.eval (.tmp 28) = .int .i64 x3225 → Evo [] (fun _ => 0) own3422 w w3422 → BlkO own3422 3091 w3422 g3090 80 #[.int .i64 b2.1.1, .int .i64 b2.1.2, .int .i64 b2.2.1, .int .i64 b2.2.2] → BlkO own3422 3417 w3422 g3100 22 #[.slice A3418 out3420.length c3419] → RwO own3422 3421 [] w3422 3 R3 A3418 c3419 out3420 → RdO own3422 [0] w3422 R80 Ax1_0 cx1_0 x1.1 → MkO own3422 11 w3422 [] → rows_Index_Find_k2 x3225 out3420 = some zz3336 → (Q3394 .normal a3422 w3422 ∧ Q3394 (.exit 1) a3422 w3422) := by
          intro a3422 w3422 own3422 out3420 A3418 c3419 hd3423 hz3423 e3423_3 e3423_5 e3423_26 e3423_27 e3423_28 hE3423 b3423_g3090 b3423_g3100 b3423_A3418 b3423_Ax1_0 b3423_mk hs
          refine and_both (hn3394 _ _) (hx3394 _ _) ?_
          refine hn3341 _ _ ?_
          refine rg_plain (n := 104) (rs := []) (own0 := own3422) (K := [])
              (bs := [0, 1])
              (ds := [⟨[], [28], [], Fct.val 40 (.int .i64 (ad x3225 1))⟩,
              ⟨[0], [], [], Fct.val 28 (.int .i64 (ad x3225 1))⟩]) (by kernel_rfl) hz3423 hd3423 (fun _ h => nomatch h) ?_ ?_
          · refine sc (fun _ _ _ _ s _ => px (or_add (s.1.trans e3423_28) rfl rfl)) ?_
            refine sc (fun _ _ _ f _ _ => px (or_move f.1)) ?_
            exact steps_nil
          intro own3424 a3424 w3424 hd3424 hz3424 hk3424 hf3424 hE3424
          have e3424_3 := (hk3424 3 rfl).trans e3423_3
          have e3424_5 := (hk3424 5 rfl).trans e3423_5
          have e3424_26 := (hk3424 26 rfl).trans e3423_26
          have e3424_27 := (hk3424 27 rfl).trans e3423_27
          obtain ⟨(f_28 : a3424.eval (.tmp 28) = .int .i64 (ad x3225 1)), -⟩ := hf3424 [1] rfl
          have e3424_28 := f_28
          have hX3424 := Evo.step hE3423 (fun _ => Nat.le_refl 0) hE3424 rfl
          have b3424_g3090 := BlkO.evo (by decide) hE3424 b3423_g3090
          have b3424_g3100 := BlkO.evo (by decide) hE3424 b3423_g3100
          have b3424_A3418 := RwO.evo rfl hE3424 b3423_A3418
          have b3424_Ax1_0 := RdO.evo rfl hE3424 b3423_Ax1_0
          have b3424_mk := MkO.evo (by decide) hE3424 b3423_mk
          exact hn3336 _ _ _ hs ⟨(rl [(3417, 3220), (3421, 3224)] own3424), A3418, c3419, hd3424, hz3424, e3424_3, e3424_5, e3424_26, e3424_27, e3424_28, (Evo.rl_ hX3424 (fun _ => Nat.le_refl 0) rfl), (BlkO.rl_ (mm := [(3417, 3220), (3421, 3224)]) b3424_g3090), (BlkO.rl_ (mm := [(3417, 3220), (3421, 3224)]) b3424_g3100), (RwO.rl_ (mm := [(3417, 3220), (3421, 3224)]) b3424_A3418), (RdO.rl_ (mm := [(3417, 3220), (3421, 3224)]) b3424_Ax1_0), (MkO.rl_ (mm := [(3417, 3220), (3421, 3224)]) b3424_mk)⟩
        obtain ⟨x3425, hx3425, hs⟩ := obind hs
        refine rg_plain_seq (n := 104) (rs := []) (own0 := own3338) (K := [3427])
            (bs := [0, 0, 2, 0, 15, 31])
            (ds := [⟨[], [28], [], Fct.val 30 (.int .i64 x3225)⟩,
            ⟨[], [26, 28], [], Fct.val 31 (.pointer (some ((adr Ax1_0).add ((x3225 : Int).toNat * R80.s))))⟩,
            ⟨[1], [], [], Fct.val 32 (.agg #[.int .i64 x3425.1.1, .int .i64 x3425.1.2, .int .i64 x3425.2.1, .int .i64 x3425.2.2])⟩,
            ⟨[], [], [], Fct.blk 3427 7 (fun g => .pointer (some ⟨g, 0, none⟩)) 80 #[.int .i64 0, .int .i64 0, .int .i64 0, .int .i64 0]⟩,
            ⟨[0], [], [], Fct.val 6 (.int .i64 x3225)⟩,
            ⟨[3, 2], [], [3427], Fct.blk 3428 7 (fun g => .pointer (some ⟨g, 0, none⟩)) 80 #[.int .i64 x3425.1.1, .int .i64 x3425.1.2, .int .i64 x3425.2.1, .int .i64 x3425.2.2]⟩]) (by kernel_rfl) hz3338 hd3338 (fun _ h => nomatch h) ?_ ?_
        · refine sc (fun _ _ _ _ s _ => px (or_move (s.1.trans e3338_28))) ?_
          refine sc (fun _ _ _ _ s _ => px (or_index (R := R80) (l := x1.1) tl103 (s.1.trans e3338_26) (s.2.1.trans e3338_28) (RdO.some_ b3338_Ax1_0 hx3425) hx3425)) ?_
          refine sc (fun _ _ _ f _ hE => px (or_load (l := E80.f x3425) ta80 f.1 (RdO.cells (F := E80) (RdO.evo rfl hE b3338_Ax1_0) hx3425) rfl)) ?_
          refine sc (fun _ _ _ _ _ _ => px (or_new [] rfl rfl trivial (by kernel_rfl))) ?_
          refine sc (fun _ _ _ f _ _ => px (or_assign f.1)) ?_
          refine sc (fun own a wx hf hsl hE => ?_) ?_
          · obtain ⟨⟨g3426, (f_7 : a.eval (.tmp 7) = .pointer (some ⟨g3426, 0, none⟩)), (b_g3426 : BlkO own 3427 wx g3426 80 #[.int .i64 0, .int .i64 0, .int .i64 0, .int .i64 0])⟩, (f_32 : a.eval (.tmp 32) = .agg #[.int .i64 x3425.1.1, .int .i64 x3425.1.2, .int .i64 x3425.2.1, .int .i64 x3425.2.2]), -⟩ := hf
            exact px (or_store (l := #[.int .i64 x3425.1.1, .int .i64 x3425.1.2, .int .i64 x3425.2.1, .int .i64 x3425.2.2]) (lab := 3427) (lab2 := 3428) ts80 f_7 f_32 b_g3426 (by simp) (by kernel_rfl) (mem_of rfl) (by decide) (by kernel_rfl) (fun own' a' w' ha hb => ⟨_, (ha 7).trans f_7, hb⟩))
          exact steps_nil
        intro own3429 a3429 w3429 hd3429 hz3429 hk3429 hf3429 hE3429
        have e3429_3 := (hk3429 3 rfl).trans e3338_3
        have e3429_5 := (hk3429 5 rfl).trans e3338_5
        have e3429_26 := (hk3429 26 rfl).trans e3338_26
        have e3429_27 := (hk3429 27 rfl).trans e3338_27
        have e3429_28 := (hk3429 28 rfl).trans e3338_28
        obtain ⟨⟨g3426, (f_7 : a3429.eval (.tmp 7) = .pointer (some ⟨g3426, 0, none⟩)), (b_g3426 : BlkO own3429 3428 w3429 g3426 80 #[.int .i64 x3425.1.1, .int .i64 x3425.1.2, .int .i64 x3425.2.1, .int .i64 x3425.2.2])⟩, (f_6 : a3429.eval (.tmp 6) = .int .i64 x3225), -⟩ := hf3429 [5, 4] rfl
        have e3429_7 := f_7
        have e3429_6 := f_6
        have hX3429 := Evo.step hX3338 (fun _ => Nat.le_refl 0) hE3429 rfl
        have b3429_g3090 := BlkO.evo (by decide) hE3429 b3338_g3090
        have b3429_g3100 := BlkO.evo (by decide) hE3429 b3338_g3100
        have b3429_A3221 := RwO.evo rfl hE3429 b3338_A3221
        have b3429_Ax1_0 := RdO.evo rfl hE3429 b3338_Ax1_0
        have b3429_mk := MkO.evo (by decide) hE3429 b3338_mk
        have b3429_g3426 := b_g3426
        obtain ⟨r3430, hr3430, hs⟩ := obind hs
        refine rg_plain_seq (n := 104) (rs := []) (own0 := own3429) (K := [])
            (bs := [0, 0, 3])
            (ds := [⟨[], [3], [], Fct.val 33 (.agg #[.int .i64 b2.1.1, .int .i64 b2.1.2, .int .i64 b2.2.1, .int .i64 b2.2.2])⟩,
            ⟨[], [7], [], Fct.val 34 (.agg #[.int .i64 x3425.1.1, .int .i64 x3425.1.2, .int .i64 x3425.2.1, .int .i64 x3425.2.2])⟩,
            ⟨[0, 1], [], [], Fct.val 35 (.bool r3430)⟩]) (by kernel_rfl) hz3429 hd3429 (fun _ h => nomatch h) ?_ ?_
        · refine sc (fun _ _ _ _ s hE => px (or_load (l := [.int .i64 b2.1.1, .int .i64 b2.1.2, .int .i64 b2.2.1, .int .i64 b2.2.2]) ta80 (s.1.trans e3429_3) (Blk.cellsFrom (BlkO.evo (by decide) hE b3429_g3090).2 0 rfl) rfl)) ?_
          refine sc (fun _ _ _ _ s hE => px (or_load (l := [.int .i64 x3425.1.1, .int .i64 x3425.1.2, .int .i64 x3425.2.1, .int .i64 x3425.2.2]) ta80 (s.1.trans e3429_7) (Blk.cellsFrom (BlkO.evo (by decide) hE b3429_g3426).2 0 rfl) rfl)) ?_
          refine sc (fun _ _ _ f _ _ => px (or_call cf55 (args2 f.1 f.2.1) (rows_Meet_w _ b2 x3425  r3430 hr3430) post_val)) ?_
          exact steps_nil
        intro own3431 a3431 w3431 hd3431 hz3431 hk3431 hf3431 hE3431
        have e3431_3 := (hk3431 3 rfl).trans e3429_3
        have e3431_5 := (hk3431 5 rfl).trans e3429_5
        have e3431_6 := (hk3431 6 rfl).trans e3429_6
        have e3431_26 := (hk3431 26 rfl).trans e3429_26
        have e3431_27 := (hk3431 27 rfl).trans e3429_27
        have e3431_28 := (hk3431 28 rfl).trans e3429_28
        obtain ⟨(f_35 : a3431.eval (.tmp 35) = .bool r3430), -⟩ := hf3431 [2] rfl
        have e3431_35 := f_35
        have hX3431 := Evo.step hX3429 (fun _ => Nat.le_refl 0) hE3431 rfl
        have b3431_g3090 := BlkO.evo (by decide) hE3431 b3429_g3090
        have b3431_g3100 := BlkO.evo (by decide) hE3431 b3429_g3100
        have b3431_A3221 := RwO.evo rfl hE3431 b3429_A3221
        have b3431_Ax1_0 := RdO.evo rfl hE3431 b3429_Ax1_0
        have b3431_mk := MkO.evo (by decide) hE3431 b3429_mk
        refine fl_cond e3431_35 hs (fun c3432 hs => ?_) (fun c3432 hs => ?_)
        · obtain ⟨x3442, hx3442, hs⟩ := obind hs
          refine rg_plain (n := 104) (rs := [Fct.rowAt 3224 [] 3 R3 A3221 c3222 out3223, Fct.at_ 3220 g3100 22 #[.slice A3221 out3223.length c3222]]) (own0 := own3431) (K := [3224, 3220])
              (bs := [0, 0, 2, 7, 15])
              (ds := [⟨[6], [5], [], Fct.val 36 (.slice A3221 out3223.length c3222)⟩,
              ⟨[], [6], [], Fct.val 37 (.int .i64 x3225)⟩,
              ⟨[1], [], [], Fct.row 3441 [] 38 3 R3 [x3225]⟩,
              ⟨[0, 2, 5], [], [3224], Fct.row 3443 [] 39 3 R3 x3442⟩,
              ⟨[3, 6], [5], [3220], Fct.by_ [3445] [39] (fun l own w => ∀ (A3444 : Option Addr) (cA3444 : Nat), l.getD 0 undef = .slice A3444 x3442.length cA3444 → BlkO own 3445 w g3100 22 #[.slice A3444 x3442.length cA3444]) (fun hk he h _ _ h0' => BlkO.evo (not_hit hk (by decide)) he (h _ _ h0'))⟩]) (by kernel_rfl) hz3431 hd3431 (by simp only [List.forall_mem_cons]; exact ⟨b3431_A3221, b3431_g3100, fun _ h => nomatch h⟩) ?_ ?_
          · refine sc (fun own a wx hf hsl hE => ?_) ?_
            · obtain ⟨(b_g3100 : BlkO own 3220 wx g3100 22 #[.slice A3221 out3223.length c3222]), -⟩ := hf
              obtain ⟨s_5, -⟩ := hsl
              exact px (or_load1 to22 (s_5.trans e3431_5) (Blk.at_ b_g3100.2 0 rfl))
            refine sc (fun _ _ _ _ s _ => px (or_move (s.1.trans e3431_6))) ?_
            refine sc (fun _ _ _ f _ _ => px (or_lit (lab := 3441) (e := 3) (cs := #[.int .i64 x3225]) (F := E3) (or_new [(37, .int .i64 x3225)] rfl rfl ⟨f.1, trivial⟩ (by kernel_rfl)) rfl rfl (show 1 ≤ maxLen by decide))) ?_
            refine sc (fun own a wx hf hsl hE => ?_) ?_
            · obtain ⟨(f_36 : a.eval (.tmp 36) = .slice A3221 out3223.length c3222), ⟨⟨A3440, cA3440⟩, (f_38 : a.eval (.tmp 38) = .slice A3440 [x3225].length cA3440), (b_A3440 : RwO own 3441 [] wx 3 R3 A3440 cA3440 [x3225])⟩, (b_A3221 : RwO own 3224 [] wx 3 R3 A3221 c3222 out3223), -⟩ := hf
              exact px (or_append (R := R3) (lab := 3224) (lab2 := 3443) (L := []) (L3 := []) tp22 f_36 b_A3221 (by decide) f_38 (RwO.rd b_A3440) hx3442 (by decide) (by decide) (mem_of rfl) (.inl (Rep.fl_flat _)))
            refine sc (fun own a wx hf hsl hE => ?_) ?_
            · obtain ⟨⟨⟨A3444, cA3444⟩, (f_39 : a.eval (.tmp 39) = .slice A3444 x3442.length cA3444), (b_A3444 : RwO own 3443 [] wx 3 R3 A3444 cA3444 x3442)⟩, (b_g3100 : BlkO own 3220 wx g3100 22 #[.slice A3221 out3223.length c3222]), -⟩ := hf
              obtain ⟨s_5, -⟩ := hsl
              exact px (or_store1 (lab := 3220) (lab2 := 3445) ts22 (s_5.trans e3431_5) f_39 b_g3100 (by simp) rfl (mem_of rfl) (by decide) rfl (fun own' a' w' ha hb => fun _ _ h0' => by cases (f_39.symm.trans ((ha 39).symm.trans h0')); exact hb))
            exact steps_nil
          intro own3446 a3446 w3446 hd3446 hz3446 hk3446 hf3446 hE3446
          have e3446_3 := (hk3446 3 rfl).trans e3431_3
          have e3446_5 := (hk3446 5 rfl).trans e3431_5
          have e3446_26 := (hk3446 26 rfl).trans e3431_26
          have e3446_27 := (hk3446 27 rfl).trans e3431_27
          have e3446_28 := (hk3446 28 rfl).trans e3431_28
          obtain ⟨⟨⟨A3444, cA3444⟩, (f_39 : a3446.eval (.tmp 39) = .slice A3444 x3442.length cA3444), (b_A3444 : RwO own3446 3443 [] w3446 3 R3 A3444 cA3444 x3442)⟩, (bq_g3100 : ∀ (A3444 : Option Addr) (cA3444 : Nat), a3446.eval (.tmp 39) = .slice A3444 x3442.length cA3444 → BlkO own3446 3445 w3446 g3100 22 #[.slice A3444 x3442.length cA3444]), -⟩ := hf3446 [3, 4] rfl
          have b_g3100 := bq_g3100 _ _ f_39
          have hX3446 := Evo.step hX3431 (fun _ => Nat.le_refl 0) hE3446 rfl
          have b3446_g3090 := BlkO.evo (by decide) hE3446 b3431_g3090
          have b3446_Ax1_0 := RdO.evo rfl hE3446 b3431_Ax1_0
          have b3446_mk := MkO.evo (by decide) hE3446 b3431_mk
          have b3446_g3100 := b_g3100
          have b3446_A3444 := b_A3444
          exact (K3422 _ _ (rl [(3443, 3421), (3445, 3417)] own3446) _ A3444 cA3444 hd3446 hz3446 e3446_3 e3446_5 e3446_26 e3446_27 e3446_28 (Evo.rl_ hX3446 (fun _ => Nat.le_refl 0) rfl) (BlkO.rl_ (mm := [(3443, 3421), (3445, 3417)]) b3446_g3090) (BlkO.rl_ (mm := [(3443, 3421), (3445, 3417)]) b3446_g3100) (RwO.rl_ (mm := [(3443, 3421), (3445, 3417)]) b3446_A3444) (RdO.rl_ (mm := [(3443, 3421), (3445, 3417)]) b3446_Ax1_0) (MkO.rl_ (mm := [(3443, 3421), (3445, 3417)]) b3446_mk) hs).1
        refine fl_skip ?_
        exact (K3422 _ _ (rl [(3220, 3417), (3224, 3421)] own3431) _ A3221 c3222 hd3431 hz3431 e3431_3 e3431_5 e3431_26 e3431_27 e3431_28 (Evo.rl_ hX3431 (fun _ => Nat.le_refl 0) rfl) (BlkO.rl_ (mm := [(3220, 3417), (3224, 3421)]) b3431_g3090) (BlkO.rl_ (mm := [(3220, 3417), (3224, 3421)]) b3431_g3100) (RwO.rl_ (mm := [(3220, 3417), (3224, 3421)]) b3431_A3221) (RdO.rl_ (mm := [(3220, 3417), (3224, 3421)]) b3431_Ax1_0) (MkO.rl_ (mm := [(3220, 3417), (3224, 3421)]) b3431_mk) hs).1
      refine fl_exit ?_
      refine hp3339 _ _ _ rfl ?_
      replace hs := hz3336 _ hs
      refine hp3336 _ _ _ rfl ?_
      refine hx3109 _ _ ?_
      refine hn3107 _ _ ?_
      refine rg_plain_seq (n := 104) (rs := []) (own0 := own3338) (K := [])
          (bs := [0, 1])
          (ds := [⟨[], [5], [], Fct.val 41 (.slice A3221 out3223.length c3222)⟩,
          ⟨[0], [], [], Fct.val 4 (.slice A3221 out3223.length c3222)⟩]) (by kernel_rfl) hz3338 hd3338 (fun _ h => nomatch h) ?_ ?_
      · refine sc (fun _ _ _ _ s hE => px (or_load1 to22 (s.1.trans e3338_5) (Blk.at_ (BlkO.evo (by decide) hE b3338_g3100).2 0 rfl))) ?_
        refine sc (fun _ _ _ f _ _ => px (or_assign f.1)) ?_
        exact steps_nil
      intro own3447 a3447 w3447 hd3447 hz3447 hk3447 hf3447 hE3447
      obtain ⟨(f_4 : a3447.eval (.tmp 4) = .slice A3221 out3223.length c3222), -⟩ := hf3447 [1] rfl
      have e3447_4 := f_4
      have hX3447 := Evo.step hX3338 (fun _ => Nat.le_refl 0) hE3447 rfl
      have b3447_A3221 := RwO.evo rfl hE3447 b3338_A3221
      have b3447_mk := MkO.evo (by decide) hE3447 b3338_mk
      refine fl_ret ?_
      refine hp3103 _ _ _ rfl ?_
      refine hret _ _ _ _ _ (.inl rfl) hd3447 b3447_mk (fun own3448 w3448 hE3448 => ?_)
      have hX3449 := Evo.step hX3447 (fun _ => Nat.le_refl 0) hE3448 rfl
      have b3449_A3221 := RwO.evo rfl hE3448 b3447_A3221
      obtain rfl := (osome hs).symm
      exact ⟨_, results1_ rfl (RVal.tmp_ e3447_4), ⟨(rl [(3224, 1)] own3448), (A3221, c3222), rfl, (Evo.rl_ hX3449 (fun _ => Nat.le_refl 0) rfl), (RwO.rl_ (mm := [(3224, 1)]) b3449_A3221)⟩⟩
  refine fl_skip ?_
  refine hn3103 _ _ ?_
  refine fl_seq (fun Q3450 hn3450 hp3450 => ?_)
  refine rg_plain_seq (n := 104) (rs := []) (own0 := own3105) (K := [])
      (bs := [0, 1, 3, 7, 15, 0])
      (ds := [⟨[], [2], [], Fct.val 42 (.pointer (some ⟨gx1, 0, none⟩))⟩,
      ⟨[0], [], [], Fct.val 43 (.pointer (some ⟨gx1, 0, none⟩))⟩,
      ⟨[1], [], [], Fct.val 44 (.pointer (some ⟨gx1, 2, none⟩))⟩,
      ⟨[2], [], [], Fct.val 45 (.slice Ax1_2 x1.2.2.length cx1_2)⟩,
      ⟨[3], [], [], Fct.val 46 (.int .i64 (x1.2.2.length : Int))⟩,
      ⟨[], [], [], Fct.val 47 (.int .i64 0)⟩]) (by kernel_rfl) hz3105 hd3105 (fun _ h => nomatch h) ?_ ?_
  · refine sc (fun _ _ _ _ s hE => px (or_load1 to70 (s.1.trans e3105_2) (Blk.at_ (BlkO.evo (by decide) hE b3105_g3088).2 0 rfl))) ?_
    refine sc (fun _ _ _ f _ _ => px (or_k [(42, .pointer (some ⟨gx1, 0, none⟩))] rfl rfl ⟨f.1, trivial⟩ (by kernel_rfl))) ?_
    refine sc (fun _ _ _ f _ _ => px (or_field fo106_2 f.1 (by rfl))) ?_
    refine sc (fun _ _ _ f _ hE => px (or_load1 to22 f.1 (Blk.at_ (BlkO.evo (by decide) hE b3105_gx1).2 2 rfl))) ?_
    refine sc (fun _ _ _ f _ _ => px (or_len tu22 f.1 rfl)) ?_
    refine sc (fun _ _ _ _ _ _ => px (or_move rfl)) ?_
    exact steps_nil
  intro own3451 a3451 w3451 hd3451 hz3451 hk3451 hf3451 hE3451
  have e3451_2 := (hk3451 2 rfl).trans e3105_2
  have e3451_3 := (hk3451 3 rfl).trans e3105_3
  have e3451_5 := (hk3451 5 rfl).trans e3105_5
  obtain ⟨(f_45 : a3451.eval (.tmp 45) = .slice Ax1_2 x1.2.2.length cx1_2), (f_46 : a3451.eval (.tmp 46) = .int .i64 (x1.2.2.length : Int)), (f_47 : a3451.eval (.tmp 47) = .int .i64 0), -⟩ := hf3451 [3, 4, 5] rfl
  have e3451_45 := f_45
  have e3451_46 := f_46
  have e3451_47 := f_47
  have hX3451 := Evo.step hX3105 (fun _ => Nat.le_refl 0) hE3451 rfl
  have b3451_Ax1_0 := RdO.evo rfl hE3451 b3105_Ax1_0
  have b3451_mx1_1 := MpN.evo rfl hE3451 b3105_mx1_1
  have b3451_Ax1_2 := RdO.evo rfl hE3451 b3105_Ax1_2
  have b3451_gx1 := BlkO.evo (by decide) hE3451 b3105_gx1
  have b3451_mk := MkO.evo (by decide) hE3451 b3105_mk
  have b3451_g3088 := BlkO.evo (by decide) hE3451 b3105_g3088
  have b3451_g3090 := BlkO.evo (by decide) hE3451 b3105_g3090
  have b3451_g3100 := BlkO.evo (by decide) hE3451 b3105_g3100
  refine fl_block (fun Q3452 hn3452 hx3452 hp3452 => ?_)
  refine fl_loop (body := (fun s => rows_Index_Find_b3 x1 b2 s.1 s.2)) (z := r) (show loopO _ _ = _ from hs) (fun (s : (List Int) × Int) a wx => match s with | (out3558, x3560) => ∃ (ox : Own) (A3556 : Option Addr) (c3557 : Nat), a.defers = mkD [] ∧ a.tmps.size = 104 ∧ a.eval (.tmp 2) = .pointer (some ⟨g3088, 0, none⟩) ∧ a.eval (.tmp 3) = .pointer (some ⟨g3090, 0, none⟩) ∧ a.eval (.tmp 5) = .pointer (some ⟨g3100, 0, none⟩) ∧ a.eval (.tmp 45) = .slice Ax1_2 x1.2.2.length cx1_2 ∧ a.eval (.tmp 46) = .int .i64 (x1.2.2.length : Int) ∧ a.eval (.tmp 47) = .int .i64 x3560 ∧ Evo [] (fun _ => 0) ox w wx ∧ BlkO ox 3089 wx g3088 70 #[.pointer (some ⟨gx1, 0, none⟩)] ∧ BlkO ox 0 wx gx1 tx1 #[.slice Ax1_0 x1.1.length cx1_0, .map (some mx1_1), .slice Ax1_2 x1.2.2.length cx1_2] ∧ RdO ox [0] wx R80 Ax1_0 cx1_0 x1.1 ∧ MpN ox 0 0 [0] wx mx1_1 vv111 3 R3 x1.2.1 ∧ RdO ox [0] wx R3 Ax1_2 cx1_2 x1.2.2 ∧ BlkO ox 3091 wx g3090 80 #[.int .i64 b2.1.1, .int .i64 b2.1.2, .int .i64 b2.2.1, .int .i64 b2.2.2] ∧ BlkO ox 3555 wx g3100 22 #[.slice A3556 out3558.length c3557] ∧ RwO ox 3559 [] wx 3 R3 A3556 c3557 out3558 ∧ MkO ox 11 wx []) ?_ ?_
  · exact ⟨(rl [(3101, 3555)] own3451), none, 0, hd3451, hz3451, e3451_2, e3451_3, e3451_5, e3451_45, e3451_46, e3451_47, (Evo.rl_ hX3451 (fun _ => Nat.le_refl 0) rfl), (BlkO.rl_ (mm := [(3101, 3555)]) b3451_g3088), (BlkO.rl_ (mm := [(3101, 3555)]) b3451_gx1), (RdO.rl_ (mm := [(3101, 3555)]) b3451_Ax1_0), (MpN.rl_ (mm := [(3101, 3555)]) b3451_mx1_1), (RdO.rl_ (mm := [(3101, 3555)]) b3451_Ax1_2), (BlkO.rl_ (mm := [(3101, 3555)]) b3451_g3090), (BlkO.rl_ (mm := [(3101, 3555)]) b3451_g3100), RwO.nil_, (MkO.rl_ (mm := [(3101, 3555)]) b3451_mk)⟩
  · rintro ⟨out3558, x3560⟩ zz3663 a3663 w3663 ⟨own3663, A3556, c3557, hd3664, hz3664, e3664_2, e3664_3, e3664_5, e3664_45, e3664_46, e3664_47, hE3664, b3664_g3088, b3664_gx1, b3664_Ax1_0, b3664_mx1_1, b3664_Ax1_2, b3664_g3090, b3664_g3100, b3664_A3556, b3664_mk⟩ hs Q3663 hn3663 hp3663 hz3663
    have hs : rows_Index_Find_b3 x1 b2 out3558 x3560 = some zz3663 := hs
    refine rg_plain_seq (n := 104) (rs := []) (own0 := own3663) (K := [])
        (bs := [0])
        (ds := [⟨[], [47, 46], [], Fct.val 48 (.bool (decide (x3560 < (x1.2.2.length : Int))))⟩]) (by kernel_rfl) hz3664 hd3664 (fun _ h => nomatch h) ?_ ?_
    · refine sc (fun _ _ _ _ s _ => px (or_lss (s.1.trans e3664_47) (s.2.1.trans e3664_46) rfl)) ?_
      exact steps_nil
    intro own3665 a3665 w3665 hd3665 hz3665 hk3665 hf3665 hE3665
    have e3665_2 := (hk3665 2 rfl).trans e3664_2
    have e3665_3 := (hk3665 3 rfl).trans e3664_3
    have e3665_5 := (hk3665 5 rfl).trans e3664_5
    have e3665_45 := (hk3665 45 rfl).trans e3664_45
    have e3665_46 := (hk3665 46 rfl).trans e3664_46
    have e3665_47 := (hk3665 47 rfl).trans e3664_47
    obtain ⟨(f_48 : a3665.eval (.tmp 48) = .bool (decide (x3560 < (x1.2.2.length : Int)))), -⟩ := hf3665 [0] rfl
    have e3665_48 := f_48
    have hX3665 := Evo.step hE3664 (fun _ => Nat.le_refl 0) hE3665 rfl
    have b3665_g3088 := BlkO.evo (by decide) hE3665 b3664_g3088
    have b3665_gx1 := BlkO.evo (by decide) hE3665 b3664_gx1
    have b3665_Ax1_0 := RdO.evo rfl hE3665 b3664_Ax1_0
    have b3665_mx1_1 := MpN.evo rfl hE3665 b3664_mx1_1
    have b3665_Ax1_2 := RdO.evo rfl hE3665 b3664_Ax1_2
    have b3665_g3090 := BlkO.evo (by decide) hE3665 b3664_g3090
    have b3665_g3100 := BlkO.evo (by decide) hE3665 b3664_g3100
    have b3665_A3556 := RwO.evo rfl hE3665 b3664_A3556
    have b3665_mk := MkO.evo (by decide) hE3665 b3664_mk
    refine fl_seq (fun Q3666 hn3666 hp3666 => ?_)
    refine fl_cond e3665_48 hs (fun c3667 hs => ?_) (fun c3667 hs => ?_)
    · refine fl_skip ?_
      refine hn3666 _ _ ?_
      refine fl_seq (fun Q3668 hn3668 hp3668 => ?_)
      refine fl_block (fun Q3717 hn3717 hx3717 hp3717 => ?_)
      have K3743 : ∀ (a3743 : Act) (w3743 : World) (own3743 : Own) (out3741 : List Int) (A3739 : Option Addr) (c3740 : Nat), a3743.defers = mkD [] → a3743.tmps.size = 104 → a3743.eval (.tmp 2) = .pointer (some ⟨g3088, 0, none⟩) → a3743.eval (.tmp 3) = .pointer (some ⟨g3090, 0, none⟩) → a3743.eval (.tmp 5) = .pointer (some ⟨g3100, 0, none⟩) → a3743.eval (.tmp 45) = .slice Ax1_2 x1.2.2.length cx1_2 → a3743.eval (.tmp 46) = .int .i64 (x1.2.2.length : Int) → a3743.eval (.tmp 47) = .int .i64 x3560 → Evo [] (fun _ => 0) own3743 w w3743 → BlkO own3743 3089 w3743 g3088 70 #[.pointer (some ⟨gx1, 0, none⟩)] → BlkO own3743 0 w3743 gx1 tx1 #[.slice Ax1_0 x1.1.length cx1_0, .map (some mx1_1), .slice Ax1_2 x1.2.2.length cx1_2] → RdO own3743 [0] w3743 R80 Ax1_0 cx1_0 x1.1 → MpN own3743 0 0 [0] w3743 mx1_1 vv111 3 R3 x1.2.1 → RdO own3743 [0] w3743 R3 Ax1_2 cx1_2 x1.2.2 → BlkO own3743 3091 w3743 g3090 80 #[.int .i64 b2.1.1, .int .i64 b2.1.2, .int .i64 b2.2.1, .int .i64 b2.2.2] → BlkO own3743 3738 w3743 g3100 22 #[.slice A3739 out3741.length c3740] → RwO own3743 3742 [] w3743 3 R3 A3739 c3740 out3741 → MkO own3743 11 w3743 [] → rows_Index_Find_k4 x3560 out3741 = some zz3663 → (Q3717 .normal a3743 w3743 ∧ Q3717 (.exit 3) a3743 w3743) := by
        intro a3743 w3743 own3743 out3741 A3739 c3740 hd3744 hz3744 e3744_2 e3744_3 e3744_5 e3744_45 e3744_46 e3744_47 hE3744 b3744_g3088 b3744_gx1 b3744_Ax1_0 b3744_mx1_1 b3744_Ax1_2 b3744_g3090 b3744_g3100 b3744_A3739 b3744_mk hs
        refine and_both (hn3717 _ _) (hx3717 _ _) ?_
        refine hn3668 _ _ ?_
        refine rg_plain (n := 104) (rs := []) (own0 := own3743) (K := [])
            (bs := [0, 1])
            (ds := [⟨[], [47], [], Fct.val 64 (.int .i64 (ad x3560 1))⟩,
            ⟨[0], [], [], Fct.val 47 (.int .i64 (ad x3560 1))⟩]) (by kernel_rfl) hz3744 hd3744 (fun _ h => nomatch h) ?_ ?_
        · refine sc (fun _ _ _ _ s _ => px (or_add (s.1.trans e3744_47) rfl rfl)) ?_
          refine sc (fun _ _ _ f _ _ => px (or_move f.1)) ?_
          exact steps_nil
        intro own3745 a3745 w3745 hd3745 hz3745 hk3745 hf3745 hE3745
        have e3745_2 := (hk3745 2 rfl).trans e3744_2
        have e3745_3 := (hk3745 3 rfl).trans e3744_3
        have e3745_5 := (hk3745 5 rfl).trans e3744_5
        have e3745_45 := (hk3745 45 rfl).trans e3744_45
        have e3745_46 := (hk3745 46 rfl).trans e3744_46
        obtain ⟨(f_47 : a3745.eval (.tmp 47) = .int .i64 (ad x3560 1)), -⟩ := hf3745 [1] rfl
        have e3745_47 := f_47
        have hX3745 := Evo.step hE3744 (fun _ => Nat.le_refl 0) hE3745 rfl
        have b3745_g3088 := BlkO.evo (by decide) hE3745 b3744_g3088
        have b3745_gx1 := BlkO.evo (by decide) hE3745 b3744_gx1
        have b3745_Ax1_0 := RdO.evo rfl hE3745 b3744_Ax1_0
        have b3745_mx1_1 := MpN.evo rfl hE3745 b3744_mx1_1
        have b3745_Ax1_2 := RdO.evo rfl hE3745 b3744_Ax1_2
        have b3745_g3090 := BlkO.evo (by decide) hE3745 b3744_g3090
        have b3745_g3100 := BlkO.evo (by decide) hE3745 b3744_g3100
        have b3745_A3739 := RwO.evo rfl hE3745 b3744_A3739
        have b3745_mk := MkO.evo (by decide) hE3745 b3744_mk
        exact hn3663 _ _ _ hs ⟨(rl [(3738, 3555), (3742, 3559)] own3745), A3739, c3740, hd3745, hz3745, e3745_2, e3745_3, e3745_5, e3745_45, e3745_46, e3745_47, (Evo.rl_ hX3745 (fun _ => Nat.le_refl 0) rfl), (BlkO.rl_ (mm := [(3738, 3555), (3742, 3559)]) b3745_g3088), (BlkO.rl_ (mm := [(3738, 3555), (3742, 3559)]) b3745_gx1), (RdO.rl_ (mm := [(3738, 3555), (3742, 3559)]) b3745_Ax1_0), (MpN.rl_ (mm := [(3738, 3555), (3742, 3559)]) b3745_mx1_1), (RdO.rl_ (mm := [(3738, 3555), (3742, 3559)]) b3745_Ax1_2), (BlkO.rl_ (mm := [(3738, 3555), (3742, 3559)]) b3745_g3090), (BlkO.rl_ (mm := [(3738, 3555), (3742, 3559)]) b3745_g3100), (RwO.rl_ (mm := [(3738, 3555), (3742, 3559)]) b3745_A3739), (MkO.rl_ (mm := [(3738, 3555), (3742, 3559)]) b3745_mk)⟩
      obtain ⟨x3746, hx3746, hs⟩ := obind hs
      refine rg_plain_seq (n := 104) (rs := []) (own0 := own3665) (K := [])
          (bs := [0, 1, 3])
          (ds := [⟨[], [45, 47], [], Fct.val 49 (.pointer (some ((adr Ax1_2).add ((x3560 : Int).toNat * R3.s))))⟩,
          ⟨[0], [], [], Fct.val 50 (.int .i64 x3746)⟩,
          ⟨[1], [], [], Fct.val 9 (.int .i64 x3746)⟩]) (by kernel_rfl) hz3665 hd3665 (fun _ h => nomatch h) ?_ ?_
      · refine sc (fun _ _ _ _ s _ => px (or_index (R := R3) (l := x1.2.2) tl22 (s.1.trans e3665_45) (s.2.1.trans e3665_47) (RdO.some_ b3665_Ax1_2 hx3746) hx3746)) ?_
        refine sc (fun _ _ _ f _ hE => px (or_load1 to3 f.1 (CellsAt.zero (RdO.cells (F := E3) (RdO.evo rfl hE b3665_Ax1_2) hx3746) rfl))) ?_
        refine sc (fun _ _ _ f _ _ => px (or_assign f.1)) ?_
        exact steps_nil
      intro own3747 a3747 w3747 hd3747 hz3747 hk3747 hf3747 hE3747
      have e3747_2 := (hk3747 2 rfl).trans e3665_2
      have e3747_3 := (hk3747 3 rfl).trans e3665_3
      have e3747_5 := (hk3747 5 rfl).trans e3665_5
      have e3747_45 := (hk3747 45 rfl).trans e3665_45
      have e3747_46 := (hk3747 46 rfl).trans e3665_46
      have e3747_47 := (hk3747 47 rfl).trans e3665_47
      obtain ⟨(f_9 : a3747.eval (.tmp 9) = .int .i64 x3746), -⟩ := hf3747 [2] rfl
      have e3747_9 := f_9
      have hX3747 := Evo.step hX3665 (fun _ => Nat.le_refl 0) hE3747 rfl
      have b3747_g3088 := BlkO.evo (by decide) hE3747 b3665_g3088
      have b3747_gx1 := BlkO.evo (by decide) hE3747 b3665_gx1
      have b3747_Ax1_0 := RdO.evo rfl hE3747 b3665_Ax1_0
      have b3747_mx1_1 := MpN.evo rfl hE3747 b3665_mx1_1
      have b3747_Ax1_2 := RdO.evo rfl hE3747 b3665_Ax1_2
      have b3747_g3090 := BlkO.evo (by decide) hE3747 b3665_g3090
      have b3747_g3100 := BlkO.evo (by decide) hE3747 b3665_g3100
      have b3747_A3556 := RwO.evo rfl hE3747 b3665_A3556
      have b3747_mk := MkO.evo (by decide) hE3747 b3665_mk
      obtain ⟨x3748, hx3748, hs⟩ := obind hs
      obtain ⟨r3749, hr3749, hs⟩ := obind hs
      refine rg_draw_seq g_mixed (n := 104) (rs := []) (own0 := own3747) (K := [])
          (bs := [0, 0, 2, 6, 14, 0, 62, 126, 255])
          (ds := [⟨[], [3], [], Fct.val 51 (.agg #[.int .i64 b2.1.1, .int .i64 b2.1.2, .int .i64 b2.2.1, .int .i64 b2.2.2])⟩,
          ⟨[], [2], [], Fct.val 52 (.pointer (some ⟨gx1, 0, none⟩))⟩,
          ⟨[1], [], [], Fct.val 53 (.pointer (some ⟨gx1, 0, none⟩))⟩,
          ⟨[2], [], [], Fct.val 54 (.pointer (some ⟨gx1, 0, none⟩))⟩,
          ⟨[3], [], [], Fct.val 55 (.slice Ax1_0 x1.1.length cx1_0)⟩,
          ⟨[], [9], [], Fct.val 56 (.int .i64 x3746)⟩,
          ⟨[4, 5], [], [], Fct.val 57 (.pointer (some ((adr Ax1_0).add ((x3746 : Int).toNat * R80.s))))⟩,
          ⟨[6], [], [], Fct.val 58 (.agg #[.int .i64 x3748.1.1, .int .i64 x3748.1.2, .int .i64 x3748.2.1, .int .i64 x3748.2.2])⟩,
          ⟨[0, 7], [], [], Fct.val 59 (.bool r3749)⟩]) (by kernel_rfl) hz3747 hd3747 (fun _ h => nomatch h) ?_ ?_
      · refine sc (fun _ _ _ _ s hE => px (or_load (l := [.int .i64 b2.1.1, .int .i64 b2.1.2, .int .i64 b2.2.1, .int .i64 b2.2.2]) ta80 (s.1.trans e3747_3) (Blk.cellsFrom (BlkO.evo (by decide) hE b3747_g3090).2 0 rfl) rfl)) ?_
        refine sc (fun _ _ _ _ s hE => px (or_load1 to70 (s.1.trans e3747_2) (Blk.at_ (BlkO.evo (by decide) hE b3747_g3088).2 0 rfl))) ?_
        refine sc (fun _ _ _ f _ _ => px (or_k [(52, .pointer (some ⟨gx1, 0, none⟩))] rfl rfl ⟨f.1, trivial⟩ (by kernel_rfl))) ?_
        refine sc (fun _ _ _ f _ _ => px (or_field fo106_0 f.1 (by rfl))) ?_
        refine sc (fun _ _ _ f _ hE => px (or_load1 to103 f.1 (Blk.at_ (BlkO.evo (by decide) hE b3747_gx1).2 0 rfl))) ?_
        refine sc (fun _ _ _ _ s _ => px (or_move (s.1.trans e3747_9))) ?_
        refine sc (fun _ _ _ f _ _ => px (or_index (R := R80) (l := x1.1) tl103 f.1 f.2.1 (RdO.some_ b3747_Ax1_0 hx3748) hx3748)) ?_
        refine sc (fun _ _ _ f _ hE => px (or_load (l := E80.f x3748) ta80 f.1 (RdO.cells (F := E80) (RdO.evo rfl hE b3747_Ax1_0) hx3748) rfl)) ?_
        refine sc (fun _ _ _ f _ _ => px (or_call cf55 (args2 f.1 f.2.1) (rows_Meet_w _ b2 x3748  r3749 hr3749) post_val)) ?_
        exact steps_nil
      intro own3750 a3750 w3750 hd3750 hz3750 hk3750 hf3750 hE3750
      have e3750_2 := (hk3750 2 rfl).trans e3747_2
      have e3750_3 := (hk3750 3 rfl).trans e3747_3
      have e3750_5 := (hk3750 5 rfl).trans e3747_5
      have e3750_9 := (hk3750 9 rfl).trans e3747_9
      have e3750_45 := (hk3750 45 rfl).trans e3747_45
      have e3750_46 := (hk3750 46 rfl).trans e3747_46
      have e3750_47 := (hk3750 47 rfl).trans e3747_47
      obtain ⟨(f_59 : a3750.eval (.tmp 59) = .bool r3749), -⟩ := hf3750 [8] rfl
      have e3750_59 := f_59
      have hX3750 := Evo.step hX3747 (fun _ => Nat.le_refl 0) hE3750 rfl
      have b3750_g3088 := BlkO.evo (by decide) hE3750 b3747_g3088
      have b3750_gx1 := BlkO.evo (by decide) hE3750 b3747_gx1
      have b3750_Ax1_0 := RdO.evo rfl hE3750 b3747_Ax1_0
      have b3750_mx1_1 := MpN.evo rfl hE3750 b3747_mx1_1
      have b3750_Ax1_2 := RdO.evo rfl hE3750 b3747_Ax1_2
      have b3750_g3090 := BlkO.evo (by decide) hE3750 b3747_g3090
      have b3750_g3100 := BlkO.evo (by decide) hE3750 b3747_g3100
      have b3750_A3556 := RwO.evo rfl hE3750 b3747_A3556
      have b3750_mk := MkO.evo (by decide) hE3750 b3747_mk
      refine fl_cond e3750_59 hs (fun c3751 hs => ?_) (fun c3751 hs => ?_)
      · obtain ⟨x3761, hx3761, hs⟩ := obind hs
        refine rg_plain (n := 104) (rs := [Fct.rowAt 3559 [] 3 R3 A3556 c3557 out3558, Fct.at_ 3555 g3100 22 #[.slice A3556 out3558.length c3557]]) (own0 := own3750) (K := [3559, 3555])
            (bs := [0, 0, 2, 7, 15])
            (ds := [⟨[6], [5], [], Fct.val 60 (.slice A3556 out3558.length c3557)⟩,
            ⟨[], [9], [], Fct.val 61 (.int .i64 x3746)⟩,
            ⟨[1], [], [], Fct.row 3760 [] 62 3 R3 [x3746]⟩,
            ⟨[0, 2, 5], [], [3559], Fct.row 3762 [] 63 3 R3 x3761⟩,
            ⟨[3, 6], [5], [3555], Fct.by_ [3764] [63] (fun l own w => ∀ (A3763 : Option Addr) (cA3763 : Nat), l.getD 0 undef = .slice A3763 x3761.length cA3763 → BlkO own 3764 w g3100 22 #[.slice A3763 x3761.length cA3763]) (fun hk he h _ _ h0' => BlkO.evo (not_hit hk (by decide)) he (h _ _ h0'))⟩]) (by kernel_rfl) hz3750 hd3750 (by simp only [List.forall_mem_cons]; exact ⟨b3750_A3556, b3750_g3100, fun _ h => nomatch h⟩) ?_ ?_
        · refine sc (fun own a wx hf hsl hE => ?_) ?_
          · obtain ⟨(b_g3100 : BlkO own 3555 wx g3100 22 #[.slice A3556 out3558.length c3557]), -⟩ := hf
            obtain ⟨s_5, -⟩ := hsl
            exact px (or_load1 to22 (s_5.trans e3750_5) (Blk.at_ b_g3100.2 0 rfl))
          refine sc (fun _ _ _ _ s _ => px (or_move (s.1.trans e3750_9))) ?_
          refine sc (fun _ _ _ f _ _ => px (or_lit (lab := 3760) (e := 3) (cs := #[.int .i64 x3746]) (F := E3) (or_new [(61, .int .i64 x3746)] rfl rfl ⟨f.1, trivial⟩ (by kernel_rfl)) rfl rfl (show 1 ≤ maxLen by decide))) ?_
          refine sc (fun own a wx hf hsl hE => ?_) ?_
          · obtain ⟨(f_60 : a.eval (.tmp 60) = .slice A3556 out3558.length c3557), ⟨⟨A3759, cA3759⟩, (f_62 : a.eval (.tmp 62) = .slice A3759 [x3746].length cA3759), (b_A3759 : RwO own 3760 [] wx 3 R3 A3759 cA3759 [x3746])⟩, (b_A3556 : RwO own 3559 [] wx 3 R3 A3556 c3557 out3558), -⟩ := hf
            exact px (or_append (R := R3) (lab := 3559) (lab2 := 3762) (L := []) (L3 := []) tp22 f_60 b_A3556 (by decide) f_62 (RwO.rd b_A3759) hx3761 (by decide) (by decide) (mem_of rfl) (.inl (Rep.fl_flat _)))
          refine sc (fun own a wx hf hsl hE => ?_) ?_
          · obtain ⟨⟨⟨A3763, cA3763⟩, (f_63 : a.eval (.tmp 63) = .slice A3763 x3761.length cA3763), (b_A3763 : RwO own 3762 [] wx 3 R3 A3763 cA3763 x3761)⟩, (b_g3100 : BlkO own 3555 wx g3100 22 #[.slice A3556 out3558.length c3557]), -⟩ := hf
            obtain ⟨s_5, -⟩ := hsl
            exact px (or_store1 (lab := 3555) (lab2 := 3764) ts22 (s_5.trans e3750_5) f_63 b_g3100 (by simp) rfl (mem_of rfl) (by decide) rfl (fun own' a' w' ha hb => fun _ _ h0' => by cases (f_63.symm.trans ((ha 63).symm.trans h0')); exact hb))
          exact steps_nil
        intro own3765 a3765 w3765 hd3765 hz3765 hk3765 hf3765 hE3765
        have e3765_2 := (hk3765 2 rfl).trans e3750_2
        have e3765_3 := (hk3765 3 rfl).trans e3750_3
        have e3765_5 := (hk3765 5 rfl).trans e3750_5
        have e3765_45 := (hk3765 45 rfl).trans e3750_45
        have e3765_46 := (hk3765 46 rfl).trans e3750_46
        have e3765_47 := (hk3765 47 rfl).trans e3750_47
        obtain ⟨⟨⟨A3763, cA3763⟩, (f_63 : a3765.eval (.tmp 63) = .slice A3763 x3761.length cA3763), (b_A3763 : RwO own3765 3762 [] w3765 3 R3 A3763 cA3763 x3761)⟩, (bq_g3100 : ∀ (A3763 : Option Addr) (cA3763 : Nat), a3765.eval (.tmp 63) = .slice A3763 x3761.length cA3763 → BlkO own3765 3764 w3765 g3100 22 #[.slice A3763 x3761.length cA3763]), -⟩ := hf3765 [3, 4] rfl
        have b_g3100 := bq_g3100 _ _ f_63
        have hX3765 := Evo.step hX3750 (fun _ => Nat.le_refl 0) hE3765 rfl
        have b3765_g3088 := BlkO.evo (by decide) hE3765 b3750_g3088
        have b3765_gx1 := BlkO.evo (by decide) hE3765 b3750_gx1
        have b3765_Ax1_0 := RdO.evo rfl hE3765 b3750_Ax1_0
        have b3765_mx1_1 := MpN.evo rfl hE3765 b3750_mx1_1
        have b3765_Ax1_2 := RdO.evo rfl hE3765 b3750_Ax1_2
        have b3765_g3090 := BlkO.evo (by decide) hE3765 b3750_g3090
        have b3765_mk := MkO.evo (by decide) hE3765 b3750_mk
        have b3765_g3100 := b_g3100
        have b3765_A3763 := b_A3763
        exact (K3743 _ _ (rl [(3762, 3742), (3764, 3738)] own3765) _ A3763 cA3763 hd3765 hz3765 e3765_2 e3765_3 e3765_5 e3765_45 e3765_46 e3765_47 (Evo.rl_ hX3765 (fun _ => Nat.le_refl 0) rfl) (BlkO.rl_ (mm := [(3762, 3742), (3764, 3738)]) b3765_g3088) (BlkO.rl_ (mm := [(3762, 3742), (3764, 3738)]) b3765_gx1) (RdO.rl_ (mm := [(3762, 3742), (3764, 3738)]) b3765_Ax1_0) (MpN.rl_ (mm := [(3762, 3742), (3764, 3738)]) b3765_mx1_1) (RdO.rl_ (mm := [(3762, 3742), (3764, 3738)]) b3765_Ax1_2) (BlkO.rl_ (mm := [(3762, 3742), (3764, 3738)]) b3765_g3090) (BlkO.rl_ (mm := [(3762, 3742), (3764, 3738)]) b3765_g3100) (RwO.rl_ (mm := [(3762, 3742), (3764, 3738)]) b3765_A3763) (MkO.rl_ (mm := [(3762, 3742), (3764, 3738)]) b3765_mk) hs).1
      refine fl_skip ?_
      exact (K3743 _ _ (rl [(3555, 3738), (3559, 3742)] own3750) _ A3556 c3557 hd3750 hz3750 e3750_2 e3750_3 e3750_5 e3750_45 e3750_46 e3750_47 (Evo.rl_ hX3750 (fun _ => Nat.le_refl 0) rfl) (BlkO.rl_ (mm := [(3555, 3738), (3559, 3742)]) b3750_g3088) (BlkO.rl_ (mm := [(3555, 3738), (3559, 3742)]) b3750_gx1) (RdO.rl_ (mm := [(3555, 3738), (3559, 3742)]) b3750_Ax1_0) (MpN.rl_ (mm := [(3555, 3738), (3559, 3742)]) b3750_mx1_1) (RdO.rl_ (mm := [(3555, 3738), (3559, 3742)]) b3750_Ax1_2) (BlkO.rl_ (mm := [(3555, 3738), (3559, 3742)]) b3750_g3090) (BlkO.rl_ (mm := [(3555, 3738), (3559, 3742)]) b3750_g3100) (RwO.rl_ (mm := [(3555, 3738), (3559, 3742)]) b3750_A3556) (MkO.rl_ (mm := [(3555, 3738), (3559, 3742)]) b3750_mk) hs).1
    refine fl_exit ?_
    refine hp3666 _ _ _ rfl ?_
    replace hs := hz3663 _ hs
    refine hp3663 _ _ _ rfl ?_
    refine hx3452 _ _ ?_
    refine hn3450 _ _ ?_
    refine rg_plain_seq (n := 104) (rs := []) (own0 := own3665) (K := [3769])
        (bs := [0, 0, 3])
        (ds := [⟨[], [], [], Fct.map_ 3767 65 vv3 vv4 ([] : List (Int × Bool))⟩,
        ⟨[], [], [], Fct.blk 3769 10 (fun g => .pointer (some ⟨g, 0, none⟩)) 118 #[.map none]⟩,
        ⟨[1, 0], [], [3769], Fct.by_ [3770] [10, 65] (fun l own w => ∃ g3768 : Nat, l.getD 0 undef = .pointer (some ⟨g3768, 0, none⟩) ∧ (∀ (g3766 : Nat), l.getD 1 undef = .map (some g3766) → BlkO own 3770 w g3768 118 #[.map (some g3766)])) (fun hk he h => by obtain ⟨g, e, h⟩ := h; exact ⟨g, e, fun _ h0' => BlkO.evo (not_hit hk (by decide)) he (h _ h0')⟩)⟩]) (by kernel_rfl) hz3665 hd3665 (fun _ h => nomatch h) ?_ ?_
    · refine sc (fun _ _ _ _ _ _ => px (or_makeMap)) ?_
      refine sc (fun _ _ _ _ _ _ => px (or_new [] rfl rfl trivial (by kernel_rfl))) ?_
      refine sc (fun own a wx hf hsl hE => ?_) ?_
      · obtain ⟨⟨g3768, (f_10 : a.eval (.tmp 10) = .pointer (some ⟨g3768, 0, none⟩)), (b_g3768 : BlkO own 3769 wx g3768 118 #[.map none])⟩, ⟨g3766, (f_65 : a.eval (.tmp 65) = .map (some g3766)), (b_g3766 : MpO own 3767 wx g3766 vv3 vv4 ([] : List (Int × Bool)))⟩, -⟩ := hf
        exact px (or_store1 (lab := 3769) (lab2 := 3770) ts118 f_10 f_65 b_g3768 (by simp) rfl (mem_of rfl) (by decide) rfl (fun own' a' w' ha hb => ⟨_, (ha 10).trans f_10, fun _ h0' => by cases (f_65.symm.trans ((ha 65).symm.trans h0')); exact hb⟩))
      exact steps_nil
    intro own3771 a3771 w3771 hd3771 hz3771 hk3771 hf3771 hE3771
    have e3771_2 := (hk3771 2 rfl).trans e3665_2
    have e3771_3 := (hk3771 3 rfl).trans e3665_3
    have e3771_5 := (hk3771 5 rfl).trans e3665_5
    obtain ⟨⟨g3766, (f_65 : a3771.eval (.tmp 65) = .map (some g3766)), (b_g3766 : MpO own3771 3767 w3771 g3766 vv3 vv4 ([] : List (Int × Bool)))⟩, ⟨g3768, (f_10 : a3771.eval (.tmp 10) = .pointer (some ⟨g3768, 0, none⟩)), (bq_g3768 : ∀ (g3766 : Nat), a3771.eval (.tmp 65) = .map (some g3766) → BlkO own3771 3770 w3771 g3768 118 #[.map (some g3766)])⟩, -⟩ := hf3771 [0, 2] rfl
    have b_g3768 := bq_g3768 _ f_65
    have e3771_10 := f_10
    have hX3771 := Evo.step hX3665 (fun _ => Nat.le_refl 0) hE3771 rfl
    have b3771_g3088 := BlkO.evo (by decide) hE3771 b3665_g3088
    have b3771_gx1 := BlkO.evo (by decide) hE3771 b3665_gx1
    have b3771_Ax1_0 := RdO.evo rfl hE3771 b3665_Ax1_0
    have b3771_mx1_1 := MpN.evo rfl hE3771 b3665_mx1_1
    have b3771_Ax1_2 := RdO.evo rfl hE3771 b3665_Ax1_2
    have b3771_g3090 := BlkO.evo (by decide) hE3771 b3665_g3090
    have b3771_g3100 := BlkO.evo (by decide) hE3771 b3665_g3100
    have b3771_A3556 := RwO.evo rfl hE3771 b3665_A3556
    have b3771_mk := MkO.evo (by decide) hE3771 b3665_mk
    have b3771_g3766 := b_g3766
    have b3771_g3768 := b_g3768
    refine fl_seq (fun Q3772 hn3772 hp3772 => ?_)
    refine rg_plain_seq (n := 104) (rs := []) (own0 := own3771) (K := [])
        (bs := [0, 1])
        (ds := [⟨[], [3], [], Fct.val 66 (.agg #[.int .i64 b2.1.1, .int .i64 b2.1.2, .int .i64 b2.2.1, .int .i64 b2.2.2])⟩,
        ⟨[0], [], [], Fct.mems [3774] 67 (fun (x : Option Addr × Nat) => .func (.func 64) #[] #[.pointer (some ⟨x.2, 0, none⟩)]) (fun (x : Option Addr × Nat) own w => BlkO own 3774 w x.2 80 #[.int .i64 b2.1.1, .int .i64 b2.1.2, .int .i64 b2.2.1, .int .i64 b2.2.2]) (fun hk he h => BlkO.evo (not_hit hk (by decide)) he h)⟩]) (by kernel_rfl) hz3771 hd3771 (fun _ h => nomatch h) ?_ ?_
    · refine sc (fun _ _ _ _ s hE => px (or_load (l := [.int .i64 b2.1.1, .int .i64 b2.1.2, .int .i64 b2.2.1, .int .i64 b2.2.2]) ta80 (s.1.trans e3771_3) (Blk.cellsFrom (BlkO.evo (by decide) hE b3771_g3090).2 0 rfl) rfl)) ?_
      refine sc (fun _ _ _ f _ _ => px (or_call cf50 (args1 f.1) (rows_fields_w _ b2  () rfl) (post_mems (m := (fun _ => 0)) (m' := (look0 [(1, 3774)])) (fun _ _ => .inl rfl) (fun own' w' a' x h1 h => ⟨x, h1, BlkO.back_ h (by decide)⟩)))) ?_
      exact steps_nil
    intro own3775 a3775 w3775 hd3775 hz3775 hk3775 hf3775 hE3775
    have e3775_2 := (hk3775 2 rfl).trans e3771_2
    have e3775_3 := (hk3775 3 rfl).trans e3771_3
    have e3775_5 := (hk3775 5 rfl).trans e3771_5
    have e3775_10 := (hk3775 10 rfl).trans e3771_10
    obtain ⟨⟨⟨A3773, cA3773⟩, (f_67 : a3775.eval (.tmp 67) = .func (.func 64) #[] #[.pointer (some ⟨cA3773, 0, none⟩)]), (b_cA3773 : BlkO own3775 3774 w3775 cA3773 80 #[.int .i64 b2.1.1, .int .i64 b2.1.2, .int .i64 b2.2.1, .int .i64 b2.2.2])⟩, -⟩ := hf3775 [1] rfl
    have e3775_67 := f_67
    have hX3775 := Evo.step hX3771 (fun _ => Nat.le_refl 0) hE3775 rfl
    have b3775_g3088 := BlkO.evo (by decide) hE3775 b3771_g3088
    have b3775_gx1 := BlkO.evo (by decide) hE3775 b3771_gx1
    have b3775_Ax1_0 := RdO.evo rfl hE3775 b3771_Ax1_0
    have b3775_mx1_1 := MpN.evo rfl hE3775 b3771_mx1_1
    have b3775_Ax1_2 := RdO.evo rfl hE3775 b3771_Ax1_2
    have b3775_g3090 := BlkO.evo (by decide) hE3775 b3771_g3090
    have b3775_g3100 := BlkO.evo (by decide) hE3775 b3771_g3100
    have b3775_A3556 := RwO.evo rfl hE3775 b3771_A3556
    have b3775_mk := MkO.evo (by decide) hE3775 b3771_mk
    have b3775_g3766 := MpO.evo (by decide) hE3775 b3771_g3766
    have b3775_g3768 := BlkO.evo (by decide) hE3775 b3771_g3768
    have b3775_cA3773 := b_cA3773
    refine fl_block (fun Q3776 hn3776 hx3776 hp3776 => ?_)
    obtain ⟨zz5367, hzz5367, hs⟩ := rngO_some hs
    refine fl_range (S := (List Int) × (List (Int × Bool))) (D := Empty) (X := (Int × Int)) (encs := (fun (x : (Int × Int)) => #[.agg #[.int .i64 x.1, .int .i64 x.2]])) (n := 104) [3555, 3559, 3767, 5374, 5902, 5906, 5907, 6128, 6132, 6133, 6147, 6159, 6161] 5368 11 rfl
        (fun (sr : (List Int) × (List (Int × Bool))) (ox : Own) (wx : World) => match sr with | (out4572, met4574) => ∃ (A4570 : Option Addr) (c4571 : Nat), Evo [] (fun _ => 0) ox w wx ∧ BlkO ox 3089 wx g3088 70 #[.pointer (some ⟨gx1, 0, none⟩)] ∧ BlkO ox 0 wx gx1 tx1 #[.slice Ax1_0 x1.1.length cx1_0, .map (some mx1_1), .slice Ax1_2 x1.2.2.length cx1_2] ∧ RdO ox [0] wx R80 Ax1_0 cx1_0 x1.1 ∧ MpN ox 0 0 [0] wx mx1_1 vv111 3 R3 x1.2.1 ∧ RdO ox [0] wx R3 Ax1_2 cx1_2 x1.2.2 ∧ BlkO ox 3091 wx g3090 80 #[.int .i64 b2.1.1, .int .i64 b2.1.2, .int .i64 b2.2.1, .int .i64 b2.2.2] ∧ BlkO ox 3555 wx g3100 22 #[.slice A4570 out4572.length c4571] ∧ RwO ox 3559 [] wx 3 R3 A4570 c4571 out4572 ∧ BlkO ox 3770 wx g3768 118 #[.map (some g3766)] ∧ MpO ox 3767 wx g3766 vv3 vv4 met4574 ∧ BlkO ox 3774 wx cA3773 80 #[.int .i64 b2.1.1, .int .i64 b2.1.2, .int .i64 b2.2.1, .int .i64 b2.2.2])
        (fun (e : Empty) (_ : Own) (_ : World) => nomatch e)
        (fun (e : Empty) => nomatch e) (fun (sr : (List Int) × (List (Int × Bool))) (xr : (Int × Int)) => rows_Index_Find_b7 x1 b2 sr.1 sr.2 xr) hz3775 rfl e3775_67 cf64 (cargs := fun l => #[.func (.yield l) #[] #[], .pointer (some ⟨cA3773, 0, none⟩)]) (fun _ => by simp) (fun _ => rfl) hd3775 b3775_mk ?_ ?_ (out3558, ([] : List (Int × Bool))) zz5367 ⟨A3556, c3557, hX3775, b3775_g3088, b3775_gx1, b3775_Ax1_0, b3775_mx1_1, b3775_Ax1_2, b3775_g3090, b3775_g3100, b3775_A3556, b3775_g3768, b3775_g3766, b3775_cA3773⟩ ?_ ?_ ?_ ?_
    · rintro ⟨out4572, met4574⟩ ox ox1 wx wx1 hEs ⟨A4570, c4571, h5367_0, h5367_1, h5367_2, h5367_3, h5367_4, h5367_5, h5367_6, h5367_7, h5367_8, h5367_9, h5367_10, h5367_11⟩
      exact ⟨A4570, c4571, (Evo.step h5367_0 (fun _ => Nat.le_refl 0) hEs rfl), (BlkO.evo (by decide) hEs h5367_1), (BlkO.evo (by decide) hEs h5367_2), (RdO.evo rfl hEs h5367_3), (MpN.evo rfl hEs h5367_4), (RdO.evo rfl hEs h5367_5), (BlkO.evo (by decide) hEs h5367_6), (BlkO.evo (by decide) hEs h5367_7), (RwO.evo rfl hEs h5367_8), (BlkO.evo (by decide) hEs h5367_9), (MpO.evo (by decide) hEs h5367_10), (BlkO.evo (by decide) hEs h5367_11)⟩
    · intro e; exact nomatch e
    · intro l5367 own1 w1 J5367 hE1 hJ1 hR1
      exact (rows_fields_1_w w1 (forth own1 (look0 (kj 5368 [3555, 3559, 3767, 5374, 5902, 5906, 5907, 6128, 6132, 6133, 6147, 6159, 6161]))) (((List Int) × (List (Int × Bool))) ⊕ Empty) (yb (fun (sr : (List Int) × (List (Int × Bool))) (xr : (Int × Int)) => rows_Index_Find_b7 x1 b2 sr.1 sr.2 xr)) J5367 l5367 (Sum.inl (out3558, ([] : List (Int × Bool)))) b2 cA3773 80 (look0_le rfl) hR1 hJ1 (BlkO.forth_ (BlkO.evo (by decide) hE1 b3775_cA3773)) zz5367 hzz5367).mono fun e wz ⟨oz, he, _, hJz⟩ => ⟨_, oz, he, hJz⟩
    · rintro l5371 ⟨out4572, met4574⟩ x5370 zz2 own5371 a5371 w5371 Ds5371 ⟨A4570, c4571, hE5372, b5372_g3088, b5372_gx1, b5372_Ax1_0, b5372_mx1_1, b5372_Ax1_2, b5372_g3090, b5372_g3100, b5372_A4570, b5372_g3768, b5372_g3766, b5372_cA3773⟩ - hrc5371 hs ⟨hd5371, hz5371, hkp5371, hpar5371⟩ Q5371 hn5371
      have hs : rows_Index_Find_b7 x1 b2 out4572 met4574 x5370 = some zz2 := hs
      replace hz5371 := hz5371.trans hz3775
      have e5371_2 : a5371.eval (.tmp 2) = .pointer (some ⟨g3088, 0, none⟩) := (hkp5371 2 rfl).trans e3775_2
      have e5371_3 : a5371.eval (.tmp 3) = .pointer (some ⟨g3090, 0, none⟩) := (hkp5371 3 rfl).trans e3775_3
      have e5371_5 : a5371.eval (.tmp 5) = .pointer (some ⟨g3100, 0, none⟩) := (hkp5371 5 rfl).trans e3775_5
      have e5371_10 : a5371.eval (.tmp 10) = .pointer (some ⟨g3768, 0, none⟩) := (hkp5371 10 rfl).trans e3775_10
      have e5371_67 : a5371.eval (.tmp 67) = .func (.func 64) #[] #[.pointer (some ⟨cA3773, 0, none⟩)] := (hkp5371 67 rfl).trans e3775_67
      have e5371_68 : a5371.eval (.tmp 68) = .agg #[.int .i64 x5370.1, .int .i64 x5370.2] := hpar5371 0 68 _ rfl rfl
      have hE5371 := Evo.refl [3555, 3559, 3767, 5374, 5902, 5906, 5907, 6128, 6132, 6133, 6147, 6159, 6161] own5371 w5371
      have hrc0_5371 := hrc5371
      refine rg_plain (n := 104) (rs := []) (own0 := own5371) (K := [5374])
          (bs := [0, 1])
          (ds := [⟨[], [], [], Fct.blk 5374 11 (fun g => .pointer (some ⟨g, 0, none⟩)) 111 #[.int .i64 0, .int .i64 0]⟩,
          ⟨[0], [68], [5374], Fct.blk 5375 11 (fun g => .pointer (some ⟨g, 0, none⟩)) 111 #[.int .i64 x5370.1, .int .i64 x5370.2]⟩]) (by kernel_rfl) hz5371 hd5371 (fun _ h => nomatch h) ?_ ?_
      · refine sc (fun _ _ _ _ _ _ => px (or_new [] rfl rfl trivial (by kernel_rfl))) ?_
        refine sc (fun own a wx hf hsl hE => ?_) ?_
        · obtain ⟨⟨g5373, (f_11 : a.eval (.tmp 11) = .pointer (some ⟨g5373, 0, none⟩)), (b_g5373 : BlkO own 5374 wx g5373 111 #[.int .i64 0, .int .i64 0])⟩, -⟩ := hf
          obtain ⟨s_68, -⟩ := hsl
          exact px (or_store (l := #[.int .i64 x5370.1, .int .i64 x5370.2]) (lab := 5374) (lab2 := 5375) ts111 f_11 (s_68.trans e5371_68) b_g5373 (by simp) (by kernel_rfl) (mem_of rfl) (by decide) (by kernel_rfl) (fun own' a' w' ha hb => ⟨_, (ha 11).trans f_11, hb⟩))
        exact steps_nil
      intro own5376 a5376 w5376 hd5376 hz5376 hk5376 hf5376 hE5376
      have e5376_2 := (hk5376 2 rfl).trans e5371_2
      have e5376_3 := (hk5376 3 rfl).trans e5371_3
      have e5376_5 := (hk5376 5 rfl).trans e5371_5
      have e5376_10 := (hk5376 10 rfl).trans e5371_10
      have e5376_67 := (hk5376 67 rfl).trans e5371_67
      obtain ⟨⟨g5373, (f_11 : a5376.eval (.tmp 11) = .pointer (some ⟨g5373, 0, none⟩)), (b_g5373 : BlkO own5376 5375 w5376 g5373 111 #[.int .i64 x5370.1, .int .i64 x5370.2])⟩, -⟩ := hf5376 [1] rfl
      have e5376_11 := f_11
      have hX5376 := Evo.stepK hE5371 hE5376 rfl
      have b5376_g3088 := BlkO.evo (by decide) hE5376 b5372_g3088
      have b5376_gx1 := BlkO.evo (by decide) hE5376 b5372_gx1
      have b5376_Ax1_0 := RdO.evo rfl hE5376 b5372_Ax1_0
      have b5376_mx1_1 := MpN.evo rfl hE5376 b5372_mx1_1
      have b5376_Ax1_2 := RdO.evo rfl hE5376 b5372_Ax1_2
      have b5376_g3090 := BlkO.evo (by decide) hE5376 b5372_g3090
      have b5376_g3100 := BlkO.evo (by decide) hE5376 b5372_g3100
      have b5376_A4570 := RwO.evo rfl hE5376 b5372_A4570
      have b5376_g3768 := BlkO.evo (by decide) hE5376 b5372_g3768
      have b5376_g3766 := MpO.evo (by decide) hE5376 b5372_g3766
      have b5376_cA3773 := BlkO.evo (by decide) hE5376 b5372_cA3773
      have b5376_g5373 := b_g5373
      refine hn5371 _ _ _ hX5376 (fun w5377 own5377 hE5377 hrc5377 => ?_)
      have b5377_g3088 := BlkO.evo (by decide) hE5377 b5376_g3088
      have b5377_gx1 := BlkO.evo (by decide) hE5377 b5376_gx1
      have b5377_Ax1_0 := RdO.evo rfl hE5377 b5376_Ax1_0
      have b5377_mx1_1 := MpN.evo rfl hE5377 b5376_mx1_1
      have b5377_Ax1_2 := RdO.evo rfl hE5377 b5376_Ax1_2
      have b5377_g3090 := BlkO.evo (by decide) hE5377 b5376_g3090
      have b5377_g3100 := BlkO.evo (by decide) hE5377 b5376_g3100
      have b5377_A4570 := RwO.evo rfl hE5377 b5376_A4570
      have b5377_g3768 := BlkO.evo (by decide) hE5377 b5376_g3768
      have b5377_g3766 := MpO.evo (by decide) hE5377 b5376_g3766
      have b5377_cA3773 := BlkO.evo (by decide) hE5377 b5376_cA3773
      have b5377_g5373 := BlkO.evo (by decide) hE5377 b5376_g5373
      have hU5377 := Evo.step (Evo.step hE5372 (fun _ => Nat.le_refl 0) hX5376 rfl) (fun _ => Nat.le_refl 0) hE5377 rfl
      have hX5377 := Evo.refl [3555, 3559, 3767, 5374, 5902, 5906, 5907, 6128, 6132, 6133, 6147, 6159, 6161] own5377 w5377
      have hmk5377 : MkO own5377 11 w5377 [] := MkO.nil_
      refine fl_block (fun Q5378 hn5378 hx5378 hp5378 => ?_)
      refine fl_fwd (l := 0) rfl ?_
      intro Q5771 hj5771 hp5771
      refine fl_seq (fun Q5772 hn5772 hp5772 => ?_)
      refine fl_label ?_
      refine hn5772 _ _ ?_
      refine rg_draw_seq g_mixed (n := 104) (rs := []) (own0 := own5377) (K := [])
          (bs := [0, 1, 3, 7, 0, 31, 63, 0])
          (ds := [⟨[], [2], [], Fct.val 69 (.pointer (some ⟨gx1, 0, none⟩))⟩,
          ⟨[0], [], [], Fct.val 70 (.pointer (some ⟨gx1, 0, none⟩))⟩,
          ⟨[1], [], [], Fct.val 71 (.pointer (some ⟨gx1, 1, none⟩))⟩,
          ⟨[2], [], [], Fct.val 72 (.map (some mx1_1))⟩,
          ⟨[], [11], [], Fct.val 73 (.agg #[.int .i64 x5370.1, .int .i64 x5370.2])⟩,
          ⟨[3, 4], [], [], Fct.view [0, 0] 74 R3 ((lkM x1.2.1 x5370).getD [])⟩,
          ⟨[5], [], [], Fct.val 75 (.int .i64 (((lkM x1.2.1 x5370).getD []).length : Int))⟩,
          ⟨[], [], [], Fct.val 76 (.int .i64 0)⟩]) (by kernel_rfl) hz5376 hd5376 (fun _ h => nomatch h) ?_ ?_
      · refine sc (fun _ _ _ _ s hE => px (or_load1 to70 (s.1.trans e5376_2) (Blk.at_ (BlkO.evo (by decide) hE b5377_g3088).2 0 rfl))) ?_
        refine sc (fun _ _ _ f _ _ => px (or_k [(69, .pointer (some ⟨gx1, 0, none⟩))] rfl rfl ⟨f.1, trivial⟩ (by kernel_rfl))) ?_
        refine sc (fun _ _ _ f _ _ => px (or_field fo106_1 f.1 (by rfl))) ?_
        refine sc (fun _ _ _ f _ hE => px (or_load1 to104 f.1 (Blk.at_ (BlkO.evo (by decide) hE b5377_gx1).2 1 rfl))) ?_
        refine sc (fun _ _ _ _ s hE => px (or_load (l := [.int .i64 x5370.1, .int .i64 x5370.2]) ta111 (s.1.trans e5376_11) (Blk.cellsFrom (BlkO.evo (by decide) hE b5377_g5373).2 0 rfl) rfl)) ?_
        refine sc (fun _ _ _ f _ hE => px (or_mview (k := x5370) ko111 tm104 tzv104 f.1 f.2.1 (MpN.evo rfl hE b5377_mx1_1) rfl)) ?_
        refine sc (fun own a wx hf hsl hE => ?_) ?_
        · obtain ⟨⟨⟨A5773, cA5773⟩, (f_74 : a.eval (.tmp 74) = .slice A5773 ((lkM x1.2.1 x5370).getD []).length cA5773), (b_A5773 : RdO own [0, 0] wx R3 A5773 cA5773 ((lkM x1.2.1 x5370).getD []))⟩, -⟩ := hf
          exact px (or_len tu22 f_74 rfl)
        refine sc (fun _ _ _ _ _ _ => px (or_move rfl)) ?_
        exact steps_nil
      intro own5774 a5774 w5774 hd5774 hz5774 hk5774 hf5774 hE5774
      have e5774_2 := (hk5774 2 rfl).trans e5376_2
      have e5774_3 := (hk5774 3 rfl).trans e5376_3
      have e5774_5 := (hk5774 5 rfl).trans e5376_5
      have e5774_10 := (hk5774 10 rfl).trans e5376_10
      have e5774_67 := (hk5774 67 rfl).trans e5376_67
      obtain ⟨⟨⟨A5773, cA5773⟩, (f_74 : a5774.eval (.tmp 74) = .slice A5773 ((lkM x1.2.1 x5370).getD []).length cA5773), (b_A5773 : RdO own5774 [0, 0] w5774 R3 A5773 cA5773 ((lkM x1.2.1 x5370).getD []))⟩, (f_75 : a5774.eval (.tmp 75) = .int .i64 (((lkM x1.2.1 x5370).getD []).length : Int)), (f_76 : a5774.eval (.tmp 76) = .int .i64 0), -⟩ := hf5774 [5, 6, 7] rfl
      have e5774_74 := f_74
      have e5774_75 := f_75
      have e5774_76 := f_76
      have hX5774 := Evo.stepK hX5377 hE5774 rfl
      have b5774_g3088 := BlkO.evo (by decide) hE5774 b5377_g3088
      have b5774_gx1 := BlkO.evo (by decide) hE5774 b5377_gx1
      have b5774_Ax1_0 := RdO.evo rfl hE5774 b5377_Ax1_0
      have b5774_mx1_1 := MpN.evo rfl hE5774 b5377_mx1_1
      have b5774_Ax1_2 := RdO.evo rfl hE5774 b5377_Ax1_2
      have b5774_g3090 := BlkO.evo (by decide) hE5774 b5377_g3090
      have b5774_g3100 := BlkO.evo (by decide) hE5774 b5377_g3100
      have b5774_A4570 := RwO.evo rfl hE5774 b5377_A4570
      have b5774_g3768 := BlkO.evo (by decide) hE5774 b5377_g3768
      have b5774_g3766 := MpO.evo (by decide) hE5774 b5377_g3766
      have b5774_cA3773 := BlkO.evo (by decide) hE5774 b5377_cA3773
      have b5774_rc := RcO.evo (by decide) hE5774 hrc5377
      have b5774_mk := MkO.evo (by decide) hE5774 hmk5377
      have b5774_A5773 := b_A5773
      refine fl_block (fun Q5775 hn5775 hx5775 hp5775 => ?_)
      refine fl_loop (body := (fun s => rows_Index_Find_b5 x1 b2 x5370 s.1 s.2.1 s.2.2)) (z := zz2) (show loopO _ _ = _ from hs) (fun (s : (List Int) × (List (Int × Bool)) × Int) a wx => match s with | (out5905, met5908, x5909) => ∃ (ox : Own) (A5903 : Option Addr) (c5904 : Nat), a.defers = mkD [] ∧ a.tmps.size = 104 ∧ a.eval (.tmp 2) = .pointer (some ⟨g3088, 0, none⟩) ∧ a.eval (.tmp 3) = .pointer (some ⟨g3090, 0, none⟩) ∧ a.eval (.tmp 5) = .pointer (some ⟨g3100, 0, none⟩) ∧ a.eval (.tmp 10) = .pointer (some ⟨g3768, 0, none⟩) ∧ a.eval (.tmp 67) = .func (.func 64) #[] #[.pointer (some ⟨cA3773, 0, none⟩)] ∧ a.eval (.tmp 74) = .slice A5773 ((lkM x1.2.1 x5370).getD []).length cA5773 ∧ a.eval (.tmp 75) = .int .i64 (((lkM x1.2.1 x5370).getD []).length : Int) ∧ a.eval (.tmp 76) = .int .i64 x5909 ∧ Evo [3555, 3559, 3767, 5374, 5902, 5906, 5907, 6128, 6132, 6133, 6147, 6159, 6161] own5377 ox w5377 wx ∧ BlkO ox 3089 wx g3088 70 #[.pointer (some ⟨gx1, 0, none⟩)] ∧ BlkO ox 0 wx gx1 tx1 #[.slice Ax1_0 x1.1.length cx1_0, .map (some mx1_1), .slice Ax1_2 x1.2.2.length cx1_2] ∧ RdO ox [0] wx R80 Ax1_0 cx1_0 x1.1 ∧ MpN ox 0 0 [0] wx mx1_1 vv111 3 R3 x1.2.1 ∧ RdO ox [0] wx R3 Ax1_2 cx1_2 x1.2.2 ∧ BlkO ox 3091 wx g3090 80 #[.int .i64 b2.1.1, .int .i64 b2.1.2, .int .i64 b2.2.1, .int .i64 b2.2.2] ∧ BlkO ox 5902 wx g3100 22 #[.slice A5903 out5905.length c5904] ∧ RwO ox 5906 [] wx 3 R3 A5903 c5904 out5905 ∧ BlkO ox 3770 wx g3768 118 #[.map (some g3766)] ∧ MpO ox 5907 wx g3766 vv3 vv4 met5908 ∧ BlkO ox 3774 wx cA3773 80 #[.int .i64 b2.1.1, .int .i64 b2.1.2, .int .i64 b2.2.1, .int .i64 b2.2.2] ∧ RdO ox [0, 0] wx R3 A5773 cA5773 ((lkM x1.2.1 x5370).getD []) ∧ MkO ox 11 wx [] ∧ RcO ox 5368 wx l5371) ?_ ?_
      · exact ⟨(rl [(3555, 5902), (3559, 5906), (3767, 5907)] own5774), A4570, c4571, hd5774, hz5774, e5774_2, e5774_3, e5774_5, e5774_10, e5774_67, e5774_74, e5774_75, e5774_76, (Evo.rlK hX5774 rfl), (BlkO.rl_ (mm := [(3555, 5902), (3559, 5906), (3767, 5907)]) b5774_g3088), (BlkO.rl_ (mm := [(3555, 5902), (3559, 5906), (3767, 5907)]) b5774_gx1), (RdO.rl_ (mm := [(3555, 5902), (3559, 5906), (3767, 5907)]) b5774_Ax1_0), (MpN.rl_ (mm := [(3555, 5902), (3559, 5906), (3767, 5907)]) b5774_mx1_1), (RdO.rl_ (mm := [(3555, 5902), (3559, 5906), (3767, 5907)]) b5774_Ax1_2), (BlkO.rl_ (mm := [(3555, 5902), (3559, 5906), (3767, 5907)]) b5774_g3090), (BlkO.rl_ (mm := [(3555, 5902), (3559, 5906), (3767, 5907)]) b5774_g3100), (RwO.rl_ (mm := [(3555, 5902), (3559, 5906), (3767, 5907)]) b5774_A4570), (BlkO.rl_ (mm := [(3555, 5902), (3559, 5906), (3767, 5907)]) b5774_g3768), (MpO.rl_ (mm := [(3555, 5902), (3559, 5906), (3767, 5907)]) b5774_g3766), (BlkO.rl_ (mm := [(3555, 5902), (3559, 5906), (3767, 5907)]) b5774_cA3773), (RdO.rl_ (mm := [(3555, 5902), (3559, 5906), (3767, 5907)]) b5774_A5773), (MkO.rl_ (mm := [(3555, 5902), (3559, 5906), (3767, 5907)]) b5774_mk), (RcO.rl_ (mm := [(3555, 5902), (3559, 5906), (3767, 5907)]) b5774_rc)⟩
      · rintro ⟨out5905, met5908, x5909⟩ zz6036 a6036 w6036 ⟨own6036, A5903, c5904, hd6037, hz6037, e6037_2, e6037_3, e6037_5, e6037_10, e6037_67, e6037_74, e6037_75, e6037_76, hE6037, b6037_g3088, b6037_gx1, b6037_Ax1_0, b6037_mx1_1, b6037_Ax1_2, b6037_g3090, b6037_g3100, b6037_A5903, b6037_g3768, b6037_g3766, b6037_cA3773, b6037_A5773, b6037_mk, b6037_rc⟩ hs Q6036 hn6036 hp6036 hz6036
        have hs : rows_Index_Find_b5 x1 b2 x5370 out5905 met5908 x5909 = some zz6036 := hs
        refine rg_plain_seq (n := 104) (rs := []) (own0 := own6036) (K := [])
            (bs := [0])
            (ds := [⟨[], [76, 75], [], Fct.val 77 (.bool (decide (x5909 < (((lkM x1.2.1 x5370).getD []).length : Int))))⟩]) (by kernel_rfl) hz6037 hd6037 (fun _ h => nomatch h) ?_ ?_
        · refine sc (fun _ _ _ _ s _ => px (or_lss (s.1.trans e6037_76) (s.2.1.trans e6037_75) rfl)) ?_
          exact steps_nil
        intro own6038 a6038 w6038 hd6038 hz6038 hk6038 hf6038 hE6038
        have e6038_2 := (hk6038 2 rfl).trans e6037_2
        have e6038_3 := (hk6038 3 rfl).trans e6037_3
        have e6038_5 := (hk6038 5 rfl).trans e6037_5
        have e6038_10 := (hk6038 10 rfl).trans e6037_10
        have e6038_67 := (hk6038 67 rfl).trans e6037_67
        have e6038_74 := (hk6038 74 rfl).trans e6037_74
        have e6038_75 := (hk6038 75 rfl).trans e6037_75
        have e6038_76 := (hk6038 76 rfl).trans e6037_76
        obtain ⟨(f_77 : a6038.eval (.tmp 77) = .bool (decide (x5909 < (((lkM x1.2.1 x5370).getD []).length : Int)))), -⟩ := hf6038 [0] rfl
        have e6038_77 := f_77
        have hX6038 := Evo.stepK hE6037 hE6038 rfl
        have b6038_g3088 := BlkO.evo (by decide) hE6038 b6037_g3088
        have b6038_gx1 := BlkO.evo (by decide) hE6038 b6037_gx1
        have b6038_Ax1_0 := RdO.evo rfl hE6038 b6037_Ax1_0
        have b6038_mx1_1 := MpN.evo rfl hE6038 b6037_mx1_1
        have b6038_Ax1_2 := RdO.evo rfl hE6038 b6037_Ax1_2
        have b6038_g3090 := BlkO.evo (by decide) hE6038 b6037_g3090
        have b6038_g3100 := BlkO.evo (by decide) hE6038 b6037_g3100
        have b6038_A5903 := RwO.evo rfl hE6038 b6037_A5903
        have b6038_g3768 := BlkO.evo (by decide) hE6038 b6037_g3768
        have b6038_g3766 := MpO.evo (by decide) hE6038 b6037_g3766
        have b6038_cA3773 := BlkO.evo (by decide) hE6038 b6037_cA3773
        have b6038_A5773 := RdO.evo rfl hE6038 b6037_A5773
        have b6038_mk := MkO.evo (by decide) hE6038 b6037_mk
        have b6038_rc := RcO.evo (by decide) hE6038 b6037_rc
        refine fl_seq (fun Q6039 hn6039 hp6039 => ?_)
        refine fl_cond e6038_77 hs (fun c6040 hs => ?_) (fun c6040 hs => ?_)
        · refine fl_skip ?_
          refine hn6039 _ _ ?_
          refine fl_seq (fun Q6041 hn6041 hp6041 => ?_)
          refine fl_block (fun Q6102 hn6102 hx6102 hp6102 => ?_)
          have K6135 : ∀ (a6135 : Act) (w6135 : World) (own6135 : Own) (out6131 : List Int) (met6134 : List (Int × Bool)) (A6129 : Option Addr) (c6130 : Nat), a6135.defers = mkD [] → a6135.tmps.size = 104 → a6135.eval (.tmp 2) = .pointer (some ⟨g3088, 0, none⟩) → a6135.eval (.tmp 3) = .pointer (some ⟨g3090, 0, none⟩) → a6135.eval (.tmp 5) = .pointer (some ⟨g3100, 0, none⟩) → a6135.eval (.tmp 10) = .pointer (some ⟨g3768, 0, none⟩) → a6135.eval (.tmp 67) = .func (.func 64) #[] #[.pointer (some ⟨cA3773, 0, none⟩)] → a6135.eval (.tmp 74) = .slice A5773 ((lkM x1.2.1 x5370).getD []).length cA5773 → a6135.eval (.tmp 75) = .int .i64 (((lkM x1.2.1 x5370).getD []).length : Int) → a6135.eval (.tmp 76) = .int .i64 x5909 → Evo [3555, 3559, 3767, 5374, 5902, 5906, 5907, 6128, 6132, 6133, 6147, 6159, 6161] own5377 own6135 w5377 w6135 → BlkO own6135 3089 w6135 g3088 70 #[.pointer (some ⟨gx1, 0, none⟩)] → BlkO own6135 0 w6135 gx1 tx1 #[.slice Ax1_0 x1.1.length cx1_0, .map (some mx1_1), .slice Ax1_2 x1.2.2.length cx1_2] → RdO own6135 [0] w6135 R80 Ax1_0 cx1_0 x1.1 → MpN own6135 0 0 [0] w6135 mx1_1 vv111 3 R3 x1.2.1 → RdO own6135 [0] w6135 R3 Ax1_2 cx1_2 x1.2.2 → BlkO own6135 3091 w6135 g3090 80 #[.int .i64 b2.1.1, .int .i64 b2.1.2, .int .i64 b2.2.1, .int .i64 b2.2.2] → BlkO own6135 6128 w6135 g3100 22 #[.slice A6129 out6131.length c6130] → RwO own6135 6132 [] w6135 3 R3 A6129 c6130 out6131 → BlkO own6135 3770 w6135 g3768 118 #[.map (some g3766)] → MpO own6135 6133 w6135 g3766 vv3 vv4 met6134 → BlkO own6135 3774 w6135 cA3773 80 #[.int .i64 b2.1.1, .int .i64 b2.1.2, .int .i64 b2.2.1, .int .i64 b2.2.2] → RdO own6135 [0, 0] w6135 R3 A5773 cA5773 ((lkM x1.2.1 x5370).getD []) → MkO own6135 11 w6135 [] → RcO own6135 5368 w6135 l5371 → rows_Index_Find_k6 x5909 out6131 met6134 = some zz6036 → (Q6102 .normal a6135 w6135 ∧ Q6102 (.exit 7) a6135 w6135) := by
            intro a6135 w6135 own6135 out6131 met6134 A6129 c6130 hd6136 hz6136 e6136_2 e6136_3 e6136_5 e6136_10 e6136_67 e6136_74 e6136_75 e6136_76 hE6136 b6136_g3088 b6136_gx1 b6136_Ax1_0 b6136_mx1_1 b6136_Ax1_2 b6136_g3090 b6136_g3100 b6136_A6129 b6136_g3768 b6136_g3766 b6136_cA3773 b6136_A5773 b6136_mk b6136_rc hs
            refine and_both (hn6102 _ _) (hx6102 _ _) ?_
            refine hn6041 _ _ ?_
            refine rg_plain (n := 104) (rs := []) (own0 := own6135) (K := [])
                (bs := [0, 1])
                (ds := [⟨[], [76], [], Fct.val 101 (.int .i64 (ad x5909 1))⟩,
                ⟨[0], [], [], Fct.val 76 (.int .i64 (ad x5909 1))⟩]) (by kernel_rfl) hz6136 hd6136 (fun _ h => nomatch h) ?_ ?_
            · refine sc (fun _ _ _ _ s _ => px (or_add (s.1.trans e6136_76) rfl rfl)) ?_
              refine sc (fun _ _ _ f _ _ => px (or_move f.1)) ?_
              exact steps_nil
            intro own6137 a6137 w6137 hd6137 hz6137 hk6137 hf6137 hE6137
            have e6137_2 := (hk6137 2 rfl).trans e6136_2
            have e6137_3 := (hk6137 3 rfl).trans e6136_3
            have e6137_5 := (hk6137 5 rfl).trans e6136_5
            have e6137_10 := (hk6137 10 rfl).trans e6136_10
            have e6137_67 := (hk6137 67 rfl).trans e6136_67
            have e6137_74 := (hk6137 74 rfl).trans e6136_74
            have e6137_75 := (hk6137 75 rfl).trans e6136_75
            obtain ⟨(f_76 : a6137.eval (.tmp 76) = .int .i64 (ad x5909 1)), -⟩ := hf6137 [1] rfl
            have e6137_76 := f_76
            have hX6137 := Evo.stepK hE6136 hE6137 rfl
            have b6137_g3088 := BlkO.evo (by decide) hE6137 b6136_g3088
            have b6137_gx1 := BlkO.evo (by decide) hE6137 b6136_gx1
            have b6137_Ax1_0 := RdO.evo rfl hE6137 b6136_Ax1_0
            have b6137_mx1_1 := MpN.evo rfl hE6137 b6136_mx1_1
            have b6137_Ax1_2 := RdO.evo rfl hE6137 b6136_Ax1_2
            have b6137_g3090 := BlkO.evo (by decide) hE6137 b6136_g3090
            have b6137_g3100 := BlkO.evo (by decide) hE6137 b6136_g3100
            have b6137_A6129 := RwO.evo rfl hE6137 b6136_A6129
            have b6137_g3768 := BlkO.evo (by decide) hE6137 b6136_g3768
            have b6137_g3766 := MpO.evo (by decide) hE6137 b6136_g3766
            have b6137_cA3773 := BlkO.evo (by decide) hE6137 b6136_cA3773
            have b6137_A5773 := RdO.evo rfl hE6137 b6136_A5773
            have b6137_mk := MkO.evo (by decide) hE6137 b6136_mk
            have b6137_rc := RcO.evo (by decide) hE6137 b6136_rc
            exact hn6036 _ _ _ hs ⟨(rl [(6128, 5902), (6132, 5906), (6133, 5907)] own6137), A6129, c6130, hd6137, hz6137, e6137_2, e6137_3, e6137_5, e6137_10, e6137_67, e6137_74, e6137_75, e6137_76, (Evo.rlK hX6137 rfl), (BlkO.rl_ (mm := [(6128, 5902), (6132, 5906), (6133, 5907)]) b6137_g3088), (BlkO.rl_ (mm := [(6128, 5902), (6132, 5906), (6133, 5907)]) b6137_gx1), (RdO.rl_ (mm := [(6128, 5902), (6132, 5906), (6133, 5907)]) b6137_Ax1_0), (MpN.rl_ (mm := [(6128, 5902), (6132, 5906), (6133, 5907)]) b6137_mx1_1), (RdO.rl_ (mm := [(6128, 5902), (6132, 5906), (6133, 5907)]) b6137_Ax1_2), (BlkO.rl_ (mm := [(6128, 5902), (6132, 5906), (6133, 5907)]) b6137_g3090), (BlkO.rl_ (mm := [(6128, 5902), (6132, 5906), (6133, 5907)]) b6137_g3100), (RwO.rl_ (mm := [(6128, 5902), (6132, 5906), (6133, 5907)]) b6137_A6129), (BlkO.rl_ (mm := [(6128, 5902), (6132, 5906), (6133, 5907)]) b6137_g3768), (MpO.rl_ (mm := [(6128, 5902), (6132, 5906), (6133, 5907)]) b6137_g3766), (BlkO.rl_ (mm := [(6128, 5902), (6132, 5906), (6133, 5907)]) b6137_cA3773), (RdO.rl_ (mm := [(6128, 5902), (6132, 5906), (6133, 5907)]) b6137_A5773), (MkO.rl_ (mm := [(6128, 5902), (6132, 5906), (6133, 5907)]) b6137_mk), (RcO.rl_ (mm := [(6128, 5902), (6132, 5906), (6133, 5907)]) b6137_rc)⟩
          obtain ⟨x6138, hx6138, hs⟩ := obind hs
          refine rg_plain_seq (n := 104) (rs := []) (own0 := own6038) (K := [])
              (bs := [0, 1, 3])
              (ds := [⟨[], [74, 76], [], Fct.val 78 (.pointer (some ((adr A5773).add ((x5909 : Int).toNat * R3.s))))⟩,
              ⟨[0], [], [], Fct.val 79 (.int .i64 x6138)⟩,
              ⟨[1], [], [], Fct.val 13 (.int .i64 x6138)⟩]) (by kernel_rfl) hz6038 hd6038 (fun _ h => nomatch h) ?_ ?_
          · refine sc (fun _ _ _ _ s _ => px (or_index (R := R3) (l := ((lkM x1.2.1 x5370).getD [])) tl22 (s.1.trans e6038_74) (s.2.1.trans e6038_76) (RdO.some_ b6038_A5773 hx6138) hx6138)) ?_
            refine sc (fun _ _ _ f _ hE => px (or_load1 to3 f.1 (CellsAt.zero (RdO.cells (F := E3) (RdO.evo rfl hE b6038_A5773) hx6138) rfl))) ?_
            refine sc (fun _ _ _ f _ _ => px (or_assign f.1)) ?_
            exact steps_nil
          intro own6139 a6139 w6139 hd6139 hz6139 hk6139 hf6139 hE6139
          have e6139_2 := (hk6139 2 rfl).trans e6038_2
          have e6139_3 := (hk6139 3 rfl).trans e6038_3
          have e6139_5 := (hk6139 5 rfl).trans e6038_5
          have e6139_10 := (hk6139 10 rfl).trans e6038_10
          have e6139_67 := (hk6139 67 rfl).trans e6038_67
          have e6139_74 := (hk6139 74 rfl).trans e6038_74
          have e6139_75 := (hk6139 75 rfl).trans e6038_75
          have e6139_76 := (hk6139 76 rfl).trans e6038_76
          obtain ⟨(f_13 : a6139.eval (.tmp 13) = .int .i64 x6138), -⟩ := hf6139 [2] rfl
          have e6139_13 := f_13
          have hX6139 := Evo.stepK hX6038 hE6139 rfl
          have b6139_g3088 := BlkO.evo (by decide) hE6139 b6038_g3088
          have b6139_gx1 := BlkO.evo (by decide) hE6139 b6038_gx1
          have b6139_Ax1_0 := RdO.evo rfl hE6139 b6038_Ax1_0
          have b6139_mx1_1 := MpN.evo rfl hE6139 b6038_mx1_1
          have b6139_Ax1_2 := RdO.evo rfl hE6139 b6038_Ax1_2
          have b6139_g3090 := BlkO.evo (by decide) hE6139 b6038_g3090
          have b6139_g3100 := BlkO.evo (by decide) hE6139 b6038_g3100
          have b6139_A5903 := RwO.evo rfl hE6139 b6038_A5903
          have b6139_g3768 := BlkO.evo (by decide) hE6139 b6038_g3768
          have b6139_g3766 := MpO.evo (by decide) hE6139 b6038_g3766
          have b6139_cA3773 := BlkO.evo (by decide) hE6139 b6038_cA3773
          have b6139_A5773 := RdO.evo rfl hE6139 b6038_A5773
          have b6139_mk := MkO.evo (by decide) hE6139 b6038_mk
          have b6139_rc := RcO.evo (by decide) hE6139 b6038_rc
          refine fl_seq (fun Q6140 hn6140 hp6140 => ?_)
          obtain ⟨x6141, hx6141, hs⟩ := obind hs
          obtain ⟨r6142, hr6142, hs⟩ := obind hs
          obtain ⟨x6143, hx6143, hs⟩ := obind hs
          refine rg_draw_seq g_mixed (n := 104) (rs := []) (own0 := own6139) (K := [])
              (bs := [0, 0, 3, 7, 15, 15, 47, 111, 239, 15, 1007, 2031, 4095, 8191, 16383])
              (ds := [⟨[], [10], [], Fct.val 80 (.map (some g3766))⟩,
              ⟨[], [13], [], Fct.val 81 (.int .i64 x6138)⟩,
              ⟨[0, 1], [], [], Fct.val 82 (.bool ((lkM met5908 x6138).getD false))⟩,
              ⟨[2], [], [], Fct.val 83 (.bool ((lkM met5908 x6138).getD false))⟩,
              ⟨[3], [3], [], Fct.cond (!((lkM met5908 x6138).getD false)) (some 84) (Fct.val 84 (.agg #[.int .i64 b2.1.1, .int .i64 b2.1.2, .int .i64 b2.2.1, .int .i64 b2.2.2]))⟩,
              ⟨[3], [2], [], Fct.cond (!((lkM met5908 x6138).getD false)) (some 85) (Fct.val 85 (.pointer (some ⟨gx1, 0, none⟩)))⟩,
              ⟨[3, 5], [], [], Fct.cond (!((lkM met5908 x6138).getD false)) (some 86) (Fct.val 86 (.pointer (some ⟨gx1, 0, none⟩)))⟩,
              ⟨[3, 6], [], [], Fct.cond (!((lkM met5908 x6138).getD false)) (some 87) (Fct.val 87 (.pointer (some ⟨gx1, 0, none⟩)))⟩,
              ⟨[3, 7], [], [], Fct.cond (!((lkM met5908 x6138).getD false)) (some 88) (Fct.val 88 (.slice Ax1_0 x1.1.length cx1_0))⟩,
              ⟨[3], [13], [], Fct.cond (!((lkM met5908 x6138).getD false)) (some 89) (Fct.val 89 (.int .i64 x6138))⟩,
              ⟨[3, 8, 9], [], [], Fct.cond (!((lkM met5908 x6138).getD false)) (some 90) (Fct.val 90 (.pointer (some ((adr Ax1_0).add ((x6138 : Int).toNat * R80.s)))))⟩,
              ⟨[3, 10], [], [], Fct.cond (!((lkM met5908 x6138).getD false)) (some 91) (Fct.val 91 (.agg #[.int .i64 x6141.1.1, .int .i64 x6141.1.2, .int .i64 x6141.2.1, .int .i64 x6141.2.2]))⟩,
              ⟨[3, 4, 11], [], [], Fct.cond (!((lkM met5908 x6138).getD false)) (some 92) (Fct.val 92 (.bool r6142))⟩,
              ⟨[3, 12], [], [], Fct.cond (!((lkM met5908 x6138).getD false)) (some 93) (Fct.val 93 (.bool (!r6142)))⟩,
              ⟨[3, 13], [], [], Fct.val 94 (.bool x6143)⟩]) (by kernel_rfl) hz6139 hd6139 (fun _ h => nomatch h) ?_ ?_
          · refine sc (fun _ _ _ _ s hE => px (or_load1 to118 (s.1.trans e6139_10) (Blk.at_ (BlkO.evo (by decide) hE b6139_g3768).2 0 rfl))) ?_
            refine sc (fun _ _ _ _ s _ => px (or_move (s.1.trans e6139_13))) ?_
            refine sc (fun _ _ _ f _ hE => px (or_lookupE (kf := vv3) (vf := vv4) (k := x6138) (dv := false) ko3 tm118 tzv118 f.1 f.2.1 (MpO.evo (by decide) hE b6139_g3766) rfl)) ?_
            refine sc (fun _ _ _ f _ _ => px (or_move f.1)) ?_
            refine sc (fun own a wx hf hsl hE => ?_) ?_
            · obtain ⟨(f_83 : a.eval (.tmp 83) = .bool ((lkM met5908 x6138).getD false)), -⟩ := hf
              obtain ⟨s_3, -⟩ := hsl
              refine sg_f rfl rfl rfl f_83 (fun hg => ?_)
              exact or_load (l := [.int .i64 b2.1.1, .int .i64 b2.1.2, .int .i64 b2.2.1, .int .i64 b2.2.2]) ta80 (s_3.trans e6139_3) (Blk.cellsFrom (BlkO.evo (by decide) hE b6139_g3090).2 0 rfl) rfl
            refine sc (fun own a wx hf hsl hE => ?_) ?_
            · obtain ⟨(f_83 : a.eval (.tmp 83) = .bool ((lkM met5908 x6138).getD false)), -⟩ := hf
              obtain ⟨s_2, -⟩ := hsl
              refine sg_f rfl rfl rfl f_83 (fun hg => ?_)
              exact or_load1 to70 (s_2.trans e6139_2) (Blk.at_ (BlkO.evo (by decide) hE b6139_g3088).2 0 rfl)
            refine sc (fun own a wx hf hsl hE => ?_) ?_
            · obtain ⟨(f_83 : a.eval (.tmp 83) = .bool ((lkM met5908 x6138).getD false)), c_85, -⟩ := hf
              refine sg_f rfl rfl rfl f_83 (fun hg => ?_)
              have f_85 : a.eval (.tmp 85) = .pointer (some ⟨gx1, 0, none⟩) := c_85.1 hg
              exact or_k [(85, .pointer (some ⟨gx1, 0, none⟩))] rfl rfl ⟨f_85, trivial⟩ (by kernel_rfl)
            refine sc (fun own a wx hf hsl hE => ?_) ?_
            · obtain ⟨(f_83 : a.eval (.tmp 83) = .bool ((lkM met5908 x6138).getD false)), c_86, -⟩ := hf
              refine sg_f rfl rfl rfl f_83 (fun hg => ?_)
              have f_86 : a.eval (.tmp 86) = .pointer (some ⟨gx1, 0, none⟩) := c_86.1 hg
              exact or_field fo106_0 f_86 (by rfl)
            refine sc (fun own a wx hf hsl hE => ?_) ?_
            · obtain ⟨(f_83 : a.eval (.tmp 83) = .bool ((lkM met5908 x6138).getD false)), c_87, -⟩ := hf
              refine sg_f rfl rfl rfl f_83 (fun hg => ?_)
              have f_87 : a.eval (.tmp 87) = .pointer (some ⟨gx1, 0, none⟩) := c_87.1 hg
              exact or_load1 to103 f_87 (Blk.at_ (BlkO.evo (by decide) hE b6139_gx1).2 0 rfl)
            refine sc (fun own a wx hf hsl hE => ?_) ?_
            · obtain ⟨(f_83 : a.eval (.tmp 83) = .bool ((lkM met5908 x6138).getD false)), -⟩ := hf
              obtain ⟨s_13, -⟩ := hsl
              refine sg_f rfl rfl rfl f_83 (fun hg => ?_)
              exact or_move (s_13.trans e6139_13)
            refine sc (fun own a wx hf hsl hE => ?_) ?_
            · obtain ⟨(f_83 : a.eval (.tmp 83) = .bool ((lkM met5908 x6138).getD false)), c_88, c_89, -⟩ := hf
              refine sg_f rfl rfl rfl f_83 (fun hg => ?_)
              have f_88 : a.eval (.tmp 88) = .slice Ax1_0 x1.1.length cx1_0 := c_88.1 hg
              have f_89 : a.eval (.tmp 89) = .int .i64 x6138 := c_89.1 hg
              exact or_index (R := R80) (l := x1.1) tl103 f_88 f_89 (RdO.some_ b6139_Ax1_0 (gd_t hx6141 hg)) (gd_t hx6141 hg)
            refine sc (fun own a wx hf hsl hE => ?_) ?_
            · obtain ⟨(f_83 : a.eval (.tmp 83) = .bool ((lkM met5908 x6138).getD false)), c_90, -⟩ := hf
              refine sg_f rfl rfl rfl f_83 (fun hg => ?_)
              have f_90 : a.eval (.tmp 90) = .pointer (some ((adr Ax1_0).add ((x6138 : Int).toNat * R80.s))) := c_90.1 hg
              exact or_load (l := E80.f x6141) ta80 f_90 (RdO.cells (F := E80) (RdO.evo rfl hE b6139_Ax1_0) (gd_t hx6141 hg)) rfl
            refine sc (fun own a wx hf hsl hE => ?_) ?_
            · obtain ⟨(f_83 : a.eval (.tmp 83) = .bool ((lkM met5908 x6138).getD false)), c_84, c_91, -⟩ := hf
              refine sg_f rfl rfl rfl f_83 (fun hg => ?_)
              have f_84 : a.eval (.tmp 84) = .agg #[.int .i64 b2.1.1, .int .i64 b2.1.2, .int .i64 b2.2.1, .int .i64 b2.2.2] := c_84.1 hg
              have f_91 : a.eval (.tmp 91) = .agg #[.int .i64 x6141.1.1, .int .i64 x6141.1.2, .int .i64 x6141.2.1, .int .i64 x6141.2.2] := c_91.1 hg
              exact or_call cf55 (args2 f_84 f_91) (rows_Meet_w _ b2 x6141  r6142 (gd_t hr6142 hg)) post_val
            refine sc (fun own a wx hf hsl hE => ?_) ?_
            · obtain ⟨(f_83 : a.eval (.tmp 83) = .bool ((lkM met5908 x6138).getD false)), c_92, -⟩ := hf
              refine sg_f rfl rfl rfl f_83 (fun hg => ?_)
              have f_92 : a.eval (.tmp 92) = .bool r6142 := c_92.1 hg
              exact or_not f_92 rfl
            refine sc (fun own a wx hf hsl hE => ?_) ?_
            · obtain ⟨(f_83 : a.eval (.tmp 83) = .bool ((lkM met5908 x6138).getD false)), c_93, -⟩ := hf
              exact px (or_or f_83 rfl (fun hx => c_93.1 hx) (osome hx6143).symm)
            exact steps_nil
          intro own6144 a6144 w6144 hd6144 hz6144 hk6144 hf6144 hE6144
          have e6144_2 := (hk6144 2 rfl).trans e6139_2
          have e6144_3 := (hk6144 3 rfl).trans e6139_3
          have e6144_5 := (hk6144 5 rfl).trans e6139_5
          have e6144_10 := (hk6144 10 rfl).trans e6139_10
          have e6144_13 := (hk6144 13 rfl).trans e6139_13
          have e6144_67 := (hk6144 67 rfl).trans e6139_67
          have e6144_74 := (hk6144 74 rfl).trans e6139_74
          have e6144_75 := (hk6144 75 rfl).trans e6139_75
          have e6144_76 := (hk6144 76 rfl).trans e6139_76
          obtain ⟨(f_94 : a6144.eval (.tmp 94) = .bool x6143), -⟩ := hf6144 [14] rfl
          have e6144_94 := f_94
          have hX6144 := Evo.stepK hX6139 hE6144 rfl
          have b6144_g3088 := BlkO.evo (by decide) hE6144 b6139_g3088
          have b6144_gx1 := BlkO.evo (by decide) hE6144 b6139_gx1
          have b6144_Ax1_0 := RdO.evo rfl hE6144 b6139_Ax1_0
          have b6144_mx1_1 := MpN.evo rfl hE6144 b6139_mx1_1
          have b6144_Ax1_2 := RdO.evo rfl hE6144 b6139_Ax1_2
          have b6144_g3090 := BlkO.evo (by decide) hE6144 b6139_g3090
          have b6144_g3100 := BlkO.evo (by decide) hE6144 b6139_g3100
          have b6144_A5903 := RwO.evo rfl hE6144 b6139_A5903
          have b6144_g3768 := BlkO.evo (by decide) hE6144 b6139_g3768
          have b6144_g3766 := MpO.evo (by decide) hE6144 b6139_g3766
          have b6144_cA3773 := BlkO.evo (by decide) hE6144 b6139_cA3773
          have b6144_A5773 := RdO.evo rfl hE6144 b6139_A5773
          have b6144_mk := MkO.evo (by decide) hE6144 b6139_mk
          have b6144_rc := RcO.evo (by decide) hE6144 b6139_rc
          refine fl_cond e6144_94 hs (fun c6145 hs => ?_) (fun c6145 hs => ?_)
          · refine fl_exit ?_
            refine hp6140 _ _ _ rfl ?_
            exact (K6135 _ _ (rl [(5902, 6128), (5906, 6132), (5907, 6133)] own6144) _ _ A5903 c5904 hd6144 hz6144 e6144_2 e6144_3 e6144_5 e6144_10 e6144_67 e6144_74 e6144_75 e6144_76 (Evo.rlK hX6144 rfl) (BlkO.rl_ (mm := [(5902, 6128), (5906, 6132), (5907, 6133)]) b6144_g3088) (BlkO.rl_ (mm := [(5902, 6128), (5906, 6132), (5907, 6133)]) b6144_gx1) (RdO.rl_ (mm := [(5902, 6128), (5906, 6132), (5907, 6133)]) b6144_Ax1_0) (MpN.rl_ (mm := [(5902, 6128), (5906, 6132), (5907, 6133)]) b6144_mx1_1) (RdO.rl_ (mm := [(5902, 6128), (5906, 6132), (5907, 6133)]) b6144_Ax1_2) (BlkO.rl_ (mm := [(5902, 6128), (5906, 6132), (5907, 6133)]) b6144_g3090) (BlkO.rl_ (mm := [(5902, 6128), (5906, 6132), (5907, 6133)]) b6144_g3100) (RwO.rl_ (mm := [(5902, 6128), (5906, 6132), (5907, 6133)]) b6144_A5903) (BlkO.rl_ (mm := [(5902, 6128), (5906, 6132), (5907, 6133)]) b6144_g3768) (MpO.rl_ (mm := [(5902, 6128), (5906, 6132), (5907, 6133)]) b6144_g3766) (BlkO.rl_ (mm := [(5902, 6128), (5906, 6132), (5907, 6133)]) b6144_cA3773) (RdO.rl_ (mm := [(5902, 6128), (5906, 6132), (5907, 6133)]) b6144_A5773) (MkO.rl_ (mm := [(5902, 6128), (5906, 6132), (5907, 6133)]) b6144_mk) (RcO.rl_ (mm := [(5902, 6128), (5906, 6132), (5907, 6133)]) b6144_rc) hs).2
          refine fl_skip ?_
          refine hn6140 _ _ ?_
          obtain ⟨D6146, hD6146, hs⟩ := obind hs
          refine rg_plain_seq (n := 104) (rs := [Fct.mapAt 5907 g3766 vv3 vv4 met5908]) (own0 := own6144) (K := [5907])
              (bs := [0, 0, 3])
              (ds := [⟨[], [10], [], Fct.val 95 (.map (some g3766))⟩,
              ⟨[], [13], [], Fct.val 96 (.int .i64 x6138)⟩,
              ⟨[0, 1, 3], [], [5907], Fct.mapAt 6147 g3766 vv3 vv4 D6146⟩]) (by kernel_rfl) hz6144 hd6144 (by simp only [List.forall_mem_cons]; exact ⟨b6144_g3766, fun _ h => nomatch h⟩) ?_ ?_
          · refine sc (fun _ _ _ _ s hE => px (or_load1 to118 (s.1.trans e6144_10) (Blk.at_ (BlkO.evo (by decide) hE b6144_g3768).2 0 rfl))) ?_
            refine sc (fun _ _ _ _ s _ => px (or_move (s.1.trans e6144_13))) ?_
            refine sc (fun own a wx hf hsl hE => ?_) ?_
            · obtain ⟨(f_95 : a.eval (.tmp 95) = .map (some g3766)), (f_96 : a.eval (.tmp 96) = .int .i64 x6138), (b_g3766 : MpO own 5907 wx g3766 vv3 vv4 met5908), -⟩ := hf
              exact px (or_mapUpdate (kf := vv3) (vf := vv4) (k := x6138) (v := true) (lab := 5907) (lab2 := 6147) ko3 tm118 f_95 f_96 rfl b_g3766 (osome hD6146).symm (mem_of rfl) (by decide) (fun own' a' w' hb => hb))
            exact steps_nil
          intro own6148 a6148 w6148 hd6148 hz6148 hk6148 hf6148 hE6148
          have e6148_2 := (hk6148 2 rfl).trans e6144_2
          have e6148_3 := (hk6148 3 rfl).trans e6144_3
          have e6148_5 := (hk6148 5 rfl).trans e6144_5
          have e6148_10 := (hk6148 10 rfl).trans e6144_10
          have e6148_13 := (hk6148 13 rfl).trans e6144_13
          have e6148_67 := (hk6148 67 rfl).trans e6144_67
          have e6148_74 := (hk6148 74 rfl).trans e6144_74
          have e6148_75 := (hk6148 75 rfl).trans e6144_75
          have e6148_76 := (hk6148 76 rfl).trans e6144_76
          obtain ⟨(b_g3766 : MpO own6148 6147 w6148 g3766 vv3 vv4 D6146), -⟩ := hf6148 [2] rfl
          have hX6148 := Evo.stepK hX6144 hE6148 rfl
          have b6148_g3088 := BlkO.evo (by decide) hE6148 b6144_g3088
          have b6148_gx1 := BlkO.evo (by decide) hE6148 b6144_gx1
          have b6148_Ax1_0 := RdO.evo rfl hE6148 b6144_Ax1_0
          have b6148_mx1_1 := MpN.evo rfl hE6148 b6144_mx1_1
          have b6148_Ax1_2 := RdO.evo rfl hE6148 b6144_Ax1_2
          have b6148_g3090 := BlkO.evo (by decide) hE6148 b6144_g3090
          have b6148_g3100 := BlkO.evo (by decide) hE6148 b6144_g3100
          have b6148_A5903 := RwO.evo rfl hE6148 b6144_A5903
          have b6148_g3768 := BlkO.evo (by decide) hE6148 b6144_g3768
          have b6148_cA3773 := BlkO.evo (by decide) hE6148 b6144_cA3773
          have b6148_A5773 := RdO.evo rfl hE6148 b6144_A5773
          have b6148_mk := MkO.evo (by decide) hE6148 b6144_mk
          have b6148_rc := RcO.evo (by decide) hE6148 b6144_rc
          have b6148_g3766 := b_g3766
          obtain ⟨x6158, hx6158, hs⟩ := obind hs
          refine rg_plain (n := 104) (rs := [Fct.rowAt 5906 [] 3 R3 A5903 c5904 out5905, Fct.at_ 5902 g3100 22 #[.slice A5903 out5905.length c5904]]) (own0 := own6148) (K := [5906, 5902])
              (bs := [0, 0, 2, 7, 15])
              (ds := [⟨[6], [5], [], Fct.val 97 (.slice A5903 out5905.length c5904)⟩,
              ⟨[], [13], [], Fct.val 98 (.int .i64 x6138)⟩,
              ⟨[1], [], [], Fct.row 6157 [] 99 3 R3 [x6138]⟩,
              ⟨[0, 2, 5], [], [5906], Fct.row 6159 [] 100 3 R3 x6158⟩,
              ⟨[3, 6], [5], [5902], Fct.by_ [6161] [100] (fun l own w => ∀ (A6160 : Option Addr) (cA6160 : Nat), l.getD 0 undef = .slice A6160 x6158.length cA6160 → BlkO own 6161 w g3100 22 #[.slice A6160 x6158.length cA6160]) (fun hk he h _ _ h0' => BlkO.evo (not_hit hk (by decide)) he (h _ _ h0'))⟩]) (by kernel_rfl) hz6148 hd6148 (by simp only [List.forall_mem_cons]; exact ⟨b6148_A5903, b6148_g3100, fun _ h => nomatch h⟩) ?_ ?_
          · refine sc (fun own a wx hf hsl hE => ?_) ?_
            · obtain ⟨(b_g3100 : BlkO own 5902 wx g3100 22 #[.slice A5903 out5905.length c5904]), -⟩ := hf
              obtain ⟨s_5, -⟩ := hsl
              exact px (or_load1 to22 (s_5.trans e6148_5) (Blk.at_ b_g3100.2 0 rfl))
            refine sc (fun _ _ _ _ s _ => px (or_move (s.1.trans e6148_13))) ?_
            refine sc (fun _ _ _ f _ _ => px (or_lit (lab := 6157) (e := 3) (cs := #[.int .i64 x6138]) (F := E3) (or_new [(98, .int .i64 x6138)] rfl rfl ⟨f.1, trivial⟩ (by kernel_rfl)) rfl rfl (show 1 ≤ maxLen by decide))) ?_
            refine sc (fun own a wx hf hsl hE => ?_) ?_
            · obtain ⟨(f_97 : a.eval (.tmp 97) = .slice A5903 out5905.length c5904), ⟨⟨A6156, cA6156⟩, (f_99 : a.eval (.tmp 99) = .slice A6156 [x6138].length cA6156), (b_A6156 : RwO own 6157 [] wx 3 R3 A6156 cA6156 [x6138])⟩, (b_A5903 : RwO own 5906 [] wx 3 R3 A5903 c5904 out5905), -⟩ := hf
              exact px (or_append (R := R3) (lab := 5906) (lab2 := 6159) (L := []) (L3 := []) tp22 f_97 b_A5903 (by decide) f_99 (RwO.rd b_A6156) hx6158 (by decide) (by decide) (mem_of rfl) (.inl (Rep.fl_flat _)))
            refine sc (fun own a wx hf hsl hE => ?_) ?_
            · obtain ⟨⟨⟨A6160, cA6160⟩, (f_100 : a.eval (.tmp 100) = .slice A6160 x6158.length cA6160), (b_A6160 : RwO own 6159 [] wx 3 R3 A6160 cA6160 x6158)⟩, (b_g3100 : BlkO own 5902 wx g3100 22 #[.slice A5903 out5905.length c5904]), -⟩ := hf
              obtain ⟨s_5, -⟩ := hsl
              exact px (or_store1 (lab := 5902) (lab2 := 6161) ts22 (s_5.trans e6148_5) f_100 b_g3100 (by simp) rfl (mem_of rfl) (by decide) rfl (fun own' a' w' ha hb => fun _ _ h0' => by cases (f_100.symm.trans ((ha 100).symm.trans h0')); exact hb))
            exact steps_nil
          intro own6162 a6162 w6162 hd6162 hz6162 hk6162 hf6162 hE6162
          have e6162_2 := (hk6162 2 rfl).trans e6148_2
          have e6162_3 := (hk6162 3 rfl).trans e6148_3
          have e6162_5 := (hk6162 5 rfl).trans e6148_5
          have e6162_10 := (hk6162 10 rfl).trans e6148_10
          have e6162_67 := (hk6162 67 rfl).trans e6148_67
          have e6162_74 := (hk6162 74 rfl).trans e6148_74
          have e6162_75 := (hk6162 75 rfl).trans e6148_75
          have e6162_76 := (hk6162 76 rfl).trans e6148_76
          obtain ⟨⟨⟨A6160, cA6160⟩, (f_100 : a6162.eval (.tmp 100) = .slice A6160 x6158.length cA6160), (b_A6160 : RwO own6162 6159 [] w6162 3 R3 A6160 cA6160 x6158)⟩, (bq_g3100 : ∀ (A6160 : Option Addr) (cA6160 : Nat), a6162.eval (.tmp 100) = .slice A6160 x6158.length cA6160 → BlkO own6162 6161 w6162 g3100 22 #[.slice A6160 x6158.length cA6160]), -⟩ := hf6162 [3, 4] rfl
          have b_g3100 := bq_g3100 _ _ f_100
          have hX6162 := Evo.stepK hX6148 hE6162 rfl
          have b6162_g3088 := BlkO.evo (by decide) hE6162 b6148_g3088
          have b6162_gx1 := BlkO.evo (by decide) hE6162 b6148_gx1
          have b6162_Ax1_0 := RdO.evo rfl hE6162 b6148_Ax1_0
          have b6162_mx1_1 := MpN.evo rfl hE6162 b6148_mx1_1
          have b6162_Ax1_2 := RdO.evo rfl hE6162 b6148_Ax1_2
          have b6162_g3090 := BlkO.evo (by decide) hE6162 b6148_g3090
          have b6162_g3768 := BlkO.evo (by decide) hE6162 b6148_g3768
          have b6162_cA3773 := BlkO.evo (by decide) hE6162 b6148_cA3773
          have b6162_A5773 := RdO.evo rfl hE6162 b6148_A5773
          have b6162_mk := MkO.evo (by decide) hE6162 b6148_mk
          have b6162_rc := RcO.evo (by decide) hE6162 b6148_rc
          have b6162_g3766 := MpO.evo (by decide) hE6162 b6148_g3766
          have b6162_g3100 := b_g3100
          have b6162_A6160 := b_A6160
          exact (K6135 _ _ (rl [(6147, 6133), (6159, 6132), (6161, 6128)] own6162) _ _ A6160 cA6160 hd6162 hz6162 e6162_2 e6162_3 e6162_5 e6162_10 e6162_67 e6162_74 e6162_75 e6162_76 (Evo.rlK hX6162 rfl) (BlkO.rl_ (mm := [(6147, 6133), (6159, 6132), (6161, 6128)]) b6162_g3088) (BlkO.rl_ (mm := [(6147, 6133), (6159, 6132), (6161, 6128)]) b6162_gx1) (RdO.rl_ (mm := [(6147, 6133), (6159, 6132), (6161, 6128)]) b6162_Ax1_0) (MpN.rl_ (mm := [(6147, 6133), (6159, 6132), (6161, 6128)]) b6162_mx1_1) (RdO.rl_ (mm := [(6147, 6133), (6159, 6132), (6161, 6128)]) b6162_Ax1_2) (BlkO.rl_ (mm := [(6147, 6133), (6159, 6132), (6161, 6128)]) b6162_g3090) (BlkO.rl_ (mm := [(6147, 6133), (6159, 6132), (6161, 6128)]) b6162_g3100) (RwO.rl_ (mm := [(6147, 6133), (6159, 6132), (6161, 6128)]) b6162_A6160) (BlkO.rl_ (mm := [(6147, 6133), (6159, 6132), (6161, 6128)]) b6162_g3768) (MpO.rl_ (mm := [(6147, 6133), (6159, 6132), (6161, 6128)]) b6162_g3766) (BlkO.rl_ (mm := [(6147, 6133), (6159, 6132), (6161, 6128)]) b6162_cA3773) (RdO.rl_ (mm := [(6147, 6133), (6159, 6132), (6161, 6128)]) b6162_A5773) (MkO.rl_ (mm := [(6147, 6133), (6159, 6132), (6161, 6128)]) b6162_mk) (RcO.rl_ (mm := [(6147, 6133), (6159, 6132), (6161, 6128)]) b6162_rc) hs).1
        refine fl_exit ?_
        refine hp6039 _ _ _ rfl ?_
        replace hs := hz6036 _ hs
        refine hp6036 _ _ _ rfl ?_
        refine hx5775 _ _ ?_
        refine hp5771.normal _ _ ?_
        refine hn5378 _ _ ?_
        exact ⟨_, (rl [(5902, 3555), (5906, 3559), (5907, 3767)] own6038), osome hs, (Evo.rlK hX6038 rfl), A5903, c5904, (Evo.step hU5377 (fun _ => Nat.le_refl 0) (Evo.rlK hX6038 rfl) rfl), (BlkO.rl_ (mm := [(5902, 3555), (5906, 3559), (5907, 3767)]) b6038_g3088), (BlkO.rl_ (mm := [(5902, 3555), (5906, 3559), (5907, 3767)]) b6038_gx1), (RdO.rl_ (mm := [(5902, 3555), (5906, 3559), (5907, 3767)]) b6038_Ax1_0), (MpN.rl_ (mm := [(5902, 3555), (5906, 3559), (5907, 3767)]) b6038_mx1_1), (RdO.rl_ (mm := [(5902, 3555), (5906, 3559), (5907, 3767)]) b6038_Ax1_2), (BlkO.rl_ (mm := [(5902, 3555), (5906, 3559), (5907, 3767)]) b6038_g3090), (BlkO.rl_ (mm := [(5902, 3555), (5906, 3559), (5907, 3767)]) b6038_g3100), (RwO.rl_ (mm := [(5902, 3555), (5906, 3559), (5907, 3767)]) b6038_A5903), (BlkO.rl_ (mm := [(5902, 3555), (5906, 3559), (5907, 3767)]) b6038_g3768), (MpO.rl_ (mm := [(5902, 3555), (5906, 3559), (5907, 3767)]) b6038_g3766), (BlkO.rl_ (mm := [(5902, 3555), (5906, 3559), (5907, 3767)]) b6038_cA3773)⟩
    · rintro ⟨out4572, met4574⟩ a6163 own6163 w6163 Ds6163 hzz6163 hd6163 hz6163 hkp6163 hmk6163 ⟨A4570, c4571, hE6163, b6163_g3088, b6163_gx1, b6163_Ax1_0, b6163_mx1_1, b6163_Ax1_2, b6163_g3090, b6163_g3100, b6163_A4570, b6163_g3768, b6163_g3766, b6163_cA3773⟩
      subst hzz6163
      have hs : rows_Index_Find_b8 out4572 met4574 = some r := hs
      have e6163_2 : a6163.eval (.tmp 2) = .pointer (some ⟨g3088, 0, none⟩) := (hkp6163 2).trans e3775_2
      have e6163_3 : a6163.eval (.tmp 3) = .pointer (some ⟨g3090, 0, none⟩) := (hkp6163 3).trans e3775_3
      have e6163_5 : a6163.eval (.tmp 5) = .pointer (some ⟨g3100, 0, none⟩) := (hkp6163 5).trans e3775_5
      have e6163_10 : a6163.eval (.tmp 10) = .pointer (some ⟨g3768, 0, none⟩) := (hkp6163 10).trans e3775_10
      have e6163_67 : a6163.eval (.tmp 67) = .func (.func 64) #[] #[.pointer (some ⟨cA3773, 0, none⟩)] := (hkp6163 67).trans e3775_67
      refine hn3776 _ _ ?_
      refine hn3772 _ _ ?_
      obtain ⟨r6164, hr6164, hs⟩ := obind hs
      refine rg_plain_seq (n := 104) (rs := []) (own0 := own6163) (K := [])
          (bs := [0, 1, 3])
          (ds := [⟨[], [5], [], Fct.val 102 (.slice A4570 out4572.length c4571)⟩,
          ⟨[0], [], [], Fct.row 6166 [] 103 3 R3 r6164⟩,
          ⟨[1], [], [], Fct.rel [4, 103] (fun l => ∀ (A6165 : Option Addr) (cA6165 : Nat), l.getD 1 undef = .slice A6165 r6164.length cA6165 → l.getD 0 undef = .slice A6165 r6164.length cA6165)⟩]) (by kernel_rfl) hz6163 hd6163 (fun _ h => nomatch h) ?_ ?_
      · refine sc (fun _ _ _ _ s hE => px (or_load1 to22 (s.1.trans e6163_5) (Blk.at_ (BlkO.evo (by decide) hE b6163_g3100).2 0 rfl))) ?_
        refine sc (fun _ _ _ f _ hE => px (or_call cf56 (args1 f.1) (order_Uniq_w _ out4572 A4570 c4571 (RdO.zero (RwO.rd (RwO.evo rfl hE b6163_A4570))) r6164 hr6164) (post_row (m' := (look0 [(1, 6166)])) (.inl (Rep.fl_flat _)) rfl rfl (fun _ => rfl)))) ?_
        refine sc (fun own a wx hf hsl hE => ?_) ?_
        · obtain ⟨⟨⟨A6165, cA6165⟩, (f_103 : a.eval (.tmp 103) = .slice A6165 r6164.length cA6165), (b_A6165 : RwO own 6166 [] wx 3 R3 A6165 cA6165 r6164)⟩, -⟩ := hf
          exact px (or_mono (f := Fct.val 4 (.slice A6165 r6164.length cA6165)) (or_assign f_103) (fun own' a' w' v' hp h => fun _ _ h0' => by cases (f_103.symm.trans ((hp.2 103 (by decide)).symm.trans h0')); exact h))
        exact steps_nil
      intro own6167 a6167 w6167 hd6167 hz6167 hk6167 hf6167 hE6167
      obtain ⟨⟨⟨A6165, cA6165⟩, (f_103 : a6167.eval (.tmp 103) = .slice A6165 r6164.length cA6165), (b_A6165 : RwO own6167 6166 [] w6167 3 R3 A6165 cA6165 r6164)⟩, (q_4 : ∀ (A6165 : Option Addr) (cA6165 : Nat), a6167.eval (.tmp 103) = .slice A6165 r6164.length cA6165 → a6167.eval (.tmp 4) = .slice A6165 r6164.length cA6165), -⟩ := hf6167 [1, 2] rfl
      have f_4 := q_4 _ _ f_103
      have e6167_4 := f_4
      have hX6167 := Evo.step hE6163 (fun _ => Nat.le_refl 0) hE6167 rfl
      have b6167_mk := MkO.evo (by decide) hE6167 hmk6163
      have b6167_A6165 := b_A6165
      refine fl_ret ?_
      refine hret _ _ _ _ _ (.inl rfl) hd6167 b6167_mk (fun own6168 w6168 hE6168 => ?_)
      have hX6169 := Evo.step hX6167 (fun _ => Nat.le_refl 0) hE6168 rfl
      have b6169_A6165 := RwO.evo rfl hE6168 b6167_A6165
      obtain rfl := (osome hs).symm
      exact ⟨_, results1_ rfl (RVal.tmp_ e6167_4), ⟨(rl [(6166, 1)] own6168), (A6165, cA6165), rfl, (Evo.rl_ hX6169 (fun _ => Nat.le_refl 0) rfl), (RwO.rl_ (mm := [(6166, 1)]) b6169_A6165)⟩⟩
    · intro e; exact nomatch e
theorem exact_Cross_w (w : World) (x1 : Int × Int) (b2 : Int × Int) (c3 : Int × Int) (r : Int) (hs : exact_Cross x1 b2 c3 = some r) :
    Calls Try.prog 63 #[.agg #[.int .i64 x1.1, .int .i64 x1.2], .agg #[.int .i64 b2.1, .int .i64 b2.2], .agg #[.int .i64 c3.1, .int .i64 c3.2]] w fun e w' => ∃ own' : Own, e = .returned (.int .i64 r) ∧ Evo [] (fun _ => 0) own' w w' := by
  refine fl_enter (n := 36) rfl rfl rfl (Nat.le_of_ble_eq_true rfl) ?_
  intro a0 Q hd0 hz0 harg hret
  have ha0 := harg 0 _ rfl
  have ha1 := harg 1 _ rfl
  have ha2 := harg 2 _ rfl
  clear harg
  have hE0 : Evo [] (fun _ => 0) (fun _ => 0) w w := Evo.refl _ _ _
  refine rg_plain_seq (n := 36) (rs := []) (own0 := (fun _ => 0)) (K := [])
      (bs := [0, 0, 0, 0])
      (ds := [⟨[], [0], [], Fct.blk 28 3 (fun g => .pointer (some ⟨g, 0, none⟩)) 25 #[.int .i64 x1.1, .int .i64 x1.2]⟩,
      ⟨[], [1], [], Fct.blk 30 4 (fun g => .pointer (some ⟨g, 0, none⟩)) 25 #[.int .i64 b2.1, .int .i64 b2.2]⟩,
      ⟨[], [2], [], Fct.blk 32 5 (fun g => .pointer (some ⟨g, 0, none⟩)) 25 #[.int .i64 c3.1, .int .i64 c3.2]⟩,
      ⟨[], [], [], Fct.val 6 (.int .i64 0)⟩]) (by kernel_rfl) hz0 hd0 (fun _ h => nomatch h) ?_ ?_
  · refine sc (fun _ _ _ _ s _ => px (or_new [(0, .agg #[.int .i64 x1.1, .int .i64 x1.2])] rfl rfl ⟨(s.1.trans ha0), trivial⟩ (by kernel_rfl))) ?_
    refine sc (fun _ _ _ _ s _ => px (or_new [(1, .agg #[.int .i64 b2.1, .int .i64 b2.2])] rfl rfl ⟨(s.1.trans ha1), trivial⟩ (by kernel_rfl))) ?_
    refine sc (fun _ _ _ _ s _ => px (or_new [(2, .agg #[.int .i64 c3.1, .int .i64 c3.2])] rfl rfl ⟨(s.1.trans ha2), trivial⟩ (by kernel_rfl))) ?_
    refine sc (fun _ _ _ _ _ _ => px (or_assign rfl)) ?_
    exact steps_nil
  intro own33 a33 w33 hd33 hz33 hk33 hf33 hE33
  obtain ⟨⟨g27, (f_3 : a33.eval (.tmp 3) = .pointer (some ⟨g27, 0, none⟩)), (b_g27 : BlkO own33 28 w33 g27 25 #[.int .i64 x1.1, .int .i64 x1.2])⟩, ⟨g29, (f_4 : a33.eval (.tmp 4) = .pointer (some ⟨g29, 0, none⟩)), (b_g29 : BlkO own33 30 w33 g29 25 #[.int .i64 b2.1, .int .i64 b2.2])⟩, ⟨g31, (f_5 : a33.eval (.tmp 5) = .pointer (some ⟨g31, 0, none⟩)), (b_g31 : BlkO own33 32 w33 g31 25 #[.int .i64 c3.1, .int .i64 c3.2])⟩, -⟩ := hf33 [0, 1, 2] rfl
  have e33_3 := f_3
  have e33_4 := f_4
  have e33_5 := f_5
  have hX33 := Evo.step hE0 (fun _ => Nat.le_refl 0) hE33 rfl
  have b33_g27 := b_g27
  have b33_g29 := b_g29
  have b33_g31 := b_g31
  refine fl_seq (fun Q34 hn34 hp34 => ?_)
  obtain ⟨r37, hr37, hs⟩ := obind hs
  refine rg_plain_seq (n := 36) (rs := []) (own0 := own33) (K := [])
      (bs := [0, 0, 0, 7, 15, 31])
      (ds := [⟨[], [3], [], Fct.val 7 (.agg #[.int .i64 x1.1, .int .i64 x1.2])⟩,
      ⟨[], [4], [], Fct.val 8 (.agg #[.int .i64 b2.1, .int .i64 b2.2])⟩,
      ⟨[], [5], [], Fct.val 9 (.agg #[.int .i64 c3.1, .int .i64 c3.2])⟩,
      ⟨[0, 1, 2], [], [], Fct.row 36 [] 10 25 R25 [x1, b2, c3]⟩,
      ⟨[3], [], [], Fct.val 11 (.bool r37)⟩,
      ⟨[4], [], [], Fct.val 12 (.bool (!r37))⟩]) (by kernel_rfl) hz33 hd33 (fun _ h => nomatch h) ?_ ?_
  · refine sc (fun _ _ _ _ s hE => px (or_load (l := [.int .i64 x1.1, .int .i64 x1.2]) ta25 (s.1.trans e33_3) (Blk.cellsFrom (BlkO.evo (by decide) hE b33_g27).2 0 rfl) rfl)) ?_
    refine sc (fun _ _ _ _ s hE => px (or_load (l := [.int .i64 b2.1, .int .i64 b2.2]) ta25 (s.1.trans e33_4) (Blk.cellsFrom (BlkO.evo (by decide) hE b33_g29).2 0 rfl) rfl)) ?_
    refine sc (fun _ _ _ _ s hE => px (or_load (l := [.int .i64 c3.1, .int .i64 c3.2]) ta25 (s.1.trans e33_5) (Blk.cellsFrom (BlkO.evo (by decide) hE b33_g31).2 0 rfl) rfl)) ?_
    refine sc (fun _ _ _ f _ _ => px (or_lit (lab := 36) (e := 25) (cs := #[.int .i64 x1.1, .int .i64 x1.2, .int .i64 b2.1, .int .i64 b2.2, .int .i64 c3.1, .int .i64 c3.2]) (F := E25) (or_new [(7, .agg #[.int .i64 x1.1, .int .i64 x1.2]), (8, .agg #[.int .i64 b2.1, .int .i64 b2.2]), (9, .agg #[.int .i64 c3.1, .int .i64 c3.2])] rfl rfl ⟨f.1, f.2.1, f.2.2.1, trivial⟩ (by kernel_rfl)) rfl rfl (show 3 ≤ maxLen by decide))) ?_
    refine sc (fun own a wx hf hsl hE => ?_) ?_
    · obtain ⟨⟨⟨A35, cA35⟩, (f_10 : a.eval (.tmp 10) = .slice A35 [x1, b2, c3].length cA35), (b_A35 : RwO own 36 [] wx 25 R25 A35 cA35 [x1, b2, c3])⟩, -⟩ := hf
      exact px (or_call cf32 (args1 f_10) (exact_Right_w _ [x1, b2, c3] A35 cA35 (RdO.zero (RwO.rd b_A35)) r37 hr37) post_val)
    refine sc (fun _ _ _ f _ _ => px (or_not f.1 rfl)) ?_
    exact steps_nil
  intro own38 a38 w38 hd38 hz38 hk38 hf38 hE38
  have e38_3 := (hk38 3 rfl).trans e33_3
  have e38_4 := (hk38 4 rfl).trans e33_4
  have e38_5 := (hk38 5 rfl).trans e33_5
  obtain ⟨(f_12 : a38.eval (.tmp 12) = .bool (!r37)), -⟩ := hf38 [5] rfl
  have e38_12 := f_12
  have hX38 := Evo.step hX33 (fun _ => Nat.le_refl 0) hE38 rfl
  have b38_g27 := BlkO.evo (by decide) hE38 b33_g27
  have b38_g29 := BlkO.evo (by decide) hE38 b33_g29
  have b38_g31 := BlkO.evo (by decide) hE38 b33_g31
  refine fl_cond e38_12 hs (fun c39 hs => ?_) (fun c39 hs => ?_)
  · refine rg_plain_seq (n := 36) (rs := []) (own0 := own38) (K := [])
        (bs := [0])
        (ds := [⟨[], [], [], Fct.val 6 (.int .i64 0)⟩]) (by kernel_rfl) hz38 hd38 (fun _ h => nomatch h) ?_ ?_
    · refine sc (fun _ _ _ _ _ _ => px (or_assign rfl)) ?_
      exact steps_nil
    intro own40 a40 w40 hd40 hz40 hk40 hf40 hE40
    obtain ⟨(f_6 : a40.eval (.tmp 6) = .int .i64 0), -⟩ := hf40 [0] rfl
    have e40_6 := f_6
    have hX40 := Evo.step hX38 (fun _ => Nat.le_refl 0) hE40 rfl
    refine fl_ret ?_
    refine hp34 _ _ _ rfl ?_
    obtain rfl := osome hs
    exact hret _ _ _ _ (.inl rfl) hd40 (results1_ rfl (RVal.tmp_ e40_6)) ⟨own40, rfl, hX40⟩
  refine fl_skip ?_
  refine hn34 _ _ ?_
  obtain ⟨x41, hx41, hs⟩ := obind hs
  refine rg_plain_seq (n := 36) (rs := []) (own0 := own38) (K := [])
      (bs := [0, 1, 0, 4, 15, 0, 32, 0, 128, 480, 1023, 0, 2048, 0, 8192, 30720, 0, 65536, 0, 262144, 983040, 2095104, 4194303, 8388607])
      (ds := [⟨[], [4], [], Fct.val 13 (.pointer (some ⟨g29, 0, none⟩))⟩,
      ⟨[0], [], [], Fct.val 14 (.int .i64 b2.1)⟩,
      ⟨[], [3], [], Fct.val 15 (.pointer (some ⟨g27, 0, none⟩))⟩,
      ⟨[2], [], [], Fct.val 16 (.int .i64 x1.1)⟩,
      ⟨[1, 3], [], [], Fct.val 17 (.int .i64 (sb b2.1 x1.1))⟩,
      ⟨[], [5], [], Fct.val 18 (.pointer (some ⟨g31, 1, none⟩))⟩,
      ⟨[5], [], [], Fct.val 19 (.int .i64 c3.2)⟩,
      ⟨[], [3], [], Fct.val 20 (.pointer (some ⟨g27, 1, none⟩))⟩,
      ⟨[7], [], [], Fct.val 21 (.int .i64 x1.2)⟩,
      ⟨[6, 8], [], [], Fct.val 22 (.int .i64 (sb c3.2 x1.2))⟩,
      ⟨[4, 9], [], [], Fct.val 23 (.int .i64 (ml (sb b2.1 x1.1) (sb c3.2 x1.2)))⟩,
      ⟨[], [4], [], Fct.val 24 (.pointer (some ⟨g29, 1, none⟩))⟩,
      ⟨[11], [], [], Fct.val 25 (.int .i64 b2.2)⟩,
      ⟨[], [3], [], Fct.val 26 (.pointer (some ⟨g27, 1, none⟩))⟩,
      ⟨[13], [], [], Fct.val 27 (.int .i64 x1.2)⟩,
      ⟨[12, 14], [], [], Fct.val 28 (.int .i64 (sb b2.2 x1.2))⟩,
      ⟨[], [5], [], Fct.val 29 (.pointer (some ⟨g31, 0, none⟩))⟩,
      ⟨[16], [], [], Fct.val 30 (.int .i64 c3.1)⟩,
      ⟨[], [3], [], Fct.val 31 (.pointer (some ⟨g27, 0, none⟩))⟩,
      ⟨[18], [], [], Fct.val 32 (.int .i64 x1.1)⟩,
      ⟨[17, 19], [], [], Fct.val 33 (.int .i64 (sb c3.1 x1.1))⟩,
      ⟨[15, 20], [], [], Fct.val 34 (.int .i64 (ml (sb b2.2 x1.2) (sb c3.1 x1.1)))⟩,
      ⟨[10, 21], [], [], Fct.val 35 (.int .i64 x41)⟩,
      ⟨[22], [], [], Fct.val 6 (.int .i64 x41)⟩]) (by kernel_rfl) hz38 hd38 (fun _ h => nomatch h) ?_ ?_
  · refine sc (fun _ _ _ _ s _ => px (or_field fo25_0 (s.1.trans e38_4) (by rfl))) ?_
    refine sc (fun _ _ _ f _ hE => px (or_load1 to3 f.1 (Blk.at_ (BlkO.evo (by decide) hE b38_g29).2 0 rfl))) ?_
    refine sc (fun _ _ _ _ s _ => px (or_field fo25_0 (s.1.trans e38_3) (by rfl))) ?_
    refine sc (fun _ _ _ f _ hE => px (or_load1 to3 f.1 (Blk.at_ (BlkO.evo (by decide) hE b38_g27).2 0 rfl))) ?_
    refine sc (fun _ _ _ f _ _ => px (or_sub f.1 f.2.1 rfl)) ?_
    refine sc (fun _ _ _ _ s _ => px (or_field fo25_1 (s.1.trans e38_5) (by rfl))) ?_
    refine sc (fun _ _ _ f _ hE => px (or_load1 to3 f.1 (Blk.at_ (BlkO.evo (by decide) hE b38_g31).2 1 rfl))) ?_
    refine sc (fun _ _ _ _ s _ => px (or_field fo25_1 (s.1.trans e38_3) (by rfl))) ?_
    refine sc (fun _ _ _ f _ hE => px (or_load1 to3 f.1 (Blk.at_ (BlkO.evo (by decide) hE b38_g27).2 1 rfl))) ?_
    refine sc (fun _ _ _ f _ _ => px (or_sub f.1 f.2.1 rfl)) ?_
    refine sc (fun _ _ _ f _ _ => px (or_mul f.1 f.2.1 rfl)) ?_
    refine sc (fun _ _ _ _ s _ => px (or_field fo25_1 (s.1.trans e38_4) (by rfl))) ?_
    refine sc (fun _ _ _ f _ hE => px (or_load1 to3 f.1 (Blk.at_ (BlkO.evo (by decide) hE b38_g29).2 1 rfl))) ?_
    refine sc (fun _ _ _ _ s _ => px (or_field fo25_1 (s.1.trans e38_3) (by rfl))) ?_
    refine sc (fun _ _ _ f _ hE => px (or_load1 to3 f.1 (Blk.at_ (BlkO.evo (by decide) hE b38_g27).2 1 rfl))) ?_
    refine sc (fun _ _ _ f _ _ => px (or_sub f.1 f.2.1 rfl)) ?_
    refine sc (fun _ _ _ _ s _ => px (or_field fo25_0 (s.1.trans e38_5) (by rfl))) ?_
    refine sc (fun _ _ _ f _ hE => px (or_load1 to3 f.1 (Blk.at_ (BlkO.evo (by decide) hE b38_g31).2 0 rfl))) ?_
    refine sc (fun _ _ _ _ s _ => px (or_field fo25_0 (s.1.trans e38_3) (by rfl))) ?_
    refine sc (fun _ _ _ f _ hE => px (or_load1 to3 f.1 (Blk.at_ (BlkO.evo (by decide) hE b38_g27).2 0 rfl))) ?_
    refine sc (fun _ _ _ f _ _ => px (or_sub f.1 f.2.1 rfl)) ?_
    refine sc (fun _ _ _ f _ _ => px (or_mul f.1 f.2.1 rfl)) ?_
    refine sc (fun _ _ _ f _ _ => px (or_sub f.1 f.2.1 (osome hx41).symm)) ?_
    refine sc (fun _ _ _ f _ _ => px (or_assign f.1)) ?_
    exact steps_nil
  intro own42 a42 w42 hd42 hz42 hk42 hf42 hE42
  obtain ⟨(f_6 : a42.eval (.tmp 6) = .int .i64 x41), -⟩ := hf42 [23] rfl
  have e42_6 := f_6
  have hX42 := Evo.step hX38 (fun _ => Nat.le_refl 0) hE42 rfl
  refine fl_ret ?_
  obtain rfl := (osome hs).symm
  exact hret _ _ _ _ (.inl rfl) hd42 (results1_ rfl (RVal.tmp_ e42_6)) ⟨own42, rfl, hX42⟩
theorem exact_Turn_w (w : World) (x1 : Int × Int) (b2 : Int × Int) (c3 : Int × Int) (r : Int) (hs : exact_Turn x1 b2 c3 = some r) :
    Calls Try.prog 46 #[.agg #[.int .i64 x1.1, .int .i64 x1.2], .agg #[.int .i64 b2.1, .int .i64 b2.2], .agg #[.int .i64 c3.1, .int .i64 c3.2]] w fun e w' => ∃ own' : Own, e = .returned (.int .i64 r) ∧ Evo [] (fun _ => 0) own' w w' := by
  refine fl_enter (n := 18) rfl rfl rfl (Nat.le_of_ble_eq_true rfl) ?_
  intro a0 Q hd0 hz0 harg hret
  have ha0 := harg 0 _ rfl
  have ha1 := harg 1 _ rfl
  have ha2 := harg 2 _ rfl
  clear harg
  have hE0 : Evo [] (fun _ => 0) (fun _ => 0) w w := Evo.refl _ _ _
  refine rg_plain_seq (n := 18) (rs := []) (own0 := (fun _ => 0)) (K := [])
      (bs := [0, 0, 0, 0])
      (ds := [⟨[], [0], [], Fct.blk 30 3 (fun g => .pointer (some ⟨g, 0, none⟩)) 25 #[.int .i64 x1.1, .int .i64 x1.2]⟩,
      ⟨[], [1], [], Fct.blk 32 4 (fun g => .pointer (some ⟨g, 0, none⟩)) 25 #[.int .i64 b2.1, .int .i64 b2.2]⟩,
      ⟨[], [2], [], Fct.blk 34 5 (fun g => .pointer (some ⟨g, 0, none⟩)) 25 #[.int .i64 c3.1, .int .i64 c3.2]⟩,
      ⟨[], [], [], Fct.val 6 (.int .i64 0)⟩]) (by kernel_rfl) hz0 hd0 (fun _ h => nomatch h) ?_ ?_
  · refine sc (fun _ _ _ _ s _ => px (or_new [(0, .agg #[.int .i64 x1.1, .int .i64 x1.2])] rfl rfl ⟨(s.1.trans ha0), trivial⟩ (by kernel_rfl))) ?_
    refine sc (fun _ _ _ _ s _ => px (or_new [(1, .agg #[.int .i64 b2.1, .int .i64 b2.2])] rfl rfl ⟨(s.1.trans ha1), trivial⟩ (by kernel_rfl))) ?_
    refine sc (fun _ _ _ _ s _ => px (or_new [(2, .agg #[.int .i64 c3.1, .int .i64 c3.2])] rfl rfl ⟨(s.1.trans ha2), trivial⟩ (by kernel_rfl))) ?_
    refine sc (fun _ _ _ _ _ _ => px (or_assign rfl)) ?_
    exact steps_nil
  intro own35 a35 w35 hd35 hz35 hk35 hf35 hE35
  obtain ⟨⟨g29, (f_3 : a35.eval (.tmp 3) = .pointer (some ⟨g29, 0, none⟩)), (b_g29 : BlkO own35 30 w35 g29 25 #[.int .i64 x1.1, .int .i64 x1.2])⟩, ⟨g31, (f_4 : a35.eval (.tmp 4) = .pointer (some ⟨g31, 0, none⟩)), (b_g31 : BlkO own35 32 w35 g31 25 #[.int .i64 b2.1, .int .i64 b2.2])⟩, ⟨g33, (f_5 : a35.eval (.tmp 5) = .pointer (some ⟨g33, 0, none⟩)), (b_g33 : BlkO own35 34 w35 g33 25 #[.int .i64 c3.1, .int .i64 c3.2])⟩, -⟩ := hf35 [0, 1, 2] rfl
  have e35_3 := f_3
  have e35_4 := f_4
  have e35_5 := f_5
  have hX35 := Evo.step hE0 (fun _ => Nat.le_refl 0) hE35 rfl
  have b35_g29 := b_g29
  have b35_g31 := b_g31
  have b35_g33 := b_g33
  refine fl_seq (fun Q36 hn36 hp36 => ?_)
  obtain ⟨r37, hr37, hs⟩ := obind hs
  refine rg_plain_seq (n := 18) (rs := []) (own0 := own35) (K := [])
      (bs := [0, 0, 0, 7, 15])
      (ds := [⟨[], [3], [], Fct.val 8 (.agg #[.int .i64 x1.1, .int .i64 x1.2])⟩,
      ⟨[], [4], [], Fct.val 9 (.agg #[.int .i64 b2.1, .int .i64 b2.2])⟩,
      ⟨[], [5], [], Fct.val 10 (.agg #[.int .i64 c3.1, .int .i64 c3.2])⟩,
      ⟨[0, 1, 2], [], [], Fct.val 11 (.int .i64 r37)⟩,
      ⟨[3], [], [], Fct.val 7 (.int .i64 r37)⟩]) (by kernel_rfl) hz35 hd35 (fun _ h => nomatch h) ?_ ?_
  · refine sc (fun _ _ _ _ s hE => px (or_load (l := [.int .i64 x1.1, .int .i64 x1.2]) ta25 (s.1.trans e35_3) (Blk.cellsFrom (BlkO.evo (by decide) hE b35_g29).2 0 rfl) rfl)) ?_
    refine sc (fun _ _ _ _ s hE => px (or_load (l := [.int .i64 b2.1, .int .i64 b2.2]) ta25 (s.1.trans e35_4) (Blk.cellsFrom (BlkO.evo (by decide) hE b35_g31).2 0 rfl) rfl)) ?_
    refine sc (fun _ _ _ _ s hE => px (or_load (l := [.int .i64 c3.1, .int .i64 c3.2]) ta25 (s.1.trans e35_5) (Blk.cellsFrom (BlkO.evo (by decide) hE b35_g33).2 0 rfl) rfl)) ?_
    refine sc (fun _ _ _ f _ _ => px (or_call cf63 (args3 f.1 f.2.1 f.2.2.1) (exact_Cross_w _ x1 b2 c3  r37 hr37) post_val)) ?_
    refine sc (fun _ _ _ f _ _ => px (or_assign f.1)) ?_
    exact steps_nil
  intro own38 a38 w38 hd38 hz38 hk38 hf38 hE38
  obtain ⟨(f_7 : a38.eval (.tmp 7) = .int .i64 r37), -⟩ := hf38 [4] rfl
  have e38_7 := f_7
  have hX38 := Evo.step hX35 (fun _ => Nat.le_refl 0) hE38 rfl
  refine fl_block (fun Q39 hn39 hx39 hp39 => ?_)
  refine rg_plain_seq (n := 18) (rs := []) (own0 := own38) (K := [])
      (bs := [0, 1, 3])
      (ds := [⟨[], [7], [], Fct.val 13 (.int .i64 r37)⟩,
      ⟨[0], [], [], Fct.val 14 (.bool (decide (0 < r37)))⟩,
      ⟨[1], [], [], Fct.val 12 (.bool (decide (0 < r37)))⟩]) (by kernel_rfl) hz38 hd38 (fun _ h => nomatch h) ?_ ?_
  · refine sc (fun _ _ _ _ s _ => px (or_move (s.1.trans e38_7))) ?_
    refine sc (fun _ _ _ f _ _ => px (or_gtr f.1 rfl rfl)) ?_
    refine sc (fun _ _ _ f _ _ => px (or_assign f.1)) ?_
    exact steps_nil
  intro own40 a40 w40 hd40 hz40 hk40 hf40 hE40
  have e40_7 := (hk40 7 rfl).trans e38_7
  obtain ⟨(f_12 : a40.eval (.tmp 12) = .bool (decide (0 < r37))), -⟩ := hf40 [2] rfl
  have e40_12 := f_12
  have hX40 := Evo.step hX38 (fun _ => Nat.le_refl 0) hE40 rfl
  refine fl_cond e40_12 hs (fun c41 hs => ?_) (fun c41 hs => ?_)
  · refine rg_plain_seq (n := 18) (rs := []) (own0 := own40) (K := [])
        (bs := [0])
        (ds := [⟨[], [], [], Fct.val 6 (.int .i64 1)⟩]) (by kernel_rfl) hz40 hd40 (fun _ h => nomatch h) ?_ ?_
    · refine sc (fun _ _ _ _ _ _ => px (or_assign rfl)) ?_
      exact steps_nil
    intro own42 a42 w42 hd42 hz42 hk42 hf42 hE42
    obtain ⟨(f_6 : a42.eval (.tmp 6) = .int .i64 1), -⟩ := hf42 [0] rfl
    have e42_6 := f_6
    have hX42 := Evo.step hX40 (fun _ => Nat.le_refl 0) hE42 rfl
    refine fl_ret ?_
    refine hp39 _ _ _ rfl ?_
    refine hp36 _ _ _ rfl ?_
    obtain rfl := osome hs
    exact hret _ _ _ _ (.inl rfl) hd42 (results1_ rfl (RVal.tmp_ e42_6)) ⟨own42, rfl, hX42⟩
  refine rg_plain_seq (n := 18) (rs := []) (own0 := own40) (K := [])
      (bs := [0, 1, 3])
      (ds := [⟨[], [7], [], Fct.val 16 (.int .i64 r37)⟩,
      ⟨[0], [], [], Fct.val 17 (.bool (decide (r37 < 0)))⟩,
      ⟨[1], [], [], Fct.val 15 (.bool (decide (r37 < 0)))⟩]) (by kernel_rfl) hz40 hd40 (fun _ h => nomatch h) ?_ ?_
  · refine sc (fun _ _ _ _ s _ => px (or_move (s.1.trans e40_7))) ?_
    refine sc (fun _ _ _ f _ _ => px (or_lss f.1 rfl rfl)) ?_
    refine sc (fun _ _ _ f _ _ => px (or_assign f.1)) ?_
    exact steps_nil
  intro own43 a43 w43 hd43 hz43 hk43 hf43 hE43
  obtain ⟨(f_15 : a43.eval (.tmp 15) = .bool (decide (r37 < 0))), -⟩ := hf43 [2] rfl
  have e43_15 := f_15
  have hX43 := Evo.step hX40 (fun _ => Nat.le_refl 0) hE43 rfl
  refine fl_cond e43_15 hs (fun c44 hs => ?_) (fun c44 hs => ?_)
  · refine rg_plain_seq (n := 18) (rs := []) (own0 := own43) (K := [])
        (bs := [0])
        (ds := [⟨[], [], [], Fct.val 6 (.int .i64 (-1))⟩]) (by kernel_rfl) hz43 hd43 (fun _ h => nomatch h) ?_ ?_
    · refine sc (fun _ _ _ _ _ _ => px (or_assign rfl)) ?_
      exact steps_nil
    intro own45 a45 w45 hd45 hz45 hk45 hf45 hE45
    obtain ⟨(f_6 : a45.eval (.tmp 6) = .int .i64 (-1)), -⟩ := hf45 [0] rfl
    have e45_6 := f_6
    have hX45 := Evo.step hX43 (fun _ => Nat.le_refl 0) hE45 rfl
    refine fl_ret ?_
    refine hp39 _ _ _ rfl ?_
    refine hp36 _ _ _ rfl ?_
    obtain rfl := osome hs
    exact hret _ _ _ _ (.inl rfl) hd45 (results1_ rfl (RVal.tmp_ e45_6)) ⟨own45, rfl, hX45⟩
  refine fl_skip ?_
  refine hn39 _ _ ?_
  refine hn36 _ _ ?_
  refine rg_plain_seq (n := 18) (rs := []) (own0 := own43) (K := [])
      (bs := [0])
      (ds := [⟨[], [], [], Fct.val 6 (.int .i64 0)⟩]) (by kernel_rfl) hz43 hd43 (fun _ h => nomatch h) ?_ ?_
  · refine sc (fun _ _ _ _ _ _ => px (or_assign rfl)) ?_
    exact steps_nil
  intro own46 a46 w46 hd46 hz46 hk46 hf46 hE46
  obtain ⟨(f_6 : a46.eval (.tmp 6) = .int .i64 0), -⟩ := hf46 [0] rfl
  have e46_6 := f_6
  have hX46 := Evo.step hX43 (fun _ => Nat.le_refl 0) hE46 rfl
  refine fl_ret ?_
  obtain rfl := osome hs
  exact hret _ _ _ _ (.inl rfl) hd46 (results1_ rfl (RVal.tmp_ e46_6)) ⟨own46, rfl, hX46⟩
theorem exact_between_w (w : World) (x1 : Int × Int) (b2 : Int × Int) (p3 : Int × Int) (r : Bool) (hs : exact_between x1 b2 p3 = some r) :
    Calls Try.prog 69 #[.agg #[.int .i64 x1.1, .int .i64 x1.2], .agg #[.int .i64 b2.1, .int .i64 b2.2], .agg #[.int .i64 p3.1, .int .i64 p3.2]] w fun e w' => ∃ own' : Own, e = .returned (.bool r) ∧ Evo [] (fun _ => 0) own' w w' := by
  refine fl_enter (n := 35) rfl rfl rfl (Nat.le_of_ble_eq_true rfl) ?_
  intro a0 Q hd0 hz0 harg hret
  have ha0 := harg 0 _ rfl
  have ha1 := harg 1 _ rfl
  have ha2 := harg 2 _ rfl
  clear harg
  have hE0 : Evo [] (fun _ => 0) (fun _ => 0) w w := Evo.refl _ _ _
  refine rg_plain_seq (n := 35) (rs := []) (own0 := (fun _ => 0)) (K := [])
      (bs := [0, 0, 0, 0])
      (ds := [⟨[], [0], [], Fct.blk 22 3 (fun g => .pointer (some ⟨g, 0, none⟩)) 25 #[.int .i64 x1.1, .int .i64 x1.2]⟩,
      ⟨[], [1], [], Fct.blk 24 4 (fun g => .pointer (some ⟨g, 0, none⟩)) 25 #[.int .i64 b2.1, .int .i64 b2.2]⟩,
      ⟨[], [2], [], Fct.blk 26 5 (fun g => .pointer (some ⟨g, 0, none⟩)) 25 #[.int .i64 p3.1, .int .i64 p3.2]⟩,
      ⟨[], [], [], Fct.val 6 (.bool false)⟩]) (by kernel_rfl) hz0 hd0 (fun _ h => nomatch h) ?_ ?_
  · refine sc (fun _ _ _ _ s _ => px (or_new [(0, .agg #[.int .i64 x1.1, .int .i64 x1.2])] rfl rfl ⟨(s.1.trans ha0), trivial⟩ (by kernel_rfl))) ?_
    refine sc (fun _ _ _ _ s _ => px (or_new [(1, .agg #[.int .i64 b2.1, .int .i64 b2.2])] rfl rfl ⟨(s.1.trans ha1), trivial⟩ (by kernel_rfl))) ?_
    refine sc (fun _ _ _ _ s _ => px (or_new [(2, .agg #[.int .i64 p3.1, .int .i64 p3.2])] rfl rfl ⟨(s.1.trans ha2), trivial⟩ (by kernel_rfl))) ?_
    refine sc (fun _ _ _ _ _ _ => px (or_assign rfl)) ?_
    exact steps_nil
  intro own27 a27 w27 hd27 hz27 hk27 hf27 hE27
  obtain ⟨⟨g21, (f_3 : a27.eval (.tmp 3) = .pointer (some ⟨g21, 0, none⟩)), (b_g21 : BlkO own27 22 w27 g21 25 #[.int .i64 x1.1, .int .i64 x1.2])⟩, ⟨g23, (f_4 : a27.eval (.tmp 4) = .pointer (some ⟨g23, 0, none⟩)), (b_g23 : BlkO own27 24 w27 g23 25 #[.int .i64 b2.1, .int .i64 b2.2])⟩, ⟨g25, (f_5 : a27.eval (.tmp 5) = .pointer (some ⟨g25, 0, none⟩)), (b_g25 : BlkO own27 26 w27 g25 25 #[.int .i64 p3.1, .int .i64 p3.2])⟩, -⟩ := hf27 [0, 1, 2] rfl
  have e27_3 := f_3
  have e27_4 := f_4
  have e27_5 := f_5
  have hX27 := Evo.step hE0 (fun _ => Nat.le_refl 0) hE27 rfl
  have b27_g21 := b_g21
  have b27_g23 := b_g23
  have b27_g25 := b_g25
  obtain ⟨r28, hr28, hs⟩ := obind hs
  obtain ⟨r29, hr29, hs⟩ := obind hs
  refine rg_plain_seq (n := 35) (rs := []) (own0 := own27) (K := [])
      (bs := [0, 1, 0, 4, 0, 16, 60, 0, 128, 0, 512, 1920, 4095, 8191, 16383, 32767, 16383, 81919, 16383, 278527, 999423, 16383, 2113535, 16383, 8404991, 31473663, 67108863, 134217727, 268435455])
      (ds := [⟨[], [5], [], Fct.val 7 (.pointer (some ⟨g25, 0, none⟩))⟩,
      ⟨[0], [], [], Fct.val 8 (.int .i64 p3.1)⟩,
      ⟨[], [3], [], Fct.val 9 (.pointer (some ⟨g21, 0, none⟩))⟩,
      ⟨[2], [], [], Fct.val 10 (.int .i64 x1.1)⟩,
      ⟨[], [4], [], Fct.val 11 (.pointer (some ⟨g23, 0, none⟩))⟩,
      ⟨[4], [], [], Fct.val 12 (.int .i64 b2.1)⟩,
      ⟨[3, 5], [], [], Fct.val 13 (.int .i64 (mn x1.1 b2.1))⟩,
      ⟨[], [3], [], Fct.val 14 (.pointer (some ⟨g21, 0, none⟩))⟩,
      ⟨[7], [], [], Fct.val 15 (.int .i64 x1.1)⟩,
      ⟨[], [4], [], Fct.val 16 (.pointer (some ⟨g23, 0, none⟩))⟩,
      ⟨[9], [], [], Fct.val 17 (.int .i64 b2.1)⟩,
      ⟨[8, 10], [], [], Fct.val 18 (.int .i64 (mx x1.1 b2.1))⟩,
      ⟨[1, 6, 11], [], [], Fct.val 19 (.bool r28)⟩,
      ⟨[12], [], [], Fct.val 20 (.bool r28)⟩,
      ⟨[13], [5], [], Fct.cond r28 (some 21) (Fct.val 21 (.pointer (some ⟨g25, 1, none⟩)))⟩,
      ⟨[13, 14], [], [], Fct.cond r28 (some 22) (Fct.val 22 (.int .i64 p3.2))⟩,
      ⟨[13], [3], [], Fct.cond r28 (some 23) (Fct.val 23 (.pointer (some ⟨g21, 1, none⟩)))⟩,
      ⟨[13, 16], [], [], Fct.cond r28 (some 24) (Fct.val 24 (.int .i64 x1.2))⟩,
      ⟨[13], [4], [], Fct.cond r28 (some 25) (Fct.val 25 (.pointer (some ⟨g23, 1, none⟩)))⟩,
      ⟨[13, 18], [], [], Fct.cond r28 (some 26) (Fct.val 26 (.int .i64 b2.2))⟩,
      ⟨[13, 17, 19], [], [], Fct.cond r28 (some 27) (Fct.val 27 (.int .i64 (mn x1.2 b2.2)))⟩,
      ⟨[13], [3], [], Fct.cond r28 (some 28) (Fct.val 28 (.pointer (some ⟨g21, 1, none⟩)))⟩,
      ⟨[13, 21], [], [], Fct.cond r28 (some 29) (Fct.val 29 (.int .i64 x1.2))⟩,
      ⟨[13], [4], [], Fct.cond r28 (some 30) (Fct.val 30 (.pointer (some ⟨g23, 1, none⟩)))⟩,
      ⟨[13, 23], [], [], Fct.cond r28 (some 31) (Fct.val 31 (.int .i64 b2.2))⟩,
      ⟨[13, 22, 24], [], [], Fct.cond r28 (some 32) (Fct.val 32 (.int .i64 (mx x1.2 b2.2)))⟩,
      ⟨[13, 15, 20, 25], [], [], Fct.cond r28 (some 33) (Fct.val 33 (.bool r29))⟩,
      ⟨[13, 26], [], [], Fct.val 34 (.bool (r28 && r29))⟩,
      ⟨[27], [], [], Fct.val 6 (.bool (r28 && r29))⟩]) (by kernel_rfl) hz27 hd27 (fun _ h => nomatch h) ?_ ?_
  · refine sc (fun _ _ _ _ s _ => px (or_field fo25_0 (s.1.trans e27_5) (by rfl))) ?_
    refine sc (fun _ _ _ f _ hE => px (or_load1 to3 f.1 (Blk.at_ (BlkO.evo (by decide) hE b27_g25).2 0 rfl))) ?_
    refine sc (fun _ _ _ _ s _ => px (or_field fo25_0 (s.1.trans e27_3) (by rfl))) ?_
    refine sc (fun _ _ _ f _ hE => px (or_load1 to3 f.1 (Blk.at_ (BlkO.evo (by decide) hE b27_g21).2 0 rfl))) ?_
    refine sc (fun _ _ _ _ s _ => px (or_field fo25_0 (s.1.trans e27_4) (by rfl))) ?_
    refine sc (fun _ _ _ f _ hE => px (or_load1 to3 f.1 (Blk.at_ (BlkO.evo (by decide) hE b27_g23).2 0 rfl))) ?_
    refine sc (fun _ _ _ f _ _ => px (or_min f.1 f.2.1)) ?_
    refine sc (fun _ _ _ _ s _ => px (or_field fo25_0 (s.1.trans e27_3) (by rfl))) ?_
    refine sc (fun _ _ _ f _ hE => px (or_load1 to3 f.1 (Blk.at_ (BlkO.evo (by decide) hE b27_g21).2 0 rfl))) ?_
    refine sc (fun _ _ _ _ s _ => px (or_field fo25_0 (s.1.trans e27_4) (by rfl))) ?_
    refine sc (fun _ _ _ f _ hE => px (or_load1 to3 f.1 (Blk.at_ (BlkO.evo (by decide) hE b27_g23).2 0 rfl))) ?_
    refine sc (fun _ _ _ f _ _ => px (or_max f.1 f.2.1)) ?_
    refine sc (fun _ _ _ f _ _ => px (or_call cf52 (args3 f.1 f.2.1 f.2.2.1) (exact_within_w _ p3.1 (mn x1.1 b2.1) (mx x1.1 b2.1)  r28 hr28) post_val)) ?_
    refine sc (fun _ _ _ f _ _ => px (or_move f.1)) ?_
    refine sc (fun own a wx hf hsl hE => ?_) ?_
    · obtain ⟨(f_20 : a.eval (.tmp 20) = .bool r28), -⟩ := hf
      obtain ⟨s_5, -⟩ := hsl
      refine sg_t rfl rfl rfl f_20 (fun hg => ?_)
      exact or_field fo25_1 (s_5.trans e27_5) (by rfl)
    refine sc (fun own a wx hf hsl hE => ?_) ?_
    · obtain ⟨(f_20 : a.eval (.tmp 20) = .bool r28), c_21, -⟩ := hf
      refine sg_t rfl rfl rfl f_20 (fun hg => ?_)
      have f_21 : a.eval (.tmp 21) = .pointer (some ⟨g25, 1, none⟩) := c_21.1 hg
      exact or_load1 to3 f_21 (Blk.at_ (BlkO.evo (by decide) hE b27_g25).2 1 rfl)
    refine sc (fun own a wx hf hsl hE => ?_) ?_
    · obtain ⟨(f_20 : a.eval (.tmp 20) = .bool r28), -⟩ := hf
      obtain ⟨s_3, -⟩ := hsl
      refine sg_t rfl rfl rfl f_20 (fun hg => ?_)
      exact or_field fo25_1 (s_3.trans e27_3) (by rfl)
    refine sc (fun own a wx hf hsl hE => ?_) ?_
    · obtain ⟨(f_20 : a.eval (.tmp 20) = .bool r28), c_23, -⟩ := hf
      refine sg_t rfl rfl rfl f_20 (fun hg => ?_)
      have f_23 : a.eval (.tmp 23) = .pointer (some ⟨g21, 1, none⟩) := c_23.1 hg
      exact or_load1 to3 f_23 (Blk.at_ (BlkO.evo (by decide) hE b27_g21).2 1 rfl)
    refine sc (fun own a wx hf hsl hE => ?_) ?_
    · obtain ⟨(f_20 : a.eval (.tmp 20) = .bool r28), -⟩ := hf
      obtain ⟨s_4, -⟩ := hsl
      refine sg_t rfl rfl rfl f_20 (fun hg => ?_)
      exact or_field fo25_1 (s_4.trans e27_4) (by rfl)
    refine sc (fun own a wx hf hsl hE => ?_) ?_
    · obtain ⟨(f_20 : a.eval (.tmp 20) = .bool r28), c_25, -⟩ := hf
      refine sg_t rfl rfl rfl f_20 (fun hg => ?_)
      have f_25 : a.eval (.tmp 25) = .pointer (some ⟨g23, 1, none⟩) := c_25.1 hg
      exact or_load1 to3 f_25 (Blk.at_ (BlkO.evo (by decide) hE b27_g23).2 1 rfl)
    refine sc (fun own a wx hf hsl hE => ?_) ?_
    · obtain ⟨(f_20 : a.eval (.tmp 20) = .bool r28), c_24, c_26, -⟩ := hf
      refine sg_t rfl rfl rfl f_20 (fun hg => ?_)
      have f_24 : a.eval (.tmp 24) = .int .i64 x1.2 := c_24.1 hg
      have f_26 : a.eval (.tmp 26) = .int .i64 b2.2 := c_26.1 hg
      exact or_min f_24 f_26
    refine sc (fun own a wx hf hsl hE => ?_) ?_
    · obtain ⟨(f_20 : a.eval (.tmp 20) = .bool r28), -⟩ := hf
      obtain ⟨s_3, -⟩ := hsl
      refine sg_t rfl rfl rfl f_20 (fun hg => ?_)
      exact or_field fo25_1 (s_3.trans e27_3) (by rfl)
    refine sc (fun own a wx hf hsl hE => ?_) ?_
    · obtain ⟨(f_20 : a.eval (.tmp 20) = .bool r28), c_28, -⟩ := hf
      refine sg_t rfl rfl rfl f_20 (fun hg => ?_)
      have f_28 : a.eval (.tmp 28) = .pointer (some ⟨g21, 1, none⟩) := c_28.1 hg
      exact or_load1 to3 f_28 (Blk.at_ (BlkO.evo (by decide) hE b27_g21).2 1 rfl)
    refine sc (fun own a wx hf hsl hE => ?_) ?_
    · obtain ⟨(f_20 : a.eval (.tmp 20) = .bool r28), -⟩ := hf
      obtain ⟨s_4, -⟩ := hsl
      refine sg_t rfl rfl rfl f_20 (fun hg => ?_)
      exact or_field fo25_1 (s_4.trans e27_4) (by rfl)
    refine sc (fun own a wx hf hsl hE => ?_) ?_
    · obtain ⟨(f_20 : a.eval (.tmp 20) = .bool r28), c_30, -⟩ := hf
      refine sg_t rfl rfl rfl f_20 (fun hg => ?_)
      have f_30 : a.eval (.tmp 30) = .pointer (some ⟨g23, 1, none⟩) := c_30.1 hg
      exact or_load1 to3 f_30 (Blk.at_ (BlkO.evo (by decide) hE b27_g23).2 1 rfl)
    refine sc (fun own a wx hf hsl hE => ?_) ?_
    · obtain ⟨(f_20 : a.eval (.tmp 20) = .bool r28), c_29, c_31, -⟩ := hf
      refine sg_t rfl rfl rfl f_20 (fun hg => ?_)
      have f_29 : a.eval (.tmp 29) = .int .i64 x1.2 := c_29.1 hg
      have f_31 : a.eval (.tmp 31) = .int .i64 b2.2 := c_31.1 hg
      exact or_max f_29 f_31
    refine sc (fun own a wx hf hsl hE => ?_) ?_
    · obtain ⟨(f_20 : a.eval (.tmp 20) = .bool r28), c_22, c_27, c_32, -⟩ := hf
      refine sg_t rfl rfl rfl f_20 (fun hg => ?_)
      have f_22 : a.eval (.tmp 22) = .int .i64 p3.2 := c_22.1 hg
      have f_27 : a.eval (.tmp 27) = .int .i64 (mn x1.2 b2.2) := c_27.1 hg
      have f_32 : a.eval (.tmp 32) = .int .i64 (mx x1.2 b2.2) := c_32.1 hg
      exact or_call cf52 (args3 f_22 f_27 f_32) (exact_within_w _ p3.2 (mn x1.2 b2.2) (mx x1.2 b2.2)  r29 (gd_t hr29 hg)) post_val
    refine sc (fun own a wx hf hsl hE => ?_) ?_
    · obtain ⟨(f_20 : a.eval (.tmp 20) = .bool r28), c_33, -⟩ := hf
      exact px (or_and f_20 (fun hx => c_33.1 hx) rfl rfl)
    refine sc (fun _ _ _ f _ _ => px (or_assign f.1)) ?_
    exact steps_nil
  intro own30 a30 w30 hd30 hz30 hk30 hf30 hE30
  obtain ⟨(f_6 : a30.eval (.tmp 6) = .bool (r28 && r29)), -⟩ := hf30 [28] rfl
  have e30_6 := f_6
  have hX30 := Evo.step hX27 (fun _ => Nat.le_refl 0) hE30 rfl
  refine fl_ret ?_
  obtain rfl := osome hs
  exact hret _ _ _ _ (.inl rfl) hd30 (results1_ rfl (RVal.tmp_ e30_6)) ⟨own30, rfl, hX30⟩
end Go.Proofs.Ytoccfdohlefifaa
