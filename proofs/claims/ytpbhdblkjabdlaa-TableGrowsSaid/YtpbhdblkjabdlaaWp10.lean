import Derived.Test.YtpbhdblkjabdlaaWp2
import Derived.Test.YtpbhdblkjabdlaaWp3
import Derived.Test.YtpbhdblkjabdlaaWp4
import Derived.Test.YtpbhdblkjabdlaaSp10
namespace Go.Proofs.Ytpbhdblkjabdlaa
open Go.RowKit
set_option linter.unusedVariables false
set_option maxRecDepth 10000
set_option maxHeartbeats 2000000 in
theorem law11_TableGrows_w (w : World) (lists1 : List (List (ByteArray × (Int × ByteArray × Int)))) (Alists1 : Option Addr) (clists1 : Nat) (hlists1 : RdO (fun _ => 0) [0] w R22 Alists1 clists1 lists1) (r : Bool) (hs : law11_TableGrows lists1 = some r) :
    Calls Try.prog 5 #[.slice Alists1 lists1.length clists1] w fun e w' => ∃ own' : Own, e = .returned (.bool r) ∧ Evo [] (fun _ => 0) own' w w' := by
  refine fl_enter (n := 86) rfl rfl rfl (Nat.le_of_ble_eq_true rfl) ?_
  intro a0 Q hd0 hz0 harg hret
  have ha0 := harg 0 _ rfl
  clear harg
  have hE0 : Evo [] (fun _ => 0) (fun _ => 0) w w := Evo.refl _ _ _
  refine rg0_seq 86 (fun _ => 0) (bz 1) [⟨[], [], [], Fct.val 2 (.bool false)⟩] hz0 hd0 (by kernel_rfl) ?_ ?_
  · refine sc (fun _ _ _ _ _ _ => px (or_assign rfl)) ?_
    exact steps_nil
  intro own1683 a1683 w1683 hd1683 hz1683 hk1683 hf1683 hE1683
  have e1683_0 := (hk1683 0 rfl).trans ha0
  have hX1683 := es_ hE0 hE1683
  have b1683_Alists1 := RdO.evo rfl hE1683 hlists1
  refine rg0_seq 86 own1683 (bz 1) [⟨[], [], [], Fct.blk 1685 3 (fun g => .pointer (some ⟨g, 0, none⟩)) 43 #[.slice none 0 0, .slice none 0 0]⟩] hz1683 hd1683 (by kernel_rfl) ?_ ?_
  · refine sc (fun _ _ _ _ _ _ => px (or_new [] rfl rfl trivial (by kernel_rfl))) ?_
    exact steps_nil
  intro own1686 a1686 w1686 hd1686 hz1686 hk1686 hf1686 hE1686
  have e1686_0 := (hk1686 0 rfl).trans e1683_0
  obtain ⟨⟨g1684, (e1686_3 : a1686.eval (.tmp 3) = .pointer (some ⟨g1684, 0, none⟩)), (b1686_g1684 : BlkO own1686 1685 w1686 g1684 43 #[.slice none 0 0, .slice none 0 0])⟩, -⟩ := hf1686 [0] rfl
  have hX1686 := es_ hX1683 hE1686
  have b1686_Alists1 := RdO.evo rfl hE1686 b1683_Alists1
  refine rg0_seq 86 own1686 (bz 1) [⟨[], [], [], Fct.val 4 (.slice none 0 0)⟩] hz1686 hd1686 (by kernel_rfl) ?_ ?_
  · refine sc (fun _ _ _ _ _ _ => px (or_assign rfl)) ?_
    exact steps_nil
  intro own1687 a1687 w1687 hd1687 hz1687 hk1687 hf1687 hE1687
  have e1687_0 := (hk1687 0 rfl).trans e1686_0
  have e1687_3 := (hk1687 3 rfl).trans e1686_3
  obtain ⟨(e1687_4 : a1687.eval (.tmp 4) = .slice none 0 0), -⟩ := hf1687 [0] rfl
  have hX1687 := es_ hX1686 hE1687
  have b1687_Alists1 := RdO.evo rfl hE1687 b1686_Alists1
  have b1687_g1684 := be_ hE1687 b1686_g1684
  refine rg0_seq 86 own1687 (bz 1) [⟨[], [], [], Fct.val 5 (.slice none 0 0)⟩] hz1687 hd1687 (by kernel_rfl) ?_ ?_
  · refine sc (fun _ _ _ _ _ _ => px (or_assign rfl)) ?_
    exact steps_nil
  intro own1688 a1688 w1688 hd1688 hz1688 hk1688 hf1688 hE1688
  have e1688_0 := (hk1688 0 rfl).trans e1687_0
  have e1688_3 := (hk1688 3 rfl).trans e1687_3
  have e1688_4 := (hk1688 4 rfl).trans e1687_4
  obtain ⟨(e1688_5 : a1688.eval (.tmp 5) = .slice none 0 0), -⟩ := hf1688 [0] rfl
  have hX1688 := es_ hX1687 hE1688
  have b1688_Alists1 := RdO.evo rfl hE1688 b1687_Alists1
  have b1688_g1684 := be_ hE1688 b1687_g1684
  refine fl_seq (fun Q1689 hn1689 hp1689 => ?_)
  refine rg0_seq 86 own1688 (bz 1) [⟨[], [], [], Fct.val 6 (.int .i64 0)⟩] hz1688 hd1688 (by kernel_rfl) ?_ ?_
  · refine sc (fun _ _ _ _ _ _ => px (or_assign rfl)) ?_
    exact steps_nil
  intro own1690 a1690 w1690 hd1690 hz1690 hk1690 hf1690 hE1690
  have e1690_0 := (hk1690 0 rfl).trans e1688_0
  have e1690_3 := (hk1690 3 rfl).trans e1688_3
  have e1690_4 := (hk1690 4 rfl).trans e1688_4
  have e1690_5 := (hk1690 5 rfl).trans e1688_5
  obtain ⟨(e1690_6 : a1690.eval (.tmp 6) = .int .i64 0), -⟩ := hf1690 [0] rfl
  have hX1690 := es_ hX1688 hE1690
  have b1690_Alists1 := RdO.evo rfl hE1690 b1688_Alists1
  have b1690_g1684 := be_ hE1690 b1688_g1684
  refine fl_block (fun Q1691 hn1691 hx1691 hp1691 => ?_)
  refine fl_loop (body := (fun s => law11_TableGrows_b1 lists1 s.1 s.2.1 s.2.2.1 s.2.2.2.1 s.2.2.2.2)) (z := r) (show loopO _ _ = _ from hs) (fun (s : (List ByteArray) × (List (Int × ByteArray × Int)) × (List (List Int)) × (List (List (ByteArray × (Int × ByteArray × Int)))) × Int) a wx => match s with | (t2230, t2234, told2238, what2243, i2246) => ∃ (ox : Own) (A2228 : Option Addr) (c2229 : Nat) (A2232 : Option Addr) (c2233 : Nat) (A2236 : Option Addr) (c2237 : Nat) (A2241 : Option Addr) (c2242 : Nat), a.defers = [] ∧ a.tmps.size = 86 ∧ a.eval (.tmp 0) = .slice Alists1 lists1.length clists1 ∧ a.eval (.tmp 3) = .pointer (some ⟨g1684, 0, none⟩) ∧ a.eval (.tmp 4) = .slice A2236 told2238.length c2237 ∧ a.eval (.tmp 5) = .slice A2241 what2243.length c2242 ∧ a.eval (.tmp 6) = .int .i64 i2246 ∧ Evo [] (fun _ => 0) ox w wx ∧ RdO ox [0] wx R22 Alists1 clists1 lists1 ∧ BlkO ox 2227 wx g1684 43 #[.slice A2228 t2230.length c2229, .slice A2232 t2234.length c2233] ∧ RwO ox 2231 [] wx 9 R9 A2228 c2229 t2230 ∧ RwO ox 2235 [] wx 60 R60 A2232 c2233 t2234 ∧ RwO ox 2239 [2240] wx 23 R23 A2236 c2237 told2238 ∧ RwO ox 2244 [2245] wx 22 R22 A2241 c2242 what2243) ?_ ?_
  · exact ⟨(rl [(1685, 2227)] own1690), none, 0, none, 0, none, 0, none, 0, hd1690, hz1690, e1690_0, e1690_3, e1690_4, e1690_5, e1690_6, (Evo.rl_ hX1690 (fun _ => Nat.le_refl 0) rfl), (RdO.rl_ (mm := [(1685, 2227)]) b1690_Alists1), (BlkO.rl_ (mm := [(1685, 2227)]) b1690_g1684), RwO.nil_, RwO.nil_, RwO.nil_, RwO.nil_⟩
  · rintro ⟨t2230, t2234, told2238, what2243, i2246⟩ zz2810 a2810 w2810 ⟨own2810, A2228, c2229, A2232, c2233, A2236, c2237, A2241, c2242, hd2811, hz2811, e2811_0, e2811_3, e2811_4, e2811_5, e2811_6, hE2811, b2811_Alists1, b2811_g1684, b2811_A2228, b2811_A2232, b2811_A2236, b2811_A2241⟩ hs Q2810 hn2810 hp2810 hz2810
    have hs : law11_TableGrows_b1 lists1 t2230 t2234 told2238 what2243 i2246 = some zz2810 := hs
    refine fl_seq (fun Q2812 hn2812 hp2812 => ?_)
    obtain ⟨x2813, hx2813, hs⟩ := obind hs
    refine rg0_seq 86 own2810 [0, 0, 2, 7, 15, 31, 63, 127] [⟨[], [6], [], Fct.val 15 (.int .i64 i2246)⟩, ⟨[], [0], [], Fct.val 16 (.slice Alists1 lists1.length clists1)⟩, ⟨[1], [], [], Fct.val 17 (.int .i64 (lists1.length : Int))⟩, ⟨[0, 2], [], [], Fct.val 18 (.bool (decide (i2246 < (lists1.length : Int))))⟩, ⟨[3], [], [], Fct.val 19 (.bool (decide (i2246 < (lists1.length : Int))))⟩, ⟨[4], [6], [], Fct.cond (decide (i2246 < (lists1.length : Int))) (some 20) (Fct.val 20 (.int .i64 i2246))⟩, ⟨[4, 5], [], [], Fct.cond (decide (i2246 < (lists1.length : Int))) (some 21) (Fct.val 21 (.bool (decide (i2246 < 10))))⟩, ⟨[4, 6], [], [], Fct.val 22 (.bool x2813)⟩] hz2811 hd2811 (by kernel_rfl) ?_ ?_
    · refine sc (fun _ _ _ _ s _ => px (or_move (s.1.trans e2811_6))) ?_
      refine sc (fun _ _ _ _ s _ => px (or_move (s.1.trans e2811_0))) ?_
      refine sc (fun _ _ _ f _ _ => px (or_len tu44 f.1 rfl)) ?_
      refine sc (fun _ _ _ f _ _ => px (or_lss f.1 f.2.1 rfl)) ?_
      refine sc (fun _ _ _ f _ _ => px (or_move f.1)) ?_
      refine sc (fun _ _ _ f s _ => sg_t rfl rfl rfl f.1 (fun hg => or_move (s.1.trans e2811_6))) ?_
      refine sc (fun _ _ _ f _ _ => sg_t rfl rfl rfl f.1 (fun hg => or_lss (f.2.1.1 hg) rfl rfl)) ?_
      refine sc (fun _ _ _ f _ _ => px (or_and f.1 (fun hx => f.2.1.1 hx) rfl (osome hx2813).symm)) ?_
      exact steps_nil
    intro own2814 a2814 w2814 hd2814 hz2814 hk2814 hf2814 hE2814
    have e2814_0 := (hk2814 0 rfl).trans e2811_0
    have e2814_3 := (hk2814 3 rfl).trans e2811_3
    have e2814_4 := (hk2814 4 rfl).trans e2811_4
    have e2814_5 := (hk2814 5 rfl).trans e2811_5
    have e2814_6 := (hk2814 6 rfl).trans e2811_6
    obtain ⟨(e2814_22 : a2814.eval (.tmp 22) = .bool x2813), -⟩ := hf2814 [7] rfl
    have hX2814 := es_ hE2811 hE2814
    have b2814_Alists1 := RdO.evo rfl hE2814 b2811_Alists1
    have b2814_g1684 := be_ hE2814 b2811_g1684
    have b2814_A2228 := re_ hE2814 b2811_A2228
    have b2814_A2232 := re_ hE2814 b2811_A2232
    have b2814_A2236 := re_ hE2814 b2811_A2236
    have b2814_A2241 := re_ hE2814 b2811_A2241
    refine fl_cond e2814_22 hs (fun c2815 hs => ?_) (fun c2815 hs => ?_)
    · refine fl_skip ?_
      refine hn2812 _ _ ?_
      refine fl_seq (fun Q2816 hn2816 hp2816 => ?_)
      refine fl_block (fun Q3095 hn3095 hx3095 hp3095 => ?_)
      have K3243 : ∀ (a3243 : Act) (w3243 : World) (own3243 : Own) (t3227 : List ByteArray) (t3231 : List (Int × ByteArray × Int)) (told3235 : List (List Int)) (what3240 : List (List (ByteArray × (Int × ByteArray × Int)))) (A3225 : Option Addr) (c3226 : Nat) (A3229 : Option Addr) (c3230 : Nat) (A3233 : Option Addr) (c3234 : Nat) (A3238 : Option Addr) (c3239 : Nat), a3243.defers = [] → a3243.tmps.size = 86 → a3243.eval (.tmp 0) = .slice Alists1 lists1.length clists1 → a3243.eval (.tmp 3) = .pointer (some ⟨g1684, 0, none⟩) → a3243.eval (.tmp 4) = .slice A3233 told3235.length c3234 → a3243.eval (.tmp 5) = .slice A3238 what3240.length c3239 → a3243.eval (.tmp 6) = .int .i64 i2246 → Evo [] (fun _ => 0) own3243 w w3243 → RdO own3243 [0] w3243 R22 Alists1 clists1 lists1 → BlkO own3243 3224 w3243 g1684 43 #[.slice A3225 t3227.length c3226, .slice A3229 t3231.length c3230] → RwO own3243 3228 [] w3243 9 R9 A3225 c3226 t3227 → RwO own3243 3232 [] w3243 60 R60 A3229 c3230 t3231 → RwO own3243 3236 [3237] w3243 23 R23 A3233 c3234 told3235 → RwO own3243 3241 [3242] w3243 22 R22 A3238 c3239 what3240 → law11_TableGrows_k2 i2246 t3227 t3231 told3235 what3240 = some zz2810 → (Q3095 .normal a3243 w3243 ∧ Q3095 (.exit 1) a3243 w3243) := by
        intro a3243 w3243 own3243 t3227 t3231 told3235 what3240 A3225 c3226 A3229 c3230 A3233 c3234 A3238 c3239 hd3244 hz3244 e3244_0 e3244_3 e3244_4 e3244_5 e3244_6 hE3244 b3244_Alists1 b3244_g1684 b3244_A3225 b3244_A3229 b3244_A3233 b3244_A3238 hs
        refine and_both (hn3095 _ _) (hx3095 _ _) ?_
        refine hn2816 _ _ ?_
        refine rg0 86 own3243 (bz 3) [⟨[], [6], [], Fct.val 23 (.int .i64 i2246)⟩, ⟨[0], [], [], Fct.val 24 (.int .i64 (ad i2246 1))⟩, ⟨[1], [], [], Fct.val 6 (.int .i64 (ad i2246 1))⟩] hz3244 hd3244 (by kernel_rfl) ?_ ?_
        · refine sc (fun _ _ _ _ s _ => px (or_move (s.1.trans e3244_6))) ?_
          refine sc (fun _ _ _ f _ _ => px (or_add f.1 rfl rfl)) ?_
          refine sc (fun _ _ _ f _ _ => px (or_assign f.1)) ?_
          exact steps_nil
        intro own3245 a3245 w3245 hd3245 hz3245 hk3245 hf3245 hE3245
        have e3245_0 := (hk3245 0 rfl).trans e3244_0
        have e3245_3 := (hk3245 3 rfl).trans e3244_3
        have e3245_4 := (hk3245 4 rfl).trans e3244_4
        have e3245_5 := (hk3245 5 rfl).trans e3244_5
        obtain ⟨(e3245_6 : a3245.eval (.tmp 6) = .int .i64 (ad i2246 1)), -⟩ := hf3245 [2] rfl
        have hX3245 := es_ hE3244 hE3245
        have b3245_Alists1 := RdO.evo rfl hE3245 b3244_Alists1
        have b3245_g1684 := be_ hE3245 b3244_g1684
        have b3245_A3225 := re_ hE3245 b3244_A3225
        have b3245_A3229 := re_ hE3245 b3244_A3229
        have b3245_A3233 := re_ hE3245 b3244_A3233
        have b3245_A3238 := re_ hE3245 b3244_A3238
        exact hn2810 _ _ _ hs ⟨(rl [(3224, 2227), (3228, 2231), (3232, 2235), (3236, 2239), (3237, 2240), (3241, 2244), (3242, 2245)] own3245), A3225, c3226, A3229, c3230, A3233, c3234, A3238, c3239, hd3245, hz3245, e3245_0, e3245_3, e3245_4, e3245_5, e3245_6, (Evo.rl_ hX3245 (fun _ => Nat.le_refl 0) rfl), (RdO.rl_ (mm := [(3224, 2227), (3228, 2231), (3232, 2235), (3236, 2239), (3237, 2240), (3241, 2244), (3242, 2245)]) b3245_Alists1), (BlkO.rl_ (mm := [(3224, 2227), (3228, 2231), (3232, 2235), (3236, 2239), (3237, 2240), (3241, 2244), (3242, 2245)]) b3245_g1684), (RwO.rl_ (mm := [(3224, 2227), (3228, 2231), (3232, 2235), (3236, 2239), (3237, 2240), (3241, 2244), (3242, 2245)]) b3245_A3225), (RwO.rl_ (mm := [(3224, 2227), (3228, 2231), (3232, 2235), (3236, 2239), (3237, 2240), (3241, 2244), (3242, 2245)]) b3245_A3229), (RwO.rl_ (mm := [(3224, 2227), (3228, 2231), (3232, 2235), (3236, 2239), (3237, 2240), (3241, 2244), (3242, 2245)]) b3245_A3233), (RwO.rl_ (mm := [(3224, 2227), (3228, 2231), (3232, 2235), (3236, 2239), (3237, 2240), (3241, 2244), (3242, 2245)]) b3245_A3238)⟩
      obtain ⟨x3246, hx3246, hs⟩ := obind hs
      obtain ⟨r3248, hr3248, hs⟩ := obind hs
      refine rg0_seq 86 own2814 [0, 0, 3, 7, 15, 31] [⟨[], [0], [], Fct.val 25 (.slice Alists1 lists1.length clists1)⟩, ⟨[], [6], [], Fct.val 26 (.int .i64 i2246)⟩, ⟨[0, 1], [], [], Fct.val 27 (.pointer (some ((adr Alists1).add ((i2246 : Int).toNat * R22.s))))⟩, ⟨[2], [], [], Fct.nest X22 [0] 28 (fun (y : (Option Addr × Nat)) => .slice y.1 x3246.length y.2) x3246⟩, ⟨[3], [], [], Fct.row 3250 [] 29 64 R64 r3248⟩, ⟨[4], [], [], Fct.rel [7, 29] (fun l => ∀ (A3249 : Option Addr) (cA3249 : Nat), l.getD 1 undef = .slice A3249 r3248.length cA3249 → l.getD 0 undef = .slice A3249 r3248.length cA3249)⟩] hz2814 hd2814 (by kernel_rfl) ?_ ?_
      · refine sc (fun _ _ _ _ s _ => px (or_move (s.1.trans e2814_0))) ?_
        refine sc (fun _ _ _ _ s _ => px (or_move (s.1.trans e2814_6))) ?_
        refine sc (fun _ _ _ f _ _ => px (or_index (R := R22) (l := lists1) tl44 f.1 f.2.1 (RdO.some_ b2814_Alists1 hx3246) hx3246)) ?_
        refine sc (fun _ _ _ f _ hE => px (or_loadN1 X22 0 to22 f.1 (Addr.add_zero' _).symm (RdO.evo rfl hE b2814_Alists1) hx3246 (fun _ => rfl))) ?_
        refine sc (fun own a wx hf hsl hE => ?_) ?_
        · obtain ⟨⟨⟨A3247, cA3247⟩, f_28, b_A3247⟩, -⟩ := hf
          exact px (or_call cf7 (args1 f_28) (law11_Cut_w _ x3246 A3247 cA3247 (RdO.zero b_A3247) r3248 hr3248) (post_row (m' := (look0 [(1, 3250)])) (.inl (Rep.fl_flat _)) rfl rfl (fun _ => rfl)))
        refine sc (fun own a wx hf hsl hE => ?_) ?_
        · obtain ⟨⟨⟨A3249, cA3249⟩, (f_29 : a.eval (.tmp 29) = .slice A3249 r3248.length cA3249), b_A3249⟩, -⟩ := hf
          exact px (or_mono (f := Fct.val 7 (.slice A3249 r3248.length cA3249)) (or_assign f_29) (fun own' a' w' v' hp h => fun _ _ h0' => by cases (f_29.symm.trans ((hp.2 29 (by decide)).symm.trans h0')); exact h))
        exact steps_nil
      intro own3251 a3251 w3251 hd3251 hz3251 hk3251 hf3251 hE3251
      have e3251_0 := (hk3251 0 rfl).trans e2814_0
      have e3251_3 := (hk3251 3 rfl).trans e2814_3
      have e3251_4 := (hk3251 4 rfl).trans e2814_4
      have e3251_5 := (hk3251 5 rfl).trans e2814_5
      have e3251_6 := (hk3251 6 rfl).trans e2814_6
      obtain ⟨⟨⟨A3249, cA3249⟩, (f_29 : a3251.eval (.tmp 29) = .slice A3249 r3248.length cA3249), (b3251_A3249 : RwO own3251 3250 [] w3251 64 R64 A3249 cA3249 r3248)⟩, (q_7 : ∀ (A3249 : Option Addr) (cA3249 : Nat), a3251.eval (.tmp 29) = .slice A3249 r3248.length cA3249 → a3251.eval (.tmp 7) = .slice A3249 r3248.length cA3249), -⟩ := hf3251 [4, 5] rfl
      have e3251_7 := q_7 _ _ f_29
      have hX3251 := es_ hX2814 hE3251
      have b3251_Alists1 := RdO.evo rfl hE3251 b2814_Alists1
      have b3251_g1684 := be_ hE3251 b2814_g1684
      have b3251_A2228 := re_ hE3251 b2814_A2228
      have b3251_A2232 := re_ hE3251 b2814_A2232
      have b3251_A2236 := re_ hE3251 b2814_A2236
      have b3251_A2241 := re_ hE3251 b2814_A2241
      obtain ⟨r3252, hr3252, hs⟩ := obind hs
      refine rg_plain_seq (n := 86) (rs := [Fct.at_ 2227 g1684 43 #[.slice A2228 t2230.length c2229, .slice A2232 t2234.length c2233], Fct.rowAt 2231 [] 9 R9 A2228 c2229 t2230, Fct.rowAt 2235 [] 60 R60 A2232 c2233 t2234]) (own0 := own3251) (K := [2227, 2231, 2235]) (bs := [0, 1, 3, 7, 7, 15, 63]) (ds := [⟨[], [7], [], Fct.val 31 (.slice A3249 r3248.length cA3249)⟩, ⟨[0, 7, 8, 9], [3], [2227, 2231, 2235], Fct.mems [3256, 3257, 3258, 3259] 32 (fun (x : (Option Addr × Nat) × (Option Addr × Nat) × (Option Addr × Nat)) => .tuple #[.slice x.1.1 r3252.1.length x.1.2, .int .i64 r3252.2.1]) (fun (x : (Option Addr × Nat) × (Option Addr × Nat) × (Option Addr × Nat)) own w => RwO own 3256 [] w 3 R3 x.1.1 x.1.2 r3252.1 ∧ RwO own 3257 [] w 9 R9 x.2.1.1 x.2.1.2 r3252.2.2.1 ∧ RwO own 3258 [] w 60 R60 x.2.2.1 x.2.2.2 r3252.2.2.2 ∧ BlkO own 3259 w g1684 43 #[.slice x.2.1.1 r3252.2.2.1.length x.2.1.2, .slice x.2.2.1 r3252.2.2.2.length x.2.2.2]) (fun hk he h => ⟨RwO.evo (hits_sub hk (by decide)) he h.1, RwO.evo (hits_sub hk (by decide)) he h.2.1, RwO.evo (hits_sub hk (by decide)) he h.2.2.1, BlkO.evo (not_hit hk (by decide)) he h.2.2.2⟩)⟩, ⟨[1], [], [], Fct.rel [30, 32] (fun l => ∀ (A3253 : Option Addr) (cA3253 : Nat), l.getD 1 undef = .tuple #[.slice A3253 r3252.1.length cA3253, .int .i64 r3252.2.1] → l.getD 0 undef = .tuple #[.slice A3253 r3252.1.length cA3253, .int .i64 r3252.2.1])⟩, ⟨[2, 1], [], [], Fct.rel [33, 32] (fun l => ∀ (A3253 : Option Addr) (cA3253 : Nat), l.getD 1 undef = .tuple #[.slice A3253 r3252.1.length cA3253, .int .i64 r3252.2.1] → l.getD 0 undef = .slice A3253 r3252.1.length cA3253)⟩, ⟨[2, 1], [], [], Fct.val 34 (.int .i64 r3252.2.1)⟩, ⟨[3, 1], [], [], Fct.rel [8, 32] (fun l => ∀ (A3253 : Option Addr) (cA3253 : Nat), l.getD 1 undef = .tuple #[.slice A3253 r3252.1.length cA3253, .int .i64 r3252.2.1] → l.getD 0 undef = .slice A3253 r3252.1.length cA3253)⟩, ⟨[4], [], [], Fct.val 9 (.int .i64 r3252.2.1)⟩]) (by kernel_rfl) hz3251 hd3251 (by simp only [List.forall_mem_cons]; exact ⟨b3251_g1684, b3251_A2228, b3251_A2232, fun _ h => nomatch h⟩) ?_ ?_
      · refine sc (fun _ _ _ _ s _ => px (or_move (s.1.trans e3251_7))) ?_
        refine sc (fun own a wx hf hsl hE => ?_) ?_
        · obtain ⟨f_31, b_g1684, b_A2228, b_A2232, -⟩ := hf
          obtain ⟨s_3, -⟩ := hsl
          exact px (or_call cf8 (args2 (s_3.trans e3251_3) f_31) (table_Table_Add_w _ (forth own (look0 [(2227, 1), (2231, 2), (2235, 3)])) (t2230, t2234) g1684 43 A2228 c2229 A2232 c2233 r3248 A3249 cA3249 (look0_le rfl) (BlkO.forth_ (m := (look0 [(2227, 1), (2231, 2), (2235, 3)])) b_g1684) (RwO.forth_ (m := (look0 [(2227, 1), (2231, 2), (2235, 3)])) b_A2228) (RwO.forth_ (m := (look0 [(2227, 1), (2231, 2), (2235, 3)])) b_A2232) (RdO.forth_ (m := (look0 [(2227, 1), (2231, 2), (2235, 3)])) (RwO.rd (re_ hE b3251_A3249))) r3252 hr3252) (post_mems (m := (look0 [(2227, 1), (2231, 2), (2235, 3)])) (m' := (look0 [(1, 3259), (2, 3257), (3, 3258), (4, 3256)])) (hm_of rfl) (fun own' w' a' x h1 h => ⟨x, h1, ⟨RwO.back_ h.1 (by decide) (.inl (Rep.fl_flat _)), RwO.back_ h.2.1 (by decide) (.inl (Rep.fl_flat _)), RwO.back_ h.2.2.1 (by decide) (.inl (Rep.fl_flat _)), BlkO.back_ h.2.2.2 (by decide)⟩⟩)))
        refine sc (fun own a wx hf hsl hE => ?_) ?_
        · obtain ⟨⟨⟨⟨A3253, cA3253⟩, ⟨A3254, cA3254⟩, ⟨A3255, cA3255⟩⟩, (f_32 : a.eval (.tmp 32) = .tuple #[.slice A3253 r3252.1.length cA3253, .int .i64 r3252.2.1]), b_A3253, b_A3254, b_A3255, b_g1684⟩, -⟩ := hf
          exact px (or_mono (f := Fct.val 30 (.tuple #[.slice A3253 r3252.1.length cA3253, .int .i64 r3252.2.1])) (or_move f_32) (fun own' a' w' v' hp h => fun _ _ h0' => by cases (f_32.symm.trans ((hp.2 32 (by decide)).symm.trans h0')); exact h))
        refine sc (fun own a wx hf hsl hE => ?_) ?_
        · obtain ⟨(q_30 : ∀ (A3253 : Option Addr) (cA3253 : Nat), a.eval (.tmp 32) = .tuple #[.slice A3253 r3252.1.length cA3253, .int .i64 r3252.2.1] → a.eval (.tmp 30) = .tuple #[.slice A3253 r3252.1.length cA3253, .int .i64 r3252.2.1]), ⟨⟨⟨A3253, cA3253⟩, ⟨A3254, cA3254⟩, ⟨A3255, cA3255⟩⟩, (f_32 : a.eval (.tmp 32) = .tuple #[.slice A3253 r3252.1.length cA3253, .int .i64 r3252.2.1]), b_A3253, b_A3254, b_A3255, b_g1684⟩, -⟩ := hf
          have f_30 := q_30 _ _ f_32
          exact px (or_mono (f := Fct.val 33 (.slice A3253 r3252.1.length cA3253)) (or_k [(30, .tuple #[.slice A3253 r3252.1.length cA3253, .int .i64 r3252.2.1])] rfl rfl ⟨f_30, trivial⟩ (by kernel_rfl)) (fun own' a' w' v' hp h => fun _ _ h0' => by cases (f_32.symm.trans ((hp.2 32 (by decide)).symm.trans h0')); exact h))
        refine sc (fun own a wx hf hsl hE => ?_) ?_
        · obtain ⟨(q_30 : ∀ (A3253 : Option Addr) (cA3253 : Nat), a.eval (.tmp 32) = .tuple #[.slice A3253 r3252.1.length cA3253, .int .i64 r3252.2.1] → a.eval (.tmp 30) = .tuple #[.slice A3253 r3252.1.length cA3253, .int .i64 r3252.2.1]), ⟨⟨⟨A3253, cA3253⟩, ⟨A3254, cA3254⟩, ⟨A3255, cA3255⟩⟩, f_32, b_A3253, b_A3254, b_A3255, b_g1684⟩, -⟩ := hf
          have f_30 := q_30 _ _ f_32
          exact px (or_k [(30, .tuple #[.slice A3253 r3252.1.length cA3253, .int .i64 r3252.2.1])] rfl rfl ⟨f_30, trivial⟩ (by kernel_rfl))
        refine sc (fun own a wx hf hsl hE => ?_) ?_
        · obtain ⟨(q_33 : ∀ (A3253 : Option Addr) (cA3253 : Nat), a.eval (.tmp 32) = .tuple #[.slice A3253 r3252.1.length cA3253, .int .i64 r3252.2.1] → a.eval (.tmp 33) = .slice A3253 r3252.1.length cA3253), ⟨⟨⟨A3253, cA3253⟩, ⟨A3254, cA3254⟩, ⟨A3255, cA3255⟩⟩, (f_32 : a.eval (.tmp 32) = .tuple #[.slice A3253 r3252.1.length cA3253, .int .i64 r3252.2.1]), b_A3253, b_A3254, b_A3255, b_g1684⟩, -⟩ := hf
          have f_33 := q_33 _ _ f_32
          exact px (or_mono (f := Fct.val 8 (.slice A3253 r3252.1.length cA3253)) (or_assign f_33) (fun own' a' w' v' hp h => fun _ _ h0' => by cases (f_32.symm.trans ((hp.2 32 (by decide)).symm.trans h0')); exact h))
        refine sc (fun _ _ _ f _ _ => px (or_assign f.1)) ?_
        exact steps_nil
      intro own3260 a3260 w3260 hd3260 hz3260 hk3260 hf3260 hE3260
      have e3260_0 := (hk3260 0 rfl).trans e3251_0
      have e3260_3 := (hk3260 3 rfl).trans e3251_3
      have e3260_4 := (hk3260 4 rfl).trans e3251_4
      have e3260_5 := (hk3260 5 rfl).trans e3251_5
      have e3260_6 := (hk3260 6 rfl).trans e3251_6
      have e3260_7 := (hk3260 7 rfl).trans e3251_7
      obtain ⟨⟨⟨⟨A3253, cA3253⟩, ⟨A3254, cA3254⟩, ⟨A3255, cA3255⟩⟩, (f_32 : a3260.eval (.tmp 32) = .tuple #[.slice A3253 r3252.1.length cA3253, .int .i64 r3252.2.1]), (b3260_A3253 : RwO own3260 3256 [] w3260 3 R3 A3253 cA3253 r3252.1), (b3260_A3254 : RwO own3260 3257 [] w3260 9 R9 A3254 cA3254 r3252.2.2.1), (b3260_A3255 : RwO own3260 3258 [] w3260 60 R60 A3255 cA3255 r3252.2.2.2), (b3260_g1684 : BlkO own3260 3259 w3260 g1684 43 #[.slice A3254 r3252.2.2.1.length cA3254, .slice A3255 r3252.2.2.2.length cA3255])⟩, (q_8 : ∀ (A3253 : Option Addr) (cA3253 : Nat), a3260.eval (.tmp 32) = .tuple #[.slice A3253 r3252.1.length cA3253, .int .i64 r3252.2.1] → a3260.eval (.tmp 8) = .slice A3253 r3252.1.length cA3253), (e3260_9 : a3260.eval (.tmp 9) = .int .i64 r3252.2.1), -⟩ := hf3260 [1, 5, 6] rfl
      have e3260_8 := q_8 _ _ f_32
      have hX3260 := es_ hX3251 hE3260
      have b3260_Alists1 := RdO.evo rfl hE3260 b3251_Alists1
      have b3260_A2236 := re_ hE3260 b3251_A2236
      have b3260_A2241 := re_ hE3260 b3251_A2241
      have b3260_A3249 := re_ hE3260 b3251_A3249
      refine fl_seq (fun Q3261 hn3261 hp3261 => ?_)
      refine rg0_seq 86 own3260 (bz 2) [⟨[], [9], [], Fct.val 35 (.int .i64 r3252.2.1)⟩, ⟨[0], [], [], Fct.val 36 (.bool (!decide (r3252.2.1 = 0)))⟩] hz3260 hd3260 (by kernel_rfl) ?_ ?_
      · refine sc (fun _ _ _ _ s _ => px (or_move (s.1.trans e3260_9))) ?_
        refine sc (fun _ _ _ f _ _ => px (or_neq f.1 rfl rfl)) ?_
        exact steps_nil
      intro own3262 a3262 w3262 hd3262 hz3262 hk3262 hf3262 hE3262
      have e3262_0 := (hk3262 0 rfl).trans e3260_0
      have e3262_3 := (hk3262 3 rfl).trans e3260_3
      have e3262_4 := (hk3262 4 rfl).trans e3260_4
      have e3262_5 := (hk3262 5 rfl).trans e3260_5
      have e3262_6 := (hk3262 6 rfl).trans e3260_6
      have e3262_7 := (hk3262 7 rfl).trans e3260_7
      have e3262_8 := (hk3262 8 rfl).trans e3260_8
      obtain ⟨(e3262_36 : a3262.eval (.tmp 36) = .bool (!decide (r3252.2.1 = 0))), -⟩ := hf3262 [1] rfl
      have hX3262 := es_ hX3260 hE3262
      have b3262_Alists1 := RdO.evo rfl hE3262 b3260_Alists1
      have b3262_A2236 := re_ hE3262 b3260_A2236
      have b3262_A2241 := re_ hE3262 b3260_A2241
      have b3262_A3249 := re_ hE3262 b3260_A3249
      have b3262_g1684 := be_ hE3262 b3260_g1684
      have b3262_A3253 := re_ hE3262 b3260_A3253
      have b3262_A3254 := re_ hE3262 b3260_A3254
      have b3262_A3255 := re_ hE3262 b3260_A3255
      refine fl_cond e3262_36 hs (fun c3263 hs => ?_) (fun c3263 hs => ?_)
      · refine fl_exit ?_
        refine hp3261 _ _ _ rfl ?_
        exact (K3243 _ _ (rl [(2239, 3236), (2240, 3237), (2244, 3241), (2245, 3242), (3257, 3228), (3258, 3232), (3259, 3224)] own3262) _ _ _ _ A3254 cA3254 A3255 cA3255 A2236 c2237 A2241 c2242 hd3262 hz3262 e3262_0 e3262_3 e3262_4 e3262_5 e3262_6 (Evo.rl_ hX3262 (fun _ => Nat.le_refl 0) rfl) (RdO.rl_ (mm := [(2239, 3236), (2240, 3237), (2244, 3241), (2245, 3242), (3257, 3228), (3258, 3232), (3259, 3224)]) b3262_Alists1) (BlkO.rl_ (mm := [(2239, 3236), (2240, 3237), (2244, 3241), (2245, 3242), (3257, 3228), (3258, 3232), (3259, 3224)]) b3262_g1684) (RwO.rl_ (mm := [(2239, 3236), (2240, 3237), (2244, 3241), (2245, 3242), (3257, 3228), (3258, 3232), (3259, 3224)]) b3262_A3254) (RwO.rl_ (mm := [(2239, 3236), (2240, 3237), (2244, 3241), (2245, 3242), (3257, 3228), (3258, 3232), (3259, 3224)]) b3262_A3255) (RwO.rl_ (mm := [(2239, 3236), (2240, 3237), (2244, 3241), (2245, 3242), (3257, 3228), (3258, 3232), (3259, 3224)]) b3262_A2236) (RwO.rl_ (mm := [(2239, 3236), (2240, 3237), (2244, 3241), (2245, 3242), (3257, 3228), (3258, 3232), (3259, 3224)]) b3262_A2241) hs).2
      refine fl_skip ?_
      refine hn3261 _ _ ?_
      obtain ⟨x3275, hx3275, hs⟩ := obind hs
      obtain ⟨x3280, hx3280, hs⟩ := obind hs
      refine rg_plain_seq (n := 86) (rs := [Fct.rowAt 2239 [2240] 23 R23 A2236 c2237 told2238, Fct.rowAt 2244 [2245] 22 R22 A2241 c2242 what2243]) (own0 := own3262) (K := [2239, 2244]) (bs := [0, 0, 2, 7, 0, 0, 32, 127, 255, 511]) (ds := [⟨[], [4], [], Fct.val 37 (.slice A2236 told2238.length c2237)⟩, ⟨[], [8], [], Fct.val 38 (.slice A3253 r3252.1.length cA3253)⟩, ⟨[1], [], [], Fct.row 3274 [3256] 39 23 R23 [r3252.1]⟩, ⟨[0, 2, 10], [], [2239], Fct.row 3276 [2240, 3256, 3274] 40 23 R23 x3275⟩, ⟨[], [5], [], Fct.val 41 (.slice A2241 what2243.length c2242)⟩, ⟨[], [7], [], Fct.val 42 (.slice A3249 r3248.length cA3249)⟩, ⟨[5], [], [], Fct.row 3279 [3250] 43 22 R22 [r3248]⟩, ⟨[4, 6, 11], [], [2244], Fct.row 3281 [2245, 3250, 3279] 44 22 R22 x3280⟩, ⟨[3], [], [], Fct.rel [4, 40] (fun l => ∀ (A3277 : Option Addr) (cA3277 : Nat), l.getD 1 undef = .slice A3277 x3275.length cA3277 → l.getD 0 undef = .slice A3277 x3275.length cA3277)⟩, ⟨[7], [], [], Fct.rel [5, 44] (fun l => ∀ (A3282 : Option Addr) (cA3282 : Nat), l.getD 1 undef = .slice A3282 x3280.length cA3282 → l.getD 0 undef = .slice A3282 x3280.length cA3282)⟩]) (by kernel_rfl) hz3262 hd3262 (by simp only [List.forall_mem_cons]; exact ⟨b3262_A2236, b3262_A2241, fun _ h => nomatch h⟩) ?_ ?_
      · refine sc (fun _ _ _ _ s _ => px (or_move (s.1.trans e3262_4))) ?_
        refine sc (fun _ _ _ _ s _ => px (or_move (s.1.trans e3262_8))) ?_
        refine sc (fun _ _ _ f _ hE => px (or_litN (R := R23) (lab := 3274) (L := [3256]) (e := 23) (cs := #[.slice A3253 r3252.1.length cA3253]) (l := [r3252.1]) (n := 1) [(38, .slice A3253 r3252.1.length cA3253)] rfl rfl ⟨f.1, trivial⟩ (by kernel_rfl) rfl (by decide) ⟨(Ex.iff X23).2 ⟨(A3253, cA3253), rfl, (RwO.rd (re_ hE b3262_A3253))⟩, rfl⟩ rfl)) ?_
        refine sc (fun own a wx hf hsl hE => ?_) ?_
        · obtain ⟨f_37, ⟨⟨A3273, cA3273⟩, f_39, b_A3273⟩, b_A2236, -⟩ := hf
          exact px (or_append (R := R23) (lab := 2239) (lab2 := 3276) (L := [2240]) (L3 := [2240, 3256, 3274]) tp57 f_37 b_A2236 (by decide) f_39 (RwO.rd b_A3273) hx3275 (by decide) (by decide) (mem_of rfl) (.inr ⟨rfl, rfl, by decide, by decide⟩))
        refine sc (fun _ _ _ _ s _ => px (or_move (s.1.trans e3262_5))) ?_
        refine sc (fun _ _ _ _ s _ => px (or_move (s.1.trans e3262_7))) ?_
        refine sc (fun _ _ _ f _ hE => px (or_litN (R := R22) (lab := 3279) (L := [3250]) (e := 22) (cs := #[.slice A3249 r3248.length cA3249]) (l := [r3248]) (n := 1) [(42, .slice A3249 r3248.length cA3249)] rfl rfl ⟨f.1, trivial⟩ (by kernel_rfl) rfl (by decide) ⟨(Ex.iff X22).2 ⟨(A3249, cA3249), rfl, (RwO.rd (re_ hE b3262_A3249))⟩, rfl⟩ rfl)) ?_
        refine sc (fun own a wx hf hsl hE => ?_) ?_
        · obtain ⟨f_41, ⟨⟨A3278, cA3278⟩, f_43, b_A3278⟩, b_A2241, -⟩ := hf
          exact px (or_append (R := R22) (lab := 2244) (lab2 := 3281) (L := [2245]) (L3 := [2245, 3250, 3279]) tp44 f_41 b_A2241 (by decide) f_43 (RwO.rd b_A3278) hx3280 (by decide) (by decide) (mem_of rfl) (.inr ⟨rfl, rfl, by decide, by decide⟩))
        refine sc (fun own a wx hf hsl hE => ?_) ?_
        · obtain ⟨⟨⟨A3277, cA3277⟩, (f_40 : a.eval (.tmp 40) = .slice A3277 x3275.length cA3277), b_A3277⟩, -⟩ := hf
          exact px (or_mono (f := Fct.val 4 (.slice A3277 x3275.length cA3277)) (or_assign f_40) (fun own' a' w' v' hp h => fun _ _ h0' => by cases (f_40.symm.trans ((hp.2 40 (by decide)).symm.trans h0')); exact h))
        refine sc (fun own a wx hf hsl hE => ?_) ?_
        · obtain ⟨⟨⟨A3282, cA3282⟩, (f_44 : a.eval (.tmp 44) = .slice A3282 x3280.length cA3282), b_A3282⟩, -⟩ := hf
          exact px (or_mono (f := Fct.val 5 (.slice A3282 x3280.length cA3282)) (or_assign f_44) (fun own' a' w' v' hp h => fun _ _ h0' => by cases (f_44.symm.trans ((hp.2 44 (by decide)).symm.trans h0')); exact h))
        exact steps_nil
      intro own3283 a3283 w3283 hd3283 hz3283 hk3283 hf3283 hE3283
      have e3283_0 := (hk3283 0 rfl).trans e3262_0
      have e3283_3 := (hk3283 3 rfl).trans e3262_3
      have e3283_6 := (hk3283 6 rfl).trans e3262_6
      have e3283_7 := (hk3283 7 rfl).trans e3262_7
      have e3283_8 := (hk3283 8 rfl).trans e3262_8
      obtain ⟨⟨⟨A3277, cA3277⟩, (f_40 : a3283.eval (.tmp 40) = .slice A3277 x3275.length cA3277), (b3283_A3277 : RwO own3283 3276 [2240, 3256, 3274] w3283 23 R23 A3277 cA3277 x3275)⟩, (q_4 : ∀ (A3277 : Option Addr) (cA3277 : Nat), a3283.eval (.tmp 40) = .slice A3277 x3275.length cA3277 → a3283.eval (.tmp 4) = .slice A3277 x3275.length cA3277), ⟨⟨A3282, cA3282⟩, (f_44 : a3283.eval (.tmp 44) = .slice A3282 x3280.length cA3282), (b3283_A3282 : RwO own3283 3281 [2245, 3250, 3279] w3283 22 R22 A3282 cA3282 x3280)⟩, (q_5 : ∀ (A3282 : Option Addr) (cA3282 : Nat), a3283.eval (.tmp 44) = .slice A3282 x3280.length cA3282 → a3283.eval (.tmp 5) = .slice A3282 x3280.length cA3282), -⟩ := hf3283 [3, 8, 7, 9] rfl
      have e3283_4 := q_4 _ _ f_40
      have e3283_5 := q_5 _ _ f_44
      have hX3283 := es_ hX3262 hE3283
      have b3283_Alists1 := RdO.evo rfl hE3283 b3262_Alists1
      have b3283_A3249 := re_ hE3283 b3262_A3249
      have b3283_g1684 := be_ hE3283 b3262_g1684
      have b3283_A3253 := re_ hE3283 b3262_A3253
      have b3283_A3254 := re_ hE3283 b3262_A3254
      have b3283_A3255 := re_ hE3283 b3262_A3255
      refine fl_seq (fun Q3284 hn3284 hp3284 => ?_)
      obtain ⟨r3285, hr3285, hs⟩ := obind hs
      refine rg0_seq 86 own3283 (bz 2) [⟨[], [3], [], Fct.val 45 (.int .i64 r3285)⟩, ⟨[0], [], [], Fct.val 46 (.bool (!decide (r3285 = 0)))⟩] hz3283 hd3283 (by kernel_rfl) ?_ ?_
      · refine sc (fun _ _ _ _ s hE => px (or_call cf12 (args1 (s.1.trans e3283_3)) (table_Table_Check_w _ r3252.2.2 g1684 43 A3254 cA3254 A3255 cA3255 (BlkO.zero_ (be_ hE b3283_g1684)) (RdO.zero (RwO.rd (re_ hE b3283_A3254))) (RdO.zero (RwO.rd (re_ hE b3283_A3255))) r3285 hr3285) post_val)) ?_
        refine sc (fun _ _ _ f _ _ => px (or_neq f.1 rfl rfl)) ?_
        exact steps_nil
      intro own3286 a3286 w3286 hd3286 hz3286 hk3286 hf3286 hE3286
      have e3286_0 := (hk3286 0 rfl).trans e3283_0
      have e3286_3 := (hk3286 3 rfl).trans e3283_3
      have e3286_4 := (hk3286 4 rfl).trans e3283_4
      have e3286_5 := (hk3286 5 rfl).trans e3283_5
      have e3286_6 := (hk3286 6 rfl).trans e3283_6
      have e3286_7 := (hk3286 7 rfl).trans e3283_7
      have e3286_8 := (hk3286 8 rfl).trans e3283_8
      obtain ⟨(e3286_46 : a3286.eval (.tmp 46) = .bool (!decide (r3285 = 0))), -⟩ := hf3286 [1] rfl
      have hX3286 := es_ hX3283 hE3286
      have b3286_Alists1 := RdO.evo rfl hE3286 b3283_Alists1
      have b3286_A3249 := re_ hE3286 b3283_A3249
      have b3286_g1684 := be_ hE3286 b3283_g1684
      have b3286_A3253 := re_ hE3286 b3283_A3253
      have b3286_A3254 := re_ hE3286 b3283_A3254
      have b3286_A3255 := re_ hE3286 b3283_A3255
      have b3286_A3277 := re_ hE3286 b3283_A3277
      have b3286_A3282 := re_ hE3286 b3283_A3282
      refine fl_cond e3286_46 hs (fun c3287 hs => ?_) (fun c3287 hs => ?_)
      · refine rg0_seq 86 own3286 (bz 1) [⟨[], [], [], Fct.val 2 (.bool false)⟩] hz3286 hd3286 (by kernel_rfl) ?_ ?_
        · refine sc (fun _ _ _ _ _ _ => px (or_assign rfl)) ?_
          exact steps_nil
        intro own3288 a3288 w3288 hd3288 hz3288 hk3288 hf3288 hE3288
        obtain ⟨(e3288_2 : a3288.eval (.tmp 2) = .bool false), -⟩ := hf3288 [0] rfl
        have hX3288 := es_ hX3286 hE3288
        refine fl_ret ?_
        refine hp3284 _ _ _ rfl ?_
        refine hp3095 _ _ _ rfl ?_
        refine hp2816 _ _ _ rfl ?_
        replace hs := hz2810 _ hs
        refine hp2810 _ _ _ rfl ?_
        refine hp1691 _ _ _ rfl ?_
        refine hp1689 _ _ _ rfl ?_
        obtain rfl := osome hs
        exact hret _ _ _ _ (.inl rfl) hd3288 (results1_ rfl (RVal.tmp_ e3288_2)) ⟨own3288, rfl, hX3288⟩
      refine fl_skip ?_
      refine hn3284 _ _ ?_
      refine fl_seq (fun Q3289 hn3289 hp3289 => ?_)
      refine rg0_seq 86 own3286 (bz 1) [⟨[], [], [], Fct.val 10 (.int .i64 0)⟩] hz3286 hd3286 (by kernel_rfl) ?_ ?_
      · refine sc (fun _ _ _ _ _ _ => px (or_assign rfl)) ?_
        exact steps_nil
      intro own3290 a3290 w3290 hd3290 hz3290 hk3290 hf3290 hE3290
      have e3290_0 := (hk3290 0 rfl).trans e3286_0
      have e3290_3 := (hk3290 3 rfl).trans e3286_3
      have e3290_4 := (hk3290 4 rfl).trans e3286_4
      have e3290_5 := (hk3290 5 rfl).trans e3286_5
      have e3290_6 := (hk3290 6 rfl).trans e3286_6
      have e3290_7 := (hk3290 7 rfl).trans e3286_7
      have e3290_8 := (hk3290 8 rfl).trans e3286_8
      obtain ⟨(e3290_10 : a3290.eval (.tmp 10) = .int .i64 0), -⟩ := hf3290 [0] rfl
      have hX3290 := es_ hX3286 hE3290
      have b3290_Alists1 := RdO.evo rfl hE3290 b3286_Alists1
      have b3290_A3249 := re_ hE3290 b3286_A3249
      have b3290_g1684 := be_ hE3290 b3286_g1684
      have b3290_A3253 := re_ hE3290 b3286_A3253
      have b3290_A3254 := re_ hE3290 b3286_A3254
      have b3290_A3255 := re_ hE3290 b3286_A3255
      have b3290_A3277 := re_ hE3290 b3286_A3277
      have b3290_A3282 := re_ hE3290 b3286_A3282
      refine fl_block (fun Q3291 hn3291 hx3291 hp3291 => ?_)
      refine fl_loop (body := (fun s => law11_TableGrows_b3 i2246 r3248 r3252 x3275 x3280 s)) (z := zz2810) (show loopO _ _ = _ from hs) (fun (k3318 : Int) a wx => ∃ (ox : Own), a.defers = [] ∧ a.tmps.size = 86 ∧ a.eval (.tmp 0) = .slice Alists1 lists1.length clists1 ∧ a.eval (.tmp 3) = .pointer (some ⟨g1684, 0, none⟩) ∧ a.eval (.tmp 4) = .slice A3277 x3275.length cA3277 ∧ a.eval (.tmp 5) = .slice A3282 x3280.length cA3282 ∧ a.eval (.tmp 6) = .int .i64 i2246 ∧ a.eval (.tmp 7) = .slice A3249 r3248.length cA3249 ∧ a.eval (.tmp 8) = .slice A3253 r3252.1.length cA3253 ∧ a.eval (.tmp 10) = .int .i64 k3318 ∧ Evo [] (fun _ => 0) ox w wx ∧ RdO ox [0] wx R22 Alists1 clists1 lists1 ∧ BlkO ox 3259 wx g1684 43 #[.slice A3254 r3252.2.2.1.length cA3254, .slice A3255 r3252.2.2.2.length cA3255] ∧ RwO ox 3257 [] wx 9 R9 A3254 cA3254 r3252.2.2.1 ∧ RwO ox 3258 [] wx 60 R60 A3255 cA3255 r3252.2.2.2 ∧ RwO ox 3276 [3314] wx 23 R23 A3277 cA3277 x3275 ∧ RwO ox 3281 [3315] wx 22 R22 A3282 cA3282 x3280 ∧ RwO ox 3315 [] wx 64 R64 A3249 cA3249 r3248 ∧ RwO ox 3314 [] wx 3 R3 A3253 cA3253 r3252.1) ?_ ?_
      · exact ⟨(rl [(2240, 3314), (2245, 3315), (3250, 3315), (3256, 3314), (3274, 3314), (3279, 3315)] own3290), hd3290, hz3290, e3290_0, e3290_3, e3290_4, e3290_5, e3290_6, e3290_7, e3290_8, e3290_10, (Evo.rl_ hX3290 (fun _ => Nat.le_refl 0) rfl), (RdO.rl_ (mm := [(2240, 3314), (2245, 3315), (3250, 3315), (3256, 3314), (3274, 3314), (3279, 3315)]) b3290_Alists1), (BlkO.rl_ (mm := [(2240, 3314), (2245, 3315), (3250, 3315), (3256, 3314), (3274, 3314), (3279, 3315)]) b3290_g1684), (RwO.rl_ (mm := [(2240, 3314), (2245, 3315), (3250, 3315), (3256, 3314), (3274, 3314), (3279, 3315)]) b3290_A3254), (RwO.rl_ (mm := [(2240, 3314), (2245, 3315), (3250, 3315), (3256, 3314), (3274, 3314), (3279, 3315)]) b3290_A3255), (RwO.more (RwO.rl_ (mm := [(2240, 3314), (2245, 3315), (3250, 3315), (3256, 3314), (3274, 3314), (3279, 3315)]) b3290_A3277) (by decide)), (RwO.more (RwO.rl_ (mm := [(2240, 3314), (2245, 3315), (3250, 3315), (3256, 3314), (3274, 3314), (3279, 3315)]) b3290_A3282) (by decide)), (RwO.rl_ (mm := [(2240, 3314), (2245, 3315), (3250, 3315), (3256, 3314), (3274, 3314), (3279, 3315)]) b3290_A3249), (RwO.rl_ (mm := [(2240, 3314), (2245, 3315), (3250, 3315), (3256, 3314), (3274, 3314), (3279, 3315)]) b3290_A3253)⟩
      · rintro k3318 zz3339 a3339 w3339 ⟨own3339, hd3340, hz3340, e3340_0, e3340_3, e3340_4, e3340_5, e3340_6, e3340_7, e3340_8, e3340_10, hE3340, b3340_Alists1, b3340_g1684, b3340_A3254, b3340_A3255, b3340_A3277, b3340_A3282, b3340_A3249, b3340_A3253⟩ hs Q3339 hn3339 hp3339 hz3339
        have hs : law11_TableGrows_b3 i2246 r3248 r3252 x3275 x3280 k3318 = some zz3339 := hs
        refine fl_seq (fun Q3341 hn3341 hp3341 => ?_)
        refine rg0_seq 86 own3339 [0, 0, 2, 7] [⟨[], [10], [], Fct.val 47 (.int .i64 k3318)⟩, ⟨[], [4], [], Fct.val 48 (.slice A3277 x3275.length cA3277)⟩, ⟨[1], [], [], Fct.val 49 (.int .i64 (x3275.length : Int))⟩, ⟨[0, 2], [], [], Fct.val 50 (.bool (decide (k3318 < (x3275.length : Int))))⟩] hz3340 hd3340 (by kernel_rfl) ?_ ?_
        · refine sc (fun _ _ _ _ s _ => px (or_move (s.1.trans e3340_10))) ?_
          refine sc (fun _ _ _ _ s _ => px (or_move (s.1.trans e3340_4))) ?_
          refine sc (fun _ _ _ f _ _ => px (or_len tu57 f.1 rfl)) ?_
          refine sc (fun _ _ _ f _ _ => px (or_lss f.1 f.2.1 rfl)) ?_
          exact steps_nil
        intro own3342 a3342 w3342 hd3342 hz3342 hk3342 hf3342 hE3342
        have e3342_0 := (hk3342 0 rfl).trans e3340_0
        have e3342_3 := (hk3342 3 rfl).trans e3340_3
        have e3342_4 := (hk3342 4 rfl).trans e3340_4
        have e3342_5 := (hk3342 5 rfl).trans e3340_5
        have e3342_6 := (hk3342 6 rfl).trans e3340_6
        have e3342_7 := (hk3342 7 rfl).trans e3340_7
        have e3342_8 := (hk3342 8 rfl).trans e3340_8
        have e3342_10 := (hk3342 10 rfl).trans e3340_10
        obtain ⟨(e3342_50 : a3342.eval (.tmp 50) = .bool (decide (k3318 < (x3275.length : Int)))), -⟩ := hf3342 [3] rfl
        have hX3342 := es_ hE3340 hE3342
        have b3342_Alists1 := RdO.evo rfl hE3342 b3340_Alists1
        have b3342_g1684 := be_ hE3342 b3340_g1684
        have b3342_A3254 := re_ hE3342 b3340_A3254
        have b3342_A3255 := re_ hE3342 b3340_A3255
        have b3342_A3277 := re_ hE3342 b3340_A3277
        have b3342_A3282 := re_ hE3342 b3340_A3282
        have b3342_A3249 := re_ hE3342 b3340_A3249
        have b3342_A3253 := re_ hE3342 b3340_A3253
        refine fl_cond e3342_50 hs (fun c3343 hs => ?_) (fun c3343 hs => ?_)
        · refine fl_skip ?_
          refine hn3341 _ _ ?_
          refine fl_seq (fun Q3344 hn3344 hp3344 => ?_)
          refine fl_block (fun Q3345 hn3345 hx3345 hp3345 => ?_)
          obtain ⟨x3346, hx3346, hs⟩ := obind hs
          obtain ⟨r3348, hr3348, hs⟩ := obind hs
          refine rg0_seq 86 own3342 [0, 0, 3, 7, 15, 31, 63, 63, 127, 511] [⟨[], [4], [], Fct.val 54 (.slice A3277 x3275.length cA3277)⟩, ⟨[], [10], [], Fct.val 55 (.int .i64 k3318)⟩, ⟨[0, 1], [], [], Fct.val 56 (.pointer (some ((adr A3277).add ((k3318 : Int).toNat * R23.s))))⟩, ⟨[2], [], [], Fct.nest X23 [3276, 3314] 57 (fun (y : (Option Addr × Nat)) => .slice y.1 x3346.length y.2) x3346⟩, ⟨[3], [3], [], Fct.mems [3350] 58 (fun (x : Option Addr × Nat) => .tuple #[.slice x.1 r3348.1.length x.2, .int .i64 r3348.2]) (fun (x : Option Addr × Nat) own w => RwO own 3350 [] w 64 R64 x.1 x.2 r3348.1) (fun hk he h => RwO.evo (hits_sub hk (by decide)) he h)⟩, ⟨[4], [], [], Fct.rel [53, 58] (fun l => ∀ (A3349 : Option Addr) (cA3349 : Nat), l.getD 1 undef = .tuple #[.slice A3349 r3348.1.length cA3349, .int .i64 r3348.2] → l.getD 0 undef = .tuple #[.slice A3349 r3348.1.length cA3349, .int .i64 r3348.2])⟩, ⟨[5, 4], [], [], Fct.rel [59, 58] (fun l => ∀ (A3349 : Option Addr) (cA3349 : Nat), l.getD 1 undef = .tuple #[.slice A3349 r3348.1.length cA3349, .int .i64 r3348.2] → l.getD 0 undef = .slice A3349 r3348.1.length cA3349)⟩, ⟨[5, 4], [], [], Fct.val 60 (.int .i64 r3348.2)⟩, ⟨[6, 4], [], [], Fct.rel [11, 58] (fun l => ∀ (A3349 : Option Addr) (cA3349 : Nat), l.getD 1 undef = .tuple #[.slice A3349 r3348.1.length cA3349, .int .i64 r3348.2] → l.getD 0 undef = .slice A3349 r3348.1.length cA3349)⟩, ⟨[7], [], [], Fct.val 12 (.int .i64 r3348.2)⟩] hz3342 hd3342 (by kernel_rfl) ?_ ?_
          · refine sc (fun _ _ _ _ s _ => px (or_move (s.1.trans e3342_4))) ?_
            refine sc (fun _ _ _ _ s _ => px (or_move (s.1.trans e3342_10))) ?_
            refine sc (fun _ _ _ f _ _ => px (or_index (R := R23) (l := x3275) tl57 f.1 f.2.1 (RdO.some_ (RwO.rd b3342_A3277) hx3346) hx3346)) ?_
            refine sc (fun _ _ _ f _ hE => px (or_loadN1 X23 0 to23 f.1 (Addr.add_zero' _).symm (RwO.rd (re_ hE b3342_A3277)) hx3346 (fun _ => rfl))) ?_
            refine sc (fun own a wx hf hsl hE => ?_) ?_
            · obtain ⟨⟨⟨A3347, cA3347⟩, f_57, b_A3347⟩, -⟩ := hf
              obtain ⟨s_3, -⟩ := hsl
              exact px (or_call cf9 (args2 (s_3.trans e3342_3) f_57) (table_Table_Attrs_w _ r3252.2.2 g1684 43 A3254 cA3254 A3255 cA3255 x3346 A3347 cA3347 (BlkO.zero_ (be_ hE b3342_g1684)) (RdO.zero (RwO.rd (re_ hE b3342_A3254))) (RdO.zero (RwO.rd (re_ hE b3342_A3255))) (RdO.zero b_A3347) r3348 hr3348) (post_mems (m := (fun _ => 0)) (m' := (look0 [(1, 3350)])) (fun _ _ => .inl rfl) (fun own' w' a' x h1 h => ⟨x, h1, RwO.back_ h (by decide) (.inl (Rep.fl_flat _))⟩)))
            refine sc (fun own a wx hf hsl hE => ?_) ?_
            · obtain ⟨⟨⟨A3349, cA3349⟩, (f_58 : a.eval (.tmp 58) = .tuple #[.slice A3349 r3348.1.length cA3349, .int .i64 r3348.2]), b_A3349⟩, -⟩ := hf
              exact px (or_mono (f := Fct.val 53 (.tuple #[.slice A3349 r3348.1.length cA3349, .int .i64 r3348.2])) (or_move f_58) (fun own' a' w' v' hp h => fun _ _ h0' => by cases (f_58.symm.trans ((hp.2 58 (by decide)).symm.trans h0')); exact h))
            refine sc (fun own a wx hf hsl hE => ?_) ?_
            · obtain ⟨(q_53 : ∀ (A3349 : Option Addr) (cA3349 : Nat), a.eval (.tmp 58) = .tuple #[.slice A3349 r3348.1.length cA3349, .int .i64 r3348.2] → a.eval (.tmp 53) = .tuple #[.slice A3349 r3348.1.length cA3349, .int .i64 r3348.2]), ⟨⟨A3349, cA3349⟩, (f_58 : a.eval (.tmp 58) = .tuple #[.slice A3349 r3348.1.length cA3349, .int .i64 r3348.2]), b_A3349⟩, -⟩ := hf
              have f_53 := q_53 _ _ f_58
              exact px (or_mono (f := Fct.val 59 (.slice A3349 r3348.1.length cA3349)) (or_k [(53, .tuple #[.slice A3349 r3348.1.length cA3349, .int .i64 r3348.2])] rfl rfl ⟨f_53, trivial⟩ (by kernel_rfl)) (fun own' a' w' v' hp h => fun _ _ h0' => by cases (f_58.symm.trans ((hp.2 58 (by decide)).symm.trans h0')); exact h))
            refine sc (fun own a wx hf hsl hE => ?_) ?_
            · obtain ⟨(q_53 : ∀ (A3349 : Option Addr) (cA3349 : Nat), a.eval (.tmp 58) = .tuple #[.slice A3349 r3348.1.length cA3349, .int .i64 r3348.2] → a.eval (.tmp 53) = .tuple #[.slice A3349 r3348.1.length cA3349, .int .i64 r3348.2]), ⟨⟨A3349, cA3349⟩, f_58, b_A3349⟩, -⟩ := hf
              have f_53 := q_53 _ _ f_58
              exact px (or_k [(53, .tuple #[.slice A3349 r3348.1.length cA3349, .int .i64 r3348.2])] rfl rfl ⟨f_53, trivial⟩ (by kernel_rfl))
            refine sc (fun own a wx hf hsl hE => ?_) ?_
            · obtain ⟨(q_59 : ∀ (A3349 : Option Addr) (cA3349 : Nat), a.eval (.tmp 58) = .tuple #[.slice A3349 r3348.1.length cA3349, .int .i64 r3348.2] → a.eval (.tmp 59) = .slice A3349 r3348.1.length cA3349), ⟨⟨A3349, cA3349⟩, (f_58 : a.eval (.tmp 58) = .tuple #[.slice A3349 r3348.1.length cA3349, .int .i64 r3348.2]), b_A3349⟩, -⟩ := hf
              have f_59 := q_59 _ _ f_58
              exact px (or_mono (f := Fct.val 11 (.slice A3349 r3348.1.length cA3349)) (or_assign f_59) (fun own' a' w' v' hp h => fun _ _ h0' => by cases (f_58.symm.trans ((hp.2 58 (by decide)).symm.trans h0')); exact h))
            refine sc (fun _ _ _ f _ _ => px (or_assign f.1)) ?_
            exact steps_nil
          intro own3351 a3351 w3351 hd3351 hz3351 hk3351 hf3351 hE3351
          have e3351_0 := (hk3351 0 rfl).trans e3342_0
          have e3351_3 := (hk3351 3 rfl).trans e3342_3
          have e3351_4 := (hk3351 4 rfl).trans e3342_4
          have e3351_5 := (hk3351 5 rfl).trans e3342_5
          have e3351_6 := (hk3351 6 rfl).trans e3342_6
          have e3351_7 := (hk3351 7 rfl).trans e3342_7
          have e3351_8 := (hk3351 8 rfl).trans e3342_8
          have e3351_10 := (hk3351 10 rfl).trans e3342_10
          obtain ⟨⟨⟨A3349, cA3349⟩, (f_58 : a3351.eval (.tmp 58) = .tuple #[.slice A3349 r3348.1.length cA3349, .int .i64 r3348.2]), (b3351_A3349 : RwO own3351 3350 [] w3351 64 R64 A3349 cA3349 r3348.1)⟩, (q_11 : ∀ (A3349 : Option Addr) (cA3349 : Nat), a3351.eval (.tmp 58) = .tuple #[.slice A3349 r3348.1.length cA3349, .int .i64 r3348.2] → a3351.eval (.tmp 11) = .slice A3349 r3348.1.length cA3349), (e3351_12 : a3351.eval (.tmp 12) = .int .i64 r3348.2), -⟩ := hf3351 [4, 8, 9] rfl
          have e3351_11 := q_11 _ _ f_58
          have hX3351 := es_ hX3342 hE3351
          have b3351_Alists1 := RdO.evo rfl hE3351 b3342_Alists1
          have b3351_g1684 := be_ hE3351 b3342_g1684
          have b3351_A3254 := re_ hE3351 b3342_A3254
          have b3351_A3255 := re_ hE3351 b3342_A3255
          have b3351_A3277 := re_ hE3351 b3342_A3277
          have b3351_A3282 := re_ hE3351 b3342_A3282
          have b3351_A3249 := re_ hE3351 b3342_A3249
          have b3351_A3253 := re_ hE3351 b3342_A3253
          obtain ⟨x3352, hx3352, hs⟩ := obind hs
          obtain ⟨r3354, hr3354, hs⟩ := obind hs
          obtain ⟨x3355, hx3355, hs⟩ := obind hs
          refine rg0_seq 86 own3351 [0, 1, 3, 7, 7, 7, 55, 119, 255, 511, 1023] [⟨[], [12], [], Fct.val 61 (.int .i64 r3348.2)⟩, ⟨[0], [], [], Fct.val 62 (.bool (!decide (r3348.2 = 0)))⟩, ⟨[1], [], [], Fct.val 63 (.bool (!decide (r3348.2 = 0)))⟩, ⟨[2], [11], [], Fct.cond (!(!decide (r3348.2 = 0))) (some 64) (Fct.val 64 (.slice A3349 r3348.1.length cA3349))⟩, ⟨[2], [5], [], Fct.cond (!(!decide (r3348.2 = 0))) (some 65) (Fct.val 65 (.slice A3282 x3280.length cA3282))⟩, ⟨[2], [10], [], Fct.cond (!(!decide (r3348.2 = 0))) (some 66) (Fct.val 66 (.int .i64 k3318))⟩, ⟨[2, 4, 5], [], [], Fct.cond (!(!decide (r3348.2 = 0))) (some 67) (Fct.val 67 (.pointer (some ((adr A3282).add ((k3318 : Int).toNat * R22.s)))))⟩, ⟨[2, 6], [], [], Fct.cond (!(!decide (r3348.2 = 0))) (some 68) (Fct.nest X22 [3281, 3315] 68 (fun (y : (Option Addr × Nat)) => .slice y.1 x3352.length y.2) x3352)⟩, ⟨[2, 3, 7], [], [], Fct.cond (!(!decide (r3348.2 = 0))) (some 69) (Fct.val 69 (.bool r3354))⟩, ⟨[2, 8], [], [], Fct.cond (!(!decide (r3348.2 = 0))) (some 70) (Fct.val 70 (.bool (!r3354)))⟩, ⟨[2, 9], [], [], Fct.val 71 (.bool x3355)⟩] hz3351 hd3351 (by kernel_rfl) ?_ ?_
          · refine sc (fun _ _ _ _ s _ => px (or_move (s.1.trans e3351_12))) ?_
            refine sc (fun _ _ _ f _ _ => px (or_neq f.1 rfl rfl)) ?_
            refine sc (fun _ _ _ f _ _ => px (or_move f.1)) ?_
            refine sc (fun _ _ _ f s _ => sg_f rfl rfl rfl f.1 (fun hg => or_move (s.1.trans e3351_11))) ?_
            refine sc (fun _ _ _ f s _ => sg_f rfl rfl rfl f.1 (fun hg => or_move (s.1.trans e3351_5))) ?_
            refine sc (fun _ _ _ f s _ => sg_f rfl rfl rfl f.1 (fun hg => or_move (s.1.trans e3351_10))) ?_
            refine sc (fun _ _ _ f _ _ => sg_f rfl rfl rfl f.1 (fun hg => or_index (R := R22) (l := x3280) tl44 (f.2.1.1 hg) (f.2.2.1.1 hg) (RdO.some_ (RwO.rd b3351_A3282) (gd_t hx3352 hg)) (gd_t hx3352 hg))) ?_
            refine sc (fun _ _ _ f _ hE => sg_f rfl rfl rfl f.1 (fun hg => or_loadN1 X22 0 to22 (f.2.1.1 hg) (Addr.add_zero' _).symm (RwO.rd (re_ hE b3351_A3282)) (gd_t hx3352 hg) (fun _ => rfl))) ?_
            refine sc (fun own a wx hf hsl hE => ?_) ?_
            · obtain ⟨f_63, c_64, c_68, -⟩ := hf
              refine sg_f rfl rfl rfl f_63 (fun hg => ?_)
              have f_64 := c_64.1 hg
              obtain ⟨⟨A3353, cA3353⟩, f_68, b_A3353⟩ := c_68.1 hg
              exact or_call cf21 (args2 f_64 f_68) (table_Same_w _ r3348.1 A3349 cA3349 x3352 A3353 cA3353 (RdO.zero (RwO.rd (re_ hE b3351_A3349))) (RdO.zero b_A3353) r3354 (gd_t hr3354 hg)) post_val
            refine sc (fun _ _ _ f _ _ => sg_f rfl rfl rfl f.1 (fun hg => or_not (f.2.1.1 hg) rfl)) ?_
            refine sc (fun _ _ _ f _ _ => px (or_or f.1 rfl (fun hx => f.2.1.1 hx) (osome hx3355).symm)) ?_
            exact steps_nil
          intro own3356 a3356 w3356 hd3356 hz3356 hk3356 hf3356 hE3356
          have e3356_0 := (hk3356 0 rfl).trans e3351_0
          have e3356_3 := (hk3356 3 rfl).trans e3351_3
          have e3356_4 := (hk3356 4 rfl).trans e3351_4
          have e3356_5 := (hk3356 5 rfl).trans e3351_5
          have e3356_6 := (hk3356 6 rfl).trans e3351_6
          have e3356_7 := (hk3356 7 rfl).trans e3351_7
          have e3356_8 := (hk3356 8 rfl).trans e3351_8
          have e3356_10 := (hk3356 10 rfl).trans e3351_10
          obtain ⟨(e3356_71 : a3356.eval (.tmp 71) = .bool x3355), -⟩ := hf3356 [10] rfl
          have hX3356 := es_ hX3351 hE3356
          have b3356_Alists1 := RdO.evo rfl hE3356 b3351_Alists1
          have b3356_g1684 := be_ hE3356 b3351_g1684
          have b3356_A3254 := re_ hE3356 b3351_A3254
          have b3356_A3255 := re_ hE3356 b3351_A3255
          have b3356_A3277 := re_ hE3356 b3351_A3277
          have b3356_A3282 := re_ hE3356 b3351_A3282
          have b3356_A3249 := re_ hE3356 b3351_A3249
          have b3356_A3253 := re_ hE3356 b3351_A3253
          refine fl_cond e3356_71 hs (fun c3357 hs => ?_) (fun c3357 hs => ?_)
          · refine rg0_seq 86 own3356 (bz 1) [⟨[], [], [], Fct.val 2 (.bool false)⟩] hz3356 hd3356 (by kernel_rfl) ?_ ?_
            · refine sc (fun _ _ _ _ _ _ => px (or_assign rfl)) ?_
              exact steps_nil
            intro own3358 a3358 w3358 hd3358 hz3358 hk3358 hf3358 hE3358
            obtain ⟨(e3358_2 : a3358.eval (.tmp 2) = .bool false), -⟩ := hf3358 [0] rfl
            have hX3358 := es_ hX3356 hE3358
            refine fl_ret ?_
            refine hp3345 _ _ _ rfl ?_
            refine hp3344 _ _ _ rfl ?_
            replace hs := hz3339 _ hs
            refine hp3339 _ _ _ rfl ?_
            refine hp3291 _ _ _ rfl ?_
            refine hp3289 _ _ _ rfl ?_
            refine hp3095 _ _ _ rfl ?_
            refine hp2816 _ _ _ rfl ?_
            replace hs := hz2810 _ hs
            refine hp2810 _ _ _ rfl ?_
            refine hp1691 _ _ _ rfl ?_
            refine hp1689 _ _ _ rfl ?_
            obtain rfl := osome hs
            exact hret _ _ _ _ (.inl rfl) hd3358 (results1_ rfl (RVal.tmp_ e3358_2)) ⟨own3358, rfl, hX3358⟩
          refine fl_skip ?_
          refine hn3345 _ _ ?_
          refine hn3344 _ _ ?_
          refine rg0 86 own3356 (bz 3) [⟨[], [10], [], Fct.val 51 (.int .i64 k3318)⟩, ⟨[0], [], [], Fct.val 52 (.int .i64 (ad k3318 1))⟩, ⟨[1], [], [], Fct.val 10 (.int .i64 (ad k3318 1))⟩] hz3356 hd3356 (by kernel_rfl) ?_ ?_
          · refine sc (fun _ _ _ _ s _ => px (or_move (s.1.trans e3356_10))) ?_
            refine sc (fun _ _ _ f _ _ => px (or_add f.1 rfl rfl)) ?_
            refine sc (fun _ _ _ f _ _ => px (or_assign f.1)) ?_
            exact steps_nil
          intro own3359 a3359 w3359 hd3359 hz3359 hk3359 hf3359 hE3359
          have e3359_0 := (hk3359 0 rfl).trans e3356_0
          have e3359_3 := (hk3359 3 rfl).trans e3356_3
          have e3359_4 := (hk3359 4 rfl).trans e3356_4
          have e3359_5 := (hk3359 5 rfl).trans e3356_5
          have e3359_6 := (hk3359 6 rfl).trans e3356_6
          have e3359_7 := (hk3359 7 rfl).trans e3356_7
          have e3359_8 := (hk3359 8 rfl).trans e3356_8
          obtain ⟨(e3359_10 : a3359.eval (.tmp 10) = .int .i64 (ad k3318 1)), -⟩ := hf3359 [2] rfl
          have hX3359 := es_ hX3356 hE3359
          have b3359_Alists1 := RdO.evo rfl hE3359 b3356_Alists1
          have b3359_g1684 := be_ hE3359 b3356_g1684
          have b3359_A3254 := re_ hE3359 b3356_A3254
          have b3359_A3255 := re_ hE3359 b3356_A3255
          have b3359_A3277 := re_ hE3359 b3356_A3277
          have b3359_A3282 := re_ hE3359 b3356_A3282
          have b3359_A3249 := re_ hE3359 b3356_A3249
          have b3359_A3253 := re_ hE3359 b3356_A3253
          exact hn3339 _ _ _ hs ⟨own3359, hd3359, hz3359, e3359_0, e3359_3, e3359_4, e3359_5, e3359_6, e3359_7, e3359_8, e3359_10, hX3359, b3359_Alists1, b3359_g1684, b3359_A3254, b3359_A3255, b3359_A3277, b3359_A3282, b3359_A3249, b3359_A3253⟩
        refine fl_exit ?_
        refine hp3341 _ _ _ rfl ?_
        replace hs := hz3339 _ hs
        refine hp3339 _ _ _ rfl ?_
        refine hx3291 _ _ ?_
        refine hn3289 _ _ ?_
        obtain ⟨r3360, hr3360, hs⟩ := obind hs
        refine rg_plain_seq (n := 86) (rs := [Fct.at_ 3259 g1684 43 #[.slice A3254 r3252.2.2.1.length cA3254, .slice A3255 r3252.2.2.2.length cA3255], Fct.rowAt 3257 [] 9 R9 A3254 cA3254 r3252.2.2.1, Fct.rowAt 3258 [] 60 R60 A3255 cA3255 r3252.2.2.2]) (own0 := own3342) (K := [3259, 3257, 3258]) (bs := [0, 1, 3, 7, 7, 15, 63]) (ds := [⟨[], [7], [], Fct.val 73 (.slice A3249 r3248.length cA3249)⟩, ⟨[0, 7, 8, 9], [3], [3259, 3257, 3258], Fct.mems [3364, 3365, 3366, 3367] 74 (fun (x : (Option Addr × Nat) × (Option Addr × Nat) × (Option Addr × Nat)) => .tuple #[.slice x.1.1 r3360.1.length x.1.2, .int .i64 r3360.2.1]) (fun (x : (Option Addr × Nat) × (Option Addr × Nat) × (Option Addr × Nat)) own w => RwO own 3364 [] w 3 R3 x.1.1 x.1.2 r3360.1 ∧ RwO own 3365 [] w 9 R9 x.2.1.1 x.2.1.2 r3360.2.2.1 ∧ RwO own 3366 [] w 60 R60 x.2.2.1 x.2.2.2 r3360.2.2.2 ∧ BlkO own 3367 w g1684 43 #[.slice x.2.1.1 r3360.2.2.1.length x.2.1.2, .slice x.2.2.1 r3360.2.2.2.length x.2.2.2]) (fun hk he h => ⟨RwO.evo (hits_sub hk (by decide)) he h.1, RwO.evo (hits_sub hk (by decide)) he h.2.1, RwO.evo (hits_sub hk (by decide)) he h.2.2.1, BlkO.evo (not_hit hk (by decide)) he h.2.2.2⟩)⟩, ⟨[1], [], [], Fct.rel [72, 74] (fun l => ∀ (A3361 : Option Addr) (cA3361 : Nat), l.getD 1 undef = .tuple #[.slice A3361 r3360.1.length cA3361, .int .i64 r3360.2.1] → l.getD 0 undef = .tuple #[.slice A3361 r3360.1.length cA3361, .int .i64 r3360.2.1])⟩, ⟨[2, 1], [], [], Fct.rel [75, 74] (fun l => ∀ (A3361 : Option Addr) (cA3361 : Nat), l.getD 1 undef = .tuple #[.slice A3361 r3360.1.length cA3361, .int .i64 r3360.2.1] → l.getD 0 undef = .slice A3361 r3360.1.length cA3361)⟩, ⟨[2, 1], [], [], Fct.val 76 (.int .i64 r3360.2.1)⟩, ⟨[3, 1], [], [], Fct.rel [13, 74] (fun l => ∀ (A3361 : Option Addr) (cA3361 : Nat), l.getD 1 undef = .tuple #[.slice A3361 r3360.1.length cA3361, .int .i64 r3360.2.1] → l.getD 0 undef = .slice A3361 r3360.1.length cA3361)⟩, ⟨[4], [], [], Fct.val 14 (.int .i64 r3360.2.1)⟩]) (by kernel_rfl) hz3342 hd3342 (by simp only [List.forall_mem_cons]; exact ⟨b3342_g1684, b3342_A3254, b3342_A3255, fun _ h => nomatch h⟩) ?_ ?_
        · refine sc (fun _ _ _ _ s _ => px (or_move (s.1.trans e3342_7))) ?_
          refine sc (fun own a wx hf hsl hE => ?_) ?_
          · obtain ⟨f_73, b_g1684, b_A3254, b_A3255, -⟩ := hf
            obtain ⟨s_3, -⟩ := hsl
            exact px (or_call cf8 (args2 (s_3.trans e3342_3) f_73) (table_Table_Add_w _ (forth own (look0 [(3257, 2), (3258, 3), (3259, 1)])) r3252.2.2 g1684 43 A3254 cA3254 A3255 cA3255 r3248 A3249 cA3249 (look0_le rfl) (BlkO.forth_ (m := (look0 [(3257, 2), (3258, 3), (3259, 1)])) b_g1684) (RwO.forth_ (m := (look0 [(3257, 2), (3258, 3), (3259, 1)])) b_A3254) (RwO.forth_ (m := (look0 [(3257, 2), (3258, 3), (3259, 1)])) b_A3255) (RdO.forth_ (m := (look0 [(3257, 2), (3258, 3), (3259, 1)])) (RwO.rd (re_ hE b3342_A3249))) r3360 hr3360) (post_mems (m := (look0 [(3257, 2), (3258, 3), (3259, 1)])) (m' := (look0 [(1, 3367), (2, 3365), (3, 3366), (4, 3364)])) (hm_of rfl) (fun own' w' a' x h1 h => ⟨x, h1, ⟨RwO.back_ h.1 (by decide) (.inl (Rep.fl_flat _)), RwO.back_ h.2.1 (by decide) (.inl (Rep.fl_flat _)), RwO.back_ h.2.2.1 (by decide) (.inl (Rep.fl_flat _)), BlkO.back_ h.2.2.2 (by decide)⟩⟩)))
          refine sc (fun own a wx hf hsl hE => ?_) ?_
          · obtain ⟨⟨⟨⟨A3361, cA3361⟩, ⟨A3362, cA3362⟩, ⟨A3363, cA3363⟩⟩, (f_74 : a.eval (.tmp 74) = .tuple #[.slice A3361 r3360.1.length cA3361, .int .i64 r3360.2.1]), b_A3361, b_A3362, b_A3363, b_g1684⟩, -⟩ := hf
            exact px (or_mono (f := Fct.val 72 (.tuple #[.slice A3361 r3360.1.length cA3361, .int .i64 r3360.2.1])) (or_move f_74) (fun own' a' w' v' hp h => fun _ _ h0' => by cases (f_74.symm.trans ((hp.2 74 (by decide)).symm.trans h0')); exact h))
          refine sc (fun own a wx hf hsl hE => ?_) ?_
          · obtain ⟨(q_72 : ∀ (A3361 : Option Addr) (cA3361 : Nat), a.eval (.tmp 74) = .tuple #[.slice A3361 r3360.1.length cA3361, .int .i64 r3360.2.1] → a.eval (.tmp 72) = .tuple #[.slice A3361 r3360.1.length cA3361, .int .i64 r3360.2.1]), ⟨⟨⟨A3361, cA3361⟩, ⟨A3362, cA3362⟩, ⟨A3363, cA3363⟩⟩, (f_74 : a.eval (.tmp 74) = .tuple #[.slice A3361 r3360.1.length cA3361, .int .i64 r3360.2.1]), b_A3361, b_A3362, b_A3363, b_g1684⟩, -⟩ := hf
            have f_72 := q_72 _ _ f_74
            exact px (or_mono (f := Fct.val 75 (.slice A3361 r3360.1.length cA3361)) (or_k [(72, .tuple #[.slice A3361 r3360.1.length cA3361, .int .i64 r3360.2.1])] rfl rfl ⟨f_72, trivial⟩ (by kernel_rfl)) (fun own' a' w' v' hp h => fun _ _ h0' => by cases (f_74.symm.trans ((hp.2 74 (by decide)).symm.trans h0')); exact h))
          refine sc (fun own a wx hf hsl hE => ?_) ?_
          · obtain ⟨(q_72 : ∀ (A3361 : Option Addr) (cA3361 : Nat), a.eval (.tmp 74) = .tuple #[.slice A3361 r3360.1.length cA3361, .int .i64 r3360.2.1] → a.eval (.tmp 72) = .tuple #[.slice A3361 r3360.1.length cA3361, .int .i64 r3360.2.1]), ⟨⟨⟨A3361, cA3361⟩, ⟨A3362, cA3362⟩, ⟨A3363, cA3363⟩⟩, f_74, b_A3361, b_A3362, b_A3363, b_g1684⟩, -⟩ := hf
            have f_72 := q_72 _ _ f_74
            exact px (or_k [(72, .tuple #[.slice A3361 r3360.1.length cA3361, .int .i64 r3360.2.1])] rfl rfl ⟨f_72, trivial⟩ (by kernel_rfl))
          refine sc (fun own a wx hf hsl hE => ?_) ?_
          · obtain ⟨(q_75 : ∀ (A3361 : Option Addr) (cA3361 : Nat), a.eval (.tmp 74) = .tuple #[.slice A3361 r3360.1.length cA3361, .int .i64 r3360.2.1] → a.eval (.tmp 75) = .slice A3361 r3360.1.length cA3361), ⟨⟨⟨A3361, cA3361⟩, ⟨A3362, cA3362⟩, ⟨A3363, cA3363⟩⟩, (f_74 : a.eval (.tmp 74) = .tuple #[.slice A3361 r3360.1.length cA3361, .int .i64 r3360.2.1]), b_A3361, b_A3362, b_A3363, b_g1684⟩, -⟩ := hf
            have f_75 := q_75 _ _ f_74
            exact px (or_mono (f := Fct.val 13 (.slice A3361 r3360.1.length cA3361)) (or_assign f_75) (fun own' a' w' v' hp h => fun _ _ h0' => by cases (f_74.symm.trans ((hp.2 74 (by decide)).symm.trans h0')); exact h))
          refine sc (fun _ _ _ f _ _ => px (or_assign f.1)) ?_
          exact steps_nil
        intro own3368 a3368 w3368 hd3368 hz3368 hk3368 hf3368 hE3368
        have e3368_0 := (hk3368 0 rfl).trans e3342_0
        have e3368_3 := (hk3368 3 rfl).trans e3342_3
        have e3368_4 := (hk3368 4 rfl).trans e3342_4
        have e3368_5 := (hk3368 5 rfl).trans e3342_5
        have e3368_6 := (hk3368 6 rfl).trans e3342_6
        have e3368_8 := (hk3368 8 rfl).trans e3342_8
        obtain ⟨⟨⟨⟨A3361, cA3361⟩, ⟨A3362, cA3362⟩, ⟨A3363, cA3363⟩⟩, (f_74 : a3368.eval (.tmp 74) = .tuple #[.slice A3361 r3360.1.length cA3361, .int .i64 r3360.2.1]), (b3368_A3361 : RwO own3368 3364 [] w3368 3 R3 A3361 cA3361 r3360.1), (b3368_A3362 : RwO own3368 3365 [] w3368 9 R9 A3362 cA3362 r3360.2.2.1), (b3368_A3363 : RwO own3368 3366 [] w3368 60 R60 A3363 cA3363 r3360.2.2.2), (b3368_g1684 : BlkO own3368 3367 w3368 g1684 43 #[.slice A3362 r3360.2.2.1.length cA3362, .slice A3363 r3360.2.2.2.length cA3363])⟩, (q_13 : ∀ (A3361 : Option Addr) (cA3361 : Nat), a3368.eval (.tmp 74) = .tuple #[.slice A3361 r3360.1.length cA3361, .int .i64 r3360.2.1] → a3368.eval (.tmp 13) = .slice A3361 r3360.1.length cA3361), (e3368_14 : a3368.eval (.tmp 14) = .int .i64 r3360.2.1), -⟩ := hf3368 [1, 5, 6] rfl
        have e3368_13 := q_13 _ _ f_74
        have hX3368 := es_ hX3342 hE3368
        have b3368_Alists1 := RdO.evo rfl hE3368 b3342_Alists1
        have b3368_A3277 := re_ hE3368 b3342_A3277
        have b3368_A3282 := re_ hE3368 b3342_A3282
        have b3368_A3253 := re_ hE3368 b3342_A3253
        obtain ⟨r3369, hr3369, hs⟩ := obind hs
        obtain ⟨x3370, hx3370, hs⟩ := obind hs
        refine rg0_seq 86 own3368 [0, 1, 3, 7, 7, 31, 63, 127] [⟨[], [14], [], Fct.val 77 (.int .i64 r3360.2.1)⟩, ⟨[0], [], [], Fct.val 78 (.bool (!decide (r3360.2.1 = 0)))⟩, ⟨[1], [], [], Fct.val 79 (.bool (!decide (r3360.2.1 = 0)))⟩, ⟨[2], [13], [], Fct.cond (!(!decide (r3360.2.1 = 0))) (some 80) (Fct.val 80 (.slice A3361 r3360.1.length cA3361))⟩, ⟨[2], [8], [], Fct.cond (!(!decide (r3360.2.1 = 0))) (some 81) (Fct.val 81 (.slice A3253 r3252.1.length cA3253))⟩, ⟨[2, 3, 4], [], [], Fct.cond (!(!decide (r3360.2.1 = 0))) (some 82) (Fct.val 82 (.bool r3369))⟩, ⟨[2, 5], [], [], Fct.cond (!(!decide (r3360.2.1 = 0))) (some 83) (Fct.val 83 (.bool (!r3369)))⟩, ⟨[2, 6], [], [], Fct.val 84 (.bool x3370)⟩] hz3368 hd3368 (by kernel_rfl) ?_ ?_
        · refine sc (fun _ _ _ _ s _ => px (or_move (s.1.trans e3368_14))) ?_
          refine sc (fun _ _ _ f _ _ => px (or_neq f.1 rfl rfl)) ?_
          refine sc (fun _ _ _ f _ _ => px (or_move f.1)) ?_
          refine sc (fun _ _ _ f s _ => sg_f rfl rfl rfl f.1 (fun hg => or_move (s.1.trans e3368_13))) ?_
          refine sc (fun _ _ _ f s _ => sg_f rfl rfl rfl f.1 (fun hg => or_move (s.1.trans e3368_8))) ?_
          refine sc (fun _ _ _ f _ hE => sg_f rfl rfl rfl f.1 (fun hg => or_call cf20 (args2 (f.2.1.1 hg) (f.2.2.1.1 hg)) (law04_Ints_w _ r3360.1 A3361 cA3361 r3252.1 A3253 cA3253 (RdO.zero (RwO.rd (re_ hE b3368_A3361))) (RdO.zero (RwO.rd (re_ hE b3368_A3253))) r3369 (gd_t hr3369 hg)) post_val)) ?_
          refine sc (fun _ _ _ f _ _ => sg_f rfl rfl rfl f.1 (fun hg => or_not (f.2.1.1 hg) rfl)) ?_
          refine sc (fun _ _ _ f _ _ => px (or_or f.1 rfl (fun hx => f.2.1.1 hx) (osome hx3370).symm)) ?_
          exact steps_nil
        intro own3371 a3371 w3371 hd3371 hz3371 hk3371 hf3371 hE3371
        have e3371_0 := (hk3371 0 rfl).trans e3368_0
        have e3371_3 := (hk3371 3 rfl).trans e3368_3
        have e3371_4 := (hk3371 4 rfl).trans e3368_4
        have e3371_5 := (hk3371 5 rfl).trans e3368_5
        have e3371_6 := (hk3371 6 rfl).trans e3368_6
        obtain ⟨(e3371_84 : a3371.eval (.tmp 84) = .bool x3370), -⟩ := hf3371 [7] rfl
        have hX3371 := es_ hX3368 hE3371
        have b3371_Alists1 := RdO.evo rfl hE3371 b3368_Alists1
        have b3371_A3277 := re_ hE3371 b3368_A3277
        have b3371_A3282 := re_ hE3371 b3368_A3282
        have b3371_g1684 := be_ hE3371 b3368_g1684
        have b3371_A3362 := re_ hE3371 b3368_A3362
        have b3371_A3363 := re_ hE3371 b3368_A3363
        refine fl_cond e3371_84 hs (fun c3372 hs => ?_) (fun c3372 hs => ?_)
        · refine rg0_seq 86 own3371 (bz 1) [⟨[], [], [], Fct.val 2 (.bool false)⟩] hz3371 hd3371 (by kernel_rfl) ?_ ?_
          · refine sc (fun _ _ _ _ _ _ => px (or_assign rfl)) ?_
            exact steps_nil
          intro own3373 a3373 w3373 hd3373 hz3373 hk3373 hf3373 hE3373
          obtain ⟨(e3373_2 : a3373.eval (.tmp 2) = .bool false), -⟩ := hf3373 [0] rfl
          have hX3373 := es_ hX3371 hE3373
          refine fl_ret ?_
          refine hp3095 _ _ _ rfl ?_
          refine hp2816 _ _ _ rfl ?_
          replace hs := hz2810 _ hs
          refine hp2810 _ _ _ rfl ?_
          refine hp1691 _ _ _ rfl ?_
          refine hp1689 _ _ _ rfl ?_
          obtain rfl := osome hs
          exact hret _ _ _ _ (.inl rfl) hd3373 (results1_ rfl (RVal.tmp_ e3373_2)) ⟨own3373, rfl, hX3373⟩
        refine fl_skip ?_
        exact (K3243 _ _ (rl [(3276, 3236), (3281, 3241), (3314, 3237), (3315, 3242), (3365, 3228), (3366, 3232), (3367, 3224)] own3371) _ _ _ _ A3362 cA3362 A3363 cA3363 A3277 cA3277 A3282 cA3282 hd3371 hz3371 e3371_0 e3371_3 e3371_4 e3371_5 e3371_6 (Evo.rl_ hX3371 (fun _ => Nat.le_refl 0) rfl) (RdO.rl_ (mm := [(3276, 3236), (3281, 3241), (3314, 3237), (3315, 3242), (3365, 3228), (3366, 3232), (3367, 3224)]) b3371_Alists1) (BlkO.rl_ (mm := [(3276, 3236), (3281, 3241), (3314, 3237), (3315, 3242), (3365, 3228), (3366, 3232), (3367, 3224)]) b3371_g1684) (RwO.rl_ (mm := [(3276, 3236), (3281, 3241), (3314, 3237), (3315, 3242), (3365, 3228), (3366, 3232), (3367, 3224)]) b3371_A3362) (RwO.rl_ (mm := [(3276, 3236), (3281, 3241), (3314, 3237), (3315, 3242), (3365, 3228), (3366, 3232), (3367, 3224)]) b3371_A3363) (RwO.rl_ (mm := [(3276, 3236), (3281, 3241), (3314, 3237), (3315, 3242), (3365, 3228), (3366, 3232), (3367, 3224)]) b3371_A3277) (RwO.rl_ (mm := [(3276, 3236), (3281, 3241), (3314, 3237), (3315, 3242), (3365, 3228), (3366, 3232), (3367, 3224)]) b3371_A3282) hs).1
    refine fl_exit ?_
    refine hp2812 _ _ _ rfl ?_
    replace hs := hz2810 _ hs
    refine hp2810 _ _ _ rfl ?_
    refine hx1691 _ _ ?_
    refine hn1689 _ _ ?_
    obtain ⟨r3374, hr3374, hs⟩ := obind hs
    refine rg0_seq 86 own2814 (bz 2) [⟨[], [], [], Fct.val 85 (.bool r3374)⟩, ⟨[0], [], [], Fct.val 2 (.bool r3374)⟩] hz2814 hd2814 (by kernel_rfl) ?_ ?_
    · refine sc (fun _ _ _ _ _ _ => px (or_call cf11 (args0) (law11_known_w _   r3374 hr3374) post_val)) ?_
      refine sc (fun _ _ _ f _ _ => px (or_assign f.1)) ?_
      exact steps_nil
    intro own3375 a3375 w3375 hd3375 hz3375 hk3375 hf3375 hE3375
    obtain ⟨(e3375_2 : a3375.eval (.tmp 2) = .bool r3374), -⟩ := hf3375 [1] rfl
    have hX3375 := es_ hX2814 hE3375
    refine fl_ret ?_
    obtain rfl := (osome hs).symm
    exact hret _ _ _ _ (.inl rfl) hd3375 (results1_ rfl (RVal.tmp_ e3375_2)) ⟨own3375, rfl, hX3375⟩
end Go.Proofs.Ytpbhdblkjabdlaa
