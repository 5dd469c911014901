/-
  Chapter 21. The walks.
-/
import Derived.Test.YtopnbammdeimcaaWp4
import Derived.Test.YtopnbammdeimcaaSp6
namespace Go.Proofs.Ytopnbammdeimcaa
open Go.RowKit
set_option linter.unusedVariables false
set_option maxHeartbeats 2000000 in
theorem law21_PolyclipHalves_w (w : World) (l1 : List (Int × Int)) (Al1 : Option Addr) (cl1 : Nat) (c2 : Int) (y3 : Bool) (hl1 : RdO (fun _ => 0) [0] w R25 Al1 cl1 l1) (r : Bool) (hs : law21_PolyclipHalves l1 c2 y3 = some r) :
    Calls Try.prog 3 #[.slice Al1 l1.length cl1, .int .i64 c2, .bool y3] w fun e w' => ∃ own' : Own, e = .returned (.bool r) ∧ Evo [] (fun _ => 0) own' w w' := by
  refine fl_enter (n := 118) rfl rfl rfl (Nat.le_of_ble_eq_true rfl) ?_
  intro a0 Q hd0 hz0 harg hret
  have ha0 := harg 0 _ rfl
  have ha1 := harg 1 _ rfl
  have ha2 := harg 2 _ rfl
  clear harg
  have hE0 : Evo [] (fun _ => 0) (fun _ => 0) w w := Evo.refl _ _ _
  refine rg_plain_seq (n := 118) (rs := []) (own0 := (fun _ => 0)) (K := [])
      (bs := [0])
      (ds := [⟨[], [], [], Fct.val 6 (.bool false)⟩]) (by kernel_rfl) hz0 hd0 (fun _ h => nomatch h) ?_ ?_
  · refine steps_cons (fun own a wx hf hsl hE => ?_) ?_
    · exact sg_plain rfl rfl (or_assign rfl)
    exact steps_nil
  intro own175 a175 w175 hd175 hz175 hk175 hf175 hE175
  have e175_0 : a175.eval (.tmp 0) = .slice Al1 l1.length cl1 := (hk175 0 rfl).trans ha0
  have e175_1 : a175.eval (.tmp 1) = .int .i64 c2 := (hk175 1 rfl).trans ha1
  have e175_2 : a175.eval (.tmp 2) = .bool y3 := (hk175 2 rfl).trans ha2
  have hX175 := Evo.step hE0 (fun _ => Nat.le_refl 0) hE175 rfl
  have b175_Al1 := RdO.evo rfl hE175 hl1
  obtain ⟨r176, hr176, hs⟩ := obind hs
  refine rg_plain_seq (n := 118) (rs := []) (own0 := own175) (K := [])
      (bs := [0, 1, 3])
      (ds := [⟨[], [0], [], Fct.val 15 (.slice Al1 l1.length cl1)⟩,
      ⟨[0], [], [], Fct.mems [178, 179, 0] 16 (fun (x : Option Addr × Nat) => .slice x.1 r176.length x.2) (fun (x : Option Addr × Nat) own w => RdO own [178, 179, 0] w R25 x.1 x.2 r176) (fun hk he h => RdO.evo (hits_sub hk (by decide)) he h)⟩,
      ⟨[1], [], [], Fct.rel [0, 16] (fun l => ∀ (A177 : Option Addr) (cA177 : Nat), l.getD 1 undef = .slice A177 r176.length cA177 → l.getD 0 undef = .slice A177 r176.length cA177)⟩]) (by kernel_rfl) hz175 hd175 (fun _ h => nomatch h) ?_ ?_
  · refine steps_cons (fun own a wx hf hsl hE => ?_) ?_
    · obtain ⟨s_0, -⟩ := hsl
      exact sg_plain rfl rfl (or_move (s_0.trans e175_0))
    refine steps_cons (fun own a wx hf hsl hE => ?_) ?_
    · obtain ⟨(f_15 : a.eval (.tmp 15) = .slice Al1 l1.length cl1), -⟩ := hf
      exact sg_plain rfl rfl (or_call cf6 (args1 f_15) (law03_Cut_w _ (forth own (inL [0])) l1 Al1 cl1 inL_le (RdO.alias_ (La := [0]) (RdO.evo rfl hE b175_Al1) (by decide)) r176 hr176) (post_alias (La := [0]) (m' := (look0 [(1, 178), (2, 179)])) (fun own' w' a' x ho hsz h1 h => ⟨x, h1, RdO.backN_ ho hsz h (by decide) (by decide) (by decide)⟩)))
    refine steps_cons (fun own a wx hf hsl hE => ?_) ?_
    · obtain ⟨⟨⟨A177, cA177⟩, (f_16 : a.eval (.tmp 16) = .slice A177 r176.length cA177), (b_A177 : RdO own [178, 179, 0] wx R25 A177 cA177 r176)⟩, -⟩ := hf
      exact sg_plain rfl rfl (or_mono (f := Fct.val 0 (.slice A177 r176.length cA177)) (or_assign f_16) (fun own' a' w' v' hp h => fun _ _ h0' => by cases (f_16.symm.trans ((hp.2 16 (by decide)).symm.trans h0')); exact h))
    exact steps_nil
  intro own180 a180 w180 hd180 hz180 hk180 hf180 hE180
  have e180_1 : a180.eval (.tmp 1) = .int .i64 c2 := (hk180 1 rfl).trans e175_1
  have e180_2 : a180.eval (.tmp 2) = .bool y3 := (hk180 2 rfl).trans e175_2
  obtain ⟨⟨⟨A177, cA177⟩, (f_16 : a180.eval (.tmp 16) = .slice A177 r176.length cA177), (b_A177 : RdO own180 [178, 179, 0] w180 R25 A177 cA177 r176)⟩, (q_0 : ∀ (A177 : Option Addr) (cA177 : Nat), a180.eval (.tmp 16) = .slice A177 r176.length cA177 → a180.eval (.tmp 0) = .slice A177 r176.length cA177), -⟩ := hf180 [1, 2] rfl
  have f_0 := q_0 _ _ f_16
  have e180_0 := f_0
  have hX180 := Evo.step hX175 (fun _ => Nat.le_refl 0) hE180 rfl
  have b180_A177 := b_A177
  refine fl_seq (fun Q181 hn181 hp181 => ?_)
  refine rg_plain_seq (n := 118) (rs := []) (own0 := own180) (K := [])
      (bs := [0])
      (ds := [⟨[], [], [], Fct.val 7 (.int .i64 0)⟩]) (by kernel_rfl) hz180 hd180 (fun _ h => nomatch h) ?_ ?_
  · refine steps_cons (fun own a wx hf hsl hE => ?_) ?_
    · exact sg_plain rfl rfl (or_assign rfl)
    exact steps_nil
  intro own182 a182 w182 hd182 hz182 hk182 hf182 hE182
  have e182_0 : a182.eval (.tmp 0) = .slice A177 r176.length cA177 := (hk182 0 rfl).trans e180_0
  have e182_1 : a182.eval (.tmp 1) = .int .i64 c2 := (hk182 1 rfl).trans e180_1
  have e182_2 : a182.eval (.tmp 2) = .bool y3 := (hk182 2 rfl).trans e180_2
  obtain ⟨(f_7 : a182.eval (.tmp 7) = .int .i64 0), -⟩ := hf182 [0] rfl
  have e182_7 := f_7
  have hX182 := Evo.step hX180 (fun _ => Nat.le_refl 0) hE182 rfl
  have b182_A177 := RdO.evo rfl hE182 b180_A177
  refine fl_block (fun Q183 hn183 hx183 hp183 => ?_)
  refine fl_loop (body := (fun s => law21_PolyclipHalves_b1 c2 y3 r176 s)) (z := r) (show loopO _ _ = _ from hs) (fun (i229 : Int) a wx => ∃ (ox : Own), a.defers = [] ∧ a.tmps.size = 118 ∧ a.eval (.tmp 0) = .slice A177 r176.length cA177 ∧ a.eval (.tmp 1) = .int .i64 c2 ∧ a.eval (.tmp 2) = .bool y3 ∧ a.eval (.tmp 7) = .int .i64 i229 ∧ Evo [] (fun _ => 0) ox w wx ∧ RdO ox [178, 179, 0] wx R25 A177 cA177 r176) ?_ ?_
  · exact ⟨own182, hd182, hz182, e182_0, e182_1, e182_2, e182_7, hX182, b182_A177⟩
  · rintro i229 zz275 a275 w275 ⟨own275, hd276, hz276, e276_0, e276_1, e276_2, e276_7, hE276, b276_A177⟩ hs Q275 hn275 hp275 hz275
    have hs : law21_PolyclipHalves_b1 c2 y3 r176 i229 = some zz275 := hs
    refine fl_seq (fun Q277 hn277 hp277 => ?_)
    refine rg_plain_seq (n := 118) (rs := []) (own0 := own275) (K := [])
        (bs := [0, 0, 2, 7])
        (ds := [⟨[], [7], [], Fct.val 17 (.int .i64 i229)⟩,
        ⟨[], [0], [], Fct.val 18 (.slice A177 r176.length cA177)⟩,
        ⟨[1], [], [], Fct.val 19 (.int .i64 (r176.length : Int))⟩,
        ⟨[0, 2], [], [], Fct.val 20 (.bool (decide (i229 < (r176.length : Int))))⟩]) (by kernel_rfl) hz276 hd276 (fun _ h => nomatch h) ?_ ?_
    · refine steps_cons (fun own a wx hf hsl hE => ?_) ?_
      · obtain ⟨s_7, -⟩ := hsl
        exact sg_plain rfl rfl (or_move (s_7.trans e276_7))
      refine steps_cons (fun own a wx hf hsl hE => ?_) ?_
      · obtain ⟨s_0, -⟩ := hsl
        exact sg_plain rfl rfl (or_move (s_0.trans e276_0))
      refine steps_cons (fun own a wx hf hsl hE => ?_) ?_
      · obtain ⟨(f_18 : a.eval (.tmp 18) = .slice A177 r176.length cA177), -⟩ := hf
        exact sg_plain rfl rfl (or_len tu22 f_18 rfl)
      refine steps_cons (fun own a wx hf hsl hE => ?_) ?_
      · obtain ⟨(f_17 : a.eval (.tmp 17) = .int .i64 i229), (f_19 : a.eval (.tmp 19) = .int .i64 (r176.length : Int)), -⟩ := hf
        exact sg_plain rfl rfl (or_lss f_17 f_19 rfl)
      exact steps_nil
    intro own278 a278 w278 hd278 hz278 hk278 hf278 hE278
    have e278_0 : a278.eval (.tmp 0) = .slice A177 r176.length cA177 := (hk278 0 rfl).trans e276_0
    have e278_1 : a278.eval (.tmp 1) = .int .i64 c2 := (hk278 1 rfl).trans e276_1
    have e278_2 : a278.eval (.tmp 2) = .bool y3 := (hk278 2 rfl).trans e276_2
    have e278_7 : a278.eval (.tmp 7) = .int .i64 i229 := (hk278 7 rfl).trans e276_7
    obtain ⟨(f_20 : a278.eval (.tmp 20) = .bool (decide (i229 < (r176.length : Int)))), -⟩ := hf278 [3] rfl
    have e278_20 := f_20
    have hX278 := Evo.step hE276 (fun _ => Nat.le_refl 0) hE278 rfl
    have b278_A177 := RdO.evo rfl hE278 b276_A177
    refine fl_cond e278_20 hs (fun c279 hs => ?_) (fun c279 hs => ?_)
    · refine fl_skip ?_
      refine hn277 _ _ ?_
      refine fl_seq (fun Q280 hn280 hp280 => ?_)
      refine fl_block (fun Q281 hn281 hx281 hp281 => ?_)
      refine fl_seq (fun Q282 hn282 hp282 => ?_)
      obtain ⟨x283, hx283, hs⟩ := obind hs
      obtain ⟨x284, hx284, hs⟩ := obind hs
      obtain ⟨x285, hx285, hs⟩ := obind hs
      obtain ⟨x286, hx286, hs⟩ := obind hs
      obtain ⟨x287, hx287, hs⟩ := obind hs
      refine rg_draw_seq g_mixed (n := 118) (rs := []) (own0 := own278) (K := [])
          (bs := [0, 0, 3, 7, 15, 0, 0, 96, 224, 480, 1023, 2047, 4095, 8191, 8191, 32767, 65535, 131071, 8191, 8191, 794623, 1843199, 3940351, 8388607, 16777215, 33554431])
          (ds := [⟨[], [0], [], Fct.val 23 (.slice A177 r176.length cA177)⟩,
          ⟨[], [7], [], Fct.val 24 (.int .i64 i229)⟩,
          ⟨[0, 1], [], [], Fct.val 25 (.pointer (some ((adr A177).add ((i229 : Int).toNat * R25.s))))⟩,
          ⟨[2], [], [], Fct.val 26 (.pointer (some ((adr A177).add ((i229 : Int).toNat * R25.s))))⟩,
          ⟨[3], [], [], Fct.val 27 (.int .i64 x283.1)⟩,
          ⟨[], [0], [], Fct.val 28 (.slice A177 r176.length cA177)⟩,
          ⟨[], [7], [], Fct.val 29 (.int .i64 i229)⟩,
          ⟨[5, 6], [], [], Fct.val 30 (.pointer (some ((adr A177).add ((i229 : Int).toNat * R25.s))))⟩,
          ⟨[7], [], [], Fct.val 31 (.pointer (some (((adr A177).add ((i229 : Int).toNat * R25.s)).add 1)))⟩,
          ⟨[8], [], [], Fct.val 32 (.int .i64 x284.2)⟩,
          ⟨[4, 9], [], [], Fct.val 33 (.int .i64 (mx x283.1 x284.2))⟩,
          ⟨[10], [], [], Fct.val 34 (.bool (decide (1048576 < (mx x283.1 x284.2))))⟩,
          ⟨[11], [], [], Fct.val 35 (.bool (decide (1048576 < (mx x283.1 x284.2))))⟩,
          ⟨[12], [0], [], Fct.cond (!(decide (1048576 < (mx x283.1 x284.2)))) (some 36) (Fct.val 36 (.slice A177 r176.length cA177))⟩,
          ⟨[12], [7], [], Fct.cond (!(decide (1048576 < (mx x283.1 x284.2)))) (some 37) (Fct.val 37 (.int .i64 i229))⟩,
          ⟨[12, 13, 14], [], [], Fct.cond (!(decide (1048576 < (mx x283.1 x284.2)))) (some 38) (Fct.val 38 (.pointer (some ((adr A177).add ((i229 : Int).toNat * R25.s)))))⟩,
          ⟨[12, 15], [], [], Fct.cond (!(decide (1048576 < (mx x283.1 x284.2)))) (some 39) (Fct.val 39 (.pointer (some ((adr A177).add ((i229 : Int).toNat * R25.s)))))⟩,
          ⟨[12, 16], [], [], Fct.cond (!(decide (1048576 < (mx x283.1 x284.2)))) (some 40) (Fct.val 40 (.int .i64 x285.1))⟩,
          ⟨[12], [0], [], Fct.cond (!(decide (1048576 < (mx x283.1 x284.2)))) (some 41) (Fct.val 41 (.slice A177 r176.length cA177))⟩,
          ⟨[12], [7], [], Fct.cond (!(decide (1048576 < (mx x283.1 x284.2)))) (some 42) (Fct.val 42 (.int .i64 i229))⟩,
          ⟨[12, 18, 19], [], [], Fct.cond (!(decide (1048576 < (mx x283.1 x284.2)))) (some 43) (Fct.val 43 (.pointer (some ((adr A177).add ((i229 : Int).toNat * R25.s)))))⟩,
          ⟨[12, 20], [], [], Fct.cond (!(decide (1048576 < (mx x283.1 x284.2)))) (some 44) (Fct.val 44 (.pointer (some (((adr A177).add ((i229 : Int).toNat * R25.s)).add 1))))⟩,
          ⟨[12, 21], [], [], Fct.cond (!(decide (1048576 < (mx x283.1 x284.2)))) (some 45) (Fct.val 45 (.int .i64 x286.2))⟩,
          ⟨[12, 17, 22], [], [], Fct.cond (!(decide (1048576 < (mx x283.1 x284.2)))) (some 46) (Fct.val 46 (.int .i64 (mn x285.1 x286.2)))⟩,
          ⟨[12, 23], [], [], Fct.cond (!(decide (1048576 < (mx x283.1 x284.2)))) (some 47) (Fct.val 47 (.bool (decide ((mn x285.1 x286.2) < (-1048576)))))⟩,
          ⟨[12, 24], [], [], Fct.val 48 (.bool x287)⟩]) (by kernel_rfl) hz278 hd278 (fun _ h => nomatch h) ?_ ?_
      · refine steps_cons (fun own a wx hf hsl hE => ?_) ?_
        · obtain ⟨s_0, -⟩ := hsl
          exact sg_plain rfl rfl (or_move (s_0.trans e278_0))
        refine steps_cons (fun own a wx hf hsl hE => ?_) ?_
        · obtain ⟨s_7, -⟩ := hsl
          exact sg_plain rfl rfl (or_move (s_7.trans e278_7))
        refine steps_cons (fun own a wx hf hsl hE => ?_) ?_
        · obtain ⟨(f_23 : a.eval (.tmp 23) = .slice A177 r176.length cA177), (f_24 : a.eval (.tmp 24) = .int .i64 i229), -⟩ := hf
          exact sg_plain rfl rfl (or_index (R := R25) (l := r176) tl22 f_23 f_24 (RdO.some_ b278_A177 hx283) hx283)
        refine steps_cons (fun own a wx hf hsl hE => ?_) ?_
        · obtain ⟨(f_25 : a.eval (.tmp 25) = .pointer (some ((adr A177).add ((i229 : Int).toNat * R25.s)))), -⟩ := hf
          exact sg_plain rfl rfl (or_field fo25_0 f_25 (Addr.add_zero' _))
        refine steps_cons (fun own a wx hf hsl hE => ?_) ?_
        · obtain ⟨(f_26 : a.eval (.tmp 26) = .pointer (some ((adr A177).add ((i229 : Int).toNat * R25.s)))), -⟩ := hf
          exact sg_plain rfl rfl (or_load1 to3 f_26 (CellsAt.zero (RdO.cells (F := E25) (RdO.evo rfl hE b278_A177) hx283) rfl))
        refine steps_cons (fun own a wx hf hsl hE => ?_) ?_
        · obtain ⟨s_0, -⟩ := hsl
          exact sg_plain rfl rfl (or_move (s_0.trans e278_0))
        refine steps_cons (fun own a wx hf hsl hE => ?_) ?_
        · obtain ⟨s_7, -⟩ := hsl
          exact sg_plain rfl rfl (or_move (s_7.trans e278_7))
        refine steps_cons (fun own a wx hf hsl hE => ?_) ?_
        · obtain ⟨(f_28 : a.eval (.tmp 28) = .slice A177 r176.length cA177), (f_29 : a.eval (.tmp 29) = .int .i64 i229), -⟩ := hf
          exact sg_plain rfl rfl (or_index (R := R25) (l := r176) tl22 f_28 f_29 (RdO.some_ b278_A177 hx284) hx284)
        refine steps_cons (fun own a wx hf hsl hE => ?_) ?_
        · obtain ⟨(f_30 : a.eval (.tmp 30) = .pointer (some ((adr A177).add ((i229 : Int).toNat * R25.s)))), -⟩ := hf
          exact sg_plain rfl rfl (or_field fo25_1 f_30 rfl)
        refine steps_cons (fun own a wx hf hsl hE => ?_) ?_
        · obtain ⟨(f_31 : a.eval (.tmp 31) = .pointer (some (((adr A177).add ((i229 : Int).toNat * R25.s)).add 1))), -⟩ := hf
          exact sg_plain rfl rfl (or_load1 to3 f_31 (CellsAt.one (RdO.cells (F := E25) (RdO.evo rfl hE b278_A177) hx284) rfl))
        refine steps_cons (fun own a wx hf hsl hE => ?_) ?_
        · obtain ⟨(f_27 : a.eval (.tmp 27) = .int .i64 x283.1), (f_32 : a.eval (.tmp 32) = .int .i64 x284.2), -⟩ := hf
          exact sg_plain rfl rfl (or_max f_27 f_32)
        refine steps_cons (fun own a wx hf hsl hE => ?_) ?_
        · obtain ⟨(f_33 : a.eval (.tmp 33) = .int .i64 (mx x283.1 x284.2)), -⟩ := hf
          exact sg_plain rfl rfl (or_gtr f_33 rfl rfl)
        refine steps_cons (fun own a wx hf hsl hE => ?_) ?_
        · obtain ⟨(f_34 : a.eval (.tmp 34) = .bool (decide (1048576 < (mx x283.1 x284.2)))), -⟩ := hf
          exact sg_plain rfl rfl (or_move f_34)
        refine steps_cons (fun own a wx hf hsl hE => ?_) ?_
        · obtain ⟨(f_35 : a.eval (.tmp 35) = .bool (decide (1048576 < (mx x283.1 x284.2)))), -⟩ := hf
          obtain ⟨s_0, -⟩ := hsl
          refine sg_f rfl rfl rfl f_35 (fun hg => ?_)
          exact or_move (s_0.trans e278_0)
        refine steps_cons (fun own a wx hf hsl hE => ?_) ?_
        · obtain ⟨(f_35 : a.eval (.tmp 35) = .bool (decide (1048576 < (mx x283.1 x284.2)))), -⟩ := hf
          obtain ⟨s_7, -⟩ := hsl
          refine sg_f rfl rfl rfl f_35 (fun hg => ?_)
          exact or_move (s_7.trans e278_7)
        refine steps_cons (fun own a wx hf hsl hE => ?_) ?_
        · obtain ⟨(f_35 : a.eval (.tmp 35) = .bool (decide (1048576 < (mx x283.1 x284.2)))), c_36, c_37, -⟩ := hf
          refine sg_f rfl rfl rfl f_35 (fun hg => ?_)
          have f_36 : a.eval (.tmp 36) = .slice A177 r176.length cA177 := c_36.1 hg
          have f_37 : a.eval (.tmp 37) = .int .i64 i229 := c_37.1 hg
          exact or_index (R := R25) (l := r176) tl22 f_36 f_37 (RdO.some_ b278_A177 (gd_t hx285 hg)) (gd_t hx285 hg)
        refine steps_cons (fun own a wx hf hsl hE => ?_) ?_
        · obtain ⟨(f_35 : a.eval (.tmp 35) = .bool (decide (1048576 < (mx x283.1 x284.2)))), c_38, -⟩ := hf
          refine sg_f rfl rfl rfl f_35 (fun hg => ?_)
          have f_38 : a.eval (.tmp 38) = .pointer (some ((adr A177).add ((i229 : Int).toNat * R25.s))) := c_38.1 hg
          exact or_field fo25_0 f_38 (Addr.add_zero' _)
        refine steps_cons (fun own a wx hf hsl hE => ?_) ?_
        · obtain ⟨(f_35 : a.eval (.tmp 35) = .bool (decide (1048576 < (mx x283.1 x284.2)))), c_39, -⟩ := hf
          refine sg_f rfl rfl rfl f_35 (fun hg => ?_)
          have f_39 : a.eval (.tmp 39) = .pointer (some ((adr A177).add ((i229 : Int).toNat * R25.s))) := c_39.1 hg
          exact or_load1 to3 f_39 (CellsAt.zero (RdO.cells (F := E25) (RdO.evo rfl hE b278_A177) (gd_t hx285 hg)) rfl)
        refine steps_cons (fun own a wx hf hsl hE => ?_) ?_
        · obtain ⟨(f_35 : a.eval (.tmp 35) = .bool (decide (1048576 < (mx x283.1 x284.2)))), -⟩ := hf
          obtain ⟨s_0, -⟩ := hsl
          refine sg_f rfl rfl rfl f_35 (fun hg => ?_)
          exact or_move (s_0.trans e278_0)
        refine steps_cons (fun own a wx hf hsl hE => ?_) ?_
        · obtain ⟨(f_35 : a.eval (.tmp 35) = .bool (decide (1048576 < (mx x283.1 x284.2)))), -⟩ := hf
          obtain ⟨s_7, -⟩ := hsl
          refine sg_f rfl rfl rfl f_35 (fun hg => ?_)
          exact or_move (s_7.trans e278_7)
        refine steps_cons (fun own a wx hf hsl hE => ?_) ?_
        · obtain ⟨(f_35 : a.eval (.tmp 35) = .bool (decide (1048576 < (mx x283.1 x284.2)))), c_41, c_42, -⟩ := hf
          refine sg_f rfl rfl rfl f_35 (fun hg => ?_)
          have f_41 : a.eval (.tmp 41) = .slice A177 r176.length cA177 := c_41.1 hg
          have f_42 : a.eval (.tmp 42) = .int .i64 i229 := c_42.1 hg
          exact or_index (R := R25) (l := r176) tl22 f_41 f_42 (RdO.some_ b278_A177 (gd_t hx286 hg)) (gd_t hx286 hg)
        refine steps_cons (fun own a wx hf hsl hE => ?_) ?_
        · obtain ⟨(f_35 : a.eval (.tmp 35) = .bool (decide (1048576 < (mx x283.1 x284.2)))), c_43, -⟩ := hf
          refine sg_f rfl rfl rfl f_35 (fun hg => ?_)
          have f_43 : a.eval (.tmp 43) = .pointer (some ((adr A177).add ((i229 : Int).toNat * R25.s))) := c_43.1 hg
          exact or_field fo25_1 f_43 rfl
        refine steps_cons (fun own a wx hf hsl hE => ?_) ?_
        · obtain ⟨(f_35 : a.eval (.tmp 35) = .bool (decide (1048576 < (mx x283.1 x284.2)))), c_44, -⟩ := hf
          refine sg_f rfl rfl rfl f_35 (fun hg => ?_)
          have f_44 : a.eval (.tmp 44) = .pointer (some (((adr A177).add ((i229 : Int).toNat * R25.s)).add 1)) := c_44.1 hg
          exact or_load1 to3 f_44 (CellsAt.one (RdO.cells (F := E25) (RdO.evo rfl hE b278_A177) (gd_t hx286 hg)) rfl)
        refine steps_cons (fun own a wx hf hsl hE => ?_) ?_
        · obtain ⟨(f_35 : a.eval (.tmp 35) = .bool (decide (1048576 < (mx x283.1 x284.2)))), c_40, c_45, -⟩ := hf
          refine sg_f rfl rfl rfl f_35 (fun hg => ?_)
          have f_40 : a.eval (.tmp 40) = .int .i64 x285.1 := c_40.1 hg
          have f_45 : a.eval (.tmp 45) = .int .i64 x286.2 := c_45.1 hg
          exact or_min f_40 f_45
        refine steps_cons (fun own a wx hf hsl hE => ?_) ?_
        · obtain ⟨(f_35 : a.eval (.tmp 35) = .bool (decide (1048576 < (mx x283.1 x284.2)))), c_46, -⟩ := hf
          refine sg_f rfl rfl rfl f_35 (fun hg => ?_)
          have f_46 : a.eval (.tmp 46) = .int .i64 (mn x285.1 x286.2) := c_46.1 hg
          exact or_lss f_46 rfl rfl
        refine steps_cons (fun own a wx hf hsl hE => ?_) ?_
        · obtain ⟨(f_35 : a.eval (.tmp 35) = .bool (decide (1048576 < (mx x283.1 x284.2)))), c_47, -⟩ := hf
          exact sg_plain rfl rfl (or_or f_35 rfl (fun hx => c_47.1 hx) (osome hx287).symm)
        exact steps_nil
      intro own288 a288 w288 hd288 hz288 hk288 hf288 hE288
      have e288_0 : a288.eval (.tmp 0) = .slice A177 r176.length cA177 := (hk288 0 rfl).trans e278_0
      have e288_1 : a288.eval (.tmp 1) = .int .i64 c2 := (hk288 1 rfl).trans e278_1
      have e288_2 : a288.eval (.tmp 2) = .bool y3 := (hk288 2 rfl).trans e278_2
      have e288_7 : a288.eval (.tmp 7) = .int .i64 i229 := (hk288 7 rfl).trans e278_7
      obtain ⟨(f_48 : a288.eval (.tmp 48) = .bool x287), -⟩ := hf288 [25] rfl
      have e288_48 := f_48
      have hX288 := Evo.step hX278 (fun _ => Nat.le_refl 0) hE288 rfl
      have b288_A177 := RdO.evo rfl hE288 b278_A177
      refine fl_cond e288_48 hs (fun c289 hs => ?_) (fun c289 hs => ?_)
      · obtain ⟨r290, hr290, hs⟩ := obind hs
        refine rg_plain_seq (n := 118) (rs := []) (own0 := own288) (K := [])
            (bs := [0, 1])
            (ds := [⟨[], [], [], Fct.val 49 (.bool r290)⟩,
            ⟨[0], [], [], Fct.val 6 (.bool r290)⟩]) (by kernel_rfl) hz288 hd288 (fun _ h => nomatch h) ?_ ?_
        · refine steps_cons (fun own a wx hf hsl hE => ?_) ?_
          · exact sg_plain rfl rfl (or_call cf7 (args0) (law21_known_w _   r290 hr290) post_val)
          refine steps_cons (fun own a wx hf hsl hE => ?_) ?_
          · obtain ⟨(f_49 : a.eval (.tmp 49) = .bool r290), -⟩ := hf
            exact sg_plain rfl rfl (or_assign f_49)
          exact steps_nil
        intro own291 a291 w291 hd291 hz291 hk291 hf291 hE291
        obtain ⟨(f_6 : a291.eval (.tmp 6) = .bool r290), -⟩ := hf291 [1] rfl
        have e291_6 := f_6
        have hX291 := Evo.step hX288 (fun _ => Nat.le_refl 0) hE291 rfl
        refine fl_ret ?_
        refine hp282 _ _ _ rfl ?_
        refine hp281 _ _ _ rfl ?_
        refine hp280 _ _ _ rfl ?_
        replace hs := hz275 _ hs
        refine hp275 _ _ _ rfl ?_
        refine hp183 _ _ _ rfl ?_
        refine hp181 _ _ _ rfl ?_
        obtain rfl := (osome hs).symm
        exact hret _ _ _ _ (.inl rfl) hd291 (results1_ rfl (RVal.tmp_ e291_6)) ⟨own291, rfl, hX291⟩
      refine fl_skip ?_
      refine hn282 _ _ ?_
      obtain ⟨x292, hx292, hs⟩ := obind hs
      obtain ⟨x293, hx293, hs⟩ := obind hs
      obtain ⟨x294, hx294, hs⟩ := obind hs
      refine rg_draw_seq g_mixed (n := 118) (rs := []) (own0 := own288) (K := [296, 298])
          (bs := [0, 0, 3, 7, 0, 0, 32, 0, 128, 480, 1008, 2032, 0, 0, 12303, 32767])
          (ds := [⟨[], [0], [], Fct.val 50 (.slice A177 r176.length cA177)⟩,
          ⟨[], [7], [], Fct.val 51 (.int .i64 i229)⟩,
          ⟨[0, 1], [], [], Fct.val 52 (.pointer (some ((adr A177).add ((i229 : Int).toNat * R25.s))))⟩,
          ⟨[2], [], [], Fct.val 53 (.agg #[.int .i64 x292.1, .int .i64 x292.2])⟩,
          ⟨[], [0], [], Fct.val 54 (.slice A177 r176.length cA177)⟩,
          ⟨[], [7], [], Fct.val 55 (.int .i64 i229)⟩,
          ⟨[5], [], [], Fct.val 56 (.int .i64 (ad i229 1))⟩,
          ⟨[], [0], [], Fct.val 57 (.slice A177 r176.length cA177)⟩,
          ⟨[7], [], [], Fct.val 58 (.int .i64 (r176.length : Int))⟩,
          ⟨[6, 8], [], [], Fct.val 59 (.int .i64 x293)⟩,
          ⟨[4, 9], [], [], Fct.val 60 (.pointer (some ((adr A177).add ((x293 : Int).toNat * R25.s))))⟩,
          ⟨[10], [], [], Fct.val 61 (.agg #[.int .i64 x294.1, .int .i64 x294.2])⟩,
          ⟨[], [], [], Fct.blk 296 8 (fun g => .pointer (some ⟨g, 0, none⟩)) 25 #[.int .i64 0, .int .i64 0]⟩,
          ⟨[], [], [], Fct.blk 298 9 (fun g => .pointer (some ⟨g, 0, none⟩)) 25 #[.int .i64 0, .int .i64 0]⟩,
          ⟨[12, 3], [], [296], Fct.blk 299 8 (fun g => .pointer (some ⟨g, 0, none⟩)) 25 #[.int .i64 x292.1, .int .i64 x292.2]⟩,
          ⟨[13, 11], [], [298], Fct.blk 300 9 (fun g => .pointer (some ⟨g, 0, none⟩)) 25 #[.int .i64 x294.1, .int .i64 x294.2]⟩]) (by kernel_rfl) hz288 hd288 (fun _ h => nomatch h) ?_ ?_
      · refine steps_cons (fun own a wx hf hsl hE => ?_) ?_
        · obtain ⟨s_0, -⟩ := hsl
          exact sg_plain rfl rfl (or_move (s_0.trans e288_0))
        refine steps_cons (fun own a wx hf hsl hE => ?_) ?_
        · obtain ⟨s_7, -⟩ := hsl
          exact sg_plain rfl rfl (or_move (s_7.trans e288_7))
        refine steps_cons (fun own a wx hf hsl hE => ?_) ?_
        · obtain ⟨(f_50 : a.eval (.tmp 50) = .slice A177 r176.length cA177), (f_51 : a.eval (.tmp 51) = .int .i64 i229), -⟩ := hf
          exact sg_plain rfl rfl (or_index (R := R25) (l := r176) tl22 f_50 f_51 (RdO.some_ b288_A177 hx292) hx292)
        refine steps_cons (fun own a wx hf hsl hE => ?_) ?_
        · obtain ⟨(f_52 : a.eval (.tmp 52) = .pointer (some ((adr A177).add ((i229 : Int).toNat * R25.s)))), -⟩ := hf
          exact sg_plain rfl rfl (or_load (l := E25.f x292) ta25 f_52 (RdO.cells (F := E25) (RdO.evo rfl hE b288_A177) hx292) rfl)
        refine steps_cons (fun own a wx hf hsl hE => ?_) ?_
        · obtain ⟨s_0, -⟩ := hsl
          exact sg_plain rfl rfl (or_move (s_0.trans e288_0))
        refine steps_cons (fun own a wx hf hsl hE => ?_) ?_
        · obtain ⟨s_7, -⟩ := hsl
          exact sg_plain rfl rfl (or_move (s_7.trans e288_7))
        refine steps_cons (fun own a wx hf hsl hE => ?_) ?_
        · obtain ⟨(f_55 : a.eval (.tmp 55) = .int .i64 i229), -⟩ := hf
          exact sg_plain rfl rfl (or_add f_55 rfl rfl)
        refine steps_cons (fun own a wx hf hsl hE => ?_) ?_
        · obtain ⟨s_0, -⟩ := hsl
          exact sg_plain rfl rfl (or_move (s_0.trans e288_0))
        refine steps_cons (fun own a wx hf hsl hE => ?_) ?_
        · obtain ⟨(f_57 : a.eval (.tmp 57) = .slice A177 r176.length cA177), -⟩ := hf
          exact sg_plain rfl rfl (or_len tu22 f_57 rfl)
        refine steps_cons (fun own a wx hf hsl hE => ?_) ?_
        · obtain ⟨(f_56 : a.eval (.tmp 56) = .int .i64 (ad i229 1)), (f_58 : a.eval (.tmp 58) = .int .i64 (r176.length : Int)), -⟩ := hf
          exact sg_plain rfl rfl (or_rem f_56 f_58 hx293)
        refine steps_cons (fun own a wx hf hsl hE => ?_) ?_
        · obtain ⟨(f_54 : a.eval (.tmp 54) = .slice A177 r176.length cA177), (f_59 : a.eval (.tmp 59) = .int .i64 x293), -⟩ := hf
          exact sg_plain rfl rfl (or_index (R := R25) (l := r176) tl22 f_54 f_59 (RdO.some_ b288_A177 hx294) hx294)
        refine steps_cons (fun own a wx hf hsl hE => ?_) ?_
        · obtain ⟨(f_60 : a.eval (.tmp 60) = .pointer (some ((adr A177).add ((x293 : Int).toNat * R25.s)))), -⟩ := hf
          exact sg_plain rfl rfl (or_load (l := E25.f x294) ta25 f_60 (RdO.cells (F := E25) (RdO.evo rfl hE b288_A177) hx294) rfl)
        refine steps_cons (fun own a wx hf hsl hE => ?_) ?_
        · exact sg_plain rfl rfl (or_new [] rfl rfl trivial (by kernel_rfl))
        refine steps_cons (fun own a wx hf hsl hE => ?_) ?_
        · exact sg_plain rfl rfl (or_new [] rfl rfl trivial (by kernel_rfl))
        refine steps_cons (fun own a wx hf hsl hE => ?_) ?_
        · obtain ⟨⟨g295, (f_8 : a.eval (.tmp 8) = .pointer (some ⟨g295, 0, none⟩)), (b_g295 : BlkO own 296 wx g295 25 #[.int .i64 0, .int .i64 0])⟩, (f_53 : a.eval (.tmp 53) = .agg #[.int .i64 x292.1, .int .i64 x292.2]), -⟩ := hf
          exact sg_plain rfl rfl (or_store (l := #[.int .i64 x292.1, .int .i64 x292.2]) (lab := 296) (lab2 := 299) ts25 f_8 f_53 b_g295 (by simp) (by kernel_rfl) (mem_of rfl) (by decide) (by kernel_rfl) (fun own' a' w' ha hb => ⟨_, (ha 8).trans f_8, hb⟩))
        refine steps_cons (fun own a wx hf hsl hE => ?_) ?_
        · obtain ⟨⟨g297, (f_9 : a.eval (.tmp 9) = .pointer (some ⟨g297, 0, none⟩)), (b_g297 : BlkO own 298 wx g297 25 #[.int .i64 0, .int .i64 0])⟩, (f_61 : a.eval (.tmp 61) = .agg #[.int .i64 x294.1, .int .i64 x294.2]), -⟩ := hf
          exact sg_plain rfl rfl (or_store (l := #[.int .i64 x294.1, .int .i64 x294.2]) (lab := 298) (lab2 := 300) ts25 f_9 f_61 b_g297 (by simp) (by kernel_rfl) (mem_of rfl) (by decide) (by kernel_rfl) (fun own' a' w' ha hb => ⟨_, (ha 9).trans f_9, hb⟩))
        exact steps_nil
      intro own301 a301 w301 hd301 hz301 hk301 hf301 hE301
      have e301_0 : a301.eval (.tmp 0) = .slice A177 r176.length cA177 := (hk301 0 rfl).trans e288_0
      have e301_1 : a301.eval (.tmp 1) = .int .i64 c2 := (hk301 1 rfl).trans e288_1
      have e301_2 : a301.eval (.tmp 2) = .bool y3 := (hk301 2 rfl).trans e288_2
      have e301_7 : a301.eval (.tmp 7) = .int .i64 i229 := (hk301 7 rfl).trans e288_7
      obtain ⟨⟨g295, (f_8 : a301.eval (.tmp 8) = .pointer (some ⟨g295, 0, none⟩)), (b_g295 : BlkO own301 299 w301 g295 25 #[.int .i64 x292.1, .int .i64 x292.2])⟩, ⟨g297, (f_9 : a301.eval (.tmp 9) = .pointer (some ⟨g297, 0, none⟩)), (b_g297 : BlkO own301 300 w301 g297 25 #[.int .i64 x294.1, .int .i64 x294.2])⟩, -⟩ := hf301 [14, 15] rfl
      have e301_8 := f_8
      have e301_9 := f_9
      have hX301 := Evo.step hX288 (fun _ => Nat.le_refl 0) hE301 rfl
      have b301_A177 := RdO.evo rfl hE301 b288_A177
      have b301_g295 := b_g295
      have b301_g297 := b_g297
      refine rg_draw_seq g_mixed (n := 118) (rs := []) (own0 := own301) (K := [])
          (bs := [0, 1, 0, 4, 3, 31])
          (ds := [⟨[], [8], [], Fct.val 62 (.pointer (some ⟨g295, 0, none⟩))⟩,
          ⟨[0], [], [], Fct.val 63 (.int .i64 x292.1)⟩,
          ⟨[], [9], [], Fct.val 64 (.pointer (some ⟨g297, 0, none⟩))⟩,
          ⟨[2], [], [], Fct.val 65 (.int .i64 x294.1)⟩,
          ⟨[1], [], [], Fct.val 10 (.int .i64 x292.1)⟩,
          ⟨[3], [], [], Fct.val 11 (.int .i64 x294.1)⟩]) (by kernel_rfl) hz301 hd301 (fun _ h => nomatch h) ?_ ?_
      · refine steps_cons (fun own a wx hf hsl hE => ?_) ?_
        · obtain ⟨s_8, -⟩ := hsl
          exact sg_plain rfl rfl (or_field fo25_0 (s_8.trans e301_8) (by rfl))
        refine steps_cons (fun own a wx hf hsl hE => ?_) ?_
        · obtain ⟨(f_62 : a.eval (.tmp 62) = .pointer (some ⟨g295, 0, none⟩)), -⟩ := hf
          exact sg_plain rfl rfl (or_load1 to3 f_62 (Blk.at_ (BlkO.evo (by decide) hE b301_g295).2 0 rfl))
        refine steps_cons (fun own a wx hf hsl hE => ?_) ?_
        · obtain ⟨s_9, -⟩ := hsl
          exact sg_plain rfl rfl (or_field fo25_0 (s_9.trans e301_9) (by rfl))
        refine steps_cons (fun own a wx hf hsl hE => ?_) ?_
        · obtain ⟨(f_64 : a.eval (.tmp 64) = .pointer (some ⟨g297, 0, none⟩)), -⟩ := hf
          exact sg_plain rfl rfl (or_load1 to3 f_64 (Blk.at_ (BlkO.evo (by decide) hE b301_g297).2 0 rfl))
        refine steps_cons (fun own a wx hf hsl hE => ?_) ?_
        · obtain ⟨(f_63 : a.eval (.tmp 63) = .int .i64 x292.1), -⟩ := hf
          exact sg_plain rfl rfl (or_assign f_63)
        refine steps_cons (fun own a wx hf hsl hE => ?_) ?_
        · obtain ⟨(f_65 : a.eval (.tmp 65) = .int .i64 x294.1), -⟩ := hf
          exact sg_plain rfl rfl (or_assign f_65)
        exact steps_nil
      intro own302 a302 w302 hd302 hz302 hk302 hf302 hE302
      have e302_0 : a302.eval (.tmp 0) = .slice A177 r176.length cA177 := (hk302 0 rfl).trans e301_0
      have e302_1 : a302.eval (.tmp 1) = .int .i64 c2 := (hk302 1 rfl).trans e301_1
      have e302_2 : a302.eval (.tmp 2) = .bool y3 := (hk302 2 rfl).trans e301_2
      have e302_7 : a302.eval (.tmp 7) = .int .i64 i229 := (hk302 7 rfl).trans e301_7
      have e302_8 : a302.eval (.tmp 8) = .pointer (some ⟨g295, 0, none⟩) := (hk302 8 rfl).trans e301_8
      have e302_9 : a302.eval (.tmp 9) = .pointer (some ⟨g297, 0, none⟩) := (hk302 9 rfl).trans e301_9
      obtain ⟨(f_10 : a302.eval (.tmp 10) = .int .i64 x292.1), (f_11 : a302.eval (.tmp 11) = .int .i64 x294.1), -⟩ := hf302 [4, 5] rfl
      have e302_10 := f_10
      have e302_11 := f_11
      have hX302 := Evo.step hX301 (fun _ => Nat.le_refl 0) hE302 rfl
      have b302_A177 := RdO.evo rfl hE302 b301_A177
      have b302_g295 := BlkO.evo (by decide) hE302 b301_g295
      have b302_g297 := BlkO.evo (by decide) hE302 b301_g297
      refine fl_seq (fun Q303 hn303 hp303 => ?_)
      have K309 : ∀ (a309 : Act) (w309 : World) (own309 : Own) (x307 : Int) (b308 : Int), a309.defers = [] → a309.tmps.size = 118 → a309.eval (.tmp 0) = .slice A177 r176.length cA177 → a309.eval (.tmp 1) = .int .i64 c2 → a309.eval (.tmp 2) = .bool y3 → a309.eval (.tmp 7) = .int .i64 i229 → a309.eval (.tmp 10) = .int .i64 x307 → a309.eval (.tmp 11) = .int .i64 b308 → Evo [] (fun _ => 0) own309 w w309 → RdO own309 [178, 179, 0] w309 R25 A177 cA177 r176 → law21_PolyclipHalves_k2 c2 i229 x307 b308 = some zz275 → Q303 .normal a309 w309 := by
        intro a309 w309 own309 x307 b308 hd310 hz310 e310_0 e310_1 e310_2 e310_7 e310_10 e310_11 hE310 b310_A177 hs
        refine hn303 _ _ ?_
        obtain ⟨x311, hx311, hs⟩ := obind hs
        obtain ⟨x312, hx312, hs⟩ := obind hs
        refine rg_plain_seq (n := 118) (rs := []) (own0 := own309) (K := [])
            (bs := [0, 0, 3, 7, 15, 15, 63, 127, 255, 511, 511, 2047, 4095, 8191, 8191, 32767, 65535, 131071])
            (ds := [⟨[], [10], [], Fct.val 71 (.int .i64 x307)⟩,
            ⟨[], [1], [], Fct.val 72 (.int .i64 c2)⟩,
            ⟨[0, 1], [], [], Fct.val 73 (.bool (decide (x307 < c2)))⟩,
            ⟨[2], [], [], Fct.val 74 (.bool (decide (x307 < c2)))⟩,
            ⟨[3], [1], [], Fct.cond (decide (x307 < c2)) (some 75) (Fct.val 75 (.int .i64 c2))⟩,
            ⟨[3], [11], [], Fct.cond (decide (x307 < c2)) (some 76) (Fct.val 76 (.int .i64 b308))⟩,
            ⟨[3, 4, 5], [], [], Fct.cond (decide (x307 < c2)) (some 77) (Fct.val 77 (.bool (decide (c2 < b308))))⟩,
            ⟨[3, 6], [], [], Fct.val 78 (.bool x311)⟩,
            ⟨[7], [], [], Fct.val 79 (.bool x311)⟩,
            ⟨[8], [11], [], Fct.cond (!x311) (some 80) (Fct.val 80 (.int .i64 b308))⟩,
            ⟨[8], [1], [], Fct.cond (!x311) (some 81) (Fct.val 81 (.int .i64 c2))⟩,
            ⟨[8, 9, 10], [], [], Fct.cond (!x311) (some 82) (Fct.val 82 (.bool (decide (b308 < c2))))⟩,
            ⟨[8, 11], [], [], Fct.cond (!x311) (some 83) (Fct.val 83 (.bool (decide (b308 < c2))))⟩,
            ⟨[12], [1], [], Fct.cond ((!x311) && (decide (b308 < c2))) (some 84) (Fct.val 84 (.int .i64 c2))⟩,
            ⟨[12], [10], [], Fct.cond ((!x311) && (decide (b308 < c2))) (some 85) (Fct.val 85 (.int .i64 x307))⟩,
            ⟨[12, 13, 14], [], [], Fct.cond ((!x311) && (decide (b308 < c2))) (some 86) (Fct.val 86 (.bool (decide (c2 < x307))))⟩,
            ⟨[8, 12, 15], [], [], Fct.cond (!x311) (some 87) (Fct.val 87 (.bool x312))⟩,
            ⟨[8, 16], [], [], Fct.val 88 (.bool (x311 || x312))⟩]) (by kernel_rfl) hz310 hd310 (fun _ h => nomatch h) ?_ ?_
        · refine steps_cons (fun own a wx hf hsl hE => ?_) ?_
          · obtain ⟨s_10, -⟩ := hsl
            exact sg_plain rfl rfl (or_move (s_10.trans e310_10))
          refine steps_cons (fun own a wx hf hsl hE => ?_) ?_
          · obtain ⟨s_1, -⟩ := hsl
            exact sg_plain rfl rfl (or_move (s_1.trans e310_1))
          refine steps_cons (fun own a wx hf hsl hE => ?_) ?_
          · obtain ⟨(f_71 : a.eval (.tmp 71) = .int .i64 x307), (f_72 : a.eval (.tmp 72) = .int .i64 c2), -⟩ := hf
            exact sg_plain rfl rfl (or_lss f_71 f_72 rfl)
          refine steps_cons (fun own a wx hf hsl hE => ?_) ?_
          · obtain ⟨(f_73 : a.eval (.tmp 73) = .bool (decide (x307 < c2))), -⟩ := hf
            exact sg_plain rfl rfl (or_move f_73)
          refine steps_cons (fun own a wx hf hsl hE => ?_) ?_
          · obtain ⟨(f_74 : a.eval (.tmp 74) = .bool (decide (x307 < c2))), -⟩ := hf
            obtain ⟨s_1, -⟩ := hsl
            refine sg_t rfl rfl rfl f_74 (fun hg => ?_)
            exact or_move (s_1.trans e310_1)
          refine steps_cons (fun own a wx hf hsl hE => ?_) ?_
          · obtain ⟨(f_74 : a.eval (.tmp 74) = .bool (decide (x307 < c2))), -⟩ := hf
            obtain ⟨s_11, -⟩ := hsl
            refine sg_t rfl rfl rfl f_74 (fun hg => ?_)
            exact or_move (s_11.trans e310_11)
          refine steps_cons (fun own a wx hf hsl hE => ?_) ?_
          · obtain ⟨(f_74 : a.eval (.tmp 74) = .bool (decide (x307 < c2))), c_75, c_76, -⟩ := hf
            refine sg_t rfl rfl rfl f_74 (fun hg => ?_)
            have f_75 : a.eval (.tmp 75) = .int .i64 c2 := c_75.1 hg
            have f_76 : a.eval (.tmp 76) = .int .i64 b308 := c_76.1 hg
            exact or_lss f_75 f_76 rfl
          refine steps_cons (fun own a wx hf hsl hE => ?_) ?_
          · obtain ⟨(f_74 : a.eval (.tmp 74) = .bool (decide (x307 < c2))), c_77, -⟩ := hf
            exact sg_plain rfl rfl (or_and f_74 (fun hx => c_77.1 hx) rfl (osome hx311).symm)
          refine steps_cons (fun own a wx hf hsl hE => ?_) ?_
          · obtain ⟨(f_78 : a.eval (.tmp 78) = .bool x311), -⟩ := hf
            exact sg_plain rfl rfl (or_move f_78)
          refine steps_cons (fun own a wx hf hsl hE => ?_) ?_
          · obtain ⟨(f_79 : a.eval (.tmp 79) = .bool x311), -⟩ := hf
            obtain ⟨s_11, -⟩ := hsl
            refine sg_f rfl rfl rfl f_79 (fun hg => ?_)
            exact or_move (s_11.trans e310_11)
          refine steps_cons (fun own a wx hf hsl hE => ?_) ?_
          · obtain ⟨(f_79 : a.eval (.tmp 79) = .bool x311), -⟩ := hf
            obtain ⟨s_1, -⟩ := hsl
            refine sg_f rfl rfl rfl f_79 (fun hg => ?_)
            exact or_move (s_1.trans e310_1)
          refine steps_cons (fun own a wx hf hsl hE => ?_) ?_
          · obtain ⟨(f_79 : a.eval (.tmp 79) = .bool x311), c_80, c_81, -⟩ := hf
            refine sg_f rfl rfl rfl f_79 (fun hg => ?_)
            have f_80 : a.eval (.tmp 80) = .int .i64 b308 := c_80.1 hg
            have f_81 : a.eval (.tmp 81) = .int .i64 c2 := c_81.1 hg
            exact or_lss f_80 f_81 rfl
          refine steps_cons (fun own a wx hf hsl hE => ?_) ?_
          · obtain ⟨(f_79 : a.eval (.tmp 79) = .bool x311), c_82, -⟩ := hf
            refine sg_f rfl rfl rfl f_79 (fun hg => ?_)
            have f_82 : a.eval (.tmp 82) = .bool (decide (b308 < c2)) := c_82.1 hg
            exact or_move f_82
          refine steps_cons (fun own a wx hf hsl hE => ?_) ?_
          · obtain ⟨c_83, -⟩ := hf
            obtain ⟨s_1, -⟩ := hsl
            refine sg_tc rfl rfl rfl c_83 (fun hg => ?_)
            have f_83 : a.eval (.tmp 83) = .bool (decide (b308 < c2)) := c_83.1 (gL hg)
            exact or_move (s_1.trans e310_1)
          refine steps_cons (fun own a wx hf hsl hE => ?_) ?_
          · obtain ⟨c_83, -⟩ := hf
            obtain ⟨s_10, -⟩ := hsl
            refine sg_tc rfl rfl rfl c_83 (fun hg => ?_)
            have f_83 : a.eval (.tmp 83) = .bool (decide (b308 < c2)) := c_83.1 (gL hg)
            exact or_move (s_10.trans e310_10)
          refine steps_cons (fun own a wx hf hsl hE => ?_) ?_
          · obtain ⟨c_83, c_84, c_85, -⟩ := hf
            refine sg_tc rfl rfl rfl c_83 (fun hg => ?_)
            have f_83 : a.eval (.tmp 83) = .bool (decide (b308 < c2)) := c_83.1 (gL hg)
            have f_84 : a.eval (.tmp 84) = .int .i64 c2 := c_84.1 hg
            have f_85 : a.eval (.tmp 85) = .int .i64 x307 := c_85.1 hg
            exact or_lss f_84 f_85 rfl
          refine steps_cons (fun own a wx hf hsl hE => ?_) ?_
          · obtain ⟨(f_79 : a.eval (.tmp 79) = .bool x311), c_83, c_86, -⟩ := hf
            refine sg_f rfl rfl rfl f_79 (fun hg => ?_)
            have f_83 : a.eval (.tmp 83) = .bool (decide (b308 < c2)) := c_83.1 hg
            exact or_and f_83 (fun hx => c_86.1 (gI hg hx)) rfl (osome hx312).symm
          refine steps_cons (fun own a wx hf hsl hE => ?_) ?_
          · obtain ⟨(f_79 : a.eval (.tmp 79) = .bool x311), c_87, -⟩ := hf
            exact sg_plain rfl rfl (or_or f_79 rfl (fun hx => c_87.1 hx) rfl)
          exact steps_nil
        intro own313 a313 w313 hd313 hz313 hk313 hf313 hE313
        have e313_0 : a313.eval (.tmp 0) = .slice A177 r176.length cA177 := (hk313 0 rfl).trans e310_0
        have e313_1 : a313.eval (.tmp 1) = .int .i64 c2 := (hk313 1 rfl).trans e310_1
        have e313_2 : a313.eval (.tmp 2) = .bool y3 := (hk313 2 rfl).trans e310_2
        have e313_7 : a313.eval (.tmp 7) = .int .i64 i229 := (hk313 7 rfl).trans e310_7
        obtain ⟨(f_88 : a313.eval (.tmp 88) = .bool (x311 || x312)), -⟩ := hf313 [17] rfl
        have e313_88 := f_88
        have hX313 := Evo.step hE310 (fun _ => Nat.le_refl 0) hE313 rfl
        have b313_A177 := RdO.evo rfl hE313 b310_A177
        refine fl_cond e313_88 hs (fun c314 hs => ?_) (fun c314 hs => ?_)
        · obtain ⟨r315, hr315, hs⟩ := obind hs
          refine rg_plain_seq (n := 118) (rs := []) (own0 := own313) (K := [])
              (bs := [0, 1])
              (ds := [⟨[], [], [], Fct.val 89 (.bool r315)⟩,
              ⟨[0], [], [], Fct.val 6 (.bool r315)⟩]) (by kernel_rfl) hz313 hd313 (fun _ h => nomatch h) ?_ ?_
          · refine steps_cons (fun own a wx hf hsl hE => ?_) ?_
            · exact sg_plain rfl rfl (or_call cf7 (args0) (law21_known_w _   r315 hr315) post_val)
            refine steps_cons (fun own a wx hf hsl hE => ?_) ?_
            · obtain ⟨(f_89 : a.eval (.tmp 89) = .bool r315), -⟩ := hf
              exact sg_plain rfl rfl (or_assign f_89)
            exact steps_nil
          intro own316 a316 w316 hd316 hz316 hk316 hf316 hE316
          obtain ⟨(f_6 : a316.eval (.tmp 6) = .bool r315), -⟩ := hf316 [1] rfl
          have e316_6 := f_6
          have hX316 := Evo.step hX313 (fun _ => Nat.le_refl 0) hE316 rfl
          refine fl_ret ?_
          refine hp281 _ _ _ rfl ?_
          refine hp280 _ _ _ rfl ?_
          replace hs := hz275 _ hs
          refine hp275 _ _ _ rfl ?_
          refine hp183 _ _ _ rfl ?_
          refine hp181 _ _ _ rfl ?_
          obtain rfl := (osome hs).symm
          exact hret _ _ _ _ (.inl rfl) hd316 (results1_ rfl (RVal.tmp_ e316_6)) ⟨own316, rfl, hX316⟩
        refine fl_skip ?_
        refine hn281 _ _ ?_
        refine hn280 _ _ ?_
        refine rg_plain (n := 118) (rs := []) (own0 := own313) (K := [])
            (bs := [0, 1, 3])
            (ds := [⟨[], [7], [], Fct.val 21 (.int .i64 i229)⟩,
            ⟨[0], [], [], Fct.val 22 (.int .i64 (ad i229 1))⟩,
            ⟨[1], [], [], Fct.val 7 (.int .i64 (ad i229 1))⟩]) (by kernel_rfl) hz313 hd313 (fun _ h => nomatch h) ?_ ?_
        · refine steps_cons (fun own a wx hf hsl hE => ?_) ?_
          · obtain ⟨s_7, -⟩ := hsl
            exact sg_plain rfl rfl (or_move (s_7.trans e313_7))
          refine steps_cons (fun own a wx hf hsl hE => ?_) ?_
          · obtain ⟨(f_21 : a.eval (.tmp 21) = .int .i64 i229), -⟩ := hf
            exact sg_plain rfl rfl (or_add f_21 rfl rfl)
          refine steps_cons (fun own a wx hf hsl hE => ?_) ?_
          · obtain ⟨(f_22 : a.eval (.tmp 22) = .int .i64 (ad i229 1)), -⟩ := hf
            exact sg_plain rfl rfl (or_assign f_22)
          exact steps_nil
        intro own317 a317 w317 hd317 hz317 hk317 hf317 hE317
        have e317_0 : a317.eval (.tmp 0) = .slice A177 r176.length cA177 := (hk317 0 rfl).trans e313_0
        have e317_1 : a317.eval (.tmp 1) = .int .i64 c2 := (hk317 1 rfl).trans e313_1
        have e317_2 : a317.eval (.tmp 2) = .bool y3 := (hk317 2 rfl).trans e313_2
        obtain ⟨(f_7 : a317.eval (.tmp 7) = .int .i64 (ad i229 1)), -⟩ := hf317 [2] rfl
        have e317_7 := f_7
        have hX317 := Evo.step hX313 (fun _ => Nat.le_refl 0) hE317 rfl
        have b317_A177 := RdO.evo rfl hE317 b313_A177
        exact hn275 _ _ _ hs ⟨own317, hd317, hz317, e317_0, e317_1, e317_2, e317_7, hX317, b317_A177⟩
      refine rg_plain_seq (n := 118) (rs := []) (own0 := own302) (K := [])
          (bs := [0])
          (ds := [⟨[], [2], [], Fct.val 66 (.bool y3)⟩]) (by kernel_rfl) hz302 hd302 (fun _ h => nomatch h) ?_ ?_
      · refine steps_cons (fun own a wx hf hsl hE => ?_) ?_
        · obtain ⟨s_2, -⟩ := hsl
          exact sg_plain rfl rfl (or_move (s_2.trans e302_2))
        exact steps_nil
      intro own318 a318 w318 hd318 hz318 hk318 hf318 hE318
      have e318_0 : a318.eval (.tmp 0) = .slice A177 r176.length cA177 := (hk318 0 rfl).trans e302_0
      have e318_1 : a318.eval (.tmp 1) = .int .i64 c2 := (hk318 1 rfl).trans e302_1
      have e318_2 : a318.eval (.tmp 2) = .bool y3 := (hk318 2 rfl).trans e302_2
      have e318_7 : a318.eval (.tmp 7) = .int .i64 i229 := (hk318 7 rfl).trans e302_7
      have e318_8 : a318.eval (.tmp 8) = .pointer (some ⟨g295, 0, none⟩) := (hk318 8 rfl).trans e302_8
      have e318_9 : a318.eval (.tmp 9) = .pointer (some ⟨g297, 0, none⟩) := (hk318 9 rfl).trans e302_9
      have e318_10 : a318.eval (.tmp 10) = .int .i64 x292.1 := (hk318 10 rfl).trans e302_10
      have e318_11 : a318.eval (.tmp 11) = .int .i64 x294.1 := (hk318 11 rfl).trans e302_11
      obtain ⟨(f_66 : a318.eval (.tmp 66) = .bool y3), -⟩ := hf318 [0] rfl
      have e318_66 := f_66
      have hX318 := Evo.step hX302 (fun _ => Nat.le_refl 0) hE318 rfl
      have b318_A177 := RdO.evo rfl hE318 b302_A177
      have b318_g295 := BlkO.evo (by decide) hE318 b302_g295
      have b318_g297 := BlkO.evo (by decide) hE318 b302_g297
      refine fl_cond e318_66 hs (fun c319 hs => ?_) (fun c319 hs => ?_)
      · refine rg_draw g_mixed (n := 118) (rs := []) (own0 := own318) (K := [])
            (bs := [0, 1, 0, 4, 3, 31])
            (ds := [⟨[], [8], [], Fct.val 67 (.pointer (some ⟨g295, 1, none⟩))⟩,
            ⟨[0], [], [], Fct.val 68 (.int .i64 x292.2)⟩,
            ⟨[], [9], [], Fct.val 69 (.pointer (some ⟨g297, 1, none⟩))⟩,
            ⟨[2], [], [], Fct.val 70 (.int .i64 x294.2)⟩,
            ⟨[1], [], [], Fct.val 10 (.int .i64 x292.2)⟩,
            ⟨[3], [], [], Fct.val 11 (.int .i64 x294.2)⟩]) (by kernel_rfl) hz318 hd318 (fun _ h => nomatch h) ?_ ?_
        · refine steps_cons (fun own a wx hf hsl hE => ?_) ?_
          · obtain ⟨s_8, -⟩ := hsl
            exact sg_plain rfl rfl (or_field fo25_1 (s_8.trans e318_8) (by rfl))
          refine steps_cons (fun own a wx hf hsl hE => ?_) ?_
          · obtain ⟨(f_67 : a.eval (.tmp 67) = .pointer (some ⟨g295, 1, none⟩)), -⟩ := hf
            exact sg_plain rfl rfl (or_load1 to3 f_67 (Blk.at_ (BlkO.evo (by decide) hE b318_g295).2 1 rfl))
          refine steps_cons (fun own a wx hf hsl hE => ?_) ?_
          · obtain ⟨s_9, -⟩ := hsl
            exact sg_plain rfl rfl (or_field fo25_1 (s_9.trans e318_9) (by rfl))
          refine steps_cons (fun own a wx hf hsl hE => ?_) ?_
          · obtain ⟨(f_69 : a.eval (.tmp 69) = .pointer (some ⟨g297, 1, none⟩)), -⟩ := hf
            exact sg_plain rfl rfl (or_load1 to3 f_69 (Blk.at_ (BlkO.evo (by decide) hE b318_g297).2 1 rfl))
          refine steps_cons (fun own a wx hf hsl hE => ?_) ?_
          · obtain ⟨(f_68 : a.eval (.tmp 68) = .int .i64 x292.2), -⟩ := hf
            exact sg_plain rfl rfl (or_assign f_68)
          refine steps_cons (fun own a wx hf hsl hE => ?_) ?_
          · obtain ⟨(f_70 : a.eval (.tmp 70) = .int .i64 x294.2), -⟩ := hf
            exact sg_plain rfl rfl (or_assign f_70)
          exact steps_nil
        intro own320 a320 w320 hd320 hz320 hk320 hf320 hE320
        have e320_0 : a320.eval (.tmp 0) = .slice A177 r176.length cA177 := (hk320 0 rfl).trans e318_0
        have e320_1 : a320.eval (.tmp 1) = .int .i64 c2 := (hk320 1 rfl).trans e318_1
        have e320_2 : a320.eval (.tmp 2) = .bool y3 := (hk320 2 rfl).trans e318_2
        have e320_7 : a320.eval (.tmp 7) = .int .i64 i229 := (hk320 7 rfl).trans e318_7
        obtain ⟨(f_10 : a320.eval (.tmp 10) = .int .i64 x292.2), (f_11 : a320.eval (.tmp 11) = .int .i64 x294.2), -⟩ := hf320 [4, 5] rfl
        have e320_10 := f_10
        have e320_11 := f_11
        have hX320 := Evo.step hX318 (fun _ => Nat.le_refl 0) hE320 rfl
        have b320_A177 := RdO.evo rfl hE320 b318_A177
        exact (K309 _ _ own320 _ _ hd320 hz320 e320_0 e320_1 e320_2 e320_7 e320_10 e320_11 hX320 b320_A177 hs)
      refine fl_skip ?_
      exact (K309 _ _ own318 _ _ hd318 hz318 e318_0 e318_1 e318_2 e318_7 e318_10 e318_11 hX318 b318_A177 hs)
    refine fl_exit ?_
    refine hp277 _ _ _ rfl ?_
    replace hs := hz275 _ hs
    refine hp275 _ _ _ rfl ?_
    refine hx183 _ _ ?_
    refine hn181 _ _ ?_
    obtain ⟨r321, hr321, hs⟩ := obind hs
    obtain ⟨r324, hr324, hs⟩ := obind hs
    refine rg_plain_seq (n := 118) (rs := []) (own0 := own278) (K := [])
        (bs := [0, 0, 0, 7, 0, 0, 0, 127, 255, 511])
        (ds := [⟨[], [0], [], Fct.val 90 (.slice A177 r176.length cA177)⟩,
        ⟨[], [1], [], Fct.val 91 (.int .i64 c2)⟩,
        ⟨[], [2], [], Fct.val 92 (.bool y3)⟩,
        ⟨[0, 1, 2], [], [], Fct.row 323 [] 93 25 R25 r321⟩,
        ⟨[], [0], [], Fct.val 94 (.slice A177 r176.length cA177)⟩,
        ⟨[], [1], [], Fct.val 95 (.int .i64 c2)⟩,
        ⟨[], [2], [], Fct.val 96 (.bool y3)⟩,
        ⟨[4, 5, 6], [], [], Fct.row 326 [] 97 25 R25 r324⟩,
        ⟨[3], [], [], Fct.rel [12, 93] (fun l => ∀ (A322 : Option Addr) (cA322 : Nat), l.getD 1 undef = .slice A322 r321.length cA322 → l.getD 0 undef = .slice A322 r321.length cA322)⟩,
        ⟨[7], [], [], Fct.rel [13, 97] (fun l => ∀ (A325 : Option Addr) (cA325 : Nat), l.getD 1 undef = .slice A325 r324.length cA325 → l.getD 0 undef = .slice A325 r324.length cA325)⟩]) (by kernel_rfl) hz278 hd278 (fun _ h => nomatch h) ?_ ?_
    · refine steps_cons (fun own a wx hf hsl hE => ?_) ?_
      · obtain ⟨s_0, -⟩ := hsl
        exact sg_plain rfl rfl (or_move (s_0.trans e278_0))
      refine steps_cons (fun own a wx hf hsl hE => ?_) ?_
      · obtain ⟨s_1, -⟩ := hsl
        exact sg_plain rfl rfl (or_move (s_1.trans e278_1))
      refine steps_cons (fun own a wx hf hsl hE => ?_) ?_
      · obtain ⟨s_2, -⟩ := hsl
        exact sg_plain rfl rfl (or_move (s_2.trans e278_2))
      refine steps_cons (fun own a wx hf hsl hE => ?_) ?_
      · obtain ⟨(f_90 : a.eval (.tmp 90) = .slice A177 r176.length cA177), (f_91 : a.eval (.tmp 91) = .int .i64 c2), (f_92 : a.eval (.tmp 92) = .bool y3), -⟩ := hf
        exact sg_plain rfl rfl (or_call cf8 (args4 f_90 f_91 rfl f_92) (polyclip_Half_w _ r176 A177 cA177 c2 true y3 (RdO.zero (RdO.evo rfl hE b278_A177)) r321 hr321) (post_row (m' := (look0 [(1, 323)])) (.inl (Rep.fl_flat _)) rfl rfl (fun _ => rfl)))
      refine steps_cons (fun own a wx hf hsl hE => ?_) ?_
      · obtain ⟨s_0, -⟩ := hsl
        exact sg_plain rfl rfl (or_move (s_0.trans e278_0))
      refine steps_cons (fun own a wx hf hsl hE => ?_) ?_
      · obtain ⟨s_1, -⟩ := hsl
        exact sg_plain rfl rfl (or_move (s_1.trans e278_1))
      refine steps_cons (fun own a wx hf hsl hE => ?_) ?_
      · obtain ⟨s_2, -⟩ := hsl
        exact sg_plain rfl rfl (or_move (s_2.trans e278_2))
      refine steps_cons (fun own a wx hf hsl hE => ?_) ?_
      · obtain ⟨(f_94 : a.eval (.tmp 94) = .slice A177 r176.length cA177), (f_95 : a.eval (.tmp 95) = .int .i64 c2), (f_96 : a.eval (.tmp 96) = .bool y3), -⟩ := hf
        exact sg_plain rfl rfl (or_call cf8 (args4 f_94 f_95 rfl f_96) (polyclip_Half_w _ r176 A177 cA177 c2 false y3 (RdO.zero (RdO.evo rfl hE b278_A177)) r324 hr324) (post_row (m' := (look0 [(1, 326)])) (.inl (Rep.fl_flat _)) rfl rfl (fun _ => rfl)))
      refine steps_cons (fun own a wx hf hsl hE => ?_) ?_
      · obtain ⟨⟨⟨A322, cA322⟩, (f_93 : a.eval (.tmp 93) = .slice A322 r321.length cA322), (b_A322 : RwO own 323 [] wx 25 R25 A322 cA322 r321)⟩, -⟩ := hf
        exact sg_plain rfl rfl (or_mono (f := Fct.val 12 (.slice A322 r321.length cA322)) (or_assign f_93) (fun own' a' w' v' hp h => fun _ _ h0' => by cases (f_93.symm.trans ((hp.2 93 (by decide)).symm.trans h0')); exact h))
      refine steps_cons (fun own a wx hf hsl hE => ?_) ?_
      · obtain ⟨⟨⟨A325, cA325⟩, (f_97 : a.eval (.tmp 97) = .slice A325 r324.length cA325), (b_A325 : RwO own 326 [] wx 25 R25 A325 cA325 r324)⟩, -⟩ := hf
        exact sg_plain rfl rfl (or_mono (f := Fct.val 13 (.slice A325 r324.length cA325)) (or_assign f_97) (fun own' a' w' v' hp h => fun _ _ h0' => by cases (f_97.symm.trans ((hp.2 97 (by decide)).symm.trans h0')); exact h))
      exact steps_nil
    intro own327 a327 w327 hd327 hz327 hk327 hf327 hE327
    have e327_0 : a327.eval (.tmp 0) = .slice A177 r176.length cA177 := (hk327 0 rfl).trans e278_0
    have e327_1 : a327.eval (.tmp 1) = .int .i64 c2 := (hk327 1 rfl).trans e278_1
    have e327_2 : a327.eval (.tmp 2) = .bool y3 := (hk327 2 rfl).trans e278_2
    obtain ⟨⟨⟨A322, cA322⟩, (f_93 : a327.eval (.tmp 93) = .slice A322 r321.length cA322), (b_A322 : RwO own327 323 [] w327 25 R25 A322 cA322 r321)⟩, (q_12 : ∀ (A322 : Option Addr) (cA322 : Nat), a327.eval (.tmp 93) = .slice A322 r321.length cA322 → a327.eval (.tmp 12) = .slice A322 r321.length cA322), ⟨⟨A325, cA325⟩, (f_97 : a327.eval (.tmp 97) = .slice A325 r324.length cA325), (b_A325 : RwO own327 326 [] w327 25 R25 A325 cA325 r324)⟩, (q_13 : ∀ (A325 : Option Addr) (cA325 : Nat), a327.eval (.tmp 97) = .slice A325 r324.length cA325 → a327.eval (.tmp 13) = .slice A325 r324.length cA325), -⟩ := hf327 [3, 8, 7, 9] rfl
    have f_12 := q_12 _ _ f_93
    have f_13 := q_13 _ _ f_97
    have e327_12 := f_12
    have e327_13 := f_13
    have hX327 := Evo.step hX278 (fun _ => Nat.le_refl 0) hE327 rfl
    have b327_A177 := RdO.evo rfl hE327 b278_A177
    have b327_A322 := b_A322
    have b327_A325 := b_A325
    obtain ⟨r328, hr328, hs⟩ := obind hs
    refine rg_plain_seq (n := 118) (rs := []) (own0 := own327) (K := [])
        (bs := [0, 0, 0, 7, 15])
        (ds := [⟨[], [12], [], Fct.val 98 (.slice A322 r321.length cA322)⟩,
        ⟨[], [1], [], Fct.val 99 (.int .i64 c2)⟩,
        ⟨[], [2], [], Fct.val 100 (.bool y3)⟩,
        ⟨[0, 1, 2], [], [], Fct.row 330 [] 101 25 R25 r328⟩,
        ⟨[3], [], [], Fct.rel [14, 101] (fun l => ∀ (A329 : Option Addr) (cA329 : Nat), l.getD 1 undef = .slice A329 r328.length cA329 → l.getD 0 undef = .slice A329 r328.length cA329)⟩]) (by kernel_rfl) hz327 hd327 (fun _ h => nomatch h) ?_ ?_
    · refine steps_cons (fun own a wx hf hsl hE => ?_) ?_
      · obtain ⟨s_12, -⟩ := hsl
        exact sg_plain rfl rfl (or_move (s_12.trans e327_12))
      refine steps_cons (fun own a wx hf hsl hE => ?_) ?_
      · obtain ⟨s_1, -⟩ := hsl
        exact sg_plain rfl rfl (or_move (s_1.trans e327_1))
      refine steps_cons (fun own a wx hf hsl hE => ?_) ?_
      · obtain ⟨s_2, -⟩ := hsl
        exact sg_plain rfl rfl (or_move (s_2.trans e327_2))
      refine steps_cons (fun own a wx hf hsl hE => ?_) ?_
      · obtain ⟨(f_98 : a.eval (.tmp 98) = .slice A322 r321.length cA322), (f_99 : a.eval (.tmp 99) = .int .i64 c2), (f_100 : a.eval (.tmp 100) = .bool y3), -⟩ := hf
        exact sg_plain rfl rfl (or_call cf8 (args4 f_98 f_99 rfl f_100) (polyclip_Half_w _ r321 A322 cA322 c2 false y3 (RdO.zero (RwO.rd (RwO.evo rfl hE b327_A322))) r328 hr328) (post_row (m' := (look0 [(1, 330)])) (.inl (Rep.fl_flat _)) rfl rfl (fun _ => rfl)))
      refine steps_cons (fun own a wx hf hsl hE => ?_) ?_
      · obtain ⟨⟨⟨A329, cA329⟩, (f_101 : a.eval (.tmp 101) = .slice A329 r328.length cA329), (b_A329 : RwO own 330 [] wx 25 R25 A329 cA329 r328)⟩, -⟩ := hf
        exact sg_plain rfl rfl (or_mono (f := Fct.val 14 (.slice A329 r328.length cA329)) (or_assign f_101) (fun own' a' w' v' hp h => fun _ _ h0' => by cases (f_101.symm.trans ((hp.2 101 (by decide)).symm.trans h0')); exact h))
      exact steps_nil
    intro own331 a331 w331 hd331 hz331 hk331 hf331 hE331
    have e331_0 : a331.eval (.tmp 0) = .slice A177 r176.length cA177 := (hk331 0 rfl).trans e327_0
    have e331_12 : a331.eval (.tmp 12) = .slice A322 r321.length cA322 := (hk331 12 rfl).trans e327_12
    have e331_13 : a331.eval (.tmp 13) = .slice A325 r324.length cA325 := (hk331 13 rfl).trans e327_13
    obtain ⟨⟨⟨A329, cA329⟩, (f_101 : a331.eval (.tmp 101) = .slice A329 r328.length cA329), (b_A329 : RwO own331 330 [] w331 25 R25 A329 cA329 r328)⟩, (q_14 : ∀ (A329 : Option Addr) (cA329 : Nat), a331.eval (.tmp 101) = .slice A329 r328.length cA329 → a331.eval (.tmp 14) = .slice A329 r328.length cA329), -⟩ := hf331 [3, 4] rfl
    have f_14 := q_14 _ _ f_101
    have e331_14 := f_14
    have hX331 := Evo.step hX327 (fun _ => Nat.le_refl 0) hE331 rfl
    have b331_A177 := RdO.evo rfl hE331 b327_A177
    have b331_A322 := RwO.evo rfl hE331 b327_A322
    have b331_A325 := RwO.evo rfl hE331 b327_A325
    have b331_A329 := b_A329
    obtain ⟨r332, hr332, hs⟩ := obind hs
    obtain ⟨r333, hr333, hs⟩ := obind hs
    obtain ⟨r334, hr334, hs⟩ := obind hs
    obtain ⟨r335, hr335, hs⟩ := obind hs
    obtain ⟨x336, hx336, hs⟩ := obind hs
    obtain ⟨r337, hr337, hs⟩ := obind hs
    refine rg_plain_seq (n := 118) (rs := []) (own0 := own331) (K := [])
        (bs := [0, 1, 3, 7, 3, 31, 63, 3, 191, 511, 1023, 2047, 4095, 8191, 16383, 32767, 65535])
        (ds := [⟨[], [], [], Fct.val 102 (.bool r332)⟩,
        ⟨[0], [], [], Fct.val 103 (.bool r332)⟩,
        ⟨[1], [12], [], Fct.cond r332 (some 104) (Fct.val 104 (.slice A322 r321.length cA322))⟩,
        ⟨[1, 2], [], [], Fct.cond r332 (some 105) (Fct.val 105 (.int .i64 r333))⟩,
        ⟨[1], [13], [], Fct.cond r332 (some 106) (Fct.val 106 (.slice A325 r324.length cA325))⟩,
        ⟨[1, 4], [], [], Fct.cond r332 (some 107) (Fct.val 107 (.int .i64 r334))⟩,
        ⟨[1, 3, 5], [], [], Fct.cond r332 (some 108) (Fct.val 108 (.int .i64 (ad r333 r334)))⟩,
        ⟨[1], [0], [], Fct.cond r332 (some 109) (Fct.val 109 (.slice A177 r176.length cA177))⟩,
        ⟨[1, 7], [], [], Fct.cond r332 (some 110) (Fct.val 110 (.int .i64 r335))⟩,
        ⟨[1, 6, 8], [], [], Fct.cond r332 (some 111) (Fct.val 111 (.bool (decide ((ad r333 r334) = r335))))⟩,
        ⟨[1, 9], [], [], Fct.val 112 (.bool x336)⟩,
        ⟨[10], [], [], Fct.val 113 (.bool x336)⟩,
        ⟨[11], [14], [], Fct.cond x336 (some 114) (Fct.val 114 (.slice A329 r328.length cA329))⟩,
        ⟨[11, 12], [], [], Fct.cond x336 (some 115) (Fct.val 115 (.int .i64 r337))⟩,
        ⟨[11, 13], [], [], Fct.cond x336 (some 116) (Fct.val 116 (.bool (decide (r337 = 0))))⟩,
        ⟨[11, 14], [], [], Fct.val 117 (.bool (x336 && (decide (r337 = 0))))⟩,
        ⟨[15], [], [], Fct.val 6 (.bool (x336 && (decide (r337 = 0))))⟩]) (by kernel_rfl) hz331 hd331 (fun _ h => nomatch h) ?_ ?_
    · refine steps_cons (fun own a wx hf hsl hE => ?_) ?_
      · exact sg_plain rfl rfl (or_call cf7 (args0) (law21_known_w _   r332 hr332) post_val)
      refine steps_cons (fun own a wx hf hsl hE => ?_) ?_
      · obtain ⟨(f_102 : a.eval (.tmp 102) = .bool r332), -⟩ := hf
        exact sg_plain rfl rfl (or_move f_102)
      refine steps_cons (fun own a wx hf hsl hE => ?_) ?_
      · obtain ⟨(f_103 : a.eval (.tmp 103) = .bool r332), -⟩ := hf
        obtain ⟨s_12, -⟩ := hsl
        refine sg_t rfl rfl rfl f_103 (fun hg => ?_)
        exact or_move (s_12.trans e331_12)
      refine steps_cons (fun own a wx hf hsl hE => ?_) ?_
      · obtain ⟨(f_103 : a.eval (.tmp 103) = .bool r332), c_104, -⟩ := hf
        refine sg_t rfl rfl rfl f_103 (fun hg => ?_)
        have f_104 : a.eval (.tmp 104) = .slice A322 r321.length cA322 := c_104.1 hg
        exact or_call cf9 (args1 f_104) (ring_Area_w _ r321 A322 cA322 (RdO.zero (RwO.rd (RwO.evo rfl hE b331_A322))) r333 (gd_t hr333 hg)) post_val
      refine steps_cons (fun own a wx hf hsl hE => ?_) ?_
      · obtain ⟨(f_103 : a.eval (.tmp 103) = .bool r332), -⟩ := hf
        obtain ⟨s_13, -⟩ := hsl
        refine sg_t rfl rfl rfl f_103 (fun hg => ?_)
        exact or_move (s_13.trans e331_13)
      refine steps_cons (fun own a wx hf hsl hE => ?_) ?_
      · obtain ⟨(f_103 : a.eval (.tmp 103) = .bool r332), c_106, -⟩ := hf
        refine sg_t rfl rfl rfl f_103 (fun hg => ?_)
        have f_106 : a.eval (.tmp 106) = .slice A325 r324.length cA325 := c_106.1 hg
        exact or_call cf9 (args1 f_106) (ring_Area_w _ r324 A325 cA325 (RdO.zero (RwO.rd (RwO.evo rfl hE b331_A325))) r334 (gd_t hr334 hg)) post_val
      refine steps_cons (fun own a wx hf hsl hE => ?_) ?_
      · obtain ⟨(f_103 : a.eval (.tmp 103) = .bool r332), c_105, c_107, -⟩ := hf
        refine sg_t rfl rfl rfl f_103 (fun hg => ?_)
        have f_105 : a.eval (.tmp 105) = .int .i64 r333 := c_105.1 hg
        have f_107 : a.eval (.tmp 107) = .int .i64 r334 := c_107.1 hg
        exact or_add f_105 f_107 rfl
      refine steps_cons (fun own a wx hf hsl hE => ?_) ?_
      · obtain ⟨(f_103 : a.eval (.tmp 103) = .bool r332), -⟩ := hf
        obtain ⟨s_0, -⟩ := hsl
        refine sg_t rfl rfl rfl f_103 (fun hg => ?_)
        exact or_move (s_0.trans e331_0)
      refine steps_cons (fun own a wx hf hsl hE => ?_) ?_
      · obtain ⟨(f_103 : a.eval (.tmp 103) = .bool r332), c_109, -⟩ := hf
        refine sg_t rfl rfl rfl f_103 (fun hg => ?_)
        have f_109 : a.eval (.tmp 109) = .slice A177 r176.length cA177 := c_109.1 hg
        exact or_call cf9 (args1 f_109) (ring_Area_w _ r176 A177 cA177 (RdO.zero (RdO.evo rfl hE b331_A177)) r335 (gd_t hr335 hg)) post_val
      refine steps_cons (fun own a wx hf hsl hE => ?_) ?_
      · obtain ⟨(f_103 : a.eval (.tmp 103) = .bool r332), c_108, c_110, -⟩ := hf
        refine sg_t rfl rfl rfl f_103 (fun hg => ?_)
        have f_108 : a.eval (.tmp 108) = .int .i64 (ad r333 r334) := c_108.1 hg
        have f_110 : a.eval (.tmp 110) = .int .i64 r335 := c_110.1 hg
        exact or_eql f_108 f_110 rfl
      refine steps_cons (fun own a wx hf hsl hE => ?_) ?_
      · obtain ⟨(f_103 : a.eval (.tmp 103) = .bool r332), c_111, -⟩ := hf
        exact sg_plain rfl rfl (or_and f_103 (fun hx => c_111.1 hx) rfl (osome hx336).symm)
      refine steps_cons (fun own a wx hf hsl hE => ?_) ?_
      · obtain ⟨(f_112 : a.eval (.tmp 112) = .bool x336), -⟩ := hf
        exact sg_plain rfl rfl (or_move f_112)
      refine steps_cons (fun own a wx hf hsl hE => ?_) ?_
      · obtain ⟨(f_113 : a.eval (.tmp 113) = .bool x336), -⟩ := hf
        obtain ⟨s_14, -⟩ := hsl
        refine sg_t rfl rfl rfl f_113 (fun hg => ?_)
        exact or_move (s_14.trans e331_14)
      refine steps_cons (fun own a wx hf hsl hE => ?_) ?_
      · obtain ⟨(f_113 : a.eval (.tmp 113) = .bool x336), c_114, -⟩ := hf
        refine sg_t rfl rfl rfl f_113 (fun hg => ?_)
        have f_114 : a.eval (.tmp 114) = .slice A329 r328.length cA329 := c_114.1 hg
        exact or_call cf9 (args1 f_114) (ring_Area_w _ r328 A329 cA329 (RdO.zero (RwO.rd (RwO.evo rfl hE b331_A329))) r337 (gd_t hr337 hg)) post_val
      refine steps_cons (fun own a wx hf hsl hE => ?_) ?_
      · obtain ⟨(f_113 : a.eval (.tmp 113) = .bool x336), c_115, -⟩ := hf
        refine sg_t rfl rfl rfl f_113 (fun hg => ?_)
        have f_115 : a.eval (.tmp 115) = .int .i64 r337 := c_115.1 hg
        exact or_eql f_115 rfl rfl
      refine steps_cons (fun own a wx hf hsl hE => ?_) ?_
      · obtain ⟨(f_113 : a.eval (.tmp 113) = .bool x336), c_116, -⟩ := hf
        exact sg_plain rfl rfl (or_and f_113 (fun hx => c_116.1 hx) rfl rfl)
      refine steps_cons (fun own a wx hf hsl hE => ?_) ?_
      · obtain ⟨(f_117 : a.eval (.tmp 117) = .bool (x336 && (decide (r337 = 0)))), -⟩ := hf
        exact sg_plain rfl rfl (or_assign f_117)
      exact steps_nil
    intro own338 a338 w338 hd338 hz338 hk338 hf338 hE338
    obtain ⟨(f_6 : a338.eval (.tmp 6) = .bool (x336 && (decide (r337 = 0)))), -⟩ := hf338 [16] rfl
    have e338_6 := f_6
    have hX338 := Evo.step hX331 (fun _ => Nat.le_refl 0) hE338 rfl
    refine fl_ret ?_
    obtain rfl := osome hs
    exact hret _ _ _ _ (.inl rfl) hd338 (results1_ rfl (RVal.tmp_ e338_6)) ⟨own338, rfl, hX338⟩

end Go.Proofs.Ytopnbammdeimcaa
