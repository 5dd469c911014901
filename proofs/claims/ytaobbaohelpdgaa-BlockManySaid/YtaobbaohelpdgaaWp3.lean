/-
  Chapter 26. The walks.
-/
import Derived.Test.YtaobbaohelpdgaaWp2
import Derived.Test.YtaobbaohelpdgaaSp3
namespace Go.Proofs.Ytaobbaohelpdgaa
open Go.RowKit
set_option linter.unusedVariables false
set_option maxRecDepth 10000
theorem ref07_Same_w (w : World) (x1 : List Int) (Ax1 : Option Addr) (cx1 : Nat) (b2 : List Int) (Ab2 : Option Addr) (cb2 : Nat) (hx1 : RdO (fun _ => 0) [0] w R5 Ax1 cx1 x1) (hb2 : RdO (fun _ => 0) [0] w R5 Ab2 cb2 b2) (r : Bool) (hs : ref07_Same x1 b2 = some r) :
    Calls Try.prog 14 #[.slice Ax1 x1.length cx1, .slice Ab2 b2.length cb2] w fun e w' => ∃ own' : Own, e = .returned (.bool r) ∧ Evo [] (fun _ => 0) own' w w' := by
  refine fl_enter (n := 26) rfl rfl rfl (Nat.le_of_ble_eq_true rfl) ?_
  intro a0 Q hd0 hz0 harg hret
  have ha0 := harg 0 _ rfl
  have ha1 := harg 1 _ rfl
  clear harg
  have hE0 : Evo [] (fun _ => 0) (fun _ => 0) w w := Evo.refl _ _ _
  refine rg_plain_seq (n := 26) (rs := []) (own0 := (fun _ => 0)) (K := [])
      (bs := [0])
      (ds := [⟨[], [], [], Fct.val 4 (.bool false)⟩]) (by kernel_rfl) hz0 hd0 (fun _ h => nomatch h) ?_ ?_
  · refine steps_cons (fun own a wx hf hsl hE => ?_) ?_
    · exact sg_plain rfl rfl (or_assign rfl)
    exact steps_nil
  intro own58 a58 w58 hd58 hz58 hk58 hf58 hE58
  have e58_0 : a58.eval (.tmp 0) = .slice Ax1 x1.length cx1 := (hk58 0 rfl).trans ha0
  have e58_1 : a58.eval (.tmp 1) = .slice Ab2 b2.length cb2 := (hk58 1 rfl).trans ha1
  have hX58 := Evo.step hE0 (fun _ => Nat.le_refl 0) hE58 rfl
  have b58_Ax1 := RdO.evo rfl hE58 hx1
  have b58_Ab2 := RdO.evo rfl hE58 hb2
  refine fl_seq (fun Q59 hn59 hp59 => ?_)
  refine rg_plain_seq (n := 26) (rs := []) (own0 := own58) (K := [])
      (bs := [0, 1, 0, 4, 15])
      (ds := [⟨[], [0], [], Fct.val 6 (.slice Ax1 x1.length cx1)⟩,
      ⟨[0], [], [], Fct.val 7 (.int .i64 (x1.length : Int))⟩,
      ⟨[], [1], [], Fct.val 8 (.slice Ab2 b2.length cb2)⟩,
      ⟨[2], [], [], Fct.val 9 (.int .i64 (b2.length : Int))⟩,
      ⟨[1, 3], [], [], Fct.val 10 (.bool (!decide ((x1.length : Int) = (b2.length : Int))))⟩]) (by kernel_rfl) hz58 hd58 (fun _ h => nomatch h) ?_ ?_
  · refine steps_cons (fun own a wx hf hsl hE => ?_) ?_
    · obtain ⟨s_0, -⟩ := hsl
      exact sg_plain rfl rfl (or_move (s_0.trans e58_0))
    refine steps_cons (fun own a wx hf hsl hE => ?_) ?_
    · obtain ⟨(f_6 : a.eval (.tmp 6) = .slice Ax1 x1.length cx1), -⟩ := hf
      exact sg_plain rfl rfl (or_len tu33 f_6 rfl)
    refine steps_cons (fun own a wx hf hsl hE => ?_) ?_
    · obtain ⟨s_1, -⟩ := hsl
      exact sg_plain rfl rfl (or_move (s_1.trans e58_1))
    refine steps_cons (fun own a wx hf hsl hE => ?_) ?_
    · obtain ⟨(f_8 : a.eval (.tmp 8) = .slice Ab2 b2.length cb2), -⟩ := hf
      exact sg_plain rfl rfl (or_len tu33 f_8 rfl)
    refine steps_cons (fun own a wx hf hsl hE => ?_) ?_
    · obtain ⟨(f_7 : a.eval (.tmp 7) = .int .i64 (x1.length : Int)), (f_9 : a.eval (.tmp 9) = .int .i64 (b2.length : Int)), -⟩ := hf
      exact sg_plain rfl rfl (or_neq f_7 f_9 rfl)
    exact steps_nil
  intro own60 a60 w60 hd60 hz60 hk60 hf60 hE60
  have e60_0 : a60.eval (.tmp 0) = .slice Ax1 x1.length cx1 := (hk60 0 rfl).trans e58_0
  have e60_1 : a60.eval (.tmp 1) = .slice Ab2 b2.length cb2 := (hk60 1 rfl).trans e58_1
  obtain ⟨(f_10 : a60.eval (.tmp 10) = .bool (!decide ((x1.length : Int) = (b2.length : Int)))), -⟩ := hf60 [4] rfl
  have e60_10 := f_10
  have hX60 := Evo.step hX58 (fun _ => Nat.le_refl 0) hE60 rfl
  have b60_Ax1 := RdO.evo rfl hE60 b58_Ax1
  have b60_Ab2 := RdO.evo rfl hE60 b58_Ab2
  refine fl_cond e60_10 hs (fun c61 hs => ?_) (fun c61 hs => ?_)
  · refine rg_plain_seq (n := 26) (rs := []) (own0 := own60) (K := [])
        (bs := [0])
        (ds := [⟨[], [], [], Fct.val 4 (.bool false)⟩]) (by kernel_rfl) hz60 hd60 (fun _ h => nomatch h) ?_ ?_
    · refine steps_cons (fun own a wx hf hsl hE => ?_) ?_
      · exact sg_plain rfl rfl (or_assign rfl)
      exact steps_nil
    intro own62 a62 w62 hd62 hz62 hk62 hf62 hE62
    obtain ⟨(f_4 : a62.eval (.tmp 4) = .bool false), -⟩ := hf62 [0] rfl
    have e62_4 := f_4
    have hX62 := Evo.step hX60 (fun _ => Nat.le_refl 0) hE62 rfl
    refine fl_ret ?_
    refine hp59 _ _ _ rfl ?_
    obtain rfl := osome hs
    exact hret _ _ _ _ (.inl rfl) hd62 (results1_ rfl (RVal.tmp_ e62_4)) ⟨own62, rfl, hX62⟩
  refine fl_skip ?_
  refine hn59 _ _ ?_
  refine fl_seq (fun Q63 hn63 hp63 => ?_)
  refine rg_plain_seq (n := 26) (rs := []) (own0 := own60) (K := [])
      (bs := [0])
      (ds := [⟨[], [], [], Fct.val 5 (.int .i64 0)⟩]) (by kernel_rfl) hz60 hd60 (fun _ h => nomatch h) ?_ ?_
  · refine steps_cons (fun own a wx hf hsl hE => ?_) ?_
    · exact sg_plain rfl rfl (or_assign rfl)
    exact steps_nil
  intro own64 a64 w64 hd64 hz64 hk64 hf64 hE64
  have e64_0 : a64.eval (.tmp 0) = .slice Ax1 x1.length cx1 := (hk64 0 rfl).trans e60_0
  have e64_1 : a64.eval (.tmp 1) = .slice Ab2 b2.length cb2 := (hk64 1 rfl).trans e60_1
  obtain ⟨(f_5 : a64.eval (.tmp 5) = .int .i64 0), -⟩ := hf64 [0] rfl
  have e64_5 := f_5
  have hX64 := Evo.step hX60 (fun _ => Nat.le_refl 0) hE64 rfl
  have b64_Ax1 := RdO.evo rfl hE64 b60_Ax1
  have b64_Ab2 := RdO.evo rfl hE64 b60_Ab2
  refine fl_block (fun Q65 hn65 hx65 hp65 => ?_)
  refine fl_loop (body := (fun s => ref07_Same_b1 x1 b2 s)) (z := r) (show loopO _ _ = _ from hs) (fun (i78 : Int) a wx => ∃ (ox : Own), a.defers = [] ∧ a.tmps.size = 26 ∧ a.eval (.tmp 0) = .slice Ax1 x1.length cx1 ∧ a.eval (.tmp 1) = .slice Ab2 b2.length cb2 ∧ a.eval (.tmp 5) = .int .i64 i78 ∧ Evo [] (fun _ => 0) ox w wx ∧ RdO ox [0] wx R5 Ax1 cx1 x1 ∧ RdO ox [0] wx R5 Ab2 cb2 b2) ?_ ?_
  · exact ⟨own64, hd64, hz64, e64_0, e64_1, e64_5, hX64, b64_Ax1, b64_Ab2⟩
  · rintro i78 zz91 a91 w91 ⟨own91, hd92, hz92, e92_0, e92_1, e92_5, hE92, b92_Ax1, b92_Ab2⟩ hs Q91 hn91 hp91 hz91
    have hs : ref07_Same_b1 x1 b2 i78 = some zz91 := hs
    refine fl_seq (fun Q93 hn93 hp93 => ?_)
    refine rg_plain_seq (n := 26) (rs := []) (own0 := own91) (K := [])
        (bs := [0, 0, 2, 7])
        (ds := [⟨[], [5], [], Fct.val 11 (.int .i64 i78)⟩,
        ⟨[], [0], [], Fct.val 12 (.slice Ax1 x1.length cx1)⟩,
        ⟨[1], [], [], Fct.val 13 (.int .i64 (x1.length : Int))⟩,
        ⟨[0, 2], [], [], Fct.val 14 (.bool (decide (i78 < (x1.length : Int))))⟩]) (by kernel_rfl) hz92 hd92 (fun _ h => nomatch h) ?_ ?_
    · refine steps_cons (fun own a wx hf hsl hE => ?_) ?_
      · obtain ⟨s_5, -⟩ := hsl
        exact sg_plain rfl rfl (or_move (s_5.trans e92_5))
      refine steps_cons (fun own a wx hf hsl hE => ?_) ?_
      · obtain ⟨s_0, -⟩ := hsl
        exact sg_plain rfl rfl (or_move (s_0.trans e92_0))
      refine steps_cons (fun own a wx hf hsl hE => ?_) ?_
      · obtain ⟨(f_12 : a.eval (.tmp 12) = .slice Ax1 x1.length cx1), -⟩ := hf
        exact sg_plain rfl rfl (or_len tu33 f_12 rfl)
      refine steps_cons (fun own a wx hf hsl hE => ?_) ?_
      · obtain ⟨(f_11 : a.eval (.tmp 11) = .int .i64 i78), (f_13 : a.eval (.tmp 13) = .int .i64 (x1.length : Int)), -⟩ := hf
        exact sg_plain rfl rfl (or_lss f_11 f_13 rfl)
      exact steps_nil
    intro own94 a94 w94 hd94 hz94 hk94 hf94 hE94
    have e94_0 : a94.eval (.tmp 0) = .slice Ax1 x1.length cx1 := (hk94 0 rfl).trans e92_0
    have e94_1 : a94.eval (.tmp 1) = .slice Ab2 b2.length cb2 := (hk94 1 rfl).trans e92_1
    have e94_5 : a94.eval (.tmp 5) = .int .i64 i78 := (hk94 5 rfl).trans e92_5
    obtain ⟨(f_14 : a94.eval (.tmp 14) = .bool (decide (i78 < (x1.length : Int)))), -⟩ := hf94 [3] rfl
    have e94_14 := f_14
    have hX94 := Evo.step hE92 (fun _ => Nat.le_refl 0) hE94 rfl
    have b94_Ax1 := RdO.evo rfl hE94 b92_Ax1
    have b94_Ab2 := RdO.evo rfl hE94 b92_Ab2
    refine fl_cond e94_14 hs (fun c95 hs => ?_) (fun c95 hs => ?_)
    · refine fl_skip ?_
      refine hn93 _ _ ?_
      refine fl_seq (fun Q96 hn96 hp96 => ?_)
      refine fl_block (fun Q97 hn97 hx97 hp97 => ?_)
      obtain ⟨x98, hx98, hs⟩ := obind hs
      obtain ⟨x99, hx99, hs⟩ := obind hs
      refine rg_draw_seq g_mixed (n := 26) (rs := []) (own0 := own94) (K := [])
          (bs := [0, 0, 3, 7, 0, 0, 48, 112, 255])
          (ds := [⟨[], [0], [], Fct.val 17 (.slice Ax1 x1.length cx1)⟩,
          ⟨[], [5], [], Fct.val 18 (.int .i64 i78)⟩,
          ⟨[0, 1], [], [], Fct.val 19 (.pointer (some ((adr Ax1).add ((i78 : Int).toNat * R5.s))))⟩,
          ⟨[2], [], [], Fct.val 20 (.int .u8 x98)⟩,
          ⟨[], [1], [], Fct.val 21 (.slice Ab2 b2.length cb2)⟩,
          ⟨[], [5], [], Fct.val 22 (.int .i64 i78)⟩,
          ⟨[4, 5], [], [], Fct.val 23 (.pointer (some ((adr Ab2).add ((i78 : Int).toNat * R5.s))))⟩,
          ⟨[6], [], [], Fct.val 24 (.int .u8 x99)⟩,
          ⟨[3, 7], [], [], Fct.val 25 (.bool (!decide (x98 = x99)))⟩]) (by kernel_rfl) hz94 hd94 (fun _ h => nomatch h) ?_ ?_
      · refine steps_cons (fun own a wx hf hsl hE => ?_) ?_
        · obtain ⟨s_0, -⟩ := hsl
          exact sg_plain rfl rfl (or_move (s_0.trans e94_0))
        refine steps_cons (fun own a wx hf hsl hE => ?_) ?_
        · obtain ⟨s_5, -⟩ := hsl
          exact sg_plain rfl rfl (or_move (s_5.trans e94_5))
        refine steps_cons (fun own a wx hf hsl hE => ?_) ?_
        · obtain ⟨(f_17 : a.eval (.tmp 17) = .slice Ax1 x1.length cx1), (f_18 : a.eval (.tmp 18) = .int .i64 i78), -⟩ := hf
          exact sg_plain rfl rfl (or_index (R := R5) (l := x1) tl33 f_17 f_18 (RdO.some_ b94_Ax1 hx98) hx98)
        refine steps_cons (fun own a wx hf hsl hE => ?_) ?_
        · obtain ⟨(f_19 : a.eval (.tmp 19) = .pointer (some ((adr Ax1).add ((i78 : Int).toNat * R5.s)))), -⟩ := hf
          exact sg_plain rfl rfl (or_load1 to5 f_19 (CellsAt.zero (RdO.cells (F := E5) (RdO.evo rfl hE b94_Ax1) hx98) rfl))
        refine steps_cons (fun own a wx hf hsl hE => ?_) ?_
        · obtain ⟨s_1, -⟩ := hsl
          exact sg_plain rfl rfl (or_move (s_1.trans e94_1))
        refine steps_cons (fun own a wx hf hsl hE => ?_) ?_
        · obtain ⟨s_5, -⟩ := hsl
          exact sg_plain rfl rfl (or_move (s_5.trans e94_5))
        refine steps_cons (fun own a wx hf hsl hE => ?_) ?_
        · obtain ⟨(f_21 : a.eval (.tmp 21) = .slice Ab2 b2.length cb2), (f_22 : a.eval (.tmp 22) = .int .i64 i78), -⟩ := hf
          exact sg_plain rfl rfl (or_index (R := R5) (l := b2) tl33 f_21 f_22 (RdO.some_ b94_Ab2 hx99) hx99)
        refine steps_cons (fun own a wx hf hsl hE => ?_) ?_
        · obtain ⟨(f_23 : a.eval (.tmp 23) = .pointer (some ((adr Ab2).add ((i78 : Int).toNat * R5.s)))), -⟩ := hf
          exact sg_plain rfl rfl (or_load1 to5 f_23 (CellsAt.zero (RdO.cells (F := E5) (RdO.evo rfl hE b94_Ab2) hx99) rfl))
        refine steps_cons (fun own a wx hf hsl hE => ?_) ?_
        · obtain ⟨(f_20 : a.eval (.tmp 20) = .int .u8 x98), (f_24 : a.eval (.tmp 24) = .int .u8 x99), -⟩ := hf
          exact sg_plain rfl rfl (or_neq f_20 f_24 rfl)
        exact steps_nil
      intro own100 a100 w100 hd100 hz100 hk100 hf100 hE100
      have e100_0 : a100.eval (.tmp 0) = .slice Ax1 x1.length cx1 := (hk100 0 rfl).trans e94_0
      have e100_1 : a100.eval (.tmp 1) = .slice Ab2 b2.length cb2 := (hk100 1 rfl).trans e94_1
      have e100_5 : a100.eval (.tmp 5) = .int .i64 i78 := (hk100 5 rfl).trans e94_5
      obtain ⟨(f_25 : a100.eval (.tmp 25) = .bool (!decide (x98 = x99))), -⟩ := hf100 [8] rfl
      have e100_25 := f_25
      have hX100 := Evo.step hX94 (fun _ => Nat.le_refl 0) hE100 rfl
      have b100_Ax1 := RdO.evo rfl hE100 b94_Ax1
      have b100_Ab2 := RdO.evo rfl hE100 b94_Ab2
      refine fl_cond e100_25 hs (fun c101 hs => ?_) (fun c101 hs => ?_)
      · refine rg_plain_seq (n := 26) (rs := []) (own0 := own100) (K := [])
            (bs := [0])
            (ds := [⟨[], [], [], Fct.val 4 (.bool false)⟩]) (by kernel_rfl) hz100 hd100 (fun _ h => nomatch h) ?_ ?_
        · refine steps_cons (fun own a wx hf hsl hE => ?_) ?_
          · exact sg_plain rfl rfl (or_assign rfl)
          exact steps_nil
        intro own102 a102 w102 hd102 hz102 hk102 hf102 hE102
        obtain ⟨(f_4 : a102.eval (.tmp 4) = .bool false), -⟩ := hf102 [0] rfl
        have e102_4 := f_4
        have hX102 := Evo.step hX100 (fun _ => Nat.le_refl 0) hE102 rfl
        refine fl_ret ?_
        refine hp97 _ _ _ rfl ?_
        refine hp96 _ _ _ rfl ?_
        replace hs := hz91 _ hs
        refine hp91 _ _ _ rfl ?_
        refine hp65 _ _ _ rfl ?_
        refine hp63 _ _ _ rfl ?_
        obtain rfl := osome hs
        exact hret _ _ _ _ (.inl rfl) hd102 (results1_ rfl (RVal.tmp_ e102_4)) ⟨own102, rfl, hX102⟩
      refine fl_skip ?_
      refine hn97 _ _ ?_
      refine hn96 _ _ ?_
      refine rg_plain (n := 26) (rs := []) (own0 := own100) (K := [])
          (bs := [0, 1, 3])
          (ds := [⟨[], [5], [], Fct.val 15 (.int .i64 i78)⟩,
          ⟨[0], [], [], Fct.val 16 (.int .i64 (ad i78 1))⟩,
          ⟨[1], [], [], Fct.val 5 (.int .i64 (ad i78 1))⟩]) (by kernel_rfl) hz100 hd100 (fun _ h => nomatch h) ?_ ?_
      · refine steps_cons (fun own a wx hf hsl hE => ?_) ?_
        · obtain ⟨s_5, -⟩ := hsl
          exact sg_plain rfl rfl (or_move (s_5.trans e100_5))
        refine steps_cons (fun own a wx hf hsl hE => ?_) ?_
        · obtain ⟨(f_15 : a.eval (.tmp 15) = .int .i64 i78), -⟩ := hf
          exact sg_plain rfl rfl (or_add f_15 rfl rfl)
        refine steps_cons (fun own a wx hf hsl hE => ?_) ?_
        · obtain ⟨(f_16 : a.eval (.tmp 16) = .int .i64 (ad i78 1)), -⟩ := hf
          exact sg_plain rfl rfl (or_assign f_16)
        exact steps_nil
      intro own103 a103 w103 hd103 hz103 hk103 hf103 hE103
      have e103_0 : a103.eval (.tmp 0) = .slice Ax1 x1.length cx1 := (hk103 0 rfl).trans e100_0
      have e103_1 : a103.eval (.tmp 1) = .slice Ab2 b2.length cb2 := (hk103 1 rfl).trans e100_1
      obtain ⟨(f_5 : a103.eval (.tmp 5) = .int .i64 (ad i78 1)), -⟩ := hf103 [2] rfl
      have e103_5 := f_5
      have hX103 := Evo.step hX100 (fun _ => Nat.le_refl 0) hE103 rfl
      have b103_Ax1 := RdO.evo rfl hE103 b100_Ax1
      have b103_Ab2 := RdO.evo rfl hE103 b100_Ab2
      exact hn91 _ _ _ hs ⟨own103, hd103, hz103, e103_0, e103_1, e103_5, hX103, b103_Ax1, b103_Ab2⟩
    refine fl_exit ?_
    refine hp93 _ _ _ rfl ?_
    replace hs := hz91 _ hs
    refine hp91 _ _ _ rfl ?_
    refine hx65 _ _ ?_
    refine hn63 _ _ ?_
    refine rg_plain_seq (n := 26) (rs := []) (own0 := own94) (K := [])
        (bs := [0])
        (ds := [⟨[], [], [], Fct.val 4 (.bool true)⟩]) (by kernel_rfl) hz94 hd94 (fun _ h => nomatch h) ?_ ?_
    · refine steps_cons (fun own a wx hf hsl hE => ?_) ?_
      · exact sg_plain rfl rfl (or_assign rfl)
      exact steps_nil
    intro own104 a104 w104 hd104 hz104 hk104 hf104 hE104
    obtain ⟨(f_4 : a104.eval (.tmp 4) = .bool true), -⟩ := hf104 [0] rfl
    have e104_4 := f_4
    have hX104 := Evo.step hX94 (fun _ => Nat.le_refl 0) hE104 rfl
    refine fl_ret ?_
    obtain rfl := osome hs
    exact hret _ _ _ _ (.inl rfl) hd104 (results1_ rfl (RVal.tmp_ e104_4)) ⟨own104, rfl, hX104⟩

theorem law26_known_w (w : World) (r : Bool) (hs : law26_known = some r) :
    Calls Try.prog 7 #[] w fun e w' => ∃ own' : Own, e = .returned (.bool r) ∧ Evo [] (fun _ => 0) own' w w' := by
  refine fl_enter (n := 36) rfl rfl rfl (Nat.le_of_ble_eq_true rfl) ?_
  intro a0 Q hd0 hz0 harg hret
  clear harg
  have hE0 : Evo [] (fun _ => 0) (fun _ => 0) w w := Evo.refl _ _ _
  refine rg_plain_seq (n := 36) (rs := []) (own0 := (fun _ => 0)) (K := [])
      (bs := [0])
      (ds := [⟨[], [], [], Fct.val 0 (.bool false)⟩]) (by kernel_rfl) hz0 hd0 (fun _ h => nomatch h) ?_ ?_
  · refine steps_cons (fun own a wx hf hsl hE => ?_) ?_
    · exact sg_plain rfl rfl (or_assign rfl)
    exact steps_nil
  intro own32 a32 w32 hd32 hz32 hk32 hf32 hE32
  have hX32 := Evo.step hE0 (fun _ => Nat.le_refl 0) hE32 rfl
  obtain ⟨r33, hr33, hs⟩ := obind hs
  refine rg_plain_seq (n := 36) (rs := []) (own0 := own32) (K := [])
      (bs := [0, 1, 3, 7, 7, 15, 63])
      (ds := [⟨[], [], [], Fct.val 6 (.agg #[.slice none 0 0, .slice none 0 0])⟩,
      ⟨[0], [], [], Fct.mems [35] 7 (fun (x : Option Addr × Nat) => .tuple #[.slice x.1 r33.1.length x.2, .int .i64 r33.2]) (fun (x : Option Addr × Nat) own w => RwO own 35 [] w 5 R5 x.1 x.2 r33.1) (fun hk he h => RwO.evo (hits_sub hk (by decide)) he h)⟩,
      ⟨[1], [], [], Fct.rel [5, 7] (fun l => ∀ (A34 : Option Addr) (cA34 : Nat), l.getD 1 undef = .tuple #[.slice A34 r33.1.length cA34, .int .i64 r33.2] → l.getD 0 undef = .tuple #[.slice A34 r33.1.length cA34, .int .i64 r33.2])⟩,
      ⟨[2, 1], [], [], Fct.rel [8, 7] (fun l => ∀ (A34 : Option Addr) (cA34 : Nat), l.getD 1 undef = .tuple #[.slice A34 r33.1.length cA34, .int .i64 r33.2] → l.getD 0 undef = .slice A34 r33.1.length cA34)⟩,
      ⟨[2, 1], [], [], Fct.val 9 (.int .i64 r33.2)⟩,
      ⟨[3, 1], [], [], Fct.rel [1, 7] (fun l => ∀ (A34 : Option Addr) (cA34 : Nat), l.getD 1 undef = .tuple #[.slice A34 r33.1.length cA34, .int .i64 r33.2] → l.getD 0 undef = .slice A34 r33.1.length cA34)⟩,
      ⟨[4], [], [], Fct.val 2 (.int .i64 r33.2)⟩]) (by kernel_rfl) hz32 hd32 (fun _ h => nomatch h) ?_ ?_
  · refine steps_cons (fun own a wx hf hsl hE => ?_) ?_
    · exact sg_plain rfl rfl (or_k [] rfl rfl trivial (by kernel_rfl))
    refine steps_cons (fun own a wx hf hsl hE => ?_) ?_
    · obtain ⟨(f_6 : a.eval (.tmp 6) = .agg #[.slice none 0 0, .slice none 0 0]), -⟩ := hf
      exact sg_plain rfl rfl (or_call cf13 (args1 f_6) (block_Bytes_w _ (([] : List ((List (Int × Int)) × Int × Int)), ([] : List (List (List Int)))) none 0 none 0 RdO.nil_ RdO.nil_ r33 hr33) (post_mems (m := (fun _ => 0)) (m' := (look0 [(1, 35)])) (fun _ _ => .inl rfl) (fun own' w' a' x h1 h => ⟨x, h1, RwO.back_ h (by decide) (.inl (Rep.fl_flat _))⟩)))
    refine steps_cons (fun own a wx hf hsl hE => ?_) ?_
    · obtain ⟨⟨⟨A34, cA34⟩, (f_7 : a.eval (.tmp 7) = .tuple #[.slice A34 r33.1.length cA34, .int .i64 r33.2]), (b_A34 : RwO own 35 [] wx 5 R5 A34 cA34 r33.1)⟩, -⟩ := hf
      exact sg_plain rfl rfl (or_mono (f := Fct.val 5 (.tuple #[.slice A34 r33.1.length cA34, .int .i64 r33.2])) (or_move f_7) (fun own' a' w' v' hp h => fun _ _ h0' => by cases (f_7.symm.trans ((hp.2 7 (by decide)).symm.trans h0')); exact h))
    refine steps_cons (fun own a wx hf hsl hE => ?_) ?_
    · obtain ⟨(q_5 : ∀ (A34 : Option Addr) (cA34 : Nat), a.eval (.tmp 7) = .tuple #[.slice A34 r33.1.length cA34, .int .i64 r33.2] → a.eval (.tmp 5) = .tuple #[.slice A34 r33.1.length cA34, .int .i64 r33.2]), ⟨⟨A34, cA34⟩, (f_7 : a.eval (.tmp 7) = .tuple #[.slice A34 r33.1.length cA34, .int .i64 r33.2]), (b_A34 : RwO own 35 [] wx 5 R5 A34 cA34 r33.1)⟩, -⟩ := hf
      have f_5 := q_5 _ _ f_7
      exact sg_plain rfl rfl (or_mono (f := Fct.val 8 (.slice A34 r33.1.length cA34)) (or_k [(5, .tuple #[.slice A34 r33.1.length cA34, .int .i64 r33.2])] rfl rfl ⟨f_5, trivial⟩ (by kernel_rfl)) (fun own' a' w' v' hp h => fun _ _ h0' => by cases (f_7.symm.trans ((hp.2 7 (by decide)).symm.trans h0')); exact h))
    refine steps_cons (fun own a wx hf hsl hE => ?_) ?_
    · obtain ⟨(q_5 : ∀ (A34 : Option Addr) (cA34 : Nat), a.eval (.tmp 7) = .tuple #[.slice A34 r33.1.length cA34, .int .i64 r33.2] → a.eval (.tmp 5) = .tuple #[.slice A34 r33.1.length cA34, .int .i64 r33.2]), ⟨⟨A34, cA34⟩, (f_7 : a.eval (.tmp 7) = .tuple #[.slice A34 r33.1.length cA34, .int .i64 r33.2]), (b_A34 : RwO own 35 [] wx 5 R5 A34 cA34 r33.1)⟩, -⟩ := hf
      have f_5 := q_5 _ _ f_7
      exact sg_plain rfl rfl (or_k [(5, .tuple #[.slice A34 r33.1.length cA34, .int .i64 r33.2])] rfl rfl ⟨f_5, trivial⟩ (by kernel_rfl))
    refine steps_cons (fun own a wx hf hsl hE => ?_) ?_
    · obtain ⟨(q_8 : ∀ (A34 : Option Addr) (cA34 : Nat), a.eval (.tmp 7) = .tuple #[.slice A34 r33.1.length cA34, .int .i64 r33.2] → a.eval (.tmp 8) = .slice A34 r33.1.length cA34), ⟨⟨A34, cA34⟩, (f_7 : a.eval (.tmp 7) = .tuple #[.slice A34 r33.1.length cA34, .int .i64 r33.2]), (b_A34 : RwO own 35 [] wx 5 R5 A34 cA34 r33.1)⟩, -⟩ := hf
      have f_8 := q_8 _ _ f_7
      exact sg_plain rfl rfl (or_mono (f := Fct.val 1 (.slice A34 r33.1.length cA34)) (or_assign f_8) (fun own' a' w' v' hp h => fun _ _ h0' => by cases (f_7.symm.trans ((hp.2 7 (by decide)).symm.trans h0')); exact h))
    refine steps_cons (fun own a wx hf hsl hE => ?_) ?_
    · obtain ⟨(f_9 : a.eval (.tmp 9) = .int .i64 r33.2), -⟩ := hf
      exact sg_plain rfl rfl (or_assign f_9)
    exact steps_nil
  intro own36 a36 w36 hd36 hz36 hk36 hf36 hE36
  obtain ⟨⟨⟨A34, cA34⟩, (f_7 : a36.eval (.tmp 7) = .tuple #[.slice A34 r33.1.length cA34, .int .i64 r33.2]), (b_A34 : RwO own36 35 [] w36 5 R5 A34 cA34 r33.1)⟩, (q_1 : ∀ (A34 : Option Addr) (cA34 : Nat), a36.eval (.tmp 7) = .tuple #[.slice A34 r33.1.length cA34, .int .i64 r33.2] → a36.eval (.tmp 1) = .slice A34 r33.1.length cA34), (f_2 : a36.eval (.tmp 2) = .int .i64 r33.2), -⟩ := hf36 [1, 5, 6] rfl
  have f_1 := q_1 _ _ f_7
  have e36_1 := f_1
  have e36_2 := f_2
  have hX36 := Evo.step hX32 (fun _ => Nat.le_refl 0) hE36 rfl
  have b36_A34 := b_A34
  obtain ⟨r41, hr41, hs⟩ := obind hs
  refine rg_plain_seq (n := 36) (rs := []) (own0 := own36) (K := [])
      (bs := [0, 0, 3, 7, 15, 31, 63, 127, 255, 255, 511, 2047])
      (ds := [⟨[], [], [], Fct.val 11 (.agg #[.int .i64 0, .int .i64 0])⟩,
      ⟨[], [], [], Fct.val 12 (.agg #[.int .i64 3, .int .i64 0])⟩,
      ⟨[0, 1], [], [], Fct.row 38 [] 13 56 R56 [(0, 0), (3, 0)]⟩,
      ⟨[2], [], [], Fct.rel [14, 13] (fun l => ∀ (A37 : Option Addr) (cA37 : Nat), l.getD 1 undef = .slice A37 [(0, 0), (3, 0)].length cA37 → l.getD 0 undef = .agg #[.slice A37 [(0, 0), (3, 0)].length cA37, .int .i64 0, .int .i64 1])⟩,
      ⟨[3, 2], [], [], Fct.row 40 [38] 15 59 R59 [([(0, 0), (3, 0)], 0, 1)]⟩,
      ⟨[4], [], [], Fct.rel [16, 15] (fun l => ∀ (A39 : Option Addr) (cA39 : Nat), l.getD 1 undef = .slice A39 [([(0, 0), (3, 0)], 0, 1)].length cA39 → l.getD 0 undef = .agg #[.slice A39 [([(0, 0), (3, 0)], 0, 1)].length cA39, .slice none 0 0])⟩,
      ⟨[5, 4], [], [], Fct.mems [43] 17 (fun (x : Option Addr × Nat) => .tuple #[.slice x.1 r41.1.length x.2, .int .i64 r41.2]) (fun (x : Option Addr × Nat) own w => RwO own 43 [] w 5 R5 x.1 x.2 r41.1) (fun hk he h => RwO.evo (hits_sub hk (by decide)) he h)⟩,
      ⟨[6], [], [], Fct.rel [10, 17] (fun l => ∀ (A42 : Option Addr) (cA42 : Nat), l.getD 1 undef = .tuple #[.slice A42 r41.1.length cA42, .int .i64 r41.2] → l.getD 0 undef = .tuple #[.slice A42 r41.1.length cA42, .int .i64 r41.2])⟩,
      ⟨[7, 6], [], [], Fct.rel [18, 17] (fun l => ∀ (A42 : Option Addr) (cA42 : Nat), l.getD 1 undef = .tuple #[.slice A42 r41.1.length cA42, .int .i64 r41.2] → l.getD 0 undef = .slice A42 r41.1.length cA42)⟩,
      ⟨[7, 6], [], [], Fct.val 19 (.int .i64 r41.2)⟩,
      ⟨[8, 6], [], [], Fct.rel [3, 17] (fun l => ∀ (A42 : Option Addr) (cA42 : Nat), l.getD 1 undef = .tuple #[.slice A42 r41.1.length cA42, .int .i64 r41.2] → l.getD 0 undef = .slice A42 r41.1.length cA42)⟩,
      ⟨[9], [], [], Fct.val 4 (.int .i64 r41.2)⟩]) (by kernel_rfl) hz36 hd36 (fun _ h => nomatch h) ?_ ?_
  · refine steps_cons (fun own a wx hf hsl hE => ?_) ?_
    · exact sg_plain rfl rfl (or_k [] rfl rfl trivial (by kernel_rfl))
    refine steps_cons (fun own a wx hf hsl hE => ?_) ?_
    · exact sg_plain rfl rfl (or_k [] rfl rfl trivial (by kernel_rfl))
    refine steps_cons (fun own a wx hf hsl hE => ?_) ?_
    · obtain ⟨(f_11 : a.eval (.tmp 11) = .agg #[.int .i64 0, .int .i64 0]), (f_12 : a.eval (.tmp 12) = .agg #[.int .i64 3, .int .i64 0]), -⟩ := hf
      exact sg_plain rfl rfl (or_lit (lab := 38) (e := 56) (cs := #[.int .i64 0, .int .i64 0, .int .i64 3, .int .i64 0]) (F := E56) (or_new [(11, .agg #[.int .i64 0, .int .i64 0]), (12, .agg #[.int .i64 3, .int .i64 0])] rfl rfl ⟨f_11, f_12, trivial⟩ (by kernel_rfl)) rfl rfl (show 2 ≤ maxLen by decide))
    refine steps_cons (fun own a wx hf hsl hE => ?_) ?_
    · obtain ⟨⟨⟨A37, cA37⟩, (f_13 : a.eval (.tmp 13) = .slice A37 [(0, 0), (3, 0)].length cA37), (b_A37 : RwO own 38 [] wx 56 R56 A37 cA37 [(0, 0), (3, 0)])⟩, -⟩ := hf
      exact sg_plain rfl rfl (or_mono (f := Fct.val 14 (.agg #[.slice A37 [(0, 0), (3, 0)].length cA37, .int .i64 0, .int .i64 1])) (or_k [(13, .slice A37 [(0, 0), (3, 0)].length cA37)] rfl rfl ⟨f_13, trivial⟩ (by kernel_rfl)) (fun own' a' w' v' hp h => fun _ _ h0' => by cases (f_13.symm.trans ((hp.2 13 (by decide)).symm.trans h0')); exact h))
    refine steps_cons (fun own a wx hf hsl hE => ?_) ?_
    · obtain ⟨(q_14 : ∀ (A37 : Option Addr) (cA37 : Nat), a.eval (.tmp 13) = .slice A37 [(0, 0), (3, 0)].length cA37 → a.eval (.tmp 14) = .agg #[.slice A37 [(0, 0), (3, 0)].length cA37, .int .i64 0, .int .i64 1]), ⟨⟨A37, cA37⟩, (f_13 : a.eval (.tmp 13) = .slice A37 [(0, 0), (3, 0)].length cA37), (b_A37 : RwO own 38 [] wx 56 R56 A37 cA37 [(0, 0), (3, 0)])⟩, -⟩ := hf
      have f_14 := q_14 _ _ f_13
      exact sg_plain rfl rfl (or_litN (R := R59) (lab := 40) (L := [38]) (e := 59) (cs := #[.slice A37 [(0, 0), (3, 0)].length cA37, .int .i64 0, .int .i64 1]) (l := [([(0, 0), (3, 0)], 0, 1)]) (n := 1) [(14, .agg #[.slice A37 [(0, 0), (3, 0)].length cA37, .int .i64 0, .int .i64 1])] rfl rfl ⟨f_14, trivial⟩ (by kernel_rfl) rfl (by decide) ⟨(Ex.iff X59).2 ⟨((A37, cA37), (), ()), rfl, ⟨(RwO.rd b_A37), trivial, trivial⟩⟩, rfl⟩ rfl)
    refine steps_cons (fun own a wx hf hsl hE => ?_) ?_
    · obtain ⟨⟨⟨A39, cA39⟩, (f_15 : a.eval (.tmp 15) = .slice A39 [([(0, 0), (3, 0)], 0, 1)].length cA39), (b_A39 : RwO own 40 [38] wx 59 R59 A39 cA39 [([(0, 0), (3, 0)], 0, 1)])⟩, -⟩ := hf
      exact sg_plain rfl rfl (or_mono (f := Fct.val 16 (.agg #[.slice A39 [([(0, 0), (3, 0)], 0, 1)].length cA39, .slice none 0 0])) (or_k [(15, .slice A39 [([(0, 0), (3, 0)], 0, 1)].length cA39)] rfl rfl ⟨f_15, trivial⟩ (by kernel_rfl)) (fun own' a' w' v' hp h => fun _ _ h0' => by cases (f_15.symm.trans ((hp.2 15 (by decide)).symm.trans h0')); exact h))
    refine steps_cons (fun own a wx hf hsl hE => ?_) ?_
    · obtain ⟨(q_16 : ∀ (A39 : Option Addr) (cA39 : Nat), a.eval (.tmp 15) = .slice A39 [([(0, 0), (3, 0)], 0, 1)].length cA39 → a.eval (.tmp 16) = .agg #[.slice A39 [([(0, 0), (3, 0)], 0, 1)].length cA39, .slice none 0 0]), ⟨⟨A39, cA39⟩, (f_15 : a.eval (.tmp 15) = .slice A39 [([(0, 0), (3, 0)], 0, 1)].length cA39), (b_A39 : RwO own 40 [38] wx 59 R59 A39 cA39 [([(0, 0), (3, 0)], 0, 1)])⟩, -⟩ := hf
      have f_16 := q_16 _ _ f_15
      exact sg_plain rfl rfl (or_call cf13 (args1 f_16) (block_Bytes_w _ ([([(0, 0), (3, 0)], 0, 1)], ([] : List (List (List Int)))) A39 cA39 none 0 (RdO.zero (RwO.rd b_A39)) RdO.nil_ r41 hr41) (post_mems (m := (fun _ => 0)) (m' := (look0 [(1, 43)])) (fun _ _ => .inl rfl) (fun own' w' a' x h1 h => ⟨x, h1, RwO.back_ h (by decide) (.inl (Rep.fl_flat _))⟩)))
    refine steps_cons (fun own a wx hf hsl hE => ?_) ?_
    · obtain ⟨⟨⟨A42, cA42⟩, (f_17 : a.eval (.tmp 17) = .tuple #[.slice A42 r41.1.length cA42, .int .i64 r41.2]), (b_A42 : RwO own 43 [] wx 5 R5 A42 cA42 r41.1)⟩, -⟩ := hf
      exact sg_plain rfl rfl (or_mono (f := Fct.val 10 (.tuple #[.slice A42 r41.1.length cA42, .int .i64 r41.2])) (or_move f_17) (fun own' a' w' v' hp h => fun _ _ h0' => by cases (f_17.symm.trans ((hp.2 17 (by decide)).symm.trans h0')); exact h))
    refine steps_cons (fun own a wx hf hsl hE => ?_) ?_
    · obtain ⟨(q_10 : ∀ (A42 : Option Addr) (cA42 : Nat), a.eval (.tmp 17) = .tuple #[.slice A42 r41.1.length cA42, .int .i64 r41.2] → a.eval (.tmp 10) = .tuple #[.slice A42 r41.1.length cA42, .int .i64 r41.2]), ⟨⟨A42, cA42⟩, (f_17 : a.eval (.tmp 17) = .tuple #[.slice A42 r41.1.length cA42, .int .i64 r41.2]), (b_A42 : RwO own 43 [] wx 5 R5 A42 cA42 r41.1)⟩, -⟩ := hf
      have f_10 := q_10 _ _ f_17
      exact sg_plain rfl rfl (or_mono (f := Fct.val 18 (.slice A42 r41.1.length cA42)) (or_k [(10, .tuple #[.slice A42 r41.1.length cA42, .int .i64 r41.2])] rfl rfl ⟨f_10, trivial⟩ (by kernel_rfl)) (fun own' a' w' v' hp h => fun _ _ h0' => by cases (f_17.symm.trans ((hp.2 17 (by decide)).symm.trans h0')); exact h))
    refine steps_cons (fun own a wx hf hsl hE => ?_) ?_
    · obtain ⟨(q_10 : ∀ (A42 : Option Addr) (cA42 : Nat), a.eval (.tmp 17) = .tuple #[.slice A42 r41.1.length cA42, .int .i64 r41.2] → a.eval (.tmp 10) = .tuple #[.slice A42 r41.1.length cA42, .int .i64 r41.2]), ⟨⟨A42, cA42⟩, (f_17 : a.eval (.tmp 17) = .tuple #[.slice A42 r41.1.length cA42, .int .i64 r41.2]), (b_A42 : RwO own 43 [] wx 5 R5 A42 cA42 r41.1)⟩, -⟩ := hf
      have f_10 := q_10 _ _ f_17
      exact sg_plain rfl rfl (or_k [(10, .tuple #[.slice A42 r41.1.length cA42, .int .i64 r41.2])] rfl rfl ⟨f_10, trivial⟩ (by kernel_rfl))
    refine steps_cons (fun own a wx hf hsl hE => ?_) ?_
    · obtain ⟨(q_18 : ∀ (A42 : Option Addr) (cA42 : Nat), a.eval (.tmp 17) = .tuple #[.slice A42 r41.1.length cA42, .int .i64 r41.2] → a.eval (.tmp 18) = .slice A42 r41.1.length cA42), ⟨⟨A42, cA42⟩, (f_17 : a.eval (.tmp 17) = .tuple #[.slice A42 r41.1.length cA42, .int .i64 r41.2]), (b_A42 : RwO own 43 [] wx 5 R5 A42 cA42 r41.1)⟩, -⟩ := hf
      have f_18 := q_18 _ _ f_17
      exact sg_plain rfl rfl (or_mono (f := Fct.val 3 (.slice A42 r41.1.length cA42)) (or_assign f_18) (fun own' a' w' v' hp h => fun _ _ h0' => by cases (f_17.symm.trans ((hp.2 17 (by decide)).symm.trans h0')); exact h))
    refine steps_cons (fun own a wx hf hsl hE => ?_) ?_
    · obtain ⟨(f_19 : a.eval (.tmp 19) = .int .i64 r41.2), -⟩ := hf
      exact sg_plain rfl rfl (or_assign f_19)
    exact steps_nil
  intro own44 a44 w44 hd44 hz44 hk44 hf44 hE44
  have e44_1 : a44.eval (.tmp 1) = .slice A34 r33.1.length cA34 := (hk44 1 rfl).trans e36_1
  have e44_2 : a44.eval (.tmp 2) = .int .i64 r33.2 := (hk44 2 rfl).trans e36_2
  obtain ⟨⟨⟨A42, cA42⟩, (f_17 : a44.eval (.tmp 17) = .tuple #[.slice A42 r41.1.length cA42, .int .i64 r41.2]), (b_A42 : RwO own44 43 [] w44 5 R5 A42 cA42 r41.1)⟩, (q_3 : ∀ (A42 : Option Addr) (cA42 : Nat), a44.eval (.tmp 17) = .tuple #[.slice A42 r41.1.length cA42, .int .i64 r41.2] → a44.eval (.tmp 3) = .slice A42 r41.1.length cA42), (f_4 : a44.eval (.tmp 4) = .int .i64 r41.2), -⟩ := hf44 [6, 10, 11] rfl
  have f_3 := q_3 _ _ f_17
  have e44_3 := f_3
  have e44_4 := f_4
  have hX44 := Evo.step hX36 (fun _ => Nat.le_refl 0) hE44 rfl
  have b44_A34 := RwO.evo rfl hE44 b36_A34
  have b44_A42 := b_A42
  obtain ⟨x45, hx45, hs⟩ := obind hs
  obtain ⟨r48, hr48, hs⟩ := obind hs
  obtain ⟨r51, hr51, hs⟩ := obind hs
  refine rg_plain_seq (n := 36) (rs := []) (own0 := own44) (K := [])
      (bs := [0, 1, 3, 7, 15, 31, 63, 127, 127, 511, 1023, 2047, 4095, 4095, 16383, 32767, 65535])
      (ds := [⟨[], [2], [], Fct.val 20 (.int .i64 r33.2)⟩,
      ⟨[0], [], [], Fct.val 21 (.bool (decide (r33.2 = 0)))⟩,
      ⟨[1], [], [], Fct.val 22 (.bool (decide (r33.2 = 0)))⟩,
      ⟨[2], [4], [], Fct.cond (decide (r33.2 = 0)) (some 23) (Fct.val 23 (.int .i64 r41.2))⟩,
      ⟨[2, 3], [], [], Fct.cond (decide (r33.2 = 0)) (some 24) (Fct.val 24 (.bool (decide (r41.2 = 0))))⟩,
      ⟨[2, 4], [], [], Fct.val 25 (.bool x45)⟩,
      ⟨[5], [], [], Fct.val 26 (.bool x45)⟩,
      ⟨[6], [1], [], Fct.cond x45 (some 27) (Fct.val 27 (.slice A34 r33.1.length cA34))⟩,
      ⟨[6], [], [], Fct.cond x45 (some 28) (Fct.row 47 [] 28 5 R5 [0, 0])⟩,
      ⟨[6, 7, 8], [], [], Fct.cond x45 (some 29) (Fct.val 29 (.bool r48))⟩,
      ⟨[6, 9], [], [], Fct.val 30 (.bool (x45 && r48))⟩,
      ⟨[10], [], [], Fct.val 31 (.bool (x45 && r48))⟩,
      ⟨[11], [3], [], Fct.cond (x45 && r48) (some 32) (Fct.val 32 (.slice A42 r41.1.length cA42))⟩,
      ⟨[11], [], [], Fct.cond (x45 && r48) (some 33) (Fct.row 50 [] 33 5 R5 [1, 0, 1, 2, 0, 0, 6, 0, 0])⟩,
      ⟨[11, 12, 13], [], [], Fct.cond (x45 && r48) (some 34) (Fct.val 34 (.bool r51))⟩,
      ⟨[11, 14], [], [], Fct.val 35 (.bool ((x45 && r48) && r51))⟩,
      ⟨[15], [], [], Fct.val 0 (.bool ((x45 && r48) && r51))⟩]) (by kernel_rfl) hz44 hd44 (fun _ h => nomatch h) ?_ ?_
  · refine steps_cons (fun own a wx hf hsl hE => ?_) ?_
    · obtain ⟨s_2, -⟩ := hsl
      exact sg_plain rfl rfl (or_move (s_2.trans e44_2))
    refine steps_cons (fun own a wx hf hsl hE => ?_) ?_
    · obtain ⟨(f_20 : a.eval (.tmp 20) = .int .i64 r33.2), -⟩ := hf
      exact sg_plain rfl rfl (or_eql f_20 rfl rfl)
    refine steps_cons (fun own a wx hf hsl hE => ?_) ?_
    · obtain ⟨(f_21 : a.eval (.tmp 21) = .bool (decide (r33.2 = 0))), -⟩ := hf
      exact sg_plain rfl rfl (or_move f_21)
    refine steps_cons (fun own a wx hf hsl hE => ?_) ?_
    · obtain ⟨(f_22 : a.eval (.tmp 22) = .bool (decide (r33.2 = 0))), -⟩ := hf
      obtain ⟨s_4, -⟩ := hsl
      refine sg_t rfl rfl rfl f_22 (fun hg => ?_)
      exact or_move (s_4.trans e44_4)
    refine steps_cons (fun own a wx hf hsl hE => ?_) ?_
    · obtain ⟨(f_22 : a.eval (.tmp 22) = .bool (decide (r33.2 = 0))), c_23, -⟩ := hf
      refine sg_t rfl rfl rfl f_22 (fun hg => ?_)
      have f_23 : a.eval (.tmp 23) = .int .i64 r41.2 := c_23.1 hg
      exact or_eql f_23 rfl rfl
    refine steps_cons (fun own a wx hf hsl hE => ?_) ?_
    · obtain ⟨(f_22 : a.eval (.tmp 22) = .bool (decide (r33.2 = 0))), c_24, -⟩ := hf
      exact sg_plain rfl rfl (or_and f_22 (fun hx => c_24.1 hx) rfl (osome hx45).symm)
    refine steps_cons (fun own a wx hf hsl hE => ?_) ?_
    · obtain ⟨(f_25 : a.eval (.tmp 25) = .bool x45), -⟩ := hf
      exact sg_plain rfl rfl (or_move f_25)
    refine steps_cons (fun own a wx hf hsl hE => ?_) ?_
    · obtain ⟨(f_26 : a.eval (.tmp 26) = .bool x45), -⟩ := hf
      obtain ⟨s_1, -⟩ := hsl
      refine sg_t rfl rfl rfl f_26 (fun hg => ?_)
      exact or_move (s_1.trans e44_1)
    refine steps_cons (fun own a wx hf hsl hE => ?_) ?_
    · obtain ⟨(f_26 : a.eval (.tmp 26) = .bool x45), -⟩ := hf
      refine sg_t rfl rfl rfl f_26 (fun hg => ?_)
      exact or_lit (lab := 47) (e := 5) (cs := #[.int .u8 0, .int .u8 0]) (F := E5) (or_new [] rfl rfl trivial (by kernel_rfl)) rfl rfl (show 2 ≤ maxLen by decide)
    refine steps_cons (fun own a wx hf hsl hE => ?_) ?_
    · obtain ⟨(f_26 : a.eval (.tmp 26) = .bool x45), c_27, c_28, -⟩ := hf
      refine sg_t rfl rfl rfl f_26 (fun hg => ?_)
      have f_27 : a.eval (.tmp 27) = .slice A34 r33.1.length cA34 := c_27.1 hg
      obtain ⟨⟨A46, cA46⟩, (f_28 : a.eval (.tmp 28) = .slice A46 [0, 0].length cA46), (b_A46 : RwO own 47 [] wx 5 R5 A46 cA46 [0, 0])⟩ := c_28.1 hg
      exact or_call cf14 (args2 f_27 f_28) (ref07_Same_w _ r33.1 A34 cA34 [0, 0] A46 cA46 (RdO.zero (RwO.rd (RwO.evo rfl hE b44_A34))) (RdO.zero (RwO.rd b_A46)) r48 (gd_t hr48 hg)) post_val
    refine steps_cons (fun own a wx hf hsl hE => ?_) ?_
    · obtain ⟨(f_26 : a.eval (.tmp 26) = .bool x45), c_29, -⟩ := hf
      exact sg_plain rfl rfl (or_and f_26 (fun hx => c_29.1 hx) rfl rfl)
    refine steps_cons (fun own a wx hf hsl hE => ?_) ?_
    · obtain ⟨(f_30 : a.eval (.tmp 30) = .bool (x45 && r48)), -⟩ := hf
      exact sg_plain rfl rfl (or_move f_30)
    refine steps_cons (fun own a wx hf hsl hE => ?_) ?_
    · obtain ⟨(f_31 : a.eval (.tmp 31) = .bool (x45 && r48)), -⟩ := hf
      obtain ⟨s_3, -⟩ := hsl
      refine sg_t rfl rfl rfl f_31 (fun hg => ?_)
      exact or_move (s_3.trans e44_3)
    refine steps_cons (fun own a wx hf hsl hE => ?_) ?_
    · obtain ⟨(f_31 : a.eval (.tmp 31) = .bool (x45 && r48)), -⟩ := hf
      refine sg_t rfl rfl rfl f_31 (fun hg => ?_)
      exact or_lit (lab := 50) (e := 5) (cs := #[.int .u8 1, .int .u8 0, .int .u8 1, .int .u8 2, .int .u8 0, .int .u8 0, .int .u8 6, .int .u8 0, .int .u8 0]) (F := E5) (or_new [] rfl rfl trivial (by kernel_rfl)) rfl rfl (show 9 ≤ maxLen by decide)
    refine steps_cons (fun own a wx hf hsl hE => ?_) ?_
    · obtain ⟨(f_31 : a.eval (.tmp 31) = .bool (x45 && r48)), c_32, c_33, -⟩ := hf
      refine sg_t rfl rfl rfl f_31 (fun hg => ?_)
      have f_32 : a.eval (.tmp 32) = .slice A42 r41.1.length cA42 := c_32.1 hg
      obtain ⟨⟨A49, cA49⟩, (f_33 : a.eval (.tmp 33) = .slice A49 [1, 0, 1, 2, 0, 0, 6, 0, 0].length cA49), (b_A49 : RwO own 50 [] wx 5 R5 A49 cA49 [1, 0, 1, 2, 0, 0, 6, 0, 0])⟩ := c_33.1 hg
      exact or_call cf14 (args2 f_32 f_33) (ref07_Same_w _ r41.1 A42 cA42 [1, 0, 1, 2, 0, 0, 6, 0, 0] A49 cA49 (RdO.zero (RwO.rd (RwO.evo rfl hE b44_A42))) (RdO.zero (RwO.rd b_A49)) r51 (gd_t hr51 hg)) post_val
    refine steps_cons (fun own a wx hf hsl hE => ?_) ?_
    · obtain ⟨(f_31 : a.eval (.tmp 31) = .bool (x45 && r48)), c_34, -⟩ := hf
      exact sg_plain rfl rfl (or_and f_31 (fun hx => c_34.1 hx) rfl rfl)
    refine steps_cons (fun own a wx hf hsl hE => ?_) ?_
    · obtain ⟨(f_35 : a.eval (.tmp 35) = .bool ((x45 && r48) && r51)), -⟩ := hf
      exact sg_plain rfl rfl (or_assign f_35)
    exact steps_nil
  intro own52 a52 w52 hd52 hz52 hk52 hf52 hE52
  obtain ⟨(f_0 : a52.eval (.tmp 0) = .bool ((x45 && r48) && r51)), -⟩ := hf52 [16] rfl
  have e52_0 := f_0
  have hX52 := Evo.step hX44 (fun _ => Nat.le_refl 0) hE52 rfl
  refine fl_ret ?_
  obtain rfl := osome hs
  exact hret _ _ _ _ (.inl rfl) hd52 (results1_ rfl (RVal.tmp_ e52_0)) ⟨own52, rfl, hX52⟩

set_option maxHeartbeats 2000000 in
theorem law26_BlockMany_w (w : World) (faces1 : Int) (rings2 : Int) (r : Bool) (hs : law26_BlockMany faces1 rings2 = some r) :
    Calls Try.prog 3 #[.int .i64 faces1, .int .i64 rings2] w fun e w' => ∃ own' : Own, e = .returned (.bool r) ∧ Evo [] (fun _ => 0) own' w w' := by
  refine fl_enter (n := 72) rfl rfl rfl (Nat.le_of_ble_eq_true rfl) ?_
  intro a0 Q hd0 hz0 harg hret
  have ha0 := harg 0 _ rfl
  have ha1 := harg 1 _ rfl
  clear harg
  have hE0 : Evo [] (fun _ => 0) (fun _ => 0) w w := Evo.refl _ _ _
  refine rg_plain_seq (n := 72) (rs := []) (own0 := (fun _ => 0)) (K := [])
      (bs := [0])
      (ds := [⟨[], [], [], Fct.val 4 (.bool false)⟩]) (by kernel_rfl) hz0 hd0 (fun _ h => nomatch h) ?_ ?_
  · refine steps_cons (fun own a wx hf hsl hE => ?_) ?_
    · exact sg_plain rfl rfl (or_assign rfl)
    exact steps_nil
  intro own232 a232 w232 hd232 hz232 hk232 hf232 hE232
  have e232_0 : a232.eval (.tmp 0) = .int .i64 faces1 := (hk232 0 rfl).trans ha0
  have e232_1 : a232.eval (.tmp 1) = .int .i64 rings2 := (hk232 1 rfl).trans ha1
  have hX232 := Evo.step hE0 (fun _ => Nat.le_refl 0) hE232 rfl
  refine rg_plain_seq (n := 72) (rs := []) (own0 := own232) (K := [])
      (bs := [0])
      (ds := [⟨[], [], [], Fct.blk 234 5 (fun g => .pointer (some ⟨g, 0, none⟩)) 25 #[.slice none 0 0, .slice none 0 0]⟩]) (by kernel_rfl) hz232 hd232 (fun _ h => nomatch h) ?_ ?_
  · refine steps_cons (fun own a wx hf hsl hE => ?_) ?_
    · exact sg_plain rfl rfl (or_new [] rfl rfl trivial (by kernel_rfl))
    exact steps_nil
  intro own235 a235 w235 hd235 hz235 hk235 hf235 hE235
  have e235_0 : a235.eval (.tmp 0) = .int .i64 faces1 := (hk235 0 rfl).trans e232_0
  have e235_1 : a235.eval (.tmp 1) = .int .i64 rings2 := (hk235 1 rfl).trans e232_1
  obtain ⟨⟨g233, (f_5 : a235.eval (.tmp 5) = .pointer (some ⟨g233, 0, none⟩)), (b_g233 : BlkO own235 234 w235 g233 25 #[.slice none 0 0, .slice none 0 0])⟩, -⟩ := hf235 [0] rfl
  have e235_5 := f_5
  have hX235 := Evo.step hX232 (fun _ => Nat.le_refl 0) hE235 rfl
  have b235_g233 := b_g233
  obtain ⟨x236, hx236, hs⟩ := obind hs
  obtain ⟨x237, hx237, hs⟩ := obind hs
  refine rg_plain_seq (n := 72) (rs := []) (own0 := own235) (K := [])
      (bs := [0, 1, 3, 7, 0, 16, 48, 112, 15, 511])
      (ds := [⟨[], [0], [], Fct.val 11 (.int .i64 faces1)⟩,
      ⟨[0], [], [], Fct.val 12 (.int .u64 (IntKind.u64.wrap faces1))⟩,
      ⟨[1], [], [], Fct.val 13 (.int .u64 x236)⟩,
      ⟨[2], [], [], Fct.val 14 (.int .i64 (IntKind.i64.wrap x236))⟩,
      ⟨[], [1], [], Fct.val 15 (.int .i64 rings2)⟩,
      ⟨[4], [], [], Fct.val 16 (.int .u64 (IntKind.u64.wrap rings2))⟩,
      ⟨[5], [], [], Fct.val 17 (.int .u64 x237)⟩,
      ⟨[6], [], [], Fct.val 18 (.int .i64 (IntKind.i64.wrap x237))⟩,
      ⟨[3], [], [], Fct.val 6 (.int .i64 (IntKind.i64.wrap x236))⟩,
      ⟨[7], [], [], Fct.val 7 (.int .i64 (IntKind.i64.wrap x237))⟩]) (by kernel_rfl) hz235 hd235 (fun _ h => nomatch h) ?_ ?_
  · refine steps_cons (fun own a wx hf hsl hE => ?_) ?_
    · obtain ⟨s_0, -⟩ := hsl
      exact sg_plain rfl rfl (or_move (s_0.trans e235_0))
    refine steps_cons (fun own a wx hf hsl hE => ?_) ?_
    · obtain ⟨(f_11 : a.eval (.tmp 11) = .int .i64 faces1), -⟩ := hf
      exact sg_plain rfl rfl (or_conv f_11 tn3 tn26 rfl)
    refine steps_cons (fun own a wx hf hsl hE => ?_) ?_
    · obtain ⟨(f_12 : a.eval (.tmp 12) = .int .u64 (IntKind.u64.wrap faces1)), -⟩ := hf
      exact sg_plain rfl rfl (or_rem f_12 rfl hx236)
    refine steps_cons (fun own a wx hf hsl hE => ?_) ?_
    · obtain ⟨(f_13 : a.eval (.tmp 13) = .int .u64 x236), -⟩ := hf
      exact sg_plain rfl rfl (or_conv f_13 tn26 tn3 rfl)
    refine steps_cons (fun own a wx hf hsl hE => ?_) ?_
    · obtain ⟨s_1, -⟩ := hsl
      exact sg_plain rfl rfl (or_move (s_1.trans e235_1))
    refine steps_cons (fun own a wx hf hsl hE => ?_) ?_
    · obtain ⟨(f_15 : a.eval (.tmp 15) = .int .i64 rings2), -⟩ := hf
      exact sg_plain rfl rfl (or_conv f_15 tn3 tn26 rfl)
    refine steps_cons (fun own a wx hf hsl hE => ?_) ?_
    · obtain ⟨(f_16 : a.eval (.tmp 16) = .int .u64 (IntKind.u64.wrap rings2)), -⟩ := hf
      exact sg_plain rfl rfl (or_rem f_16 rfl hx237)
    refine steps_cons (fun own a wx hf hsl hE => ?_) ?_
    · obtain ⟨(f_17 : a.eval (.tmp 17) = .int .u64 x237), -⟩ := hf
      exact sg_plain rfl rfl (or_conv f_17 tn26 tn3 rfl)
    refine steps_cons (fun own a wx hf hsl hE => ?_) ?_
    · obtain ⟨(f_14 : a.eval (.tmp 14) = .int .i64 (IntKind.i64.wrap x236)), -⟩ := hf
      exact sg_plain rfl rfl (or_assign f_14)
    refine steps_cons (fun own a wx hf hsl hE => ?_) ?_
    · obtain ⟨(f_18 : a.eval (.tmp 18) = .int .i64 (IntKind.i64.wrap x237)), -⟩ := hf
      exact sg_plain rfl rfl (or_assign f_18)
    exact steps_nil
  intro own238 a238 w238 hd238 hz238 hk238 hf238 hE238
  have e238_5 : a238.eval (.tmp 5) = .pointer (some ⟨g233, 0, none⟩) := (hk238 5 rfl).trans e235_5
  obtain ⟨(f_6 : a238.eval (.tmp 6) = .int .i64 (IntKind.i64.wrap x236)), (f_7 : a238.eval (.tmp 7) = .int .i64 (IntKind.i64.wrap x237)), -⟩ := hf238 [8, 9] rfl
  have e238_6 := f_6
  have e238_7 := f_7
  have hX238 := Evo.step hX235 (fun _ => Nat.le_refl 0) hE238 rfl
  have b238_g233 := BlkO.evo (by decide) hE238 b235_g233
  refine fl_seq (fun Q239 hn239 hp239 => ?_)
  refine rg_plain_seq (n := 72) (rs := []) (own0 := own238) (K := [])
      (bs := [0])
      (ds := [⟨[], [], [], Fct.val 8 (.int .i64 0)⟩]) (by kernel_rfl) hz238 hd238 (fun _ h => nomatch h) ?_ ?_
  · refine steps_cons (fun own a wx hf hsl hE => ?_) ?_
    · exact sg_plain rfl rfl (or_assign rfl)
    exact steps_nil
  intro own240 a240 w240 hd240 hz240 hk240 hf240 hE240
  have e240_5 : a240.eval (.tmp 5) = .pointer (some ⟨g233, 0, none⟩) := (hk240 5 rfl).trans e238_5
  have e240_6 : a240.eval (.tmp 6) = .int .i64 (IntKind.i64.wrap x236) := (hk240 6 rfl).trans e238_6
  have e240_7 : a240.eval (.tmp 7) = .int .i64 (IntKind.i64.wrap x237) := (hk240 7 rfl).trans e238_7
  obtain ⟨(f_8 : a240.eval (.tmp 8) = .int .i64 0), -⟩ := hf240 [0] rfl
  have e240_8 := f_8
  have hX240 := Evo.step hX238 (fun _ => Nat.le_refl 0) hE240 rfl
  have b240_g233 := BlkO.evo (by decide) hE240 b238_g233
  refine fl_block (fun Q241 hn241 hx241 hp241 => ?_)
  refine fl_loop (body := (fun s => law26_BlockMany_b1 x236 x237 s.1 s.2)) (z := r) (show loopO _ _ = _ from hs) (fun (s : (List (List (List Int))) × Int) a wx => match s with | (n272, i275) => ∃ (ox : Own) (A270 : Option Addr) (c271 : Nat), a.defers = [] ∧ a.tmps.size = 72 ∧ a.eval (.tmp 5) = .pointer (some ⟨g233, 0, none⟩) ∧ a.eval (.tmp 6) = .int .i64 (IntKind.i64.wrap x236) ∧ a.eval (.tmp 7) = .int .i64 (IntKind.i64.wrap x237) ∧ a.eval (.tmp 8) = .int .i64 i275 ∧ Evo [] (fun _ => 0) ox w wx ∧ BlkO ox 269 wx g233 25 #[.slice none 0 0, .slice A270 n272.length c271] ∧ RwN ox 273 274 [] wx 27 28 R28 A270 c271 n272) ?_ ?_
  · exact ⟨(rl [(234, 269)] own240), none, 0, hd240, hz240, e240_5, e240_6, e240_7, e240_8, (Evo.rl_ hX240 (fun _ => Nat.le_refl 0) rfl), (BlkO.rl_ (mm := [(234, 269)]) b240_g233), RwN.nil_⟩
  · rintro ⟨n272, i275⟩ zz302 a302 w302 ⟨own302, A270, c271, hd303, hz303, e303_5, e303_6, e303_7, e303_8, hE303, b303_g233, b303_A270⟩ hs Q302 hn302 hp302 hz302
    have hs : law26_BlockMany_b1 x236 x237 n272 i275 = some zz302 := hs
    refine fl_seq (fun Q304 hn304 hp304 => ?_)
    refine rg_plain_seq (n := 72) (rs := []) (own0 := own302) (K := [])
        (bs := [0, 0, 3])
        (ds := [⟨[], [8], [], Fct.val 19 (.int .i64 i275)⟩,
        ⟨[], [6], [], Fct.val 20 (.int .i64 (IntKind.i64.wrap x236))⟩,
        ⟨[0, 1], [], [], Fct.val 21 (.bool (decide (i275 < (IntKind.i64.wrap x236))))⟩]) (by kernel_rfl) hz303 hd303 (fun _ h => nomatch h) ?_ ?_
    · refine steps_cons (fun own a wx hf hsl hE => ?_) ?_
      · obtain ⟨s_8, -⟩ := hsl
        exact sg_plain rfl rfl (or_move (s_8.trans e303_8))
      refine steps_cons (fun own a wx hf hsl hE => ?_) ?_
      · obtain ⟨s_6, -⟩ := hsl
        exact sg_plain rfl rfl (or_move (s_6.trans e303_6))
      refine steps_cons (fun own a wx hf hsl hE => ?_) ?_
      · obtain ⟨(f_19 : a.eval (.tmp 19) = .int .i64 i275), (f_20 : a.eval (.tmp 20) = .int .i64 (IntKind.i64.wrap x236)), -⟩ := hf
        exact sg_plain rfl rfl (or_lss f_19 f_20 rfl)
      exact steps_nil
    intro own305 a305 w305 hd305 hz305 hk305 hf305 hE305
    have e305_5 : a305.eval (.tmp 5) = .pointer (some ⟨g233, 0, none⟩) := (hk305 5 rfl).trans e303_5
    have e305_6 : a305.eval (.tmp 6) = .int .i64 (IntKind.i64.wrap x236) := (hk305 6 rfl).trans e303_6
    have e305_7 : a305.eval (.tmp 7) = .int .i64 (IntKind.i64.wrap x237) := (hk305 7 rfl).trans e303_7
    have e305_8 : a305.eval (.tmp 8) = .int .i64 i275 := (hk305 8 rfl).trans e303_8
    obtain ⟨(f_21 : a305.eval (.tmp 21) = .bool (decide (i275 < (IntKind.i64.wrap x236)))), -⟩ := hf305 [2] rfl
    have e305_21 := f_21
    have hX305 := Evo.step hE303 (fun _ => Nat.le_refl 0) hE305 rfl
    have b305_g233 := BlkO.evo (by decide) hE305 b303_g233
    have b305_A270 := RwN.evo rfl hE305 b303_A270
    refine fl_cond e305_21 hs (fun c306 hs => ?_) (fun c306 hs => ?_)
    · refine fl_skip ?_
      refine hn304 _ _ ?_
      refine fl_seq (fun Q307 hn307 hp307 => ?_)
      refine fl_block (fun Q308 hn308 hx308 hp308 => ?_)
      obtain ⟨x322, hx322, hs⟩ := obind hs
      refine rg_plain (n := 72) (rs := [Fct.rownAt 273 274 [] 27 28 R28 A270 c271 n272, Fct.at_ 269 g233 25 #[.slice none 0 0, .slice A270 n272.length c271]]) (own0 := own305) (K := [273, 274, 321, 269])
          (bs := [0, 1, 0, 7, 15, 31])
          (ds := [⟨[], [5], [], Fct.val 24 (.pointer (some ⟨g233, 1, none⟩))⟩,
          ⟨[0, 7], [], [], Fct.val 25 (.slice A270 n272.length c271)⟩,
          ⟨[], [], [], Fct.rown 320 321 [] 26 27 28 R28 [([] : List (List Int))]⟩,
          ⟨[1, 2, 6], [], [273, 274, 321], Fct.rown 323 324 [] 27 27 28 R28 x322⟩,
          ⟨[], [5], [], Fct.val 28 (.pointer (some ⟨g233, 1, none⟩))⟩,
          ⟨[4, 3, 7], [], [269], Fct.by_ [326] [27] (fun l own w => ∀ (A325 : Option Addr) (cA325 : Nat), l.getD 0 undef = .slice A325 x322.length cA325 → BlkO own 326 w g233 25 #[.slice none 0 0, .slice A325 x322.length cA325]) (fun hk he h _ _ h0' => BlkO.evo (not_hit hk (by decide)) he (h _ _ h0'))⟩]) (by kernel_rfl) hz305 hd305 (by simp only [List.forall_mem_cons]; exact ⟨b305_A270, b305_g233, fun _ h => nomatch h⟩) ?_ ?_
      · refine steps_cons (fun own a wx hf hsl hE => ?_) ?_
        · obtain ⟨s_5, -⟩ := hsl
          exact sg_plain rfl rfl (or_field fo25_1 (s_5.trans e305_5) (by rfl))
        refine steps_cons (fun own a wx hf hsl hE => ?_) ?_
        · obtain ⟨(f_24 : a.eval (.tmp 24) = .pointer (some ⟨g233, 1, none⟩)), (b_g233 : BlkO own 269 wx g233 25 #[.slice none 0 0, .slice A270 n272.length c271]), -⟩ := hf
          exact sg_plain rfl rfl (or_load1 to23 f_24 (Blk.at_ b_g233.2 1 rfl))
        refine steps_cons (fun own a wx hf hsl hE => ?_) ?_
        · exact sg_plain rfl rfl (or_litO (R := R28) (lab := 320) (labE := 321) (L := []) (e := 27) (e2 := 28) (xl := ([] : List (List Int))) [] rfl rfl trivial (by kernel_rfl) rfl RwO.nil_ rfl)
        refine steps_cons (fun own a wx hf hsl hE => ?_) ?_
        · obtain ⟨(f_25 : a.eval (.tmp 25) = .slice A270 n272.length c271), ⟨⟨A319, cA319⟩, (f_26 : a.eval (.tmp 26) = .slice A319 [([] : List (List Int))].length cA319), (b_A319 : RwN own 320 321 [] wx 27 28 R28 A319 cA319 [([] : List (List Int))])⟩, (b_A270 : RwN own 273 274 [] wx 27 28 R28 A270 c271 n272), -⟩ := hf
          exact sg_plain rfl rfl (or_appendO (R := R28) (lab := 273) (labE := 274) (lab2 := 323) (lab3 := 324) (L := []) (L3 := []) tp23 f_25 b_A270 f_26 b_A319 hx322 (by decide) (by decide) (mem_of rfl) (mem_of rfl) (mem_of rfl) (by decide) (by decide) (by decide) (by decide) (by decide) (by decide) (by decide) rfl (by decide) (by decide))
        refine steps_cons (fun own a wx hf hsl hE => ?_) ?_
        · obtain ⟨s_5, -⟩ := hsl
          exact sg_plain rfl rfl (or_field fo25_1 (s_5.trans e305_5) (by rfl))
        refine steps_cons (fun own a wx hf hsl hE => ?_) ?_
        · obtain ⟨(f_28 : a.eval (.tmp 28) = .pointer (some ⟨g233, 1, none⟩)), ⟨⟨A325, cA325⟩, (f_27 : a.eval (.tmp 27) = .slice A325 x322.length cA325), (b_A325 : RwN own 323 324 [] wx 27 28 R28 A325 cA325 x322)⟩, (b_g233 : BlkO own 269 wx g233 25 #[.slice none 0 0, .slice A270 n272.length c271]), -⟩ := hf
          exact sg_plain rfl rfl (or_store1 (lab := 269) (lab2 := 326) ts23 f_28 f_27 b_g233 (by simp) rfl (mem_of rfl) (by decide) rfl (fun own' a' w' ha hb => fun _ _ h0' => by cases (f_27.symm.trans ((ha 27).symm.trans h0')); exact hb))
        exact steps_nil
      intro own327 a327 w327 hd327 hz327 hk327 hf327 hE327
      have e327_5 : a327.eval (.tmp 5) = .pointer (some ⟨g233, 0, none⟩) := (hk327 5 rfl).trans e305_5
      have e327_6 : a327.eval (.tmp 6) = .int .i64 (IntKind.i64.wrap x236) := (hk327 6 rfl).trans e305_6
      have e327_7 : a327.eval (.tmp 7) = .int .i64 (IntKind.i64.wrap x237) := (hk327 7 rfl).trans e305_7
      have e327_8 : a327.eval (.tmp 8) = .int .i64 i275 := (hk327 8 rfl).trans e305_8
      obtain ⟨⟨⟨A325, cA325⟩, (f_27 : a327.eval (.tmp 27) = .slice A325 x322.length cA325), (b_A325 : RwN own327 323 324 [] w327 27 28 R28 A325 cA325 x322)⟩, (bq_g233 : ∀ (A325 : Option Addr) (cA325 : Nat), a327.eval (.tmp 27) = .slice A325 x322.length cA325 → BlkO own327 326 w327 g233 25 #[.slice none 0 0, .slice A325 x322.length cA325]), -⟩ := hf327 [3, 5] rfl
      have b_g233 := bq_g233 _ _ f_27
      have hX327 := Evo.step hX305 (fun _ => Nat.le_refl 0) hE327 rfl
      have b327_g233 := b_g233
      have b327_A325 := b_A325
      refine hn308 _ _ ?_
      refine hn307 _ _ ?_
      refine rg_plain (n := 72) (rs := []) (own0 := own327) (K := [])
          (bs := [0, 1, 3])
          (ds := [⟨[], [8], [], Fct.val 22 (.int .i64 i275)⟩,
          ⟨[0], [], [], Fct.val 23 (.int .i64 (ad i275 1))⟩,
          ⟨[1], [], [], Fct.val 8 (.int .i64 (ad i275 1))⟩]) (by kernel_rfl) hz327 hd327 (fun _ h => nomatch h) ?_ ?_
      · refine steps_cons (fun own a wx hf hsl hE => ?_) ?_
        · obtain ⟨s_8, -⟩ := hsl
          exact sg_plain rfl rfl (or_move (s_8.trans e327_8))
        refine steps_cons (fun own a wx hf hsl hE => ?_) ?_
        · obtain ⟨(f_22 : a.eval (.tmp 22) = .int .i64 i275), -⟩ := hf
          exact sg_plain rfl rfl (or_add f_22 rfl rfl)
        refine steps_cons (fun own a wx hf hsl hE => ?_) ?_
        · obtain ⟨(f_23 : a.eval (.tmp 23) = .int .i64 (ad i275 1)), -⟩ := hf
          exact sg_plain rfl rfl (or_assign f_23)
        exact steps_nil
      intro own328 a328 w328 hd328 hz328 hk328 hf328 hE328
      have e328_5 : a328.eval (.tmp 5) = .pointer (some ⟨g233, 0, none⟩) := (hk328 5 rfl).trans e327_5
      have e328_6 : a328.eval (.tmp 6) = .int .i64 (IntKind.i64.wrap x236) := (hk328 6 rfl).trans e327_6
      have e328_7 : a328.eval (.tmp 7) = .int .i64 (IntKind.i64.wrap x237) := (hk328 7 rfl).trans e327_7
      obtain ⟨(f_8 : a328.eval (.tmp 8) = .int .i64 (ad i275 1)), -⟩ := hf328 [2] rfl
      have e328_8 := f_8
      have hX328 := Evo.step hX327 (fun _ => Nat.le_refl 0) hE328 rfl
      have b328_g233 := BlkO.evo (by decide) hE328 b327_g233
      have b328_A325 := RwN.evo rfl hE328 b327_A325
      exact hn302 _ _ _ hs ⟨(rl [(323, 273), (324, 274), (326, 269)] own328), A325, cA325, hd328, hz328, e328_5, e328_6, e328_7, e328_8, (Evo.rl_ hX328 (fun _ => Nat.le_refl 0) rfl), (BlkO.rl_ (mm := [(323, 273), (324, 274), (326, 269)]) b328_g233), (RwN.rl_ (mm := [(323, 273), (324, 274), (326, 269)]) b328_A325)⟩
    refine fl_exit ?_
    refine hp304 _ _ _ rfl ?_
    replace hs := hz302 _ hs
    refine hp302 _ _ _ rfl ?_
    refine hx241 _ _ ?_
    refine hn239 _ _ ?_
    refine fl_seq (fun Q329 hn329 hp329 => ?_)
    refine rg_plain_seq (n := 72) (rs := []) (own0 := own305) (K := [])
        (bs := [0])
        (ds := [⟨[], [], [], Fct.val 9 (.int .i64 0)⟩]) (by kernel_rfl) hz305 hd305 (fun _ h => nomatch h) ?_ ?_
    · refine steps_cons (fun own a wx hf hsl hE => ?_) ?_
      · exact sg_plain rfl rfl (or_assign rfl)
      exact steps_nil
    intro own330 a330 w330 hd330 hz330 hk330 hf330 hE330
    have e330_5 : a330.eval (.tmp 5) = .pointer (some ⟨g233, 0, none⟩) := (hk330 5 rfl).trans e305_5
    have e330_6 : a330.eval (.tmp 6) = .int .i64 (IntKind.i64.wrap x236) := (hk330 6 rfl).trans e305_6
    have e330_7 : a330.eval (.tmp 7) = .int .i64 (IntKind.i64.wrap x237) := (hk330 7 rfl).trans e305_7
    obtain ⟨(f_9 : a330.eval (.tmp 9) = .int .i64 0), -⟩ := hf330 [0] rfl
    have e330_9 := f_9
    have hX330 := Evo.step hX305 (fun _ => Nat.le_refl 0) hE330 rfl
    have b330_g233 := BlkO.evo (by decide) hE330 b305_g233
    have b330_A270 := RwN.evo rfl hE330 b305_A270
    refine fl_block (fun Q331 hn331 hx331 hp331 => ?_)
    refine fl_loop (body := (fun s => law26_BlockMany_b2 x236 x237 s.1 s.2)) (z := r) (show loopO _ _ = _ from hs) (fun (s : (List (List (List Int))) × Int) a wx => match s with | (n364, i368) => ∃ (ox : Own), a.defers = [] ∧ a.tmps.size = 72 ∧ a.eval (.tmp 5) = .pointer (some ⟨g233, 0, none⟩) ∧ a.eval (.tmp 6) = .int .i64 (IntKind.i64.wrap x236) ∧ a.eval (.tmp 7) = .int .i64 (IntKind.i64.wrap x237) ∧ a.eval (.tmp 9) = .int .i64 i368 ∧ Evo [] (fun _ => 0) ox w wx ∧ BlkO ox 269 wx g233 25 #[.slice none 0 0, .slice A270 n364.length c271] ∧ RwN ox 365 366 [367] wx 27 28 R28 A270 c271 n364) ?_ ?_
    · exact ⟨(rl [(273, 365), (274, 366)] own330), hd330, hz330, e330_5, e330_6, e330_7, e330_9, (Evo.rl_ hX330 (fun _ => Nat.le_refl 0) rfl), (BlkO.rl_ (mm := [(273, 365), (274, 366)]) b330_g233), (RwN.more (RwN.rl_ (mm := [(273, 365), (274, 366)]) b330_A270) (by decide))⟩
    · rintro ⟨n364, i368⟩ zz401 a401 w401 ⟨own401, hd402, hz402, e402_5, e402_6, e402_7, e402_9, hE402, b402_g233, b402_A270⟩ hs Q401 hn401 hp401 hz401
      have hs : law26_BlockMany_b2 x236 x237 n364 i368 = some zz401 := hs
      refine fl_seq (fun Q403 hn403 hp403 => ?_)
      obtain ⟨x404, hx404, hs⟩ := obind hs
      refine rg_plain_seq (n := 72) (rs := []) (own0 := own401) (K := [])
          (bs := [0, 0, 3, 7, 15, 31, 63])
          (ds := [⟨[], [9], [], Fct.val 29 (.int .i64 i368)⟩,
          ⟨[], [7], [], Fct.val 30 (.int .i64 (IntKind.i64.wrap x237))⟩,
          ⟨[0, 1], [], [], Fct.val 31 (.bool (decide (i368 < (IntKind.i64.wrap x237))))⟩,
          ⟨[2], [], [], Fct.val 32 (.bool (decide (i368 < (IntKind.i64.wrap x237))))⟩,
          ⟨[3], [6], [], Fct.cond (decide (i368 < (IntKind.i64.wrap x237))) (some 33) (Fct.val 33 (.int .i64 (IntKind.i64.wrap x236)))⟩,
          ⟨[3, 4], [], [], Fct.cond (decide (i368 < (IntKind.i64.wrap x237))) (some 34) (Fct.val 34 (.bool (decide (0 < (IntKind.i64.wrap x236)))))⟩,
          ⟨[3, 5], [], [], Fct.val 35 (.bool x404)⟩]) (by kernel_rfl) hz402 hd402 (fun _ h => nomatch h) ?_ ?_
      · refine steps_cons (fun own a wx hf hsl hE => ?_) ?_
        · obtain ⟨s_9, -⟩ := hsl
          exact sg_plain rfl rfl (or_move (s_9.trans e402_9))
        refine steps_cons (fun own a wx hf hsl hE => ?_) ?_
        · obtain ⟨s_7, -⟩ := hsl
          exact sg_plain rfl rfl (or_move (s_7.trans e402_7))
        refine steps_cons (fun own a wx hf hsl hE => ?_) ?_
        · obtain ⟨(f_29 : a.eval (.tmp 29) = .int .i64 i368), (f_30 : a.eval (.tmp 30) = .int .i64 (IntKind.i64.wrap x237)), -⟩ := hf
          exact sg_plain rfl rfl (or_lss f_29 f_30 rfl)
        refine steps_cons (fun own a wx hf hsl hE => ?_) ?_
        · obtain ⟨(f_31 : a.eval (.tmp 31) = .bool (decide (i368 < (IntKind.i64.wrap x237)))), -⟩ := hf
          exact sg_plain rfl rfl (or_move f_31)
        refine steps_cons (fun own a wx hf hsl hE => ?_) ?_
        · obtain ⟨(f_32 : a.eval (.tmp 32) = .bool (decide (i368 < (IntKind.i64.wrap x237)))), -⟩ := hf
          obtain ⟨s_6, -⟩ := hsl
          refine sg_t rfl rfl rfl f_32 (fun hg => ?_)
          exact or_move (s_6.trans e402_6)
        refine steps_cons (fun own a wx hf hsl hE => ?_) ?_
        · obtain ⟨(f_32 : a.eval (.tmp 32) = .bool (decide (i368 < (IntKind.i64.wrap x237)))), c_33, -⟩ := hf
          refine sg_t rfl rfl rfl f_32 (fun hg => ?_)
          have f_33 : a.eval (.tmp 33) = .int .i64 (IntKind.i64.wrap x236) := c_33.1 hg
          exact or_gtr f_33 rfl rfl
        refine steps_cons (fun own a wx hf hsl hE => ?_) ?_
        · obtain ⟨(f_32 : a.eval (.tmp 32) = .bool (decide (i368 < (IntKind.i64.wrap x237)))), c_34, -⟩ := hf
          exact sg_plain rfl rfl (or_and f_32 (fun hx => c_34.1 hx) rfl (osome hx404).symm)
        exact steps_nil
      intro own405 a405 w405 hd405 hz405 hk405 hf405 hE405
      have e405_5 : a405.eval (.tmp 5) = .pointer (some ⟨g233, 0, none⟩) := (hk405 5 rfl).trans e402_5
      have e405_6 : a405.eval (.tmp 6) = .int .i64 (IntKind.i64.wrap x236) := (hk405 6 rfl).trans e402_6
      have e405_7 : a405.eval (.tmp 7) = .int .i64 (IntKind.i64.wrap x237) := (hk405 7 rfl).trans e402_7
      have e405_9 : a405.eval (.tmp 9) = .int .i64 i368 := (hk405 9 rfl).trans e402_9
      obtain ⟨(f_35 : a405.eval (.tmp 35) = .bool x404), -⟩ := hf405 [6] rfl
      have e405_35 := f_35
      have hX405 := Evo.step hE402 (fun _ => Nat.le_refl 0) hE405 rfl
      have b405_g233 := BlkO.evo (by decide) hE405 b402_g233
      have b405_A270 := RwN.evo rfl hE405 b402_A270
      refine fl_cond e405_35 hs (fun c406 hs => ?_) (fun c406 hs => ?_)
      · refine fl_skip ?_
        refine hn403 _ _ ?_
        refine fl_seq (fun Q407 hn407 hp407 => ?_)
        refine fl_block (fun Q408 hn408 hx408 hp408 => ?_)
        obtain ⟨x417, hx417, hs⟩ := obind hs
        obtain ⟨x419, hx419, hs⟩ := obind hs
        obtain ⟨x425, hx425, hs⟩ := obind hs
        obtain ⟨x428, hx428, hs⟩ := obind hs
        obtain ⟨l429, hl429, hs⟩ := obind hs
        refine rg_draw g_mixed (n := 72) (rs := [Fct.rownAt 365 366 [367] 27 28 R28 A270 c271 n364]) (own0 := own405) (K := [366, 365])
            (bs := [0, 1, 0, 0, 12, 0, 32, 0, 0, 384, 992, 2016, 0, 4096, 12288, 32736, 65535, 131071])
            (ds := [⟨[], [5], [], Fct.val 38 (.pointer (some ⟨g233, 1, none⟩))⟩,
            ⟨[0], [], [], Fct.val 39 (.slice A270 n364.length c271)⟩,
            ⟨[], [9], [], Fct.val 40 (.int .i64 i368)⟩,
            ⟨[], [6], [], Fct.val 41 (.int .i64 (IntKind.i64.wrap x236))⟩,
            ⟨[2, 3], [], [], Fct.val 42 (.int .i64 x417)⟩,
            ⟨[], [5], [], Fct.val 43 (.pointer (some ⟨g233, 1, none⟩))⟩,
            ⟨[5], [], [], Fct.val 44 (.slice A270 n364.length c271)⟩,
            ⟨[], [9], [], Fct.val 45 (.int .i64 i368)⟩,
            ⟨[], [6], [], Fct.val 46 (.int .i64 (IntKind.i64.wrap x236))⟩,
            ⟨[7, 8], [], [], Fct.val 47 (.int .i64 x417)⟩,
            ⟨[6, 9], [], [], Fct.val 48 (.pointer (some ((adr A270).add ((x417 : Int).toNat * R27.s))))⟩,
            ⟨[10, 18], [], [], Fct.bor 365 366 [367] 49 27 28 R28 A270 c271 n364 (x417 : Int).toNat x419⟩,
            ⟨[], [9], [], Fct.val 50 (.int .i64 i368)⟩,
            ⟨[12], [], [], Fct.row 422 [] 51 3 R3 [i368]⟩,
            ⟨[13], [], [], Fct.rown 424 422 [] 52 28 3 R3 [[i368]]⟩,
            ⟨[11, 14], [], [366], Fct.hole 365 426 [367, 422, 424] 53 27 28 R28 A270 c271 n364 (x417 : Int).toNat x425⟩,
            ⟨[1, 4], [], [], Fct.val 54 (.pointer (some ((adr A270).add ((x417 : Int).toNat * R27.s))))⟩,
            ⟨[16, 15], [], [365], Fct.rownAt 430 426 [367, 422, 424] 27 28 R28 A270 c271 l429⟩]) (by kernel_rfl) hz405 hd405 (by simp only [List.forall_mem_cons]; exact ⟨b405_A270, fun _ h => nomatch h⟩) ?_ ?_
        · refine steps_cons (fun own a wx hf hsl hE => ?_) ?_
          · obtain ⟨s_5, -⟩ := hsl
            exact sg_plain rfl rfl (or_field fo25_1 (s_5.trans e405_5) (by rfl))
          refine steps_cons (fun own a wx hf hsl hE => ?_) ?_
          · obtain ⟨(f_38 : a.eval (.tmp 38) = .pointer (some ⟨g233, 1, none⟩)), -⟩ := hf
            exact sg_plain rfl rfl (or_load1 to23 f_38 (Blk.at_ (BlkO.evo (by decide) hE b405_g233).2 1 rfl))
          refine steps_cons (fun own a wx hf hsl hE => ?_) ?_
          · obtain ⟨s_9, -⟩ := hsl
            exact sg_plain rfl rfl (or_move (s_9.trans e405_9))
          refine steps_cons (fun own a wx hf hsl hE => ?_) ?_
          · obtain ⟨s_6, -⟩ := hsl
            exact sg_plain rfl rfl (or_move (s_6.trans e405_6))
          refine steps_cons (fun own a wx hf hsl hE => ?_) ?_
          · obtain ⟨(f_40 : a.eval (.tmp 40) = .int .i64 i368), (f_41 : a.eval (.tmp 41) = .int .i64 (IntKind.i64.wrap x236)), -⟩ := hf
            exact sg_plain rfl rfl (or_rem f_40 f_41 hx417)
          refine steps_cons (fun own a wx hf hsl hE => ?_) ?_
          · obtain ⟨s_5, -⟩ := hsl
            exact sg_plain rfl rfl (or_field fo25_1 (s_5.trans e405_5) (by rfl))
          refine steps_cons (fun own a wx hf hsl hE => ?_) ?_
          · obtain ⟨(f_43 : a.eval (.tmp 43) = .pointer (some ⟨g233, 1, none⟩)), -⟩ := hf
            exact sg_plain rfl rfl (or_load1 to23 f_43 (Blk.at_ (BlkO.evo (by decide) hE b405_g233).2 1 rfl))
          refine steps_cons (fun own a wx hf hsl hE => ?_) ?_
          · obtain ⟨s_9, -⟩ := hsl
            exact sg_plain rfl rfl (or_move (s_9.trans e405_9))
          refine steps_cons (fun own a wx hf hsl hE => ?_) ?_
          · obtain ⟨s_6, -⟩ := hsl
            exact sg_plain rfl rfl (or_move (s_6.trans e405_6))
          refine steps_cons (fun own a wx hf hsl hE => ?_) ?_
          · obtain ⟨(f_45 : a.eval (.tmp 45) = .int .i64 i368), (f_46 : a.eval (.tmp 46) = .int .i64 (IntKind.i64.wrap x236)), -⟩ := hf
            exact sg_plain rfl rfl (or_rem f_45 f_46 hx417)
          refine steps_cons (fun own a wx hf hsl hE => ?_) ?_
          · obtain ⟨(f_44 : a.eval (.tmp 44) = .slice A270 n364.length c271), (f_47 : a.eval (.tmp 47) = .int .i64 x417), -⟩ := hf
            exact sg_plain rfl rfl (or_index (R := R27) (l := n364) tl23 f_44 f_47 (RdO.some_ (RwN.rd b405_A270) hx419) hx419)
          refine steps_cons (fun own a wx hf hsl hE => ?_) ?_
          · obtain ⟨(f_48 : a.eval (.tmp 48) = .pointer (some ((adr A270).add ((x417 : Int).toNat * R27.s)))), (b_A270 : RwN own 365 366 [367] wx 27 28 R28 A270 c271 n364), -⟩ := hf
            exact sg_plain rfl rfl (or_borrow to27 f_48 b_A270 hx419)
          refine steps_cons (fun own a wx hf hsl hE => ?_) ?_
          · obtain ⟨s_9, -⟩ := hsl
            exact sg_plain rfl rfl (or_move (s_9.trans e405_9))
          refine steps_cons (fun own a wx hf hsl hE => ?_) ?_
          · obtain ⟨(f_50 : a.eval (.tmp 50) = .int .i64 i368), -⟩ := hf
            exact sg_plain rfl rfl (or_lit (lab := 422) (e := 3) (cs := #[.int .i64 i368]) (F := E3) (or_new [(50, .int .i64 i368)] rfl rfl ⟨f_50, trivial⟩ (by kernel_rfl)) rfl rfl (show 1 ≤ maxLen by decide))
          refine steps_cons (fun own a wx hf hsl hE => ?_) ?_
          · obtain ⟨⟨⟨A421, cA421⟩, (f_51 : a.eval (.tmp 51) = .slice A421 [i368].length cA421), (b_A421 : RwO own 422 [] wx 3 R3 A421 cA421 [i368])⟩, -⟩ := hf
            exact sg_plain rfl rfl (or_litO (R := R3) (lab := 424) (labE := 422) (L := []) (e := 28) (e2 := 3) (xl := [i368]) [(51, .slice A421 [i368].length cA421)] rfl rfl ⟨f_51, trivial⟩ (by kernel_rfl) rfl b_A421 rfl)
          refine steps_cons (fun own a wx hf hsl hE => ?_) ?_
          · obtain ⟨⟨⟨A420, cA420⟩, (f_49 : a.eval (.tmp 49) = .slice A420 x419.length cA420), (b_A420 : RwNa own 365 366 [367] wx 27 28 R28 A270 c271 n364 (x417 : Int).toNat (A420, cA420))⟩, ⟨⟨A423, cA423⟩, (f_52 : a.eval (.tmp 52) = .slice A423 [[i368]].length cA423), (b_A423 : RwN own 424 422 [] wx 28 3 R3 A423 cA423 [[i368]])⟩, -⟩ := hf
            exact sg_plain rfl rfl (or_grow (R := R28) (lab := 365) (lab2 := 426) (L := [367]) (L3 := [367, 422, 424]) tp27 f_49 b_A420 (ix_some hx419).2.2 f_52 (RwN.rd b_A423) hx425 (by decide) (by decide) (by decide) (mem_of rfl) rfl rfl rfl (by decide) (.inr (by decide)))
          refine steps_cons (fun own a wx hf hsl hE => ?_) ?_
          · obtain ⟨(f_39 : a.eval (.tmp 39) = .slice A270 n364.length c271), (f_42 : a.eval (.tmp 42) = .int .i64 x417), -⟩ := hf
            exact sg_plain rfl rfl (or_index (R := R27) (l := n364) tl23 f_39 f_42 (RdO.some_ (RwN.rd b405_A270) hx428) hx428)
          refine steps_cons (fun own a wx hf hsl hE => ?_) ?_
          · obtain ⟨(f_54 : a.eval (.tmp 54) = .pointer (some ((adr A270).add ((x417 : Int).toNat * R27.s)))), ⟨⟨A427, cA427⟩, (f_53 : a.eval (.tmp 53) = .slice A427 x425.length cA427), (b_A427 : RwNh own 365 426 [367, 422, 424] wx 27 28 R28 A270 c271 n364 (x417 : Int).toNat (A427, cA427) x425)⟩, -⟩ := hf
            exact sg_plain rfl rfl (or_putB (R := R28) (lab := 365) (lab2 := 430) (labE := 426) (L := [367, 422, 424]) ts27 f_54 f_53 b_A427 hl429 (mem_of rfl) (by decide) rfl (fun own' a' w' ha hb => hb))
          exact steps_nil
        intro own431 a431 w431 hd431 hz431 hk431 hf431 hE431
        have e431_5 : a431.eval (.tmp 5) = .pointer (some ⟨g233, 0, none⟩) := (hk431 5 rfl).trans e405_5
        have e431_6 : a431.eval (.tmp 6) = .int .i64 (IntKind.i64.wrap x236) := (hk431 6 rfl).trans e405_6
        have e431_7 : a431.eval (.tmp 7) = .int .i64 (IntKind.i64.wrap x237) := (hk431 7 rfl).trans e405_7
        have e431_9 : a431.eval (.tmp 9) = .int .i64 i368 := (hk431 9 rfl).trans e405_9
        obtain ⟨(b_A270 : RwN own431 430 426 [367, 422, 424] w431 27 28 R28 A270 c271 l429), -⟩ := hf431 [17] rfl
        have hX431 := Evo.step hX405 (fun _ => Nat.le_refl 0) hE431 rfl
        have b431_g233 := BlkO.evo (by decide) hE431 b405_g233
        have b431_A270 := b_A270
        have m432_g233 : BlkO own431 269 w431 g233 25 #[.slice none 0 0, .slice A270 l429.length c271] := BlkO.cs_ b431_g233 (by rw [put_len hl429])
        refine hn408 _ _ ?_
        refine hn407 _ _ ?_
        refine rg_plain (n := 72) (rs := []) (own0 := own431) (K := [])
            (bs := [0, 1, 3])
            (ds := [⟨[], [9], [], Fct.val 36 (.int .i64 i368)⟩,
            ⟨[0], [], [], Fct.val 37 (.int .i64 (ad i368 1))⟩,
            ⟨[1], [], [], Fct.val 9 (.int .i64 (ad i368 1))⟩]) (by kernel_rfl) hz431 hd431 (fun _ h => nomatch h) ?_ ?_
        · refine steps_cons (fun own a wx hf hsl hE => ?_) ?_
          · obtain ⟨s_9, -⟩ := hsl
            exact sg_plain rfl rfl (or_move (s_9.trans e431_9))
          refine steps_cons (fun own a wx hf hsl hE => ?_) ?_
          · obtain ⟨(f_36 : a.eval (.tmp 36) = .int .i64 i368), -⟩ := hf
            exact sg_plain rfl rfl (or_add f_36 rfl rfl)
          refine steps_cons (fun own a wx hf hsl hE => ?_) ?_
          · obtain ⟨(f_37 : a.eval (.tmp 37) = .int .i64 (ad i368 1)), -⟩ := hf
            exact sg_plain rfl rfl (or_assign f_37)
          exact steps_nil
        intro own433 a433 w433 hd433 hz433 hk433 hf433 hE433
        have e433_5 : a433.eval (.tmp 5) = .pointer (some ⟨g233, 0, none⟩) := (hk433 5 rfl).trans e431_5
        have e433_6 : a433.eval (.tmp 6) = .int .i64 (IntKind.i64.wrap x236) := (hk433 6 rfl).trans e431_6
        have e433_7 : a433.eval (.tmp 7) = .int .i64 (IntKind.i64.wrap x237) := (hk433 7 rfl).trans e431_7
        obtain ⟨(f_9 : a433.eval (.tmp 9) = .int .i64 (ad i368 1)), -⟩ := hf433 [2] rfl
        have e433_9 := f_9
        have hX433 := Evo.step hX431 (fun _ => Nat.le_refl 0) hE433 rfl
        have b433_g233 := BlkO.evo (by decide) hE433 m432_g233
        have b433_A270 := RwN.evo rfl hE433 b431_A270
        exact hn401 _ _ _ hs ⟨(rl [(422, 367), (424, 367), (426, 366), (430, 365)] own433), hd433, hz433, e433_5, e433_6, e433_7, e433_9, (Evo.rl_ hX433 (fun _ => Nat.le_refl 0) rfl), (BlkO.rl_ (mm := [(422, 367), (424, 367), (426, 366), (430, 365)]) b433_g233), (RwN.more (RwN.rl_ (mm := [(422, 367), (424, 367), (426, 366), (430, 365)]) b433_A270) (by decide))⟩
      refine fl_exit ?_
      refine hp403 _ _ _ rfl ?_
      replace hs := hz401 _ hs
      refine hp401 _ _ _ rfl ?_
      refine hx331 _ _ ?_
      refine hn329 _ _ ?_
      refine rg_plain_seq (n := 72) (rs := []) (own0 := own405) (K := [])
          (bs := [0])
          (ds := [⟨[], [], [], Fct.val 10 (.int .i64 0)⟩]) (by kernel_rfl) hz405 hd405 (fun _ h => nomatch h) ?_ ?_
      · refine steps_cons (fun own a wx hf hsl hE => ?_) ?_
        · exact sg_plain rfl rfl (or_assign rfl)
        exact steps_nil
      intro own434 a434 w434 hd434 hz434 hk434 hf434 hE434
      have e434_5 : a434.eval (.tmp 5) = .pointer (some ⟨g233, 0, none⟩) := (hk434 5 rfl).trans e405_5
      have e434_6 : a434.eval (.tmp 6) = .int .i64 (IntKind.i64.wrap x236) := (hk434 6 rfl).trans e405_6
      have e434_7 : a434.eval (.tmp 7) = .int .i64 (IntKind.i64.wrap x237) := (hk434 7 rfl).trans e405_7
      obtain ⟨(f_10 : a434.eval (.tmp 10) = .int .i64 0), -⟩ := hf434 [0] rfl
      have e434_10 := f_10
      have hX434 := Evo.step hX405 (fun _ => Nat.le_refl 0) hE434 rfl
      have b434_g233 := BlkO.evo (by decide) hE434 b405_g233
      have b434_A270 := RwN.evo rfl hE434 b405_A270
      refine fl_seq (fun Q435 hn435 hp435 => ?_)
      have K443 : ∀ (a443 : Act) (w443 : World) (own443 : Own) (want442 : Int), a443.defers = [] → a443.tmps.size = 72 → a443.eval (.tmp 5) = .pointer (some ⟨g233, 0, none⟩) → a443.eval (.tmp 10) = .int .i64 want442 → Evo [] (fun _ => 0) own443 w w443 → BlkO own443 269 w443 g233 25 #[.slice none 0 0, .slice A270 n364.length c271] → RwN own443 365 366 [441] w443 27 28 R28 A270 c271 n364 → law26_BlockMany_k3 n364 want442 = some r → Q435 .normal a443 w443 := by
        intro a443 w443 own443 want442 hd444 hz444 e444_5 e444_10 hE444 b444_g233 b444_A270 hs
        refine hn435 _ _ ?_
        obtain ⟨r445, hr445, hs⟩ := obind hs
        obtain ⟨r446, hr446, hs⟩ := obind hs
        refine rg_plain_seq (n := 72) (rs := []) (own0 := own443) (K := [])
            (bs := [0, 1, 3, 7, 3, 31, 63, 127])
            (ds := [⟨[], [], [], Fct.val 65 (.bool r445)⟩,
            ⟨[0], [], [], Fct.val 66 (.bool r445)⟩,
            ⟨[1], [5], [], Fct.cond r445 (some 67) (Fct.val 67 (.agg #[.slice none 0 0, .slice A270 n364.length c271]))⟩,
            ⟨[1, 2], [], [], Fct.cond r445 (some 68) (Fct.val 68 (.int .i64 r446))⟩,
            ⟨[1], [10], [], Fct.cond r445 (some 69) (Fct.val 69 (.int .i64 want442))⟩,
            ⟨[1, 3, 4], [], [], Fct.cond r445 (some 70) (Fct.val 70 (.bool (decide (r446 = want442))))⟩,
            ⟨[1, 5], [], [], Fct.val 71 (.bool (r445 && (decide (r446 = want442))))⟩,
            ⟨[6], [], [], Fct.val 4 (.bool (r445 && (decide (r446 = want442))))⟩]) (by kernel_rfl) hz444 hd444 (fun _ h => nomatch h) ?_ ?_
        · refine steps_cons (fun own a wx hf hsl hE => ?_) ?_
          · exact sg_plain rfl rfl (or_call cf7 (args0) (law26_known_w _   r445 hr445) post_val)
          refine steps_cons (fun own a wx hf hsl hE => ?_) ?_
          · obtain ⟨(f_65 : a.eval (.tmp 65) = .bool r445), -⟩ := hf
            exact sg_plain rfl rfl (or_move f_65)
          refine steps_cons (fun own a wx hf hsl hE => ?_) ?_
          · obtain ⟨(f_66 : a.eval (.tmp 66) = .bool r445), -⟩ := hf
            obtain ⟨s_5, -⟩ := hsl
            refine sg_t rfl rfl rfl f_66 (fun hg => ?_)
            exact or_load (l := [.slice none 0 0, .slice A270 n364.length c271]) ta25 (s_5.trans e444_5) (Blk.cellsFrom (BlkO.evo (by decide) hE b444_g233).2 0 rfl) rfl
          refine steps_cons (fun own a wx hf hsl hE => ?_) ?_
          · obtain ⟨(f_66 : a.eval (.tmp 66) = .bool r445), c_67, -⟩ := hf
            refine sg_t rfl rfl rfl f_66 (fun hg => ?_)
            have f_67 : a.eval (.tmp 67) = .agg #[.slice none 0 0, .slice A270 n364.length c271] := c_67.1 hg
            exact or_call cf8 (args1 f_67) (block_Check_w _ (([] : List ((List (Int × Int)) × Int × Int)), n364) none 0 A270 c271 RdO.nil_ (RdO.zero (RwN.rd (RwN.evo rfl hE b444_A270))) r446 (gd_t hr446 hg)) post_val
          refine steps_cons (fun own a wx hf hsl hE => ?_) ?_
          · obtain ⟨(f_66 : a.eval (.tmp 66) = .bool r445), -⟩ := hf
            obtain ⟨s_10, -⟩ := hsl
            refine sg_t rfl rfl rfl f_66 (fun hg => ?_)
            exact or_move (s_10.trans e444_10)
          refine steps_cons (fun own a wx hf hsl hE => ?_) ?_
          · obtain ⟨(f_66 : a.eval (.tmp 66) = .bool r445), c_68, c_69, -⟩ := hf
            refine sg_t rfl rfl rfl f_66 (fun hg => ?_)
            have f_68 : a.eval (.tmp 68) = .int .i64 r446 := c_68.1 hg
            have f_69 : a.eval (.tmp 69) = .int .i64 want442 := c_69.1 hg
            exact or_eql f_68 f_69 rfl
          refine steps_cons (fun own a wx hf hsl hE => ?_) ?_
          · obtain ⟨(f_66 : a.eval (.tmp 66) = .bool r445), c_70, -⟩ := hf
            exact sg_plain rfl rfl (or_and f_66 (fun hx => c_70.1 hx) rfl rfl)
          refine steps_cons (fun own a wx hf hsl hE => ?_) ?_
          · obtain ⟨(f_71 : a.eval (.tmp 71) = .bool (r445 && (decide (r446 = want442)))), -⟩ := hf
            exact sg_plain rfl rfl (or_assign f_71)
          exact steps_nil
        intro own447 a447 w447 hd447 hz447 hk447 hf447 hE447
        obtain ⟨(f_4 : a447.eval (.tmp 4) = .bool (r445 && (decide (r446 = want442)))), -⟩ := hf447 [7] rfl
        have e447_4 := f_4
        have hX447 := Evo.step hE444 (fun _ => Nat.le_refl 0) hE447 rfl
        refine fl_ret ?_
        obtain rfl := osome hs
        exact hret _ _ _ _ (.inl rfl) hd447 (results1_ rfl (RVal.tmp_ e447_4)) ⟨own447, rfl, hX447⟩
      obtain ⟨x448, hx448, hs⟩ := obind hs
      obtain ⟨x449, hx449, hs⟩ := obind hs
      refine rg_plain_seq (n := 72) (rs := []) (own0 := own434) (K := [])
          (bs := [0, 1, 3, 7, 15, 31, 63, 127, 255, 511])
          (ds := [⟨[], [6], [], Fct.val 55 (.int .i64 (IntKind.i64.wrap x236))⟩,
          ⟨[0], [], [], Fct.val 56 (.bool (decide (32 < (IntKind.i64.wrap x236))))⟩,
          ⟨[1], [], [], Fct.val 57 (.bool (decide (32 < (IntKind.i64.wrap x236))))⟩,
          ⟨[2], [6], [], Fct.cond (!(decide (32 < (IntKind.i64.wrap x236)))) (some 58) (Fct.val 58 (.int .i64 (IntKind.i64.wrap x236)))⟩,
          ⟨[2, 3], [], [], Fct.cond (!(decide (32 < (IntKind.i64.wrap x236)))) (some 59) (Fct.val 59 (.bool (decide (0 < (IntKind.i64.wrap x236)))))⟩,
          ⟨[2, 4], [], [], Fct.cond (!(decide (32 < (IntKind.i64.wrap x236)))) (some 60) (Fct.val 60 (.bool (decide (0 < (IntKind.i64.wrap x236)))))⟩,
          ⟨[5], [7], [], Fct.cond ((!(decide (32 < (IntKind.i64.wrap x236)))) && (decide (0 < (IntKind.i64.wrap x236)))) (some 61) (Fct.val 61 (.int .i64 (IntKind.i64.wrap x237)))⟩,
          ⟨[5, 6], [], [], Fct.cond ((!(decide (32 < (IntKind.i64.wrap x236)))) && (decide (0 < (IntKind.i64.wrap x236)))) (some 62) (Fct.val 62 (.bool (decide (64 < (IntKind.i64.wrap x237)))))⟩,
          ⟨[2, 5, 7], [], [], Fct.cond (!(decide (32 < (IntKind.i64.wrap x236)))) (some 63) (Fct.val 63 (.bool x448))⟩,
          ⟨[2, 8], [], [], Fct.val 64 (.bool x449)⟩]) (by kernel_rfl) hz434 hd434 (fun _ h => nomatch h) ?_ ?_
      · refine steps_cons (fun own a wx hf hsl hE => ?_) ?_
        · obtain ⟨s_6, -⟩ := hsl
          exact sg_plain rfl rfl (or_move (s_6.trans e434_6))
        refine steps_cons (fun own a wx hf hsl hE => ?_) ?_
        · obtain ⟨(f_55 : a.eval (.tmp 55) = .int .i64 (IntKind.i64.wrap x236)), -⟩ := hf
          exact sg_plain rfl rfl (or_gtr f_55 rfl rfl)
        refine steps_cons (fun own a wx hf hsl hE => ?_) ?_
        · obtain ⟨(f_56 : a.eval (.tmp 56) = .bool (decide (32 < (IntKind.i64.wrap x236)))), -⟩ := hf
          exact sg_plain rfl rfl (or_move f_56)
        refine steps_cons (fun own a wx hf hsl hE => ?_) ?_
        · obtain ⟨(f_57 : a.eval (.tmp 57) = .bool (decide (32 < (IntKind.i64.wrap x236)))), -⟩ := hf
          obtain ⟨s_6, -⟩ := hsl
          refine sg_f rfl rfl rfl f_57 (fun hg => ?_)
          exact or_move (s_6.trans e434_6)
        refine steps_cons (fun own a wx hf hsl hE => ?_) ?_
        · obtain ⟨(f_57 : a.eval (.tmp 57) = .bool (decide (32 < (IntKind.i64.wrap x236)))), c_58, -⟩ := hf
          refine sg_f rfl rfl rfl f_57 (fun hg => ?_)
          have f_58 : a.eval (.tmp 58) = .int .i64 (IntKind.i64.wrap x236) := c_58.1 hg
          exact or_gtr f_58 rfl rfl
        refine steps_cons (fun own a wx hf hsl hE => ?_) ?_
        · obtain ⟨(f_57 : a.eval (.tmp 57) = .bool (decide (32 < (IntKind.i64.wrap x236)))), c_59, -⟩ := hf
          refine sg_f rfl rfl rfl f_57 (fun hg => ?_)
          have f_59 : a.eval (.tmp 59) = .bool (decide (0 < (IntKind.i64.wrap x236))) := c_59.1 hg
          exact or_move f_59
        refine steps_cons (fun own a wx hf hsl hE => ?_) ?_
        · obtain ⟨c_60, -⟩ := hf
          obtain ⟨s_7, -⟩ := hsl
          refine sg_tc rfl rfl rfl c_60 (fun hg => ?_)
          have f_60 : a.eval (.tmp 60) = .bool (decide (0 < (IntKind.i64.wrap x236))) := c_60.1 (gL hg)
          exact or_move (s_7.trans e434_7)
        refine steps_cons (fun own a wx hf hsl hE => ?_) ?_
        · obtain ⟨c_60, c_61, -⟩ := hf
          refine sg_tc rfl rfl rfl c_60 (fun hg => ?_)
          have f_60 : a.eval (.tmp 60) = .bool (decide (0 < (IntKind.i64.wrap x236))) := c_60.1 (gL hg)
          have f_61 : a.eval (.tmp 61) = .int .i64 (IntKind.i64.wrap x237) := c_61.1 hg
          exact or_gtr f_61 rfl rfl
        refine steps_cons (fun own a wx hf hsl hE => ?_) ?_
        · obtain ⟨(f_57 : a.eval (.tmp 57) = .bool (decide (32 < (IntKind.i64.wrap x236)))), c_60, c_62, -⟩ := hf
          refine sg_f rfl rfl rfl f_57 (fun hg => ?_)
          have f_60 : a.eval (.tmp 60) = .bool (decide (0 < (IntKind.i64.wrap x236))) := c_60.1 hg
          exact or_and f_60 (fun hx => c_62.1 (gI hg hx)) rfl (osome hx448).symm
        refine steps_cons (fun own a wx hf hsl hE => ?_) ?_
        · obtain ⟨(f_57 : a.eval (.tmp 57) = .bool (decide (32 < (IntKind.i64.wrap x236)))), c_63, -⟩ := hf
          exact sg_plain rfl rfl (or_or f_57 rfl (fun hx => c_63.1 hx) (osome hx449).symm)
        exact steps_nil
      intro own450 a450 w450 hd450 hz450 hk450 hf450 hE450
      have e450_5 : a450.eval (.tmp 5) = .pointer (some ⟨g233, 0, none⟩) := (hk450 5 rfl).trans e434_5
      have e450_10 : a450.eval (.tmp 10) = .int .i64 0 := (hk450 10 rfl).trans e434_10
      obtain ⟨(f_64 : a450.eval (.tmp 64) = .bool x449), -⟩ := hf450 [9] rfl
      have e450_64 := f_64
      have hX450 := Evo.step hX434 (fun _ => Nat.le_refl 0) hE450 rfl
      have b450_g233 := BlkO.evo (by decide) hE450 b434_g233
      have b450_A270 := RwN.evo rfl hE450 b434_A270
      refine fl_cond e450_64 hs (fun c451 hs => ?_) (fun c451 hs => ?_)
      · refine rg_plain (n := 72) (rs := []) (own0 := own450) (K := [])
            (bs := [0])
            (ds := [⟨[], [], [], Fct.val 10 (.int .i64 6)⟩]) (by kernel_rfl) hz450 hd450 (fun _ h => nomatch h) ?_ ?_
        · refine steps_cons (fun own a wx hf hsl hE => ?_) ?_
          · exact sg_plain rfl rfl (or_assign rfl)
          exact steps_nil
        intro own452 a452 w452 hd452 hz452 hk452 hf452 hE452
        have e452_5 : a452.eval (.tmp 5) = .pointer (some ⟨g233, 0, none⟩) := (hk452 5 rfl).trans e450_5
        obtain ⟨(f_10 : a452.eval (.tmp 10) = .int .i64 6), -⟩ := hf452 [0] rfl
        have e452_10 := f_10
        have hX452 := Evo.step hX450 (fun _ => Nat.le_refl 0) hE452 rfl
        have b452_g233 := BlkO.evo (by decide) hE452 b450_g233
        have b452_A270 := RwN.evo rfl hE452 b450_A270
        exact (K443 _ _ (rl [(367, 441)] own452) _ hd452 hz452 e452_5 e452_10 (Evo.rl_ hX452 (fun _ => Nat.le_refl 0) rfl) (BlkO.rl_ (mm := [(367, 441)]) b452_g233) (RwN.rl_ (mm := [(367, 441)]) b452_A270) hs)
      refine fl_skip ?_
      exact (K443 _ _ (rl [(367, 441)] own450) _ hd450 hz450 e450_5 e450_10 (Evo.rl_ hX450 (fun _ => Nat.le_refl 0) rfl) (BlkO.rl_ (mm := [(367, 441)]) b450_g233) (RwN.rl_ (mm := [(367, 441)]) b450_A270) hs)

end Go.Proofs.Ytaobbaohelpdgaa
