/-
  Chapter 22. The walks.
-/
import Derived.Test.YthjcpojcpafbjaaWb
import Derived.Test.YthjcpojcpafbjaaSc
namespace Go.Proofs.Ythjcpojcpafbjaa
open Go.RowKit
set_option linter.unusedVariables false
theorem ref03_Same_w (w : World) (x1 : List (Int × Int)) (Ax1 : Option Addr) (cx1 : Nat) (b2 : List (Int × Int)) (Ab2 : Option Addr) (cb2 : Nat) (hx1 : RdO (fun _ => 0) [0] w R37 Ax1 cx1 x1) (hb2 : RdO (fun _ => 0) [0] w R37 Ab2 cb2 b2) (r : Bool) (hs : ref03_Same x1 b2 = some r) :
    Calls Try.prog 37 #[.slice Ax1 x1.length cx1, .slice Ab2 b2.length cb2] w fun e w' => ∃ own' : Own, e = .returned (.bool r) ∧ Evo [] (fun _ => 0) own' w w' := by
  refine fl_enter (n := 26) rfl rfl rfl (Nat.le_of_ble_eq_true rfl) ?_
  intro a0 Q hd0 hz0 harg hret
  have ha0 := harg 0 _ rfl
  have ha1 := harg 1 _ rfl
  clear harg
  have hE0 : Evo [] (fun _ => 0) (fun _ => 0) w w := Evo.refl _ _ _
  refine rg_plain_seq (n := 26) (rs := []) (own0 := (fun _ => 0)) (K := [])
      (bs := [0])
      (ds := [⟨[], [], [], Fct.val 4 (.bool false)⟩]) (by kernel_rfl) hz0 hd0 (fun _ h => nomatch h) ?_ ?_
  · refine steps_cons (fun own a wx hf hsl hE => ?_) ?_
    · exact sg_plain rfl rfl (or_assign rfl)
    exact steps_nil
  intro own58 a58 w58 hd58 hz58 hk58 hf58 hE58
  have e58_0 : a58.eval (.tmp 0) = .slice Ax1 x1.length cx1 := (hk58 0 rfl).trans ha0
  have e58_1 : a58.eval (.tmp 1) = .slice Ab2 b2.length cb2 := (hk58 1 rfl).trans ha1
  have hX58 := Evo.step hE0 (fun _ => Nat.le_refl 0) hE58 rfl
  have b58_Ax1 := RdO.evo rfl hE58 hx1
  have b58_Ab2 := RdO.evo rfl hE58 hb2
  refine fl_seq (fun Q59 hn59 hp59 => ?_)
  refine rg_plain_seq (n := 26) (rs := []) (own0 := own58) (K := [])
      (bs := [0, 1, 0, 4, 15])
      (ds := [⟨[], [0], [], Fct.val 6 (.slice Ax1 x1.length cx1)⟩,
      ⟨[0], [], [], Fct.val 7 (.int .i64 (x1.length : Int))⟩,
      ⟨[], [1], [], Fct.val 8 (.slice Ab2 b2.length cb2)⟩,
      ⟨[2], [], [], Fct.val 9 (.int .i64 (b2.length : Int))⟩,
      ⟨[1, 3], [], [], Fct.val 10 (.bool (!decide ((x1.length : Int) = (b2.length : Int))))⟩]) (by kernel_rfl) hz58 hd58 (fun _ h => nomatch h) ?_ ?_
  · refine steps_cons (fun own a wx hf hsl hE => ?_) ?_
    · obtain ⟨s_0, -⟩ := hsl
      exact sg_plain rfl rfl (or_move (s_0.trans e58_0))
    refine steps_cons (fun own a wx hf hsl hE => ?_) ?_
    · obtain ⟨(f_6 : a.eval (.tmp 6) = .slice Ax1 x1.length cx1), -⟩ := hf
      exact sg_plain rfl rfl (or_len tu26 f_6 rfl)
    refine steps_cons (fun own a wx hf hsl hE => ?_) ?_
    · obtain ⟨s_1, -⟩ := hsl
      exact sg_plain rfl rfl (or_move (s_1.trans e58_1))
    refine steps_cons (fun own a wx hf hsl hE => ?_) ?_
    · obtain ⟨(f_8 : a.eval (.tmp 8) = .slice Ab2 b2.length cb2), -⟩ := hf
      exact sg_plain rfl rfl (or_len tu26 f_8 rfl)
    refine steps_cons (fun own a wx hf hsl hE => ?_) ?_
    · obtain ⟨(f_7 : a.eval (.tmp 7) = .int .i64 (x1.length : Int)), (f_9 : a.eval (.tmp 9) = .int .i64 (b2.length : Int)), -⟩ := hf
      exact sg_plain rfl rfl (or_neq f_7 f_9 rfl)
    exact steps_nil
  intro own60 a60 w60 hd60 hz60 hk60 hf60 hE60
  have e60_0 : a60.eval (.tmp 0) = .slice Ax1 x1.length cx1 := (hk60 0 rfl).trans e58_0
  have e60_1 : a60.eval (.tmp 1) = .slice Ab2 b2.length cb2 := (hk60 1 rfl).trans e58_1
  obtain ⟨(f_10 : a60.eval (.tmp 10) = .bool (!decide ((x1.length : Int) = (b2.length : Int)))), -⟩ := hf60 [4] rfl
  have e60_10 := f_10
  have hX60 := Evo.step hX58 (fun _ => Nat.le_refl 0) hE60 rfl
  have b60_Ax1 := RdO.evo rfl hE60 b58_Ax1
  have b60_Ab2 := RdO.evo rfl hE60 b58_Ab2
  refine fl_cond e60_10 hs (fun c61 hs => ?_) (fun c61 hs => ?_)
  · refine rg_plain_seq (n := 26) (rs := []) (own0 := own60) (K := [])
        (bs := [0])
        (ds := [⟨[], [], [], Fct.val 4 (.bool false)⟩]) (by kernel_rfl) hz60 hd60 (fun _ h => nomatch h) ?_ ?_
    · refine steps_cons (fun own a wx hf hsl hE => ?_) ?_
      · exact sg_plain rfl rfl (or_assign rfl)
      exact steps_nil
    intro own62 a62 w62 hd62 hz62 hk62 hf62 hE62
    obtain ⟨(f_4 : a62.eval (.tmp 4) = .bool false), -⟩ := hf62 [0] rfl
    have e62_4 := f_4
    have hX62 := Evo.step hX60 (fun _ => Nat.le_refl 0) hE62 rfl
    refine fl_ret ?_
    refine hp59 _ _ _ rfl ?_
    obtain rfl := osome hs
    exact hret _ _ _ _ (.inl rfl) hd62 (results1_ rfl (RVal.tmp_ e62_4)) ⟨own62, rfl, hX62⟩
  refine fl_skip ?_
  refine hn59 _ _ ?_
  refine fl_seq (fun Q63 hn63 hp63 => ?_)
  refine rg_plain_seq (n := 26) (rs := []) (own0 := own60) (K := [])
      (bs := [0])
      (ds := [⟨[], [], [], Fct.val 5 (.int .i64 0)⟩]) (by kernel_rfl) hz60 hd60 (fun _ h => nomatch h) ?_ ?_
  · refine steps_cons (fun own a wx hf hsl hE => ?_) ?_
    · exact sg_plain rfl rfl (or_assign rfl)
    exact steps_nil
  intro own64 a64 w64 hd64 hz64 hk64 hf64 hE64
  have e64_0 : a64.eval (.tmp 0) = .slice Ax1 x1.length cx1 := (hk64 0 rfl).trans e60_0
  have e64_1 : a64.eval (.tmp 1) = .slice Ab2 b2.length cb2 := (hk64 1 rfl).trans e60_1
  obtain ⟨(f_5 : a64.eval (.tmp 5) = .int .i64 0), -⟩ := hf64 [0] rfl
  have e64_5 := f_5
  have hX64 := Evo.step hX60 (fun _ => Nat.le_refl 0) hE64 rfl
  have b64_Ax1 := RdO.evo rfl hE64 b60_Ax1
  have b64_Ab2 := RdO.evo rfl hE64 b60_Ab2
  refine fl_block (fun Q65 hn65 hx65 hp65 => ?_)
  refine fl_loop (body := (fun s => ref03_Same_b1 x1 b2 s)) (z := r) (show loopO _ _ = _ from hs) (fun (i78 : Int) a wx => ∃ (ox : Own), a.defers = [] ∧ a.tmps.size = 26 ∧ a.eval (.tmp 0) = .slice Ax1 x1.length cx1 ∧ a.eval (.tmp 1) = .slice Ab2 b2.length cb2 ∧ a.eval (.tmp 5) = .int .i64 i78 ∧ Evo [] (fun _ => 0) ox w wx ∧ RdO ox [0] wx R37 Ax1 cx1 x1 ∧ RdO ox [0] wx R37 Ab2 cb2 b2) ?_ ?_
  · exact ⟨own64, hd64, hz64, e64_0, e64_1, e64_5, hX64, b64_Ax1, b64_Ab2⟩
  · rintro i78 zz91 a91 w91 ⟨own91, hd92, hz92, e92_0, e92_1, e92_5, hE92, b92_Ax1, b92_Ab2⟩ hs Q91 hn91 hp91 hz91
    have hs : ref03_Same_b1 x1 b2 i78 = some zz91 := hs
    refine fl_seq (fun Q93 hn93 hp93 => ?_)
    refine rg_plain_seq (n := 26) (rs := []) (own0 := own91) (K := [])
        (bs := [0, 0, 2, 7])
        (ds := [⟨[], [5], [], Fct.val 11 (.int .i64 i78)⟩,
        ⟨[], [0], [], Fct.val 12 (.slice Ax1 x1.length cx1)⟩,
        ⟨[1], [], [], Fct.val 13 (.int .i64 (x1.length : Int))⟩,
        ⟨[0, 2], [], [], Fct.val 14 (.bool (decide (i78 < (x1.length : Int))))⟩]) (by kernel_rfl) hz92 hd92 (fun _ h => nomatch h) ?_ ?_
    · refine steps_cons (fun own a wx hf hsl hE => ?_) ?_
      · obtain ⟨s_5, -⟩ := hsl
        exact sg_plain rfl rfl (or_move (s_5.trans e92_5))
      refine steps_cons (fun own a wx hf hsl hE => ?_) ?_
      · obtain ⟨s_0, -⟩ := hsl
        exact sg_plain rfl rfl (or_move (s_0.trans e92_0))
      refine steps_cons (fun own a wx hf hsl hE => ?_) ?_
      · obtain ⟨(f_12 : a.eval (.tmp 12) = .slice Ax1 x1.length cx1), -⟩ := hf
        exact sg_plain rfl rfl (or_len tu26 f_12 rfl)
      refine steps_cons (fun own a wx hf hsl hE => ?_) ?_
      · obtain ⟨(f_11 : a.eval (.tmp 11) = .int .i64 i78), (f_13 : a.eval (.tmp 13) = .int .i64 (x1.length : Int)), -⟩ := hf
        exact sg_plain rfl rfl (or_lss f_11 f_13 rfl)
      exact steps_nil
    intro own94 a94 w94 hd94 hz94 hk94 hf94 hE94
    have e94_0 : a94.eval (.tmp 0) = .slice Ax1 x1.length cx1 := (hk94 0 rfl).trans e92_0
    have e94_1 : a94.eval (.tmp 1) = .slice Ab2 b2.length cb2 := (hk94 1 rfl).trans e92_1
    have e94_5 : a94.eval (.tmp 5) = .int .i64 i78 := (hk94 5 rfl).trans e92_5
    obtain ⟨(f_14 : a94.eval (.tmp 14) = .bool (decide (i78 < (x1.length : Int)))), -⟩ := hf94 [3] rfl
    have e94_14 := f_14
    have hX94 := Evo.step hE92 (fun _ => Nat.le_refl 0) hE94 rfl
    have b94_Ax1 := RdO.evo rfl hE94 b92_Ax1
    have b94_Ab2 := RdO.evo rfl hE94 b92_Ab2
    refine fl_cond e94_14 hs (fun c95 hs => ?_) (fun c95 hs => ?_)
    · refine fl_skip ?_
      refine hn93 _ _ ?_
      refine fl_seq (fun Q96 hn96 hp96 => ?_)
      refine fl_block (fun Q97 hn97 hx97 hp97 => ?_)
      obtain ⟨x98, hx98, hs⟩ := obind hs
      obtain ⟨x99, hx99, hs⟩ := obind hs
      refine rg_draw_seq g_mixed (n := 26) (rs := []) (own0 := own94) (K := [])
          (bs := [0, 0, 3, 7, 0, 0, 48, 112, 255])
          (ds := [⟨[], [0], [], Fct.val 17 (.slice Ax1 x1.length cx1)⟩,
          ⟨[], [5], [], Fct.val 18 (.int .i64 i78)⟩,
          ⟨[0, 1], [], [], Fct.val 19 (.pointer (some ((adr Ax1).add ((i78 : Int).toNat * R37.s))))⟩,
          ⟨[2], [], [], Fct.val 20 (.agg #[.int .i64 x98.1, .int .i64 x98.2])⟩,
          ⟨[], [1], [], Fct.val 21 (.slice Ab2 b2.length cb2)⟩,
          ⟨[], [5], [], Fct.val 22 (.int .i64 i78)⟩,
          ⟨[4, 5], [], [], Fct.val 23 (.pointer (some ((adr Ab2).add ((i78 : Int).toNat * R37.s))))⟩,
          ⟨[6], [], [], Fct.val 24 (.agg #[.int .i64 x99.1, .int .i64 x99.2])⟩,
          ⟨[3, 7], [], [], Fct.val 25 (.bool (!decide (x98 = x99)))⟩]) (by kernel_rfl) hz94 hd94 (fun _ h => nomatch h) ?_ ?_
      · refine steps_cons (fun own a wx hf hsl hE => ?_) ?_
        · obtain ⟨s_0, -⟩ := hsl
          exact sg_plain rfl rfl (or_move (s_0.trans e94_0))
        refine steps_cons (fun own a wx hf hsl hE => ?_) ?_
        · obtain ⟨s_5, -⟩ := hsl
          exact sg_plain rfl rfl (or_move (s_5.trans e94_5))
        refine steps_cons (fun own a wx hf hsl hE => ?_) ?_
        · obtain ⟨(f_17 : a.eval (.tmp 17) = .slice Ax1 x1.length cx1), (f_18 : a.eval (.tmp 18) = .int .i64 i78), -⟩ := hf
          exact sg_plain rfl rfl (or_index (R := R37) (l := x1) tl26 f_17 f_18 (RdO.some_ b94_Ax1 hx98) hx98)
        refine steps_cons (fun own a wx hf hsl hE => ?_) ?_
        · obtain ⟨(f_19 : a.eval (.tmp 19) = .pointer (some ((adr Ax1).add ((i78 : Int).toNat * R37.s)))), -⟩ := hf
          exact sg_plain rfl rfl (or_load (l := E37.f x98) ta37 f_19 (RdO.cells (F := E37) (RdO.evo rfl hE b94_Ax1) hx98) rfl)
        refine steps_cons (fun own a wx hf hsl hE => ?_) ?_
        · obtain ⟨s_1, -⟩ := hsl
          exact sg_plain rfl rfl (or_move (s_1.trans e94_1))
        refine steps_cons (fun own a wx hf hsl hE => ?_) ?_
        · obtain ⟨s_5, -⟩ := hsl
          exact sg_plain rfl rfl (or_move (s_5.trans e94_5))
        refine steps_cons (fun own a wx hf hsl hE => ?_) ?_
        · obtain ⟨(f_21 : a.eval (.tmp 21) = .slice Ab2 b2.length cb2), (f_22 : a.eval (.tmp 22) = .int .i64 i78), -⟩ := hf
          exact sg_plain rfl rfl (or_index (R := R37) (l := b2) tl26 f_21 f_22 (RdO.some_ b94_Ab2 hx99) hx99)
        refine steps_cons (fun own a wx hf hsl hE => ?_) ?_
        · obtain ⟨(f_23 : a.eval (.tmp 23) = .pointer (some ((adr Ab2).add ((i78 : Int).toNat * R37.s)))), -⟩ := hf
          exact sg_plain rfl rfl (or_load (l := E37.f x99) ta37 f_23 (RdO.cells (F := E37) (RdO.evo rfl hE b94_Ab2) hx99) rfl)
        refine steps_cons (fun own a wx hf hsl hE => ?_) ?_
        · obtain ⟨(f_20 : a.eval (.tmp 20) = .agg #[.int .i64 x98.1, .int .i64 x98.2]), (f_24 : a.eval (.tmp 24) = .agg #[.int .i64 x99.1, .int .i64 x99.2]), -⟩ := hf
          exact sg_plain rfl rfl (or_neqA sg37 f_20 f_24 (sn37 x98.1 x98.2 x99.1 x99.2 _) rfl)
        exact steps_nil
      intro own100 a100 w100 hd100 hz100 hk100 hf100 hE100
      have e100_0 : a100.eval (.tmp 0) = .slice Ax1 x1.length cx1 := (hk100 0 rfl).trans e94_0
      have e100_1 : a100.eval (.tmp 1) = .slice Ab2 b2.length cb2 := (hk100 1 rfl).trans e94_1
      have e100_5 : a100.eval (.tmp 5) = .int .i64 i78 := (hk100 5 rfl).trans e94_5
      obtain ⟨(f_25 : a100.eval (.tmp 25) = .bool (!decide (x98 = x99))), -⟩ := hf100 [8] rfl
      have e100_25 := f_25
      have hX100 := Evo.step hX94 (fun _ => Nat.le_refl 0) hE100 rfl
      have b100_Ax1 := RdO.evo rfl hE100 b94_Ax1
      have b100_Ab2 := RdO.evo rfl hE100 b94_Ab2
      refine fl_cond e100_25 hs (fun c101 hs => ?_) (fun c101 hs => ?_)
      · refine rg_plain_seq (n := 26) (rs := []) (own0 := own100) (K := [])
            (bs := [0])
            (ds := [⟨[], [], [], Fct.val 4 (.bool false)⟩]) (by kernel_rfl) hz100 hd100 (fun _ h => nomatch h) ?_ ?_
        · refine steps_cons (fun own a wx hf hsl hE => ?_) ?_
          · exact sg_plain rfl rfl (or_assign rfl)
          exact steps_nil
        intro own102 a102 w102 hd102 hz102 hk102 hf102 hE102
        obtain ⟨(f_4 : a102.eval (.tmp 4) = .bool false), -⟩ := hf102 [0] rfl
        have e102_4 := f_4
        have hX102 := Evo.step hX100 (fun _ => Nat.le_refl 0) hE102 rfl
        refine fl_ret ?_
        refine hp97 _ _ _ rfl ?_
        refine hp96 _ _ _ rfl ?_
        replace hs := hz91 _ hs
        refine hp91 _ _ _ rfl ?_
        refine hp65 _ _ _ rfl ?_
        refine hp63 _ _ _ rfl ?_
        obtain rfl := osome hs
        exact hret _ _ _ _ (.inl rfl) hd102 (results1_ rfl (RVal.tmp_ e102_4)) ⟨own102, rfl, hX102⟩
      refine fl_skip ?_
      refine hn97 _ _ ?_
      refine hn96 _ _ ?_
      refine rg_plain (n := 26) (rs := []) (own0 := own100) (K := [])
          (bs := [0, 1, 3])
          (ds := [⟨[], [5], [], Fct.val 15 (.int .i64 i78)⟩,
          ⟨[0], [], [], Fct.val 16 (.int .i64 (ad i78 1))⟩,
          ⟨[1], [], [], Fct.val 5 (.int .i64 (ad i78 1))⟩]) (by kernel_rfl) hz100 hd100 (fun _ h => nomatch h) ?_ ?_
      · refine steps_cons (fun own a wx hf hsl hE => ?_) ?_
        · obtain ⟨s_5, -⟩ := hsl
          exact sg_plain rfl rfl (or_move (s_5.trans e100_5))
        refine steps_cons (fun own a wx hf hsl hE => ?_) ?_
        · obtain ⟨(f_15 : a.eval (.tmp 15) = .int .i64 i78), -⟩ := hf
          exact sg_plain rfl rfl (or_add f_15 rfl rfl)
        refine steps_cons (fun own a wx hf hsl hE => ?_) ?_
        · obtain ⟨(f_16 : a.eval (.tmp 16) = .int .i64 (ad i78 1)), -⟩ := hf
          exact sg_plain rfl rfl (or_assign f_16)
        exact steps_nil
      intro own103 a103 w103 hd103 hz103 hk103 hf103 hE103
      have e103_0 : a103.eval (.tmp 0) = .slice Ax1 x1.length cx1 := (hk103 0 rfl).trans e100_0
      have e103_1 : a103.eval (.tmp 1) = .slice Ab2 b2.length cb2 := (hk103 1 rfl).trans e100_1
      obtain ⟨(f_5 : a103.eval (.tmp 5) = .int .i64 (ad i78 1)), -⟩ := hf103 [2] rfl
      have e103_5 := f_5
      have hX103 := Evo.step hX100 (fun _ => Nat.le_refl 0) hE103 rfl
      have b103_Ax1 := RdO.evo rfl hE103 b100_Ax1
      have b103_Ab2 := RdO.evo rfl hE103 b100_Ab2
      exact hn91 _ _ _ hs ⟨own103, hd103, hz103, e103_0, e103_1, e103_5, hX103, b103_Ax1, b103_Ab2⟩
    refine fl_exit ?_
    refine hp93 _ _ _ rfl ?_
    replace hs := hz91 _ hs
    refine hp91 _ _ _ rfl ?_
    refine hx65 _ _ ?_
    refine hn63 _ _ ?_
    refine rg_plain_seq (n := 26) (rs := []) (own0 := own94) (K := [])
        (bs := [0])
        (ds := [⟨[], [], [], Fct.val 4 (.bool true)⟩]) (by kernel_rfl) hz94 hd94 (fun _ h => nomatch h) ?_ ?_
    · refine steps_cons (fun own a wx hf hsl hE => ?_) ?_
      · exact sg_plain rfl rfl (or_assign rfl)
      exact steps_nil
    intro own104 a104 w104 hd104 hz104 hk104 hf104 hE104
    obtain ⟨(f_4 : a104.eval (.tmp 4) = .bool true), -⟩ := hf104 [0] rfl
    have e104_4 := f_4
    have hX104 := Evo.step hX94 (fun _ => Nat.le_refl 0) hE104 rfl
    refine fl_ret ?_
    obtain rfl := osome hs
    exact hret _ _ _ _ (.inl rfl) hd104 (results1_ rfl (RVal.tmp_ e104_4)) ⟨own104, rfl, hX104⟩

theorem law03_Same_w (w : World) (l1 : List (Int × Int)) (Al1 : Option Addr) (cl1 : Nat) (x2 : List (Int × Int)) (Ax2 : Option Addr) (cx2 : Nat) (hl1 : RdO (fun _ => 0) [0] w R34 Al1 cl1 l1) (hx2 : RdO (fun _ => 0) [0] w R37 Ax2 cx2 x2) (r : Bool) (hs : law03_Same l1 x2 = some r) :
    Calls Try.prog 27 #[.slice Al1 l1.length cl1, .slice Ax2 x2.length cx2] w fun e w' => ∃ own' : Own, e = .returned (.bool r) ∧ Evo [] (fun _ => 0) own' w w' := by
  refine fl_enter (n := 9) rfl rfl rfl (Nat.le_of_ble_eq_true rfl) ?_
  intro a0 Q hd0 hz0 harg hret
  have ha0 := harg 0 _ rfl
  have ha1 := harg 1 _ rfl
  clear harg
  have hE0 : Evo [] (fun _ => 0) (fun _ => 0) w w := Evo.refl _ _ _
  refine rg_plain_seq (n := 9) (rs := []) (own0 := (fun _ => 0)) (K := [])
      (bs := [0])
      (ds := [⟨[], [], [], Fct.val 4 (.bool false)⟩]) (by kernel_rfl) hz0 hd0 (fun _ h => nomatch h) ?_ ?_
  · refine steps_cons (fun own a wx hf hsl hE => ?_) ?_
    · exact sg_plain rfl rfl (or_assign rfl)
    exact steps_nil
  intro own17 a17 w17 hd17 hz17 hk17 hf17 hE17
  have e17_0 : a17.eval (.tmp 0) = .slice Al1 l1.length cl1 := (hk17 0 rfl).trans ha0
  have e17_1 : a17.eval (.tmp 1) = .slice Ax2 x2.length cx2 := (hk17 1 rfl).trans ha1
  have hX17 := Evo.step hE0 (fun _ => Nat.le_refl 0) hE17 rfl
  have b17_Al1 := RdO.evo rfl hE17 hl1
  have b17_Ax2 := RdO.evo rfl hE17 hx2
  obtain ⟨r18, hr18, hs⟩ := obind hs
  obtain ⟨r21, hr21, hs⟩ := obind hs
  refine rg_plain_seq (n := 9) (rs := []) (own0 := own17) (K := [])
      (bs := [0, 1, 0, 7, 15])
      (ds := [⟨[], [0], [], Fct.val 5 (.slice Al1 l1.length cl1)⟩,
      ⟨[0], [], [], Fct.row 20 [] 6 37 R37 r18⟩,
      ⟨[], [1], [], Fct.val 7 (.slice Ax2 x2.length cx2)⟩,
      ⟨[1, 2], [], [], Fct.val 8 (.bool r21)⟩,
      ⟨[3], [], [], Fct.val 4 (.bool r21)⟩]) (by kernel_rfl) hz17 hd17 (fun _ h => nomatch h) ?_ ?_
  · refine steps_cons (fun own a wx hf hsl hE => ?_) ?_
    · obtain ⟨s_0, -⟩ := hsl
      exact sg_plain rfl rfl (or_move (s_0.trans e17_0))
    refine steps_cons (fun own a wx hf hsl hE => ?_) ?_
    · obtain ⟨(f_5 : a.eval (.tmp 5) = .slice Al1 l1.length cl1), -⟩ := hf
      exact sg_plain rfl rfl (or_call cf8 (args1 f_5) (law01_Ofs_w _ l1 Al1 cl1 (RdO.zero (RdO.evo rfl hE b17_Al1)) r18 hr18) (post_row (m' := (look0 [(1, 20)])) (.inl (Rep.fl_flat _)) rfl rfl (fun _ => rfl)))
    refine steps_cons (fun own a wx hf hsl hE => ?_) ?_
    · obtain ⟨s_1, -⟩ := hsl
      exact sg_plain rfl rfl (or_move (s_1.trans e17_1))
    refine steps_cons (fun own a wx hf hsl hE => ?_) ?_
    · obtain ⟨⟨⟨A19, cA19⟩, (f_6 : a.eval (.tmp 6) = .slice A19 r18.length cA19), (b_A19 : RwO own 20 [] wx 37 R37 A19 cA19 r18)⟩, (f_7 : a.eval (.tmp 7) = .slice Ax2 x2.length cx2), -⟩ := hf
      exact sg_plain rfl rfl (or_call cf37 (args2 f_6 f_7) (ref03_Same_w _ r18 A19 cA19 x2 Ax2 cx2 (RdO.zero (RwO.rd b_A19)) (RdO.zero (RdO.evo rfl hE b17_Ax2)) r21 hr21) post_val)
    refine steps_cons (fun own a wx hf hsl hE => ?_) ?_
    · obtain ⟨(f_8 : a.eval (.tmp 8) = .bool r21), -⟩ := hf
      exact sg_plain rfl rfl (or_assign f_8)
    exact steps_nil
  intro own22 a22 w22 hd22 hz22 hk22 hf22 hE22
  obtain ⟨(f_4 : a22.eval (.tmp 4) = .bool r21), -⟩ := hf22 [4] rfl
  have e22_4 := f_4
  have hX22 := Evo.step hX17 (fun _ => Nat.le_refl 0) hE22 rfl
  refine fl_ret ?_
  obtain rfl := (osome hs).symm
  exact hret _ _ _ _ (.inl rfl) hd22 (results1_ rfl (RVal.tmp_ e22_4)) ⟨own22, rfl, hX22⟩

theorem law22_Same_w (w : World) (l1 : List (List (Int × Int))) (Al1 : Option Addr) (cl1 : Nat) (x2 : List (List (Int × Int))) (Ax2 : Option Addr) (cx2 : Nat) (hl1 : RdO (fun _ => 0) [0] w R24 Al1 cl1 l1) (hx2 : RdO (fun _ => 0) [0] w R26 Ax2 cx2 x2) (r : Bool) (hs : law22_Same l1 x2 = some r) :
    Calls Try.prog 11 #[.slice Al1 l1.length cl1, .slice Ax2 x2.length cx2] w fun e w' => ∃ own' : Own, e = .returned (.bool r) ∧ Evo [] (fun _ => 0) own' w w' := by
  refine fl_enter (n := 27) rfl rfl rfl (Nat.le_of_ble_eq_true rfl) ?_
  intro a0 Q hd0 hz0 harg hret
  have ha0 := harg 0 _ rfl
  have ha1 := harg 1 _ rfl
  clear harg
  have hE0 : Evo [] (fun _ => 0) (fun _ => 0) w w := Evo.refl _ _ _
  refine rg_plain_seq (n := 27) (rs := []) (own0 := (fun _ => 0)) (K := [])
      (bs := [0])
      (ds := [⟨[], [], [], Fct.val 4 (.bool false)⟩]) (by kernel_rfl) hz0 hd0 (fun _ h => nomatch h) ?_ ?_
  · refine steps_cons (fun own a wx hf hsl hE => ?_) ?_
    · exact sg_plain rfl rfl (or_assign rfl)
    exact steps_nil
  intro own67 a67 w67 hd67 hz67 hk67 hf67 hE67
  have e67_0 : a67.eval (.tmp 0) = .slice Al1 l1.length cl1 := (hk67 0 rfl).trans ha0
  have e67_1 : a67.eval (.tmp 1) = .slice Ax2 x2.length cx2 := (hk67 1 rfl).trans ha1
  have hX67 := Evo.step hE0 (fun _ => Nat.le_refl 0) hE67 rfl
  have b67_Al1 := RdO.evo rfl hE67 hl1
  have b67_Ax2 := RdO.evo rfl hE67 hx2
  refine fl_seq (fun Q68 hn68 hp68 => ?_)
  refine rg_plain_seq (n := 27) (rs := []) (own0 := own67) (K := [])
      (bs := [0, 1, 0, 4, 15])
      (ds := [⟨[], [0], [], Fct.val 6 (.slice Al1 l1.length cl1)⟩,
      ⟨[0], [], [], Fct.val 7 (.int .i64 (l1.length : Int))⟩,
      ⟨[], [1], [], Fct.val 8 (.slice Ax2 x2.length cx2)⟩,
      ⟨[2], [], [], Fct.val 9 (.int .i64 (x2.length : Int))⟩,
      ⟨[1, 3], [], [], Fct.val 10 (.bool (!decide ((l1.length : Int) = (x2.length : Int))))⟩]) (by kernel_rfl) hz67 hd67 (fun _ h => nomatch h) ?_ ?_
  · refine steps_cons (fun own a wx hf hsl hE => ?_) ?_
    · obtain ⟨s_0, -⟩ := hsl
      exact sg_plain rfl rfl (or_move (s_0.trans e67_0))
    refine steps_cons (fun own a wx hf hsl hE => ?_) ?_
    · obtain ⟨(f_6 : a.eval (.tmp 6) = .slice Al1 l1.length cl1), -⟩ := hf
      exact sg_plain rfl rfl (or_len tu22 f_6 rfl)
    refine steps_cons (fun own a wx hf hsl hE => ?_) ?_
    · obtain ⟨s_1, -⟩ := hsl
      exact sg_plain rfl rfl (or_move (s_1.trans e67_1))
    refine steps_cons (fun own a wx hf hsl hE => ?_) ?_
    · obtain ⟨(f_8 : a.eval (.tmp 8) = .slice Ax2 x2.length cx2), -⟩ := hf
      exact sg_plain rfl rfl (or_len tu23 f_8 rfl)
    refine steps_cons (fun own a wx hf hsl hE => ?_) ?_
    · obtain ⟨(f_7 : a.eval (.tmp 7) = .int .i64 (l1.length : Int)), (f_9 : a.eval (.tmp 9) = .int .i64 (x2.length : Int)), -⟩ := hf
      exact sg_plain rfl rfl (or_neq f_7 f_9 rfl)
    exact steps_nil
  intro own69 a69 w69 hd69 hz69 hk69 hf69 hE69
  have e69_0 : a69.eval (.tmp 0) = .slice Al1 l1.length cl1 := (hk69 0 rfl).trans e67_0
  have e69_1 : a69.eval (.tmp 1) = .slice Ax2 x2.length cx2 := (hk69 1 rfl).trans e67_1
  obtain ⟨(f_10 : a69.eval (.tmp 10) = .bool (!decide ((l1.length : Int) = (x2.length : Int)))), -⟩ := hf69 [4] rfl
  have e69_10 := f_10
  have hX69 := Evo.step hX67 (fun _ => Nat.le_refl 0) hE69 rfl
  have b69_Al1 := RdO.evo rfl hE69 b67_Al1
  have b69_Ax2 := RdO.evo rfl hE69 b67_Ax2
  refine fl_cond e69_10 hs (fun c70 hs => ?_) (fun c70 hs => ?_)
  · refine rg_plain_seq (n := 27) (rs := []) (own0 := own69) (K := [])
        (bs := [0])
        (ds := [⟨[], [], [], Fct.val 4 (.bool false)⟩]) (by kernel_rfl) hz69 hd69 (fun _ h => nomatch h) ?_ ?_
    · refine steps_cons (fun own a wx hf hsl hE => ?_) ?_
      · exact sg_plain rfl rfl (or_assign rfl)
      exact steps_nil
    intro own71 a71 w71 hd71 hz71 hk71 hf71 hE71
    obtain ⟨(f_4 : a71.eval (.tmp 4) = .bool false), -⟩ := hf71 [0] rfl
    have e71_4 := f_4
    have hX71 := Evo.step hX69 (fun _ => Nat.le_refl 0) hE71 rfl
    refine fl_ret ?_
    refine hp68 _ _ _ rfl ?_
    obtain rfl := osome hs
    exact hret _ _ _ _ (.inl rfl) hd71 (results1_ rfl (RVal.tmp_ e71_4)) ⟨own71, rfl, hX71⟩
  refine fl_skip ?_
  refine hn68 _ _ ?_
  refine fl_seq (fun Q72 hn72 hp72 => ?_)
  refine rg_plain_seq (n := 27) (rs := []) (own0 := own69) (K := [])
      (bs := [0])
      (ds := [⟨[], [], [], Fct.val 5 (.int .i64 0)⟩]) (by kernel_rfl) hz69 hd69 (fun _ h => nomatch h) ?_ ?_
  · refine steps_cons (fun own a wx hf hsl hE => ?_) ?_
    · exact sg_plain rfl rfl (or_assign rfl)
    exact steps_nil
  intro own73 a73 w73 hd73 hz73 hk73 hf73 hE73
  have e73_0 : a73.eval (.tmp 0) = .slice Al1 l1.length cl1 := (hk73 0 rfl).trans e69_0
  have e73_1 : a73.eval (.tmp 1) = .slice Ax2 x2.length cx2 := (hk73 1 rfl).trans e69_1
  obtain ⟨(f_5 : a73.eval (.tmp 5) = .int .i64 0), -⟩ := hf73 [0] rfl
  have e73_5 := f_5
  have hX73 := Evo.step hX69 (fun _ => Nat.le_refl 0) hE73 rfl
  have b73_Al1 := RdO.evo rfl hE73 b69_Al1
  have b73_Ax2 := RdO.evo rfl hE73 b69_Ax2
  refine fl_block (fun Q74 hn74 hx74 hp74 => ?_)
  refine fl_loop (body := (fun s => law22_Same_b1 l1 x2 s)) (z := r) (show loopO _ _ = _ from hs) (fun (i90 : Int) a wx => ∃ (ox : Own), a.defers = [] ∧ a.tmps.size = 27 ∧ a.eval (.tmp 0) = .slice Al1 l1.length cl1 ∧ a.eval (.tmp 1) = .slice Ax2 x2.length cx2 ∧ a.eval (.tmp 5) = .int .i64 i90 ∧ Evo [] (fun _ => 0) ox w wx ∧ RdO ox [0] wx R24 Al1 cl1 l1 ∧ RdO ox [0] wx R26 Ax2 cx2 x2) ?_ ?_
  · exact ⟨own73, hd73, hz73, e73_0, e73_1, e73_5, hX73, b73_Al1, b73_Ax2⟩
  · rintro i90 zz106 a106 w106 ⟨own106, hd107, hz107, e107_0, e107_1, e107_5, hE107, b107_Al1, b107_Ax2⟩ hs Q106 hn106 hp106 hz106
    have hs : law22_Same_b1 l1 x2 i90 = some zz106 := hs
    refine fl_seq (fun Q108 hn108 hp108 => ?_)
    refine rg_plain_seq (n := 27) (rs := []) (own0 := own106) (K := [])
        (bs := [0, 0, 2, 7])
        (ds := [⟨[], [5], [], Fct.val 11 (.int .i64 i90)⟩,
        ⟨[], [0], [], Fct.val 12 (.slice Al1 l1.length cl1)⟩,
        ⟨[1], [], [], Fct.val 13 (.int .i64 (l1.length : Int))⟩,
        ⟨[0, 2], [], [], Fct.val 14 (.bool (decide (i90 < (l1.length : Int))))⟩]) (by kernel_rfl) hz107 hd107 (fun _ h => nomatch h) ?_ ?_
    · refine steps_cons (fun own a wx hf hsl hE => ?_) ?_
      · obtain ⟨s_5, -⟩ := hsl
        exact sg_plain rfl rfl (or_move (s_5.trans e107_5))
      refine steps_cons (fun own a wx hf hsl hE => ?_) ?_
      · obtain ⟨s_0, -⟩ := hsl
        exact sg_plain rfl rfl (or_move (s_0.trans e107_0))
      refine steps_cons (fun own a wx hf hsl hE => ?_) ?_
      · obtain ⟨(f_12 : a.eval (.tmp 12) = .slice Al1 l1.length cl1), -⟩ := hf
        exact sg_plain rfl rfl (or_len tu22 f_12 rfl)
      refine steps_cons (fun own a wx hf hsl hE => ?_) ?_
      · obtain ⟨(f_11 : a.eval (.tmp 11) = .int .i64 i90), (f_13 : a.eval (.tmp 13) = .int .i64 (l1.length : Int)), -⟩ := hf
        exact sg_plain rfl rfl (or_lss f_11 f_13 rfl)
      exact steps_nil
    intro own109 a109 w109 hd109 hz109 hk109 hf109 hE109
    have e109_0 : a109.eval (.tmp 0) = .slice Al1 l1.length cl1 := (hk109 0 rfl).trans e107_0
    have e109_1 : a109.eval (.tmp 1) = .slice Ax2 x2.length cx2 := (hk109 1 rfl).trans e107_1
    have e109_5 : a109.eval (.tmp 5) = .int .i64 i90 := (hk109 5 rfl).trans e107_5
    obtain ⟨(f_14 : a109.eval (.tmp 14) = .bool (decide (i90 < (l1.length : Int)))), -⟩ := hf109 [3] rfl
    have e109_14 := f_14
    have hX109 := Evo.step hE107 (fun _ => Nat.le_refl 0) hE109 rfl
    have b109_Al1 := RdO.evo rfl hE109 b107_Al1
    have b109_Ax2 := RdO.evo rfl hE109 b107_Ax2
    refine fl_cond e109_14 hs (fun c110 hs => ?_) (fun c110 hs => ?_)
    · refine fl_skip ?_
      refine hn108 _ _ ?_
      refine fl_seq (fun Q111 hn111 hp111 => ?_)
      refine fl_block (fun Q112 hn112 hx112 hp112 => ?_)
      obtain ⟨x113, hx113, hs⟩ := obind hs
      obtain ⟨x115, hx115, hs⟩ := obind hs
      obtain ⟨r117, hr117, hs⟩ := obind hs
      refine rg_draw_seq g_mixed (n := 27) (rs := []) (own0 := own109) (K := [])
          (bs := [0, 0, 3, 7, 0, 0, 48, 112, 255, 511])
          (ds := [⟨[], [0], [], Fct.val 17 (.slice Al1 l1.length cl1)⟩,
          ⟨[], [5], [], Fct.val 18 (.int .i64 i90)⟩,
          ⟨[0, 1], [], [], Fct.val 19 (.pointer (some ((adr Al1).add ((i90 : Int).toNat * R24.s))))⟩,
          ⟨[2], [], [], Fct.nest X24 [0] 20 (fun (y : (Option Addr × Nat)) => .slice y.1 x113.length y.2) x113⟩,
          ⟨[], [1], [], Fct.val 21 (.slice Ax2 x2.length cx2)⟩,
          ⟨[], [5], [], Fct.val 22 (.int .i64 i90)⟩,
          ⟨[4, 5], [], [], Fct.val 23 (.pointer (some ((adr Ax2).add ((i90 : Int).toNat * R26.s))))⟩,
          ⟨[6], [], [], Fct.nest X26 [0] 24 (fun (y : (Option Addr × Nat)) => .slice y.1 x115.length y.2) x115⟩,
          ⟨[3, 7], [], [], Fct.val 25 (.bool r117)⟩,
          ⟨[8], [], [], Fct.val 26 (.bool (!r117))⟩]) (by kernel_rfl) hz109 hd109 (fun _ h => nomatch h) ?_ ?_
      · refine steps_cons (fun own a wx hf hsl hE => ?_) ?_
        · obtain ⟨s_0, -⟩ := hsl
          exact sg_plain rfl rfl (or_move (s_0.trans e109_0))
        refine steps_cons (fun own a wx hf hsl hE => ?_) ?_
        · obtain ⟨s_5, -⟩ := hsl
          exact sg_plain rfl rfl (or_move (s_5.trans e109_5))
        refine steps_cons (fun own a wx hf hsl hE => ?_) ?_
        · obtain ⟨(f_17 : a.eval (.tmp 17) = .slice Al1 l1.length cl1), (f_18 : a.eval (.tmp 18) = .int .i64 i90), -⟩ := hf
          exact sg_plain rfl rfl (or_index (R := R24) (l := l1) tl22 f_17 f_18 (RdO.some_ b109_Al1 hx113) hx113)
        refine steps_cons (fun own a wx hf hsl hE => ?_) ?_
        · obtain ⟨(f_19 : a.eval (.tmp 19) = .pointer (some ((adr Al1).add ((i90 : Int).toNat * R24.s)))), -⟩ := hf
          exact sg_plain rfl rfl (or_loadN1 X24 0 to24 f_19 (Addr.add_zero' _).symm (RdO.evo rfl hE b109_Al1) hx113 (fun _ => rfl))
        refine steps_cons (fun own a wx hf hsl hE => ?_) ?_
        · obtain ⟨s_1, -⟩ := hsl
          exact sg_plain rfl rfl (or_move (s_1.trans e109_1))
        refine steps_cons (fun own a wx hf hsl hE => ?_) ?_
        · obtain ⟨s_5, -⟩ := hsl
          exact sg_plain rfl rfl (or_move (s_5.trans e109_5))
        refine steps_cons (fun own a wx hf hsl hE => ?_) ?_
        · obtain ⟨(f_21 : a.eval (.tmp 21) = .slice Ax2 x2.length cx2), (f_22 : a.eval (.tmp 22) = .int .i64 i90), -⟩ := hf
          exact sg_plain rfl rfl (or_index (R := R26) (l := x2) tl23 f_21 f_22 (RdO.some_ b109_Ax2 hx115) hx115)
        refine steps_cons (fun own a wx hf hsl hE => ?_) ?_
        · obtain ⟨(f_23 : a.eval (.tmp 23) = .pointer (some ((adr Ax2).add ((i90 : Int).toNat * R26.s)))), -⟩ := hf
          exact sg_plain rfl rfl (or_loadN1 X26 0 to26 f_23 (Addr.add_zero' _).symm (RdO.evo rfl hE b109_Ax2) hx115 (fun _ => rfl))
        refine steps_cons (fun own a wx hf hsl hE => ?_) ?_
        · obtain ⟨⟨⟨A114, cA114⟩, (f_20 : a.eval (.tmp 20) = .slice A114 x113.length cA114), (b_A114 : RdO own [0] wx R34 A114 cA114 x113)⟩, ⟨⟨A116, cA116⟩, (f_24 : a.eval (.tmp 24) = .slice A116 x115.length cA116), (b_A116 : RdO own [0] wx R37 A116 cA116 x115)⟩, -⟩ := hf
          exact sg_plain rfl rfl (or_call cf27 (args2 f_20 f_24) (law03_Same_w _ x113 A114 cA114 x115 A116 cA116 (RdO.zero b_A114) (RdO.zero b_A116) r117 hr117) post_val)
        refine steps_cons (fun own a wx hf hsl hE => ?_) ?_
        · obtain ⟨(f_25 : a.eval (.tmp 25) = .bool r117), -⟩ := hf
          exact sg_plain rfl rfl (or_not f_25 rfl)
        exact steps_nil
      intro own118 a118 w118 hd118 hz118 hk118 hf118 hE118
      have e118_0 : a118.eval (.tmp 0) = .slice Al1 l1.length cl1 := (hk118 0 rfl).trans e109_0
      have e118_1 : a118.eval (.tmp 1) = .slice Ax2 x2.length cx2 := (hk118 1 rfl).trans e109_1
      have e118_5 : a118.eval (.tmp 5) = .int .i64 i90 := (hk118 5 rfl).trans e109_5
      obtain ⟨(f_26 : a118.eval (.tmp 26) = .bool (!r117)), -⟩ := hf118 [9] rfl
      have e118_26 := f_26
      have hX118 := Evo.step hX109 (fun _ => Nat.le_refl 0) hE118 rfl
      have b118_Al1 := RdO.evo rfl hE118 b109_Al1
      have b118_Ax2 := RdO.evo rfl hE118 b109_Ax2
      refine fl_cond e118_26 hs (fun c119 hs => ?_) (fun c119 hs => ?_)
      · refine rg_plain_seq (n := 27) (rs := []) (own0 := own118) (K := [])
            (bs := [0])
            (ds := [⟨[], [], [], Fct.val 4 (.bool false)⟩]) (by kernel_rfl) hz118 hd118 (fun _ h => nomatch h) ?_ ?_
        · refine steps_cons (fun own a wx hf hsl hE => ?_) ?_
          · exact sg_plain rfl rfl (or_assign rfl)
          exact steps_nil
        intro own120 a120 w120 hd120 hz120 hk120 hf120 hE120
        obtain ⟨(f_4 : a120.eval (.tmp 4) = .bool false), -⟩ := hf120 [0] rfl
        have e120_4 := f_4
        have hX120 := Evo.step hX118 (fun _ => Nat.le_refl 0) hE120 rfl
        refine fl_ret ?_
        refine hp112 _ _ _ rfl ?_
        refine hp111 _ _ _ rfl ?_
        replace hs := hz106 _ hs
        refine hp106 _ _ _ rfl ?_
        refine hp74 _ _ _ rfl ?_
        refine hp72 _ _ _ rfl ?_
        obtain rfl := osome hs
        exact hret _ _ _ _ (.inl rfl) hd120 (results1_ rfl (RVal.tmp_ e120_4)) ⟨own120, rfl, hX120⟩
      refine fl_skip ?_
      refine hn112 _ _ ?_
      refine hn111 _ _ ?_
      refine rg_plain (n := 27) (rs := []) (own0 := own118) (K := [])
          (bs := [0, 1, 3])
          (ds := [⟨[], [5], [], Fct.val 15 (.int .i64 i90)⟩,
          ⟨[0], [], [], Fct.val 16 (.int .i64 (ad i90 1))⟩,
          ⟨[1], [], [], Fct.val 5 (.int .i64 (ad i90 1))⟩]) (by kernel_rfl) hz118 hd118 (fun _ h => nomatch h) ?_ ?_
      · refine steps_cons (fun own a wx hf hsl hE => ?_) ?_
        · obtain ⟨s_5, -⟩ := hsl
          exact sg_plain rfl rfl (or_move (s_5.trans e118_5))
        refine steps_cons (fun own a wx hf hsl hE => ?_) ?_
        · obtain ⟨(f_15 : a.eval (.tmp 15) = .int .i64 i90), -⟩ := hf
          exact sg_plain rfl rfl (or_add f_15 rfl rfl)
        refine steps_cons (fun own a wx hf hsl hE => ?_) ?_
        · obtain ⟨(f_16 : a.eval (.tmp 16) = .int .i64 (ad i90 1)), -⟩ := hf
          exact sg_plain rfl rfl (or_assign f_16)
        exact steps_nil
      intro own121 a121 w121 hd121 hz121 hk121 hf121 hE121
      have e121_0 : a121.eval (.tmp 0) = .slice Al1 l1.length cl1 := (hk121 0 rfl).trans e118_0
      have e121_1 : a121.eval (.tmp 1) = .slice Ax2 x2.length cx2 := (hk121 1 rfl).trans e118_1
      obtain ⟨(f_5 : a121.eval (.tmp 5) = .int .i64 (ad i90 1)), -⟩ := hf121 [2] rfl
      have e121_5 := f_5
      have hX121 := Evo.step hX118 (fun _ => Nat.le_refl 0) hE121 rfl
      have b121_Al1 := RdO.evo rfl hE121 b118_Al1
      have b121_Ax2 := RdO.evo rfl hE121 b118_Ax2
      exact hn106 _ _ _ hs ⟨own121, hd121, hz121, e121_0, e121_1, e121_5, hX121, b121_Al1, b121_Ax2⟩
    refine fl_exit ?_
    refine hp108 _ _ _ rfl ?_
    replace hs := hz106 _ hs
    refine hp106 _ _ _ rfl ?_
    refine hx74 _ _ ?_
    refine hn72 _ _ ?_
    refine rg_plain_seq (n := 27) (rs := []) (own0 := own109) (K := [])
        (bs := [0])
        (ds := [⟨[], [], [], Fct.val 4 (.bool true)⟩]) (by kernel_rfl) hz109 hd109 (fun _ h => nomatch h) ?_ ?_
    · refine steps_cons (fun own a wx hf hsl hE => ?_) ?_
      · exact sg_plain rfl rfl (or_assign rfl)
      exact steps_nil
    intro own122 a122 w122 hd122 hz122 hk122 hf122 hE122
    obtain ⟨(f_4 : a122.eval (.tmp 4) = .bool true), -⟩ := hf122 [0] rfl
    have e122_4 := f_4
    have hX122 := Evo.step hX109 (fun _ => Nat.le_refl 0) hE122 rfl
    refine fl_ret ?_
    obtain rfl := osome hs
    exact hret _ _ _ _ (.inl rfl) hd122 (results1_ rfl (RVal.tmp_ e122_4)) ⟨own122, rfl, hX122⟩

set_option maxHeartbeats 2000000 in
theorem ref22_Join_w (w : World) (l1 : List (List (Int × Int))) (Al1 : Option Addr) (cl1 : Nat) (hl1 : RdO (fun _ => 0) [0] w R26 Al1 cl1 l1) (r : List (List (Int × Int))) (hs : ref22_Join l1 = some r) :
    Calls Try.prog 12 #[.slice Al1 l1.length cl1] w fun e w' => ∃ (own' : Own) (x : Option Addr × Nat), e = .returned (.slice x.1 r.length x.2) ∧ Evo [] (fun _ => 0) own' w w' ∧ RwO own' 1 [2] w' 26 R26 x.1 x.2 r := by
  refine fl_enter (n := 66) rfl rfl rfl (Nat.le_of_ble_eq_true rfl) ?_
  intro a0 Q hd0 hz0 harg hret
  have ha0 := harg 0 _ rfl
  clear harg
  have hE0 : Evo [] (fun _ => 0) (fun _ => 0) w w := Evo.refl _ _ _
  refine rg_plain_seq (n := 66) (rs := []) (own0 := (fun _ => 0)) (K := [])
      (bs := [0])
      (ds := [⟨[], [], [], Fct.val 2 (.slice none 0 0)⟩]) (by kernel_rfl) hz0 hd0 (fun _ h => nomatch h) ?_ ?_
  · refine steps_cons (fun own a wx hf hsl hE => ?_) ?_
    · exact sg_plain rfl rfl (or_assign rfl)
    exact steps_nil
  intro own1154 a1154 w1154 hd1154 hz1154 hk1154 hf1154 hE1154
  have e1154_0 : a1154.eval (.tmp 0) = .slice Al1 l1.length cl1 := (hk1154 0 rfl).trans ha0
  have hX1154 := Evo.step hE0 (fun _ => Nat.le_refl 0) hE1154 rfl
  have b1154_Al1 := RdO.evo rfl hE1154 hl1
  refine rg_plain_seq (n := 66) (rs := []) (own0 := own1154) (K := [])
      (bs := [0])
      (ds := [⟨[], [], [], Fct.val 3 (.slice none 0 0)⟩]) (by kernel_rfl) hz1154 hd1154 (fun _ h => nomatch h) ?_ ?_
  · refine steps_cons (fun own a wx hf hsl hE => ?_) ?_
    · exact sg_plain rfl rfl (or_assign rfl)
    exact steps_nil
  intro own1155 a1155 w1155 hd1155 hz1155 hk1155 hf1155 hE1155
  have e1155_0 : a1155.eval (.tmp 0) = .slice Al1 l1.length cl1 := (hk1155 0 rfl).trans e1154_0
  obtain ⟨(f_3 : a1155.eval (.tmp 3) = .slice none 0 0), -⟩ := hf1155 [0] rfl
  have e1155_3 := f_3
  have hX1155 := Evo.step hX1154 (fun _ => Nat.le_refl 0) hE1155 rfl
  have b1155_Al1 := RdO.evo rfl hE1155 b1154_Al1
  refine rg_plain_seq (n := 66) (rs := []) (own0 := own1155) (K := [])
      (bs := [0])
      (ds := [⟨[], [], [], Fct.val 4 (.slice none 0 0)⟩]) (by kernel_rfl) hz1155 hd1155 (fun _ h => nomatch h) ?_ ?_
  · refine steps_cons (fun own a wx hf hsl hE => ?_) ?_
    · exact sg_plain rfl rfl (or_assign rfl)
    exact steps_nil
  intro own1156 a1156 w1156 hd1156 hz1156 hk1156 hf1156 hE1156
  have e1156_0 : a1156.eval (.tmp 0) = .slice Al1 l1.length cl1 := (hk1156 0 rfl).trans e1155_0
  have e1156_3 : a1156.eval (.tmp 3) = .slice none 0 0 := (hk1156 3 rfl).trans e1155_3
  obtain ⟨(f_4 : a1156.eval (.tmp 4) = .slice none 0 0), -⟩ := hf1156 [0] rfl
  have e1156_4 := f_4
  have hX1156 := Evo.step hX1155 (fun _ => Nat.le_refl 0) hE1156 rfl
  have b1156_Al1 := RdO.evo rfl hE1156 b1155_Al1
  refine fl_seq (fun Q1157 hn1157 hp1157 => ?_)
  refine rg_plain_seq (n := 66) (rs := []) (own0 := own1156) (K := [])
      (bs := [0])
      (ds := [⟨[], [], [], Fct.val 5 (.int .i64 0)⟩]) (by kernel_rfl) hz1156 hd1156 (fun _ h => nomatch h) ?_ ?_
  · refine steps_cons (fun own a wx hf hsl hE => ?_) ?_
    · exact sg_plain rfl rfl (or_assign rfl)
    exact steps_nil
  intro own1158 a1158 w1158 hd1158 hz1158 hk1158 hf1158 hE1158
  have e1158_0 : a1158.eval (.tmp 0) = .slice Al1 l1.length cl1 := (hk1158 0 rfl).trans e1156_0
  have e1158_3 : a1158.eval (.tmp 3) = .slice none 0 0 := (hk1158 3 rfl).trans e1156_3
  have e1158_4 : a1158.eval (.tmp 4) = .slice none 0 0 := (hk1158 4 rfl).trans e1156_4
  obtain ⟨(f_5 : a1158.eval (.tmp 5) = .int .i64 0), -⟩ := hf1158 [0] rfl
  have e1158_5 := f_5
  have hX1158 := Evo.step hX1156 (fun _ => Nat.le_refl 0) hE1158 rfl
  have b1158_Al1 := RdO.evo rfl hE1158 b1156_Al1
  refine fl_block (fun Q1159 hn1159 hx1159 hp1159 => ?_)
  refine fl_loop (body := (fun s => ref22_Join_b1 l1 s.1 s.2.1 s.2.2)) (z := r) (show loopO _ _ = _ from hs) (fun (s : (List (List (Int × Int))) × (List (Int × Int)) × Int) a wx => match s with | (out1649, now1654, i1656) => ∃ (ox : Own) (A1647 : Option Addr) (c1648 : Nat) (A1652 : Option Addr) (c1653 : Nat), a.defers = [] ∧ a.tmps.size = 66 ∧ a.eval (.tmp 0) = .slice Al1 l1.length cl1 ∧ a.eval (.tmp 3) = .slice A1647 out1649.length c1648 ∧ a.eval (.tmp 4) = .slice A1652 now1654.length c1653 ∧ a.eval (.tmp 5) = .int .i64 i1656 ∧ Evo [] (fun _ => 0) ox w wx ∧ RdO ox [0] wx R26 Al1 cl1 l1 ∧ RwN ox 1650 1651 [] wx 26 37 R37 A1647 c1648 out1649 ∧ RwO ox 1655 [] wx 37 R37 A1652 c1653 now1654) ?_ ?_
  · exact ⟨own1158, none, 0, none, 0, hd1158, hz1158, e1158_0, e1158_3, e1158_4, e1158_5, hX1158, b1158_Al1, RwN.nil_, RwO.nil_⟩
  · rintro ⟨out1649, now1654, i1656⟩ zz1959 a1959 w1959 ⟨own1959, A1647, c1648, A1652, c1653, hd1960, hz1960, e1960_0, e1960_3, e1960_4, e1960_5, hE1960, b1960_Al1, b1960_A1647, b1960_A1652⟩ hs Q1959 hn1959 hp1959 hz1959
    have hs : ref22_Join_b1 l1 out1649 now1654 i1656 = some zz1959 := hs
    refine fl_seq (fun Q1961 hn1961 hp1961 => ?_)
    refine rg_plain_seq (n := 66) (rs := []) (own0 := own1959) (K := [])
        (bs := [0, 0, 2, 7])
        (ds := [⟨[], [5], [], Fct.val 6 (.int .i64 i1656)⟩,
        ⟨[], [0], [], Fct.val 7 (.slice Al1 l1.length cl1)⟩,
        ⟨[1], [], [], Fct.val 8 (.int .i64 (l1.length : Int))⟩,
        ⟨[0, 2], [], [], Fct.val 9 (.bool (decide (i1656 < (l1.length : Int))))⟩]) (by kernel_rfl) hz1960 hd1960 (fun _ h => nomatch h) ?_ ?_
    · refine steps_cons (fun own a wx hf hsl hE => ?_) ?_
      · obtain ⟨s_5, -⟩ := hsl
        exact sg_plain rfl rfl (or_move (s_5.trans e1960_5))
      refine steps_cons (fun own a wx hf hsl hE => ?_) ?_
      · obtain ⟨s_0, -⟩ := hsl
        exact sg_plain rfl rfl (or_move (s_0.trans e1960_0))
      refine steps_cons (fun own a wx hf hsl hE => ?_) ?_
      · obtain ⟨(f_7 : a.eval (.tmp 7) = .slice Al1 l1.length cl1), -⟩ := hf
        exact sg_plain rfl rfl (or_len tu23 f_7 rfl)
      refine steps_cons (fun own a wx hf hsl hE => ?_) ?_
      · obtain ⟨(f_6 : a.eval (.tmp 6) = .int .i64 i1656), (f_8 : a.eval (.tmp 8) = .int .i64 (l1.length : Int)), -⟩ := hf
        exact sg_plain rfl rfl (or_lss f_6 f_8 rfl)
      exact steps_nil
    intro own1962 a1962 w1962 hd1962 hz1962 hk1962 hf1962 hE1962
    have e1962_0 : a1962.eval (.tmp 0) = .slice Al1 l1.length cl1 := (hk1962 0 rfl).trans e1960_0
    have e1962_3 : a1962.eval (.tmp 3) = .slice A1647 out1649.length c1648 := (hk1962 3 rfl).trans e1960_3
    have e1962_4 : a1962.eval (.tmp 4) = .slice A1652 now1654.length c1653 := (hk1962 4 rfl).trans e1960_4
    have e1962_5 : a1962.eval (.tmp 5) = .int .i64 i1656 := (hk1962 5 rfl).trans e1960_5
    obtain ⟨(f_9 : a1962.eval (.tmp 9) = .bool (decide (i1656 < (l1.length : Int)))), -⟩ := hf1962 [3] rfl
    have e1962_9 := f_9
    have hX1962 := Evo.step hE1960 (fun _ => Nat.le_refl 0) hE1962 rfl
    have b1962_Al1 := RdO.evo rfl hE1962 b1960_Al1
    have b1962_A1647 := RwN.evo rfl hE1962 b1960_A1647
    have b1962_A1652 := RwO.evo rfl hE1962 b1960_A1652
    refine fl_cond e1962_9 hs (fun c1963 hs => ?_) (fun c1963 hs => ?_)
    · refine fl_skip ?_
      refine hn1961 _ _ ?_
      refine fl_seq (fun Q1964 hn1964 hp1964 => ?_)
      refine fl_block (fun Q2113 hn2113 hx2113 hp2113 => ?_)
      have K2191 : ∀ (a2191 : Act) (w2191 : World) (own2191 : Own) (out2184 : List (List (Int × Int))) (now2189 : List (Int × Int)) (A2182 : Option Addr) (c2183 : Nat) (A2187 : Option Addr) (c2188 : Nat), a2191.defers = [] → a2191.tmps.size = 66 → a2191.eval (.tmp 0) = .slice Al1 l1.length cl1 → a2191.eval (.tmp 3) = .slice A2182 out2184.length c2183 → a2191.eval (.tmp 4) = .slice A2187 now2189.length c2188 → a2191.eval (.tmp 5) = .int .i64 i1656 → Evo [] (fun _ => 0) own2191 w w2191 → RdO own2191 [0] w2191 R26 Al1 cl1 l1 → RwN own2191 2185 2186 [] w2191 26 37 R37 A2182 c2183 out2184 → RwO own2191 2190 [] w2191 37 R37 A2187 c2188 now2189 → ref22_Join_k2 i1656 out2184 now2189 = some zz1959 → (Q2113 .normal a2191 w2191 ∧ Q2113 (.exit 1) a2191 w2191) := by
        intro a2191 w2191 own2191 out2184 now2189 A2182 c2183 A2187 c2188 hd2192 hz2192 e2192_0 e2192_3 e2192_4 e2192_5 hE2192 b2192_Al1 b2192_A2182 b2192_A2187 hs
        refine and_both (hn2113 _ _) (hx2113 _ _) ?_
        refine hn1964 _ _ ?_
        refine rg_plain (n := 66) (rs := []) (own0 := own2191) (K := [])
            (bs := [0, 1, 3])
            (ds := [⟨[], [5], [], Fct.val 10 (.int .i64 i1656)⟩,
            ⟨[0], [], [], Fct.val 11 (.int .i64 (ad i1656 1))⟩,
            ⟨[1], [], [], Fct.val 5 (.int .i64 (ad i1656 1))⟩]) (by kernel_rfl) hz2192 hd2192 (fun _ h => nomatch h) ?_ ?_
        · refine steps_cons (fun own a wx hf hsl hE => ?_) ?_
          · obtain ⟨s_5, -⟩ := hsl
            exact sg_plain rfl rfl (or_move (s_5.trans e2192_5))
          refine steps_cons (fun own a wx hf hsl hE => ?_) ?_
          · obtain ⟨(f_10 : a.eval (.tmp 10) = .int .i64 i1656), -⟩ := hf
            exact sg_plain rfl rfl (or_add f_10 rfl rfl)
          refine steps_cons (fun own a wx hf hsl hE => ?_) ?_
          · obtain ⟨(f_11 : a.eval (.tmp 11) = .int .i64 (ad i1656 1)), -⟩ := hf
            exact sg_plain rfl rfl (or_assign f_11)
          exact steps_nil
        intro own2193 a2193 w2193 hd2193 hz2193 hk2193 hf2193 hE2193
        have e2193_0 : a2193.eval (.tmp 0) = .slice Al1 l1.length cl1 := (hk2193 0 rfl).trans e2192_0
        have e2193_3 : a2193.eval (.tmp 3) = .slice A2182 out2184.length c2183 := (hk2193 3 rfl).trans e2192_3
        have e2193_4 : a2193.eval (.tmp 4) = .slice A2187 now2189.length c2188 := (hk2193 4 rfl).trans e2192_4
        obtain ⟨(f_5 : a2193.eval (.tmp 5) = .int .i64 (ad i1656 1)), -⟩ := hf2193 [2] rfl
        have e2193_5 := f_5
        have hX2193 := Evo.step hE2192 (fun _ => Nat.le_refl 0) hE2193 rfl
        have b2193_Al1 := RdO.evo rfl hE2193 b2192_Al1
        have b2193_A2182 := RwN.evo rfl hE2193 b2192_A2182
        have b2193_A2187 := RwO.evo rfl hE2193 b2192_A2187
        exact hn1959 _ _ _ hs ⟨(rl [(2185, 1650), (2186, 1651), (2190, 1655)] own2193), A2182, c2183, A2187, c2188, hd2193, hz2193, e2193_0, e2193_3, e2193_4, e2193_5, (Evo.rl_ hX2193 (fun _ => Nat.le_refl 0) rfl), (RdO.rl_ (mm := [(2185, 1650), (2186, 1651), (2190, 1655)]) b2193_Al1), (RwN.rl_ (mm := [(2185, 1650), (2186, 1651), (2190, 1655)]) b2193_A2182), (RwO.rl_ (mm := [(2185, 1650), (2186, 1651), (2190, 1655)]) b2193_A2187)⟩
      refine fl_seq (fun Q2194 hn2194 hp2194 => ?_)
      obtain ⟨x2195, hx2195, hs⟩ := obind hs
      refine rg_plain_seq (n := 66) (rs := []) (own0 := own1962) (K := [])
          (bs := [0, 0, 3, 7, 15, 31])
          (ds := [⟨[], [0], [], Fct.val 12 (.slice Al1 l1.length cl1)⟩,
          ⟨[], [5], [], Fct.val 13 (.int .i64 i1656)⟩,
          ⟨[0, 1], [], [], Fct.val 14 (.pointer (some ((adr Al1).add ((i1656 : Int).toNat * R26.s))))⟩,
          ⟨[2], [], [], Fct.nest X26 [0] 15 (fun (y : (Option Addr × Nat)) => .slice y.1 x2195.length y.2) x2195⟩,
          ⟨[3], [], [], Fct.val 16 (.int .i64 (x2195.length : Int))⟩,
          ⟨[4], [], [], Fct.val 17 (.bool (decide ((x2195.length : Int) = 0)))⟩]) (by kernel_rfl) hz1962 hd1962 (fun _ h => nomatch h) ?_ ?_
      · refine steps_cons (fun own a wx hf hsl hE => ?_) ?_
        · obtain ⟨s_0, -⟩ := hsl
          exact sg_plain rfl rfl (or_move (s_0.trans e1962_0))
        refine steps_cons (fun own a wx hf hsl hE => ?_) ?_
        · obtain ⟨s_5, -⟩ := hsl
          exact sg_plain rfl rfl (or_move (s_5.trans e1962_5))
        refine steps_cons (fun own a wx hf hsl hE => ?_) ?_
        · obtain ⟨(f_12 : a.eval (.tmp 12) = .slice Al1 l1.length cl1), (f_13 : a.eval (.tmp 13) = .int .i64 i1656), -⟩ := hf
          exact sg_plain rfl rfl (or_index (R := R26) (l := l1) tl23 f_12 f_13 (RdO.some_ b1962_Al1 hx2195) hx2195)
        refine steps_cons (fun own a wx hf hsl hE => ?_) ?_
        · obtain ⟨(f_14 : a.eval (.tmp 14) = .pointer (some ((adr Al1).add ((i1656 : Int).toNat * R26.s)))), -⟩ := hf
          exact sg_plain rfl rfl (or_loadN1 X26 0 to26 f_14 (Addr.add_zero' _).symm (RdO.evo rfl hE b1962_Al1) hx2195 (fun _ => rfl))
        refine steps_cons (fun own a wx hf hsl hE => ?_) ?_
        · obtain ⟨⟨⟨A2196, cA2196⟩, (f_15 : a.eval (.tmp 15) = .slice A2196 x2195.length cA2196), (b_A2196 : RdO own [0] wx R37 A2196 cA2196 x2195)⟩, -⟩ := hf
          exact sg_plain rfl rfl (or_len tu26 f_15 rfl)
        refine steps_cons (fun own a wx hf hsl hE => ?_) ?_
        · obtain ⟨(f_16 : a.eval (.tmp 16) = .int .i64 (x2195.length : Int)), -⟩ := hf
          exact sg_plain rfl rfl (or_eql f_16 rfl rfl)
        exact steps_nil
      intro own2197 a2197 w2197 hd2197 hz2197 hk2197 hf2197 hE2197
      have e2197_0 : a2197.eval (.tmp 0) = .slice Al1 l1.length cl1 := (hk2197 0 rfl).trans e1962_0
      have e2197_3 : a2197.eval (.tmp 3) = .slice A1647 out1649.length c1648 := (hk2197 3 rfl).trans e1962_3
      have e2197_4 : a2197.eval (.tmp 4) = .slice A1652 now1654.length c1653 := (hk2197 4 rfl).trans e1962_4
      have e2197_5 : a2197.eval (.tmp 5) = .int .i64 i1656 := (hk2197 5 rfl).trans e1962_5
      obtain ⟨(f_17 : a2197.eval (.tmp 17) = .bool (decide ((x2195.length : Int) = 0))), -⟩ := hf2197 [5] rfl
      have e2197_17 := f_17
      have hX2197 := Evo.step hX1962 (fun _ => Nat.le_refl 0) hE2197 rfl
      have b2197_Al1 := RdO.evo rfl hE2197 b1962_Al1
      have b2197_A1647 := RwN.evo rfl hE2197 b1962_A1647
      have b2197_A1652 := RwO.evo rfl hE2197 b1962_A1652
      refine fl_cond e2197_17 hs (fun c2198 hs => ?_) (fun c2198 hs => ?_)
      · refine fl_exit ?_
        refine hp2194 _ _ _ rfl ?_
        exact (K2191 _ _ (rl [(1650, 2185), (1651, 2186), (1655, 2190)] own2197) _ _ A1647 c1648 A1652 c1653 hd2197 hz2197 e2197_0 e2197_3 e2197_4 e2197_5 (Evo.rl_ hX2197 (fun _ => Nat.le_refl 0) rfl) (RdO.rl_ (mm := [(1650, 2185), (1651, 2186), (1655, 2190)]) b2197_Al1) (RwN.rl_ (mm := [(1650, 2185), (1651, 2186), (1655, 2190)]) b2197_A1647) (RwO.rl_ (mm := [(1650, 2185), (1651, 2186), (1655, 2190)]) b2197_A1652) hs).2
      refine fl_skip ?_
      refine hn2194 _ _ ?_
      refine fl_seq (fun Q2199 hn2199 hp2199 => ?_)
      obtain ⟨x2200, hx2200, hs⟩ := obind hs
      obtain ⟨x2201, hx2201, hs⟩ := obind hs
      obtain ⟨x2203, hx2203, hs⟩ := obind hs
      obtain ⟨x2204, hx2204, hs⟩ := obind hs
      refine rg_draw_seq g_mixed (n := 66) (rs := []) (own0 := own2197) (K := [])
          (bs := [0, 1, 3, 7, 15, 15, 47, 111, 255, 511, 15, 15, 3087, 7183, 15375, 31759, 65535, 131071])
          (ds := [⟨[], [4], [], Fct.val 18 (.slice A1652 now1654.length c1653)⟩,
          ⟨[0], [], [], Fct.val 19 (.int .i64 (now1654.length : Int))⟩,
          ⟨[1], [], [], Fct.val 20 (.bool (decide (0 < (now1654.length : Int))))⟩,
          ⟨[2], [], [], Fct.val 21 (.bool (decide (0 < (now1654.length : Int))))⟩,
          ⟨[3], [4], [], Fct.cond (decide (0 < (now1654.length : Int))) (some 22) (Fct.val 22 (.slice A1652 now1654.length c1653))⟩,
          ⟨[3], [4], [], Fct.cond (decide (0 < (now1654.length : Int))) (some 23) (Fct.val 23 (.slice A1652 now1654.length c1653))⟩,
          ⟨[3, 5], [], [], Fct.cond (decide (0 < (now1654.length : Int))) (some 24) (Fct.val 24 (.int .i64 (now1654.length : Int)))⟩,
          ⟨[3, 6], [], [], Fct.cond (decide (0 < (now1654.length : Int))) (some 25) (Fct.val 25 (.int .i64 (sb (now1654.length : Int) 1)))⟩,
          ⟨[3, 4, 7], [], [], Fct.cond (decide (0 < (now1654.length : Int))) (some 26) (Fct.val 26 (.pointer (some ((adr A1652).add ((sb (now1654.length : Int) 1 : Int).toNat * R37.s)))))⟩,
          ⟨[3, 8], [], [], Fct.cond (decide (0 < (now1654.length : Int))) (some 27) (Fct.val 27 (.agg #[.int .i64 x2200.1, .int .i64 x2200.2]))⟩,
          ⟨[3], [0], [], Fct.cond (decide (0 < (now1654.length : Int))) (some 28) (Fct.val 28 (.slice Al1 l1.length cl1))⟩,
          ⟨[3], [5], [], Fct.cond (decide (0 < (now1654.length : Int))) (some 29) (Fct.val 29 (.int .i64 i1656))⟩,
          ⟨[3, 10, 11], [], [], Fct.cond (decide (0 < (now1654.length : Int))) (some 30) (Fct.val 30 (.pointer (some ((adr Al1).add ((i1656 : Int).toNat * R26.s)))))⟩,
          ⟨[3, 12], [], [], Fct.cond (decide (0 < (now1654.length : Int))) (some 31) (Fct.nest X26 [0] 31 (fun (y : (Option Addr × Nat)) => .slice y.1 x2201.length y.2) x2201)⟩,
          ⟨[3, 13], [], [], Fct.cond (decide (0 < (now1654.length : Int))) (some 32) (Fct.rel [32, 31] (fun l => ∀ (A2202 : Option Addr) (cA2202 : Nat), l.getD 1 undef = .slice A2202 x2201.length cA2202 → l.getD 0 undef = .pointer (some ((adr A2202).add ((0 : Int).toNat * R37.s)))))⟩,
          ⟨[3, 14, 13], [], [], Fct.cond (decide (0 < (now1654.length : Int))) (some 33) (Fct.val 33 (.agg #[.int .i64 x2203.1, .int .i64 x2203.2]))⟩,
          ⟨[3, 9, 15], [], [], Fct.cond (decide (0 < (now1654.length : Int))) (some 34) (Fct.val 34 (.bool (decide (x2200 = x2203))))⟩,
          ⟨[3, 16], [], [], Fct.val 35 (.bool x2204)⟩]) (by kernel_rfl) hz2197 hd2197 (fun _ h => nomatch h) ?_ ?_
      · refine steps_cons (fun own a wx hf hsl hE => ?_) ?_
        · obtain ⟨s_4, -⟩ := hsl
          exact sg_plain rfl rfl (or_move (s_4.trans e2197_4))
        refine steps_cons (fun own a wx hf hsl hE => ?_) ?_
        · obtain ⟨(f_18 : a.eval (.tmp 18) = .slice A1652 now1654.length c1653), -⟩ := hf
          exact sg_plain rfl rfl (or_len tu26 f_18 rfl)
        refine steps_cons (fun own a wx hf hsl hE => ?_) ?_
        · obtain ⟨(f_19 : a.eval (.tmp 19) = .int .i64 (now1654.length : Int)), -⟩ := hf
          exact sg_plain rfl rfl (or_gtr f_19 rfl rfl)
        refine steps_cons (fun own a wx hf hsl hE => ?_) ?_
        · obtain ⟨(f_20 : a.eval (.tmp 20) = .bool (decide (0 < (now1654.length : Int)))), -⟩ := hf
          exact sg_plain rfl rfl (or_move f_20)
        refine steps_cons (fun own a wx hf hsl hE => ?_) ?_
        · obtain ⟨(f_21 : a.eval (.tmp 21) = .bool (decide (0 < (now1654.length : Int)))), -⟩ := hf
          obtain ⟨s_4, -⟩ := hsl
          refine sg_t rfl rfl rfl f_21 (fun hg => ?_)
          exact or_move (s_4.trans e2197_4)
        refine steps_cons (fun own a wx hf hsl hE => ?_) ?_
        · obtain ⟨(f_21 : a.eval (.tmp 21) = .bool (decide (0 < (now1654.length : Int)))), -⟩ := hf
          obtain ⟨s_4, -⟩ := hsl
          refine sg_t rfl rfl rfl f_21 (fun hg => ?_)
          exact or_move (s_4.trans e2197_4)
        refine steps_cons (fun own a wx hf hsl hE => ?_) ?_
        · obtain ⟨(f_21 : a.eval (.tmp 21) = .bool (decide (0 < (now1654.length : Int)))), c_23, -⟩ := hf
          refine sg_t rfl rfl rfl f_21 (fun hg => ?_)
          have f_23 : a.eval (.tmp 23) = .slice A1652 now1654.length c1653 := c_23.1 hg
          exact or_len tu26 f_23 rfl
        refine steps_cons (fun own a wx hf hsl hE => ?_) ?_
        · obtain ⟨(f_21 : a.eval (.tmp 21) = .bool (decide (0 < (now1654.length : Int)))), c_24, -⟩ := hf
          refine sg_t rfl rfl rfl f_21 (fun hg => ?_)
          have f_24 : a.eval (.tmp 24) = .int .i64 (now1654.length : Int) := c_24.1 hg
          exact or_sub f_24 rfl rfl
        refine steps_cons (fun own a wx hf hsl hE => ?_) ?_
        · obtain ⟨(f_21 : a.eval (.tmp 21) = .bool (decide (0 < (now1654.length : Int)))), c_22, c_25, -⟩ := hf
          refine sg_t rfl rfl rfl f_21 (fun hg => ?_)
          have f_22 : a.eval (.tmp 22) = .slice A1652 now1654.length c1653 := c_22.1 hg
          have f_25 : a.eval (.tmp 25) = .int .i64 (sb (now1654.length : Int) 1) := c_25.1 hg
          exact or_index (R := R37) (l := now1654) tl26 f_22 f_25 (RdO.some_ (RwO.rd b2197_A1652) (gd_t hx2200 hg)) (gd_t hx2200 hg)
        refine steps_cons (fun own a wx hf hsl hE => ?_) ?_
        · obtain ⟨(f_21 : a.eval (.tmp 21) = .bool (decide (0 < (now1654.length : Int)))), c_26, -⟩ := hf
          refine sg_t rfl rfl rfl f_21 (fun hg => ?_)
          have f_26 : a.eval (.tmp 26) = .pointer (some ((adr A1652).add ((sb (now1654.length : Int) 1 : Int).toNat * R37.s))) := c_26.1 hg
          exact or_load (l := E37.f x2200) ta37 f_26 (RdO.cells (F := E37) (RwO.rd (RwO.evo rfl hE b2197_A1652)) (gd_t hx2200 hg)) rfl
        refine steps_cons (fun own a wx hf hsl hE => ?_) ?_
        · obtain ⟨(f_21 : a.eval (.tmp 21) = .bool (decide (0 < (now1654.length : Int)))), -⟩ := hf
          obtain ⟨s_0, -⟩ := hsl
          refine sg_t rfl rfl rfl f_21 (fun hg => ?_)
          exact or_move (s_0.trans e2197_0)
        refine steps_cons (fun own a wx hf hsl hE => ?_) ?_
        · obtain ⟨(f_21 : a.eval (.tmp 21) = .bool (decide (0 < (now1654.length : Int)))), -⟩ := hf
          obtain ⟨s_5, -⟩ := hsl
          refine sg_t rfl rfl rfl f_21 (fun hg => ?_)
          exact or_move (s_5.trans e2197_5)
        refine steps_cons (fun own a wx hf hsl hE => ?_) ?_
        · obtain ⟨(f_21 : a.eval (.tmp 21) = .bool (decide (0 < (now1654.length : Int)))), c_28, c_29, -⟩ := hf
          refine sg_t rfl rfl rfl f_21 (fun hg => ?_)
          have f_28 : a.eval (.tmp 28) = .slice Al1 l1.length cl1 := c_28.1 hg
          have f_29 : a.eval (.tmp 29) = .int .i64 i1656 := c_29.1 hg
          exact or_index (R := R26) (l := l1) tl23 f_28 f_29 (RdO.some_ b2197_Al1 (gd_t hx2201 hg)) (gd_t hx2201 hg)
        refine steps_cons (fun own a wx hf hsl hE => ?_) ?_
        · obtain ⟨(f_21 : a.eval (.tmp 21) = .bool (decide (0 < (now1654.length : Int)))), c_30, -⟩ := hf
          refine sg_t rfl rfl rfl f_21 (fun hg => ?_)
          have f_30 : a.eval (.tmp 30) = .pointer (some ((adr Al1).add ((i1656 : Int).toNat * R26.s))) := c_30.1 hg
          exact or_loadN1 X26 0 to26 f_30 (Addr.add_zero' _).symm (RdO.evo rfl hE b2197_Al1) (gd_t hx2201 hg) (fun _ => rfl)
        refine steps_cons (fun own a wx hf hsl hE => ?_) ?_
        · obtain ⟨(f_21 : a.eval (.tmp 21) = .bool (decide (0 < (now1654.length : Int)))), c_31, -⟩ := hf
          refine sg_t rfl rfl rfl f_21 (fun hg => ?_)
          obtain ⟨⟨A2202, cA2202⟩, (f_31 : a.eval (.tmp 31) = .slice A2202 x2201.length cA2202), (b_A2202 : RdO own [0] wx R37 A2202 cA2202 x2201)⟩ := c_31.1 hg
          exact or_mono (f := Fct.val 32 (.pointer (some ((adr A2202).add ((0 : Int).toNat * R37.s))))) (or_index (R := R37) (l := x2201) tl26 f_31 rfl (RdO.some_ b_A2202 (gd_t hx2203 hg)) (gd_t hx2203 hg)) (fun own' a' w' v' hp h => fun _ _ h0' => by cases (f_31.symm.trans ((hp.2 31 (by decide)).symm.trans h0')); exact h)
        refine steps_cons (fun own a wx hf hsl hE => ?_) ?_
        · obtain ⟨(f_21 : a.eval (.tmp 21) = .bool (decide (0 < (now1654.length : Int)))), c_32, c_31, -⟩ := hf
          refine sg_t rfl rfl rfl f_21 (fun hg => ?_)
          have q_32 : ∀ (A2202 : Option Addr) (cA2202 : Nat), a.eval (.tmp 31) = .slice A2202 x2201.length cA2202 → a.eval (.tmp 32) = .pointer (some ((adr A2202).add ((0 : Int).toNat * R37.s))) := c_32.1 hg
          obtain ⟨⟨A2202, cA2202⟩, (f_31 : a.eval (.tmp 31) = .slice A2202 x2201.length cA2202), (b_A2202 : RdO own [0] wx R37 A2202 cA2202 x2201)⟩ := c_31.1 hg
          have f_32 := q_32 _ _ f_31
          exact or_load (l := E37.f x2203) ta37 f_32 (RdO.cells (F := E37) b_A2202 (gd_t hx2203 hg)) rfl
        refine steps_cons (fun own a wx hf hsl hE => ?_) ?_
        · obtain ⟨(f_21 : a.eval (.tmp 21) = .bool (decide (0 < (now1654.length : Int)))), c_27, c_33, -⟩ := hf
          refine sg_t rfl rfl rfl f_21 (fun hg => ?_)
          have f_27 : a.eval (.tmp 27) = .agg #[.int .i64 x2200.1, .int .i64 x2200.2] := c_27.1 hg
          have f_33 : a.eval (.tmp 33) = .agg #[.int .i64 x2203.1, .int .i64 x2203.2] := c_33.1 hg
          exact or_eqlA sg37 f_27 f_33 (se37 x2200.1 x2200.2 x2203.1 x2203.2 _) rfl
        refine steps_cons (fun own a wx hf hsl hE => ?_) ?_
        · obtain ⟨(f_21 : a.eval (.tmp 21) = .bool (decide (0 < (now1654.length : Int)))), c_34, -⟩ := hf
          exact sg_plain rfl rfl (or_and f_21 (fun hx => c_34.1 hx) rfl (osome hx2204).symm)
        exact steps_nil
      intro own2205 a2205 w2205 hd2205 hz2205 hk2205 hf2205 hE2205
      have e2205_0 : a2205.eval (.tmp 0) = .slice Al1 l1.length cl1 := (hk2205 0 rfl).trans e2197_0
      have e2205_3 : a2205.eval (.tmp 3) = .slice A1647 out1649.length c1648 := (hk2205 3 rfl).trans e2197_3
      have e2205_4 : a2205.eval (.tmp 4) = .slice A1652 now1654.length c1653 := (hk2205 4 rfl).trans e2197_4
      have e2205_5 : a2205.eval (.tmp 5) = .int .i64 i1656 := (hk2205 5 rfl).trans e2197_5
      obtain ⟨(f_35 : a2205.eval (.tmp 35) = .bool x2204), -⟩ := hf2205 [17] rfl
      have e2205_35 := f_35
      have hX2205 := Evo.step hX2197 (fun _ => Nat.le_refl 0) hE2205 rfl
      have b2205_Al1 := RdO.evo rfl hE2205 b2197_Al1
      have b2205_A1647 := RwN.evo rfl hE2205 b2197_A1647
      have b2205_A1652 := RwO.evo rfl hE2205 b2197_A1652
      refine fl_cond e2205_35 hs (fun c2206 hs => ?_) (fun c2206 hs => ?_)
      · obtain ⟨x2209, hx2209, hs⟩ := obind hs
        obtain ⟨x2212, hx2212, hs⟩ := obind hs
        obtain ⟨x2214, hx2214, hs⟩ := obind hs
        obtain ⟨x2216, hx2216, hs⟩ := obind hs
        refine rg_draw_seq g_mixed (n := 66) (rs := []) (own0 := own2205) (K := [2208, 2210])
            (bs := [0, 0, 3, 0, 0, 24, 56, 120, 255, 511])
            (ds := [⟨[], [], [], Fct.row 2208 [] 36 37 R37 ([] : List (Int × Int))⟩,
            ⟨[], [4], [], Fct.val 37 (.slice A1652 now1654.length c1653)⟩,
            ⟨[0, 1], [], [2208], Fct.row 2210 [] 38 37 R37 x2209⟩,
            ⟨[], [0], [], Fct.val 39 (.slice Al1 l1.length cl1)⟩,
            ⟨[], [5], [], Fct.val 40 (.int .i64 i1656)⟩,
            ⟨[3, 4], [], [], Fct.val 41 (.pointer (some ((adr Al1).add ((i1656 : Int).toNat * R26.s))))⟩,
            ⟨[5], [], [], Fct.nest X26 [0] 42 (fun (y : (Option Addr × Nat)) => .slice y.1 x2212.length y.2) x2212⟩,
            ⟨[6], [], [], Fct.view [0] 43 R37 x2214⟩,
            ⟨[2, 7], [], [2210], Fct.row 2217 [] 44 37 R37 x2216⟩,
            ⟨[8], [], [], Fct.rel [4, 44] (fun l => ∀ (A2218 : Option Addr) (cA2218 : Nat), l.getD 1 undef = .slice A2218 x2216.length cA2218 → l.getD 0 undef = .slice A2218 x2216.length cA2218)⟩]) (by kernel_rfl) hz2205 hd2205 (fun _ h => nomatch h) ?_ ?_
        · refine steps_cons (fun own a wx hf hsl hE => ?_) ?_
          · exact sg_plain rfl rfl (or_lit (lab := 2208) (e := 37) (cs := #[]) (F := E37) (or_new [] rfl rfl trivial (by kernel_rfl)) rfl rfl (show 0 ≤ maxLen by decide))
          refine steps_cons (fun own a wx hf hsl hE => ?_) ?_
          · obtain ⟨s_4, -⟩ := hsl
            exact sg_plain rfl rfl (or_move (s_4.trans e2205_4))
          refine steps_cons (fun own a wx hf hsl hE => ?_) ?_
          · obtain ⟨⟨⟨A2207, cA2207⟩, (f_36 : a.eval (.tmp 36) = .slice A2207 ([] : List (Int × Int)).length cA2207), (b_A2207 : RwO own 2208 [] wx 37 R37 A2207 cA2207 ([] : List (Int × Int)))⟩, (f_37 : a.eval (.tmp 37) = .slice A1652 now1654.length c1653), -⟩ := hf
            exact sg_plain rfl rfl (or_append (R := R37) (lab := 2208) (lab2 := 2210) (L := []) (L3 := []) tp26 f_36 b_A2207 (by decide) f_37 (RwO.rd (RwO.evo rfl hE b2205_A1652)) hx2209 (by decide) (by decide) (mem_of rfl) (.inl (Rep.fl_flat _)))
          refine steps_cons (fun own a wx hf hsl hE => ?_) ?_
          · obtain ⟨s_0, -⟩ := hsl
            exact sg_plain rfl rfl (or_move (s_0.trans e2205_0))
          refine steps_cons (fun own a wx hf hsl hE => ?_) ?_
          · obtain ⟨s_5, -⟩ := hsl
            exact sg_plain rfl rfl (or_move (s_5.trans e2205_5))
          refine steps_cons (fun own a wx hf hsl hE => ?_) ?_
          · obtain ⟨(f_39 : a.eval (.tmp 39) = .slice Al1 l1.length cl1), (f_40 : a.eval (.tmp 40) = .int .i64 i1656), -⟩ := hf
            exact sg_plain rfl rfl (or_index (R := R26) (l := l1) tl23 f_39 f_40 (RdO.some_ b2205_Al1 hx2212) hx2212)
          refine steps_cons (fun own a wx hf hsl hE => ?_) ?_
          · obtain ⟨(f_41 : a.eval (.tmp 41) = .pointer (some ((adr Al1).add ((i1656 : Int).toNat * R26.s)))), -⟩ := hf
            exact sg_plain rfl rfl (or_loadN1 X26 0 to26 f_41 (Addr.add_zero' _).symm (RdO.evo rfl hE b2205_Al1) hx2212 (fun _ => rfl))
          refine steps_cons (fun own a wx hf hsl hE => ?_) ?_
          · obtain ⟨⟨⟨A2213, cA2213⟩, (f_42 : a.eval (.tmp 42) = .slice A2213 x2212.length cA2213), (b_A2213 : RdO own [0] wx R37 A2213 cA2213 x2212)⟩, -⟩ := hf
            exact sg_plain rfl rfl (or_view (R := R37) (l := x2212) (L := [0]) tu26 ts37 f_42 (Bnd.some_ rfl) Bnd.none_ Bnd.none_ b_A2213 hx2214 (.inl rfl) (by simp))
          refine steps_cons (fun own a wx hf hsl hE => ?_) ?_
          · obtain ⟨⟨⟨A2211, cA2211⟩, (f_38 : a.eval (.tmp 38) = .slice A2211 x2209.length cA2211), (b_A2211 : RwO own 2210 [] wx 37 R37 A2211 cA2211 x2209)⟩, ⟨⟨A2215, cA2215⟩, (f_43 : a.eval (.tmp 43) = .slice A2215 x2214.length cA2215), (b_A2215 : RdO own [0] wx R37 A2215 cA2215 x2214)⟩, -⟩ := hf
            exact sg_plain rfl rfl (or_append (R := R37) (lab := 2210) (lab2 := 2217) (L := []) (L3 := []) tp26 f_38 b_A2211 (by decide) f_43 b_A2215 hx2216 (by decide) (by decide) (mem_of rfl) (.inl (Rep.fl_flat _)))
          refine steps_cons (fun own a wx hf hsl hE => ?_) ?_
          · obtain ⟨⟨⟨A2218, cA2218⟩, (f_44 : a.eval (.tmp 44) = .slice A2218 x2216.length cA2218), (b_A2218 : RwO own 2217 [] wx 37 R37 A2218 cA2218 x2216)⟩, -⟩ := hf
            exact sg_plain rfl rfl (or_mono (f := Fct.val 4 (.slice A2218 x2216.length cA2218)) (or_assign f_44) (fun own' a' w' v' hp h => fun _ _ h0' => by cases (f_44.symm.trans ((hp.2 44 (by decide)).symm.trans h0')); exact h))
          exact steps_nil
        intro own2219 a2219 w2219 hd2219 hz2219 hk2219 hf2219 hE2219
        have e2219_0 : a2219.eval (.tmp 0) = .slice Al1 l1.length cl1 := (hk2219 0 rfl).trans e2205_0
        have e2219_3 : a2219.eval (.tmp 3) = .slice A1647 out1649.length c1648 := (hk2219 3 rfl).trans e2205_3
        have e2219_5 : a2219.eval (.tmp 5) = .int .i64 i1656 := (hk2219 5 rfl).trans e2205_5
        obtain ⟨⟨⟨A2218, cA2218⟩, (f_44 : a2219.eval (.tmp 44) = .slice A2218 x2216.length cA2218), (b_A2218 : RwO own2219 2217 [] w2219 37 R37 A2218 cA2218 x2216)⟩, (q_4 : ∀ (A2218 : Option Addr) (cA2218 : Nat), a2219.eval (.tmp 44) = .slice A2218 x2216.length cA2218 → a2219.eval (.tmp 4) = .slice A2218 x2216.length cA2218), -⟩ := hf2219 [8, 9] rfl
        have f_4 := q_4 _ _ f_44
        have e2219_4 := f_4
        have hX2219 := Evo.step hX2205 (fun _ => Nat.le_refl 0) hE2219 rfl
        have b2219_Al1 := RdO.evo rfl hE2219 b2205_Al1
        have b2219_A1647 := RwN.evo rfl hE2219 b2205_A1647
        have b2219_A2218 := b_A2218
        refine fl_exit ?_
        refine hp2199 _ _ _ rfl ?_
        exact (K2191 _ _ (rl [(1650, 2185), (1651, 2186), (2217, 2190)] own2219) _ _ A1647 c1648 A2218 cA2218 hd2219 hz2219 e2219_0 e2219_3 e2219_4 e2219_5 (Evo.rl_ hX2219 (fun _ => Nat.le_refl 0) rfl) (RdO.rl_ (mm := [(1650, 2185), (1651, 2186), (2217, 2190)]) b2219_Al1) (RwN.rl_ (mm := [(1650, 2185), (1651, 2186), (2217, 2190)]) b2219_A1647) (RwO.rl_ (mm := [(1650, 2185), (1651, 2186), (2217, 2190)]) b2219_A2218) hs).2
      refine fl_skip ?_
      refine hn2199 _ _ ?_
      refine fl_seq (fun Q2220 hn2220 hp2220 => ?_)
      have K2239 : ∀ (a2239 : Act) (w2239 : World) (own2239 : Own) (out2236 : List (List (Int × Int))) (A2234 : Option Addr) (c2235 : Nat), a2239.defers = [] → a2239.tmps.size = 66 → a2239.eval (.tmp 0) = .slice Al1 l1.length cl1 → a2239.eval (.tmp 3) = .slice A2234 out2236.length c2235 → a2239.eval (.tmp 5) = .int .i64 i1656 → Evo [] (fun _ => 0) own2239 w w2239 → RdO own2239 [0] w2239 R26 Al1 cl1 l1 → RwN own2239 2237 2238 [] w2239 26 37 R37 A2234 c2235 out2236 → ref22_Join_k3 l1 i1656 out2236 = some zz1959 → Q2220 .normal a2239 w2239 := by
        intro a2239 w2239 own2239 out2236 A2234 c2235 hd2240 hz2240 e2240_0 e2240_3 e2240_5 hE2240 b2240_Al1 b2240_A2234 hs
        refine hn2220 _ _ ?_
        obtain ⟨x2243, hx2243, hs⟩ := obind hs
        obtain ⟨x2245, hx2245, hs⟩ := obind hs
        refine rg_plain (n := 66) (rs := []) (own0 := own2239) (K := [2242])
            (bs := [0, 0, 0, 6, 14, 31, 63])
            (ds := [⟨[], [], [], Fct.row 2242 [] 52 37 R37 ([] : List (Int × Int))⟩,
            ⟨[], [0], [], Fct.val 53 (.slice Al1 l1.length cl1)⟩,
            ⟨[], [5], [], Fct.val 54 (.int .i64 i1656)⟩,
            ⟨[1, 2], [], [], Fct.val 55 (.pointer (some ((adr Al1).add ((i1656 : Int).toNat * R26.s))))⟩,
            ⟨[3], [], [], Fct.nest X26 [0] 56 (fun (y : (Option Addr × Nat)) => .slice y.1 x2243.length y.2) x2243⟩,
            ⟨[0, 4], [], [2242], Fct.row 2246 [] 57 37 R37 x2245⟩,
            ⟨[5], [], [], Fct.rel [4, 57] (fun l => ∀ (A2247 : Option Addr) (cA2247 : Nat), l.getD 1 undef = .slice A2247 x2245.length cA2247 → l.getD 0 undef = .slice A2247 x2245.length cA2247)⟩]) (by kernel_rfl) hz2240 hd2240 (fun _ h => nomatch h) ?_ ?_
        · refine steps_cons (fun own a wx hf hsl hE => ?_) ?_
          · exact sg_plain rfl rfl (or_lit (lab := 2242) (e := 37) (cs := #[]) (F := E37) (or_new [] rfl rfl trivial (by kernel_rfl)) rfl rfl (show 0 ≤ maxLen by decide))
          refine steps_cons (fun own a wx hf hsl hE => ?_) ?_
          · obtain ⟨s_0, -⟩ := hsl
            exact sg_plain rfl rfl (or_move (s_0.trans e2240_0))
          refine steps_cons (fun own a wx hf hsl hE => ?_) ?_
          · obtain ⟨s_5, -⟩ := hsl
            exact sg_plain rfl rfl (or_move (s_5.trans e2240_5))
          refine steps_cons (fun own a wx hf hsl hE => ?_) ?_
          · obtain ⟨(f_53 : a.eval (.tmp 53) = .slice Al1 l1.length cl1), (f_54 : a.eval (.tmp 54) = .int .i64 i1656), -⟩ := hf
            exact sg_plain rfl rfl (or_index (R := R26) (l := l1) tl23 f_53 f_54 (RdO.some_ b2240_Al1 hx2243) hx2243)
          refine steps_cons (fun own a wx hf hsl hE => ?_) ?_
          · obtain ⟨(f_55 : a.eval (.tmp 55) = .pointer (some ((adr Al1).add ((i1656 : Int).toNat * R26.s)))), -⟩ := hf
            exact sg_plain rfl rfl (or_loadN1 X26 0 to26 f_55 (Addr.add_zero' _).symm (RdO.evo rfl hE b2240_Al1) hx2243 (fun _ => rfl))
          refine steps_cons (fun own a wx hf hsl hE => ?_) ?_
          · obtain ⟨⟨⟨A2241, cA2241⟩, (f_52 : a.eval (.tmp 52) = .slice A2241 ([] : List (Int × Int)).length cA2241), (b_A2241 : RwO own 2242 [] wx 37 R37 A2241 cA2241 ([] : List (Int × Int)))⟩, ⟨⟨A2244, cA2244⟩, (f_56 : a.eval (.tmp 56) = .slice A2244 x2243.length cA2244), (b_A2244 : RdO own [0] wx R37 A2244 cA2244 x2243)⟩, -⟩ := hf
            exact sg_plain rfl rfl (or_append (R := R37) (lab := 2242) (lab2 := 2246) (L := []) (L3 := []) tp26 f_52 b_A2241 (by decide) f_56 b_A2244 hx2245 (by decide) (by decide) (mem_of rfl) (.inl (Rep.fl_flat _)))
          refine steps_cons (fun own a wx hf hsl hE => ?_) ?_
          · obtain ⟨⟨⟨A2247, cA2247⟩, (f_57 : a.eval (.tmp 57) = .slice A2247 x2245.length cA2247), (b_A2247 : RwO own 2246 [] wx 37 R37 A2247 cA2247 x2245)⟩, -⟩ := hf
            exact sg_plain rfl rfl (or_mono (f := Fct.val 4 (.slice A2247 x2245.length cA2247)) (or_assign f_57) (fun own' a' w' v' hp h => fun _ _ h0' => by cases (f_57.symm.trans ((hp.2 57 (by decide)).symm.trans h0')); exact h))
          exact steps_nil
        intro own2248 a2248 w2248 hd2248 hz2248 hk2248 hf2248 hE2248
        have e2248_0 : a2248.eval (.tmp 0) = .slice Al1 l1.length cl1 := (hk2248 0 rfl).trans e2240_0
        have e2248_3 : a2248.eval (.tmp 3) = .slice A2234 out2236.length c2235 := (hk2248 3 rfl).trans e2240_3
        have e2248_5 : a2248.eval (.tmp 5) = .int .i64 i1656 := (hk2248 5 rfl).trans e2240_5
        obtain ⟨⟨⟨A2247, cA2247⟩, (f_57 : a2248.eval (.tmp 57) = .slice A2247 x2245.length cA2247), (b_A2247 : RwO own2248 2246 [] w2248 37 R37 A2247 cA2247 x2245)⟩, (q_4 : ∀ (A2247 : Option Addr) (cA2247 : Nat), a2248.eval (.tmp 57) = .slice A2247 x2245.length cA2247 → a2248.eval (.tmp 4) = .slice A2247 x2245.length cA2247), -⟩ := hf2248 [5, 6] rfl
        have f_4 := q_4 _ _ f_57
        have e2248_4 := f_4
        have hX2248 := Evo.step hE2240 (fun _ => Nat.le_refl 0) hE2248 rfl
        have b2248_Al1 := RdO.evo rfl hE2248 b2240_Al1
        have b2248_A2234 := RwN.evo rfl hE2248 b2240_A2234
        have b2248_A2247 := b_A2247
        exact (K2191 _ _ (rl [(2237, 2185), (2238, 2186), (2246, 2190)] own2248) _ _ A2234 c2235 A2247 cA2247 hd2248 hz2248 e2248_0 e2248_3 e2248_4 e2248_5 (Evo.rl_ hX2248 (fun _ => Nat.le_refl 0) rfl) (RdO.rl_ (mm := [(2237, 2185), (2238, 2186), (2246, 2190)]) b2248_Al1) (RwN.rl_ (mm := [(2237, 2185), (2238, 2186), (2246, 2190)]) b2248_A2234) (RwO.rl_ (mm := [(2237, 2185), (2238, 2186), (2246, 2190)]) b2248_A2247) hs).1
      refine rg_plain_seq (n := 66) (rs := []) (own0 := own2205) (K := [])
          (bs := [0, 1, 3])
          (ds := [⟨[], [4], [], Fct.val 45 (.slice A1652 now1654.length c1653)⟩,
          ⟨[0], [], [], Fct.val 46 (.int .i64 (now1654.length : Int))⟩,
          ⟨[1], [], [], Fct.val 47 (.bool (decide (0 < (now1654.length : Int))))⟩]) (by kernel_rfl) hz2205 hd2205 (fun _ h => nomatch h) ?_ ?_
      · refine steps_cons (fun own a wx hf hsl hE => ?_) ?_
        · obtain ⟨s_4, -⟩ := hsl
          exact sg_plain rfl rfl (or_move (s_4.trans e2205_4))
        refine steps_cons (fun own a wx hf hsl hE => ?_) ?_
        · obtain ⟨(f_45 : a.eval (.tmp 45) = .slice A1652 now1654.length c1653), -⟩ := hf
          exact sg_plain rfl rfl (or_len tu26 f_45 rfl)
        refine steps_cons (fun own a wx hf hsl hE => ?_) ?_
        · obtain ⟨(f_46 : a.eval (.tmp 46) = .int .i64 (now1654.length : Int)), -⟩ := hf
          exact sg_plain rfl rfl (or_gtr f_46 rfl rfl)
        exact steps_nil
      intro own2249 a2249 w2249 hd2249 hz2249 hk2249 hf2249 hE2249
      have e2249_0 : a2249.eval (.tmp 0) = .slice Al1 l1.length cl1 := (hk2249 0 rfl).trans e2205_0
      have e2249_3 : a2249.eval (.tmp 3) = .slice A1647 out1649.length c1648 := (hk2249 3 rfl).trans e2205_3
      have e2249_4 : a2249.eval (.tmp 4) = .slice A1652 now1654.length c1653 := (hk2249 4 rfl).trans e2205_4
      have e2249_5 : a2249.eval (.tmp 5) = .int .i64 i1656 := (hk2249 5 rfl).trans e2205_5
      obtain ⟨(f_47 : a2249.eval (.tmp 47) = .bool (decide (0 < (now1654.length : Int)))), -⟩ := hf2249 [2] rfl
      have e2249_47 := f_47
      have hX2249 := Evo.step hX2205 (fun _ => Nat.le_refl 0) hE2249 rfl
      have b2249_Al1 := RdO.evo rfl hE2249 b2205_Al1
      have b2249_A1647 := RwN.evo rfl hE2249 b2205_A1647
      have b2249_A1652 := RwO.evo rfl hE2249 b2205_A1652
      refine fl_cond e2249_47 hs (fun c2250 hs => ?_) (fun c2250 hs => ?_)
      · obtain ⟨x2257, hx2257, hs⟩ := obind hs
        refine rg_plain (n := 66) (rs := [Fct.rownAt 1650 1651 [] 26 37 R37 A1647 c1648 out1649, Fct.rowAt 1655 [] 37 R37 A1652 c1653 now1654]) (own0 := own2249) (K := [1650, 1651, 1655])
            (bs := [0, 0, 2, 7, 15])
            (ds := [⟨[], [3], [], Fct.val 48 (.slice A1647 out1649.length c1648)⟩,
            ⟨[], [4], [], Fct.val 49 (.slice A1652 now1654.length c1653)⟩,
            ⟨[1, 6], [], [], Fct.rown 2256 1655 [] 50 26 37 R37 [now1654]⟩,
            ⟨[0, 2, 5], [], [1650, 1651, 1655], Fct.rown 2258 2259 [] 51 26 37 R37 x2257⟩,
            ⟨[3], [], [], Fct.rel [3, 51] (fun l => ∀ (A2260 : Option Addr) (cA2260 : Nat), l.getD 1 undef = .slice A2260 x2257.length cA2260 → l.getD 0 undef = .slice A2260 x2257.length cA2260)⟩]) (by kernel_rfl) hz2249 hd2249 (by simp only [List.forall_mem_cons]; exact ⟨b2249_A1647, b2249_A1652, fun _ h => nomatch h⟩) ?_ ?_
        · refine steps_cons (fun own a wx hf hsl hE => ?_) ?_
          · obtain ⟨s_3, -⟩ := hsl
            exact sg_plain rfl rfl (or_move (s_3.trans e2249_3))
          refine steps_cons (fun own a wx hf hsl hE => ?_) ?_
          · obtain ⟨s_4, -⟩ := hsl
            exact sg_plain rfl rfl (or_move (s_4.trans e2249_4))
          refine steps_cons (fun own a wx hf hsl hE => ?_) ?_
          · obtain ⟨(f_49 : a.eval (.tmp 49) = .slice A1652 now1654.length c1653), (b_A1652 : RwO own 1655 [] wx 37 R37 A1652 c1653 now1654), -⟩ := hf
            exact sg_plain rfl rfl (or_litO (R := R37) (lab := 2256) (labE := 1655) (L := []) (e := 26) (e2 := 37) (xl := now1654) [(49, .slice A1652 now1654.length c1653)] rfl rfl ⟨f_49, trivial⟩ (by kernel_rfl) rfl b_A1652 rfl)
          refine steps_cons (fun own a wx hf hsl hE => ?_) ?_
          · obtain ⟨(f_48 : a.eval (.tmp 48) = .slice A1647 out1649.length c1648), ⟨⟨A2255, cA2255⟩, (f_50 : a.eval (.tmp 50) = .slice A2255 [now1654].length cA2255), (b_A2255 : RwN own 2256 1655 [] wx 26 37 R37 A2255 cA2255 [now1654])⟩, (b_A1647 : RwN own 1650 1651 [] wx 26 37 R37 A1647 c1648 out1649), -⟩ := hf
            exact sg_plain rfl rfl (or_appendO (R := R37) (lab := 1650) (labE := 1651) (lab2 := 2258) (lab3 := 2259) (L := []) (L3 := []) tp23 f_48 b_A1647 f_50 b_A2255 hx2257 (by decide) (by decide) (mem_of rfl) (mem_of rfl) (mem_of rfl) (by decide) (by decide) (by decide) (by decide) (by decide) (by decide) (by decide) rfl (by decide) (by decide))
          refine steps_cons (fun own a wx hf hsl hE => ?_) ?_
          · obtain ⟨⟨⟨A2260, cA2260⟩, (f_51 : a.eval (.tmp 51) = .slice A2260 x2257.length cA2260), (b_A2260 : RwN own 2258 2259 [] wx 26 37 R37 A2260 cA2260 x2257)⟩, -⟩ := hf
            exact sg_plain rfl rfl (or_mono (f := Fct.val 3 (.slice A2260 x2257.length cA2260)) (or_assign f_51) (fun own' a' w' v' hp h => fun _ _ h0' => by cases (f_51.symm.trans ((hp.2 51 (by decide)).symm.trans h0')); exact h))
          exact steps_nil
        intro own2261 a2261 w2261 hd2261 hz2261 hk2261 hf2261 hE2261
        have e2261_0 : a2261.eval (.tmp 0) = .slice Al1 l1.length cl1 := (hk2261 0 rfl).trans e2249_0
        have e2261_5 : a2261.eval (.tmp 5) = .int .i64 i1656 := (hk2261 5 rfl).trans e2249_5
        obtain ⟨⟨⟨A2260, cA2260⟩, (f_51 : a2261.eval (.tmp 51) = .slice A2260 x2257.length cA2260), (b_A2260 : RwN own2261 2258 2259 [] w2261 26 37 R37 A2260 cA2260 x2257)⟩, (q_3 : ∀ (A2260 : Option Addr) (cA2260 : Nat), a2261.eval (.tmp 51) = .slice A2260 x2257.length cA2260 → a2261.eval (.tmp 3) = .slice A2260 x2257.length cA2260), -⟩ := hf2261 [3, 4] rfl
        have f_3 := q_3 _ _ f_51
        have e2261_3 := f_3
        have hX2261 := Evo.step hX2249 (fun _ => Nat.le_refl 0) hE2261 rfl
        have b2261_Al1 := RdO.evo rfl hE2261 b2249_Al1
        have b2261_A2260 := b_A2260
        exact (K2239 _ _ (rl [(2258, 2237), (2259, 2238)] own2261) _ A2260 cA2260 hd2261 hz2261 e2261_0 e2261_3 e2261_5 (Evo.rl_ hX2261 (fun _ => Nat.le_refl 0) rfl) (RdO.rl_ (mm := [(2258, 2237), (2259, 2238)]) b2261_Al1) (RwN.rl_ (mm := [(2258, 2237), (2259, 2238)]) b2261_A2260) hs)
      refine fl_skip ?_
      exact (K2239 _ _ (rl [(1650, 2237), (1651, 2238)] own2249) _ A1647 c1648 hd2249 hz2249 e2249_0 e2249_3 e2249_5 (Evo.rl_ hX2249 (fun _ => Nat.le_refl 0) rfl) (RdO.rl_ (mm := [(1650, 2237), (1651, 2238)]) b2249_Al1) (RwN.rl_ (mm := [(1650, 2237), (1651, 2238)]) b2249_A1647) hs)
    refine fl_exit ?_
    refine hp1961 _ _ _ rfl ?_
    replace hs := hz1959 _ hs
    refine hp1959 _ _ _ rfl ?_
    refine hx1159 _ _ ?_
    refine hn1157 _ _ ?_
    refine fl_seq (fun Q2262 hn2262 hp2262 => ?_)
    have K2281 : ∀ (a2281 : Act) (w2281 : World) (own2281 : Own) (out2278 : List (List (Int × Int))) (A2276 : Option Addr) (c2277 : Nat), a2281.defers = [] → a2281.tmps.size = 66 → a2281.eval (.tmp 3) = .slice A2276 out2278.length c2277 → Evo [] (fun _ => 0) own2281 w w2281 → RwN own2281 2279 2280 [] w2281 26 37 R37 A2276 c2277 out2278 → ref22_Join_k4 out2278 = some r → Q2262 .normal a2281 w2281 := by
      intro a2281 w2281 own2281 out2278 A2276 c2277 hd2282 hz2282 e2282_3 hE2282 b2282_A2276 hs
      refine hn2262 _ _ ?_
      refine rg_plain_seq (n := 66) (rs := []) (own0 := own2281) (K := [])
          (bs := [0, 1])
          (ds := [⟨[], [3], [], Fct.val 65 (.slice A2276 out2278.length c2277)⟩,
          ⟨[0], [], [], Fct.val 2 (.slice A2276 out2278.length c2277)⟩]) (by kernel_rfl) hz2282 hd2282 (fun _ h => nomatch h) ?_ ?_
      · refine steps_cons (fun own a wx hf hsl hE => ?_) ?_
        · obtain ⟨s_3, -⟩ := hsl
          exact sg_plain rfl rfl (or_move (s_3.trans e2282_3))
        refine steps_cons (fun own a wx hf hsl hE => ?_) ?_
        · obtain ⟨(f_65 : a.eval (.tmp 65) = .slice A2276 out2278.length c2277), -⟩ := hf
          exact sg_plain rfl rfl (or_assign f_65)
        exact steps_nil
      intro own2283 a2283 w2283 hd2283 hz2283 hk2283 hf2283 hE2283
      obtain ⟨(f_2 : a2283.eval (.tmp 2) = .slice A2276 out2278.length c2277), -⟩ := hf2283 [1] rfl
      have e2283_2 := f_2
      have hX2283 := Evo.step hE2282 (fun _ => Nat.le_refl 0) hE2283 rfl
      have b2283_A2276 := RwN.evo rfl hE2283 b2282_A2276
      refine fl_ret ?_
      obtain rfl := (osome hs).symm
      exact hret _ _ _ _ (.inl rfl) hd2283 (results1_ rfl (RVal.tmp_ e2283_2)) ⟨(rl [(2279, 1), (2280, 2)] own2283), (A2276, c2277), rfl, (Evo.rl_ hX2283 (fun _ => Nat.le_refl 0) rfl), (RwO.rl_ (mm := [(2279, 1), (2280, 2)]) (RwN.rw_ b2283_A2276 (by decide)))⟩
    refine rg_plain_seq (n := 66) (rs := []) (own0 := own1962) (K := [])
        (bs := [0, 1, 3])
        (ds := [⟨[], [4], [], Fct.val 58 (.slice A1652 now1654.length c1653)⟩,
        ⟨[0], [], [], Fct.val 59 (.int .i64 (now1654.length : Int))⟩,
        ⟨[1], [], [], Fct.val 60 (.bool (decide (0 < (now1654.length : Int))))⟩]) (by kernel_rfl) hz1962 hd1962 (fun _ h => nomatch h) ?_ ?_
    · refine steps_cons (fun own a wx hf hsl hE => ?_) ?_
      · obtain ⟨s_4, -⟩ := hsl
        exact sg_plain rfl rfl (or_move (s_4.trans e1962_4))
      refine steps_cons (fun own a wx hf hsl hE => ?_) ?_
      · obtain ⟨(f_58 : a.eval (.tmp 58) = .slice A1652 now1654.length c1653), -⟩ := hf
        exact sg_plain rfl rfl (or_len tu26 f_58 rfl)
      refine steps_cons (fun own a wx hf hsl hE => ?_) ?_
      · obtain ⟨(f_59 : a.eval (.tmp 59) = .int .i64 (now1654.length : Int)), -⟩ := hf
        exact sg_plain rfl rfl (or_gtr f_59 rfl rfl)
      exact steps_nil
    intro own2284 a2284 w2284 hd2284 hz2284 hk2284 hf2284 hE2284
    have e2284_3 : a2284.eval (.tmp 3) = .slice A1647 out1649.length c1648 := (hk2284 3 rfl).trans e1962_3
    have e2284_4 : a2284.eval (.tmp 4) = .slice A1652 now1654.length c1653 := (hk2284 4 rfl).trans e1962_4
    obtain ⟨(f_60 : a2284.eval (.tmp 60) = .bool (decide (0 < (now1654.length : Int)))), -⟩ := hf2284 [2] rfl
    have e2284_60 := f_60
    have hX2284 := Evo.step hX1962 (fun _ => Nat.le_refl 0) hE2284 rfl
    have b2284_A1647 := RwN.evo rfl hE2284 b1962_A1647
    have b2284_A1652 := RwO.evo rfl hE2284 b1962_A1652
    refine fl_cond e2284_60 hs (fun c2285 hs => ?_) (fun c2285 hs => ?_)
    · obtain ⟨x2292, hx2292, hs⟩ := obind hs
      refine rg_plain (n := 66) (rs := [Fct.rownAt 1650 1651 [] 26 37 R37 A1647 c1648 out1649, Fct.rowAt 1655 [] 37 R37 A1652 c1653 now1654]) (own0 := own2284) (K := [1650, 1651, 1655])
          (bs := [0, 0, 2, 7, 15])
          (ds := [⟨[], [3], [], Fct.val 61 (.slice A1647 out1649.length c1648)⟩,
          ⟨[], [4], [], Fct.val 62 (.slice A1652 now1654.length c1653)⟩,
          ⟨[1, 6], [], [], Fct.rown 2291 1655 [] 63 26 37 R37 [now1654]⟩,
          ⟨[0, 2, 5], [], [1650, 1651, 1655], Fct.rown 2293 2294 [] 64 26 37 R37 x2292⟩,
          ⟨[3], [], [], Fct.rel [3, 64] (fun l => ∀ (A2295 : Option Addr) (cA2295 : Nat), l.getD 1 undef = .slice A2295 x2292.length cA2295 → l.getD 0 undef = .slice A2295 x2292.length cA2295)⟩]) (by kernel_rfl) hz2284 hd2284 (by simp only [List.forall_mem_cons]; exact ⟨b2284_A1647, b2284_A1652, fun _ h => nomatch h⟩) ?_ ?_
      · refine steps_cons (fun own a wx hf hsl hE => ?_) ?_
        · obtain ⟨s_3, -⟩ := hsl
          exact sg_plain rfl rfl (or_move (s_3.trans e2284_3))
        refine steps_cons (fun own a wx hf hsl hE => ?_) ?_
        · obtain ⟨s_4, -⟩ := hsl
          exact sg_plain rfl rfl (or_move (s_4.trans e2284_4))
        refine steps_cons (fun own a wx hf hsl hE => ?_) ?_
        · obtain ⟨(f_62 : a.eval (.tmp 62) = .slice A1652 now1654.length c1653), (b_A1652 : RwO own 1655 [] wx 37 R37 A1652 c1653 now1654), -⟩ := hf
          exact sg_plain rfl rfl (or_litO (R := R37) (lab := 2291) (labE := 1655) (L := []) (e := 26) (e2 := 37) (xl := now1654) [(62, .slice A1652 now1654.length c1653)] rfl rfl ⟨f_62, trivial⟩ (by kernel_rfl) rfl b_A1652 rfl)
        refine steps_cons (fun own a wx hf hsl hE => ?_) ?_
        · obtain ⟨(f_61 : a.eval (.tmp 61) = .slice A1647 out1649.length c1648), ⟨⟨A2290, cA2290⟩, (f_63 : a.eval (.tmp 63) = .slice A2290 [now1654].length cA2290), (b_A2290 : RwN own 2291 1655 [] wx 26 37 R37 A2290 cA2290 [now1654])⟩, (b_A1647 : RwN own 1650 1651 [] wx 26 37 R37 A1647 c1648 out1649), -⟩ := hf
          exact sg_plain rfl rfl (or_appendO (R := R37) (lab := 1650) (labE := 1651) (lab2 := 2293) (lab3 := 2294) (L := []) (L3 := []) tp23 f_61 b_A1647 f_63 b_A2290 hx2292 (by decide) (by decide) (mem_of rfl) (mem_of rfl) (mem_of rfl) (by decide) (by decide) (by decide) (by decide) (by decide) (by decide) (by decide) rfl (by decide) (by decide))
        refine steps_cons (fun own a wx hf hsl hE => ?_) ?_
        · obtain ⟨⟨⟨A2295, cA2295⟩, (f_64 : a.eval (.tmp 64) = .slice A2295 x2292.length cA2295), (b_A2295 : RwN own 2293 2294 [] wx 26 37 R37 A2295 cA2295 x2292)⟩, -⟩ := hf
          exact sg_plain rfl rfl (or_mono (f := Fct.val 3 (.slice A2295 x2292.length cA2295)) (or_assign f_64) (fun own' a' w' v' hp h => fun _ _ h0' => by cases (f_64.symm.trans ((hp.2 64 (by decide)).symm.trans h0')); exact h))
        exact steps_nil
      intro own2296 a2296 w2296 hd2296 hz2296 hk2296 hf2296 hE2296
      obtain ⟨⟨⟨A2295, cA2295⟩, (f_64 : a2296.eval (.tmp 64) = .slice A2295 x2292.length cA2295), (b_A2295 : RwN own2296 2293 2294 [] w2296 26 37 R37 A2295 cA2295 x2292)⟩, (q_3 : ∀ (A2295 : Option Addr) (cA2295 : Nat), a2296.eval (.tmp 64) = .slice A2295 x2292.length cA2295 → a2296.eval (.tmp 3) = .slice A2295 x2292.length cA2295), -⟩ := hf2296 [3, 4] rfl
      have f_3 := q_3 _ _ f_64
      have e2296_3 := f_3
      have hX2296 := Evo.step hX2284 (fun _ => Nat.le_refl 0) hE2296 rfl
      have b2296_A2295 := b_A2295
      exact (K2281 _ _ (rl [(2293, 2279), (2294, 2280)] own2296) _ A2295 cA2295 hd2296 hz2296 e2296_3 (Evo.rl_ hX2296 (fun _ => Nat.le_refl 0) rfl) (RwN.rl_ (mm := [(2293, 2279), (2294, 2280)]) b2296_A2295) hs)
    refine fl_skip ?_
    exact (K2281 _ _ (rl [(1650, 2279), (1651, 2280)] own2284) _ A1647 c1648 hd2284 hz2284 e2284_3 (Evo.rl_ hX2284 (fun _ => Nat.le_refl 0) rfl) (RwN.rl_ (mm := [(1650, 2279), (1651, 2280)]) b2284_A1647) hs)

theorem law22_LineclipJoins_w (w : World) (l1 : List (List (Int × Int))) (Al1 : Option Addr) (cl1 : Nat) (hl1 : RdO (fun _ => 0) [0] w R24 Al1 cl1 l1) (r : Bool) (hs : law22_LineclipJoins l1 = some r) :
    Calls Try.prog 3 #[.slice Al1 l1.length cl1] w fun e w' => ∃ own' : Own, e = .returned (.bool r) ∧ Evo [] (fun _ => 0) own' w w' := by
  refine fl_enter (n := 50) rfl rfl rfl (Nat.le_of_ble_eq_true rfl) ?_
  intro a0 Q hd0 hz0 harg hret
  have ha0 := harg 0 _ rfl
  clear harg
  have hE0 : Evo [] (fun _ => 0) (fun _ => 0) w w := Evo.refl _ _ _
  refine rg_plain_seq (n := 50) (rs := []) (own0 := (fun _ => 0)) (K := [])
      (bs := [0])
      (ds := [⟨[], [], [], Fct.val 2 (.bool false)⟩]) (by kernel_rfl) hz0 hd0 (fun _ h => nomatch h) ?_ ?_
  · refine steps_cons (fun own a wx hf hsl hE => ?_) ?_
    · exact sg_plain rfl rfl (or_assign rfl)
    exact steps_nil
  intro own199 a199 w199 hd199 hz199 hk199 hf199 hE199
  have e199_0 : a199.eval (.tmp 0) = .slice Al1 l1.length cl1 := (hk199 0 rfl).trans ha0
  have hX199 := Evo.step hE0 (fun _ => Nat.le_refl 0) hE199 rfl
  have b199_Al1 := RdO.evo rfl hE199 hl1
  refine rg_plain_seq (n := 50) (rs := []) (own0 := own199) (K := [])
      (bs := [0])
      (ds := [⟨[], [], [], Fct.val 3 (.slice none 0 0)⟩]) (by kernel_rfl) hz199 hd199 (fun _ h => nomatch h) ?_ ?_
  · refine steps_cons (fun own a wx hf hsl hE => ?_) ?_
    · exact sg_plain rfl rfl (or_assign rfl)
    exact steps_nil
  intro own200 a200 w200 hd200 hz200 hk200 hf200 hE200
  have e200_0 : a200.eval (.tmp 0) = .slice Al1 l1.length cl1 := (hk200 0 rfl).trans e199_0
  obtain ⟨(f_3 : a200.eval (.tmp 3) = .slice none 0 0), -⟩ := hf200 [0] rfl
  have e200_3 := f_3
  have hX200 := Evo.step hX199 (fun _ => Nat.le_refl 0) hE200 rfl
  have b200_Al1 := RdO.evo rfl hE200 b199_Al1
  refine rg_plain_seq (n := 50) (rs := []) (own0 := own200) (K := [])
      (bs := [0])
      (ds := [⟨[], [], [], Fct.val 4 (.slice none 0 0)⟩]) (by kernel_rfl) hz200 hd200 (fun _ h => nomatch h) ?_ ?_
  · refine steps_cons (fun own a wx hf hsl hE => ?_) ?_
    · exact sg_plain rfl rfl (or_assign rfl)
    exact steps_nil
  intro own201 a201 w201 hd201 hz201 hk201 hf201 hE201
  have e201_0 : a201.eval (.tmp 0) = .slice Al1 l1.length cl1 := (hk201 0 rfl).trans e200_0
  have e201_3 : a201.eval (.tmp 3) = .slice none 0 0 := (hk201 3 rfl).trans e200_3
  obtain ⟨(f_4 : a201.eval (.tmp 4) = .slice none 0 0), -⟩ := hf201 [0] rfl
  have e201_4 := f_4
  have hX201 := Evo.step hX200 (fun _ => Nat.le_refl 0) hE201 rfl
  have b201_Al1 := RdO.evo rfl hE201 b200_Al1
  refine fl_seq (fun Q202 hn202 hp202 => ?_)
  refine rg_plain_seq (n := 50) (rs := []) (own0 := own201) (K := [])
      (bs := [0])
      (ds := [⟨[], [], [], Fct.val 5 (.int .i64 0)⟩]) (by kernel_rfl) hz201 hd201 (fun _ h => nomatch h) ?_ ?_
  · refine steps_cons (fun own a wx hf hsl hE => ?_) ?_
    · exact sg_plain rfl rfl (or_assign rfl)
    exact steps_nil
  intro own203 a203 w203 hd203 hz203 hk203 hf203 hE203
  have e203_0 : a203.eval (.tmp 0) = .slice Al1 l1.length cl1 := (hk203 0 rfl).trans e201_0
  have e203_3 : a203.eval (.tmp 3) = .slice none 0 0 := (hk203 3 rfl).trans e201_3
  have e203_4 : a203.eval (.tmp 4) = .slice none 0 0 := (hk203 4 rfl).trans e201_4
  obtain ⟨(f_5 : a203.eval (.tmp 5) = .int .i64 0), -⟩ := hf203 [0] rfl
  have e203_5 := f_5
  have hX203 := Evo.step hX201 (fun _ => Nat.le_refl 0) hE203 rfl
  have b203_Al1 := RdO.evo rfl hE203 b201_Al1
  refine fl_block (fun Q204 hn204 hx204 hp204 => ?_)
  refine fl_loop (body := (fun s => law22_LineclipJoins_b1 l1 s.1 s.2.1 s.2.2)) (z := r) (show loopO _ _ = _ from hs) (fun (s : (List (List (Int × Int))) × (List (List (Int × Int))) × Int) a wx => match s with | (some246, x251, i254) => ∃ (ox : Own) (A244 : Option Addr) (c245 : Nat) (A249 : Option Addr) (c250 : Nat), a.defers = [] ∧ a.tmps.size = 50 ∧ a.eval (.tmp 0) = .slice Al1 l1.length cl1 ∧ a.eval (.tmp 3) = .slice A244 some246.length c245 ∧ a.eval (.tmp 4) = .slice A249 x251.length c250 ∧ a.eval (.tmp 5) = .int .i64 i254 ∧ Evo [] (fun _ => 0) ox w wx ∧ RdO ox [0] wx R24 Al1 cl1 l1 ∧ RwO ox 247 [0, 248] wx 24 R24 A244 c245 some246 ∧ RwN ox 252 253 [] wx 26 37 R37 A249 c250 x251) ?_ ?_
  · exact ⟨own203, none, 0, none, 0, hd203, hz203, e203_0, e203_3, e203_4, e203_5, hX203, b203_Al1, RwO.nil_, RwN.nil_⟩
  · rintro ⟨some246, x251, i254⟩ zz310 a310 w310 ⟨own310, A244, c245, A249, c250, hd311, hz311, e311_0, e311_3, e311_4, e311_5, hE311, b311_Al1, b311_A244, b311_A249⟩ hs Q310 hn310 hp310 hz310
    have hs : law22_LineclipJoins_b1 l1 some246 x251 i254 = some zz310 := hs
    refine fl_seq (fun Q312 hn312 hp312 => ?_)
    obtain ⟨x313, hx313, hs⟩ := obind hs
    refine rg_plain_seq (n := 50) (rs := []) (own0 := own310) (K := [])
        (bs := [0, 0, 2, 7, 15, 31, 63, 127])
        (ds := [⟨[], [5], [], Fct.val 7 (.int .i64 i254)⟩,
        ⟨[], [0], [], Fct.val 8 (.slice Al1 l1.length cl1)⟩,
        ⟨[1], [], [], Fct.val 9 (.int .i64 (l1.length : Int))⟩,
        ⟨[0, 2], [], [], Fct.val 10 (.bool (decide (i254 < (l1.length : Int))))⟩,
        ⟨[3], [], [], Fct.val 11 (.bool (decide (i254 < (l1.length : Int))))⟩,
        ⟨[4], [5], [], Fct.cond (decide (i254 < (l1.length : Int))) (some 12) (Fct.val 12 (.int .i64 i254))⟩,
        ⟨[4, 5], [], [], Fct.cond (decide (i254 < (l1.length : Int))) (some 13) (Fct.val 13 (.bool (decide (i254 < 10))))⟩,
        ⟨[4, 6], [], [], Fct.val 14 (.bool x313)⟩]) (by kernel_rfl) hz311 hd311 (fun _ h => nomatch h) ?_ ?_
    · refine steps_cons (fun own a wx hf hsl hE => ?_) ?_
      · obtain ⟨s_5, -⟩ := hsl
        exact sg_plain rfl rfl (or_move (s_5.trans e311_5))
      refine steps_cons (fun own a wx hf hsl hE => ?_) ?_
      · obtain ⟨s_0, -⟩ := hsl
        exact sg_plain rfl rfl (or_move (s_0.trans e311_0))
      refine steps_cons (fun own a wx hf hsl hE => ?_) ?_
      · obtain ⟨(f_8 : a.eval (.tmp 8) = .slice Al1 l1.length cl1), -⟩ := hf
        exact sg_plain rfl rfl (or_len tu22 f_8 rfl)
      refine steps_cons (fun own a wx hf hsl hE => ?_) ?_
      · obtain ⟨(f_7 : a.eval (.tmp 7) = .int .i64 i254), (f_9 : a.eval (.tmp 9) = .int .i64 (l1.length : Int)), -⟩ := hf
        exact sg_plain rfl rfl (or_lss f_7 f_9 rfl)
      refine steps_cons (fun own a wx hf hsl hE => ?_) ?_
      · obtain ⟨(f_10 : a.eval (.tmp 10) = .bool (decide (i254 < (l1.length : Int)))), -⟩ := hf
        exact sg_plain rfl rfl (or_move f_10)
      refine steps_cons (fun own a wx hf hsl hE => ?_) ?_
      · obtain ⟨(f_11 : a.eval (.tmp 11) = .bool (decide (i254 < (l1.length : Int)))), -⟩ := hf
        obtain ⟨s_5, -⟩ := hsl
        refine sg_t rfl rfl rfl f_11 (fun hg => ?_)
        exact or_move (s_5.trans e311_5)
      refine steps_cons (fun own a wx hf hsl hE => ?_) ?_
      · obtain ⟨(f_11 : a.eval (.tmp 11) = .bool (decide (i254 < (l1.length : Int)))), c_12, -⟩ := hf
        refine sg_t rfl rfl rfl f_11 (fun hg => ?_)
        have f_12 : a.eval (.tmp 12) = .int .i64 i254 := c_12.1 hg
        exact or_lss f_12 rfl rfl
      refine steps_cons (fun own a wx hf hsl hE => ?_) ?_
      · obtain ⟨(f_11 : a.eval (.tmp 11) = .bool (decide (i254 < (l1.length : Int)))), c_13, -⟩ := hf
        exact sg_plain rfl rfl (or_and f_11 (fun hx => c_13.1 hx) rfl (osome hx313).symm)
      exact steps_nil
    intro own314 a314 w314 hd314 hz314 hk314 hf314 hE314
    have e314_0 : a314.eval (.tmp 0) = .slice Al1 l1.length cl1 := (hk314 0 rfl).trans e311_0
    have e314_3 : a314.eval (.tmp 3) = .slice A244 some246.length c245 := (hk314 3 rfl).trans e311_3
    have e314_4 : a314.eval (.tmp 4) = .slice A249 x251.length c250 := (hk314 4 rfl).trans e311_4
    have e314_5 : a314.eval (.tmp 5) = .int .i64 i254 := (hk314 5 rfl).trans e311_5
    obtain ⟨(f_14 : a314.eval (.tmp 14) = .bool x313), -⟩ := hf314 [7] rfl
    have e314_14 := f_14
    have hX314 := Evo.step hE311 (fun _ => Nat.le_refl 0) hE314 rfl
    have b314_Al1 := RdO.evo rfl hE314 b311_Al1
    have b314_A244 := RwO.evo rfl hE314 b311_A244
    have b314_A249 := RwN.evo rfl hE314 b311_A249
    refine fl_cond e314_14 hs (fun c315 hs => ?_) (fun c315 hs => ?_)
    · refine fl_skip ?_
      refine hn312 _ _ ?_
      refine fl_seq (fun Q316 hn316 hp316 => ?_)
      refine fl_block (fun Q317 hn317 hx317 hp317 => ?_)
      obtain ⟨x326, hx326, hs⟩ := obind hs
      obtain ⟨r328, hr328, hs⟩ := obind hs
      obtain ⟨x334, hx334, hs⟩ := obind hs
      refine rg_plain_seq (n := 50) (rs := [Fct.rowAt 247 [0, 248] 24 R24 A244 c245 some246]) (own0 := own314) (K := [247])
          (bs := [0, 0, 0, 6, 14, 30, 62, 127, 255])
          (ds := [⟨[], [3], [], Fct.val 17 (.slice A244 some246.length c245)⟩,
          ⟨[], [0], [], Fct.val 18 (.slice Al1 l1.length cl1)⟩,
          ⟨[], [5], [], Fct.val 19 (.int .i64 i254)⟩,
          ⟨[1, 2], [], [], Fct.val 20 (.pointer (some ((adr Al1).add ((i254 : Int).toNat * R24.s))))⟩,
          ⟨[3], [], [], Fct.nest X24 [0] 21 (fun (y : (Option Addr × Nat)) => .slice y.1 x326.length y.2) x326⟩,
          ⟨[4], [], [], Fct.mems [330, 331, 0] 22 (fun (x : Option Addr × Nat) => .slice x.1 r328.length x.2) (fun (x : Option Addr × Nat) own w => RdO own [330, 331, 0] w R34 x.1 x.2 r328) (fun hk he h => RdO.evo (hits_sub hk (by decide)) he h)⟩,
          ⟨[5], [], [], Fct.row 333 [0, 330, 331] 23 24 R24 [r328]⟩,
          ⟨[0, 6, 9], [], [247], Fct.row 335 [0, 248, 330, 331, 333] 24 24 R24 x334⟩,
          ⟨[7], [], [], Fct.rel [3, 24] (fun l => ∀ (A336 : Option Addr) (cA336 : Nat), l.getD 1 undef = .slice A336 x334.length cA336 → l.getD 0 undef = .slice A336 x334.length cA336)⟩]) (by kernel_rfl) hz314 hd314 (by simp only [List.forall_mem_cons]; exact ⟨b314_A244, fun _ h => nomatch h⟩) ?_ ?_
      · refine steps_cons (fun own a wx hf hsl hE => ?_) ?_
        · obtain ⟨s_3, -⟩ := hsl
          exact sg_plain rfl rfl (or_move (s_3.trans e314_3))
        refine steps_cons (fun own a wx hf hsl hE => ?_) ?_
        · obtain ⟨s_0, -⟩ := hsl
          exact sg_plain rfl rfl (or_move (s_0.trans e314_0))
        refine steps_cons (fun own a wx hf hsl hE => ?_) ?_
        · obtain ⟨s_5, -⟩ := hsl
          exact sg_plain rfl rfl (or_move (s_5.trans e314_5))
        refine steps_cons (fun own a wx hf hsl hE => ?_) ?_
        · obtain ⟨(f_18 : a.eval (.tmp 18) = .slice Al1 l1.length cl1), (f_19 : a.eval (.tmp 19) = .int .i64 i254), -⟩ := hf
          exact sg_plain rfl rfl (or_index (R := R24) (l := l1) tl22 f_18 f_19 (RdO.some_ b314_Al1 hx326) hx326)
        refine steps_cons (fun own a wx hf hsl hE => ?_) ?_
        · obtain ⟨(f_20 : a.eval (.tmp 20) = .pointer (some ((adr Al1).add ((i254 : Int).toNat * R24.s)))), -⟩ := hf
          exact sg_plain rfl rfl (or_loadN1 X24 0 to24 f_20 (Addr.add_zero' _).symm (RdO.evo rfl hE b314_Al1) hx326 (fun _ => rfl))
        refine steps_cons (fun own a wx hf hsl hE => ?_) ?_
        · obtain ⟨⟨⟨A327, cA327⟩, (f_21 : a.eval (.tmp 21) = .slice A327 x326.length cA327), (b_A327 : RdO own [0] wx R34 A327 cA327 x326)⟩, -⟩ := hf
          exact sg_plain rfl rfl (or_call cf7 (args1 f_21) (law03_Cut_w _ (forth own (inL [0])) x326 A327 cA327 inL_le (RdO.alias_ (La := [0]) b_A327 (by decide)) r328 hr328) (post_alias (La := [0]) (m' := (look0 [(1, 330), (2, 331)])) (fun own' w' a' x ho hsz h1 h => ⟨x, h1, RdO.backN_ ho hsz h (by decide) (by decide) (by decide)⟩)))
        refine steps_cons (fun own a wx hf hsl hE => ?_) ?_
        · obtain ⟨⟨⟨A329, cA329⟩, (f_22 : a.eval (.tmp 22) = .slice A329 r328.length cA329), (b_A329 : RdO own [330, 331, 0] wx R34 A329 cA329 r328)⟩, -⟩ := hf
          exact sg_plain rfl rfl (or_litN (R := R24) (lab := 333) (L := [0, 330, 331]) (e := 24) (cs := #[.slice A329 r328.length cA329]) (l := [r328]) (n := 1) [(22, .slice A329 r328.length cA329)] rfl rfl ⟨f_22, trivial⟩ (by kernel_rfl) rfl (by decide) ⟨(Ex.iff X24).2 ⟨(A329, cA329), rfl, (RdO.more b_A329 (by decide))⟩, rfl⟩ rfl)
        refine steps_cons (fun own a wx hf hsl hE => ?_) ?_
        · obtain ⟨(f_17 : a.eval (.tmp 17) = .slice A244 some246.length c245), ⟨⟨A332, cA332⟩, (f_23 : a.eval (.tmp 23) = .slice A332 [r328].length cA332), (b_A332 : RwO own 333 [0, 330, 331] wx 24 R24 A332 cA332 [r328])⟩, (b_A244 : RwO own 247 [0, 248] wx 24 R24 A244 c245 some246), -⟩ := hf
          exact sg_plain rfl rfl (or_append (R := R24) (lab := 247) (lab2 := 335) (L := [0, 248]) (L3 := [0, 248, 330, 331, 333]) tp22 f_17 b_A244 (by decide) f_23 (RwO.rd b_A332) hx334 (by decide) (by decide) (mem_of rfl) (.inr ⟨rfl, rfl, by decide, by decide⟩))
        refine steps_cons (fun own a wx hf hsl hE => ?_) ?_
        · obtain ⟨⟨⟨A336, cA336⟩, (f_24 : a.eval (.tmp 24) = .slice A336 x334.length cA336), (b_A336 : RwO own 335 [0, 248, 330, 331, 333] wx 24 R24 A336 cA336 x334)⟩, -⟩ := hf
          exact sg_plain rfl rfl (or_mono (f := Fct.val 3 (.slice A336 x334.length cA336)) (or_assign f_24) (fun own' a' w' v' hp h => fun _ _ h0' => by cases (f_24.symm.trans ((hp.2 24 (by decide)).symm.trans h0')); exact h))
        exact steps_nil
      intro own337 a337 w337 hd337 hz337 hk337 hf337 hE337
      have e337_0 : a337.eval (.tmp 0) = .slice Al1 l1.length cl1 := (hk337 0 rfl).trans e314_0
      have e337_4 : a337.eval (.tmp 4) = .slice A249 x251.length c250 := (hk337 4 rfl).trans e314_4
      have e337_5 : a337.eval (.tmp 5) = .int .i64 i254 := (hk337 5 rfl).trans e314_5
      obtain ⟨⟨⟨A336, cA336⟩, (f_24 : a337.eval (.tmp 24) = .slice A336 x334.length cA336), (b_A336 : RwO own337 335 [0, 248, 330, 331, 333] w337 24 R24 A336 cA336 x334)⟩, (q_3 : ∀ (A336 : Option Addr) (cA336 : Nat), a337.eval (.tmp 24) = .slice A336 x334.length cA336 → a337.eval (.tmp 3) = .slice A336 x334.length cA336), -⟩ := hf337 [7, 8] rfl
      have f_3 := q_3 _ _ f_24
      have e337_3 := f_3
      have hX337 := Evo.step hX314 (fun _ => Nat.le_refl 0) hE337 rfl
      have b337_Al1 := RdO.evo rfl hE337 b314_Al1
      have b337_A249 := RwN.evo rfl hE337 b314_A249
      have b337_A336 := b_A336
      obtain ⟨x349, hx349, hs⟩ := obind hs
      obtain ⟨r351, hr351, hs⟩ := obind hs
      obtain ⟨r355, hr355, hs⟩ := obind hs
      obtain ⟨x360, hx360, hs⟩ := obind hs
      refine rg_plain (n := 50) (rs := [Fct.rownAt 252 253 [] 26 37 R37 A249 c250 x251]) (own0 := own337) (K := [252, 253, 357])
          (bs := [0, 0, 0, 6, 14, 30, 62, 126, 255, 511])
          (ds := [⟨[], [4], [], Fct.val 25 (.slice A249 x251.length c250)⟩,
          ⟨[], [0], [], Fct.val 26 (.slice Al1 l1.length cl1)⟩,
          ⟨[], [5], [], Fct.val 27 (.int .i64 i254)⟩,
          ⟨[1, 2], [], [], Fct.val 28 (.pointer (some ((adr Al1).add ((i254 : Int).toNat * R24.s))))⟩,
          ⟨[3], [], [], Fct.nest X24 [0] 29 (fun (y : (Option Addr × Nat)) => .slice y.1 x349.length y.2) x349⟩,
          ⟨[4], [], [], Fct.mems [353, 354, 0] 30 (fun (x : Option Addr × Nat) => .slice x.1 r351.length x.2) (fun (x : Option Addr × Nat) own w => RdO own [353, 354, 0] w R34 x.1 x.2 r351) (fun hk he h => RdO.evo (hits_sub hk (by decide)) he h)⟩,
          ⟨[5], [], [], Fct.row 357 [] 31 37 R37 r355⟩,
          ⟨[6], [], [], Fct.rown 359 357 [] 32 26 37 R37 [r355]⟩,
          ⟨[0, 7, 10], [], [252, 253, 357], Fct.rown 361 362 [] 33 26 37 R37 x360⟩,
          ⟨[8], [], [], Fct.rel [4, 33] (fun l => ∀ (A363 : Option Addr) (cA363 : Nat), l.getD 1 undef = .slice A363 x360.length cA363 → l.getD 0 undef = .slice A363 x360.length cA363)⟩]) (by kernel_rfl) hz337 hd337 (by simp only [List.forall_mem_cons]; exact ⟨b337_A249, fun _ h => nomatch h⟩) ?_ ?_
      · refine steps_cons (fun own a wx hf hsl hE => ?_) ?_
        · obtain ⟨s_4, -⟩ := hsl
          exact sg_plain rfl rfl (or_move (s_4.trans e337_4))
        refine steps_cons (fun own a wx hf hsl hE => ?_) ?_
        · obtain ⟨s_0, -⟩ := hsl
          exact sg_plain rfl rfl (or_move (s_0.trans e337_0))
        refine steps_cons (fun own a wx hf hsl hE => ?_) ?_
        · obtain ⟨s_5, -⟩ := hsl
          exact sg_plain rfl rfl (or_move (s_5.trans e337_5))
        refine steps_cons (fun own a wx hf hsl hE => ?_) ?_
        · obtain ⟨(f_26 : a.eval (.tmp 26) = .slice Al1 l1.length cl1), (f_27 : a.eval (.tmp 27) = .int .i64 i254), -⟩ := hf
          exact sg_plain rfl rfl (or_index (R := R24) (l := l1) tl22 f_26 f_27 (RdO.some_ b337_Al1 hx349) hx349)
        refine steps_cons (fun own a wx hf hsl hE => ?_) ?_
        · obtain ⟨(f_28 : a.eval (.tmp 28) = .pointer (some ((adr Al1).add ((i254 : Int).toNat * R24.s)))), -⟩ := hf
          exact sg_plain rfl rfl (or_loadN1 X24 0 to24 f_28 (Addr.add_zero' _).symm (RdO.evo rfl hE b337_Al1) hx349 (fun _ => rfl))
        refine steps_cons (fun own a wx hf hsl hE => ?_) ?_
        · obtain ⟨⟨⟨A350, cA350⟩, (f_29 : a.eval (.tmp 29) = .slice A350 x349.length cA350), (b_A350 : RdO own [0] wx R34 A350 cA350 x349)⟩, -⟩ := hf
          exact sg_plain rfl rfl (or_call cf7 (args1 f_29) (law03_Cut_w _ (forth own (inL [0])) x349 A350 cA350 inL_le (RdO.alias_ (La := [0]) b_A350 (by decide)) r351 hr351) (post_alias (La := [0]) (m' := (look0 [(1, 353), (2, 354)])) (fun own' w' a' x ho hsz h1 h => ⟨x, h1, RdO.backN_ ho hsz h (by decide) (by decide) (by decide)⟩)))
        refine steps_cons (fun own a wx hf hsl hE => ?_) ?_
        · obtain ⟨⟨⟨A352, cA352⟩, (f_30 : a.eval (.tmp 30) = .slice A352 r351.length cA352), (b_A352 : RdO own [353, 354, 0] wx R34 A352 cA352 r351)⟩, -⟩ := hf
          exact sg_plain rfl rfl (or_call cf8 (args1 f_30) (law01_Ofs_w _ r351 A352 cA352 (RdO.zero b_A352) r355 hr355) (post_row (m' := (look0 [(1, 357)])) (.inl (Rep.fl_flat _)) rfl rfl (fun _ => rfl)))
        refine steps_cons (fun own a wx hf hsl hE => ?_) ?_
        · obtain ⟨⟨⟨A356, cA356⟩, (f_31 : a.eval (.tmp 31) = .slice A356 r355.length cA356), (b_A356 : RwO own 357 [] wx 37 R37 A356 cA356 r355)⟩, -⟩ := hf
          exact sg_plain rfl rfl (or_litO (R := R37) (lab := 359) (labE := 357) (L := []) (e := 26) (e2 := 37) (xl := r355) [(31, .slice A356 r355.length cA356)] rfl rfl ⟨f_31, trivial⟩ (by kernel_rfl) rfl b_A356 rfl)
        refine steps_cons (fun own a wx hf hsl hE => ?_) ?_
        · obtain ⟨(f_25 : a.eval (.tmp 25) = .slice A249 x251.length c250), ⟨⟨A358, cA358⟩, (f_32 : a.eval (.tmp 32) = .slice A358 [r355].length cA358), (b_A358 : RwN own 359 357 [] wx 26 37 R37 A358 cA358 [r355])⟩, (b_A249 : RwN own 252 253 [] wx 26 37 R37 A249 c250 x251), -⟩ := hf
          exact sg_plain rfl rfl (or_appendO (R := R37) (lab := 252) (labE := 253) (lab2 := 361) (lab3 := 362) (L := []) (L3 := []) tp23 f_25 b_A249 f_32 b_A358 hx360 (by decide) (by decide) (mem_of rfl) (mem_of rfl) (mem_of rfl) (by decide) (by decide) (by decide) (by decide) (by decide) (by decide) (by decide) rfl (by decide) (by decide))
        refine steps_cons (fun own a wx hf hsl hE => ?_) ?_
        · obtain ⟨⟨⟨A363, cA363⟩, (f_33 : a.eval (.tmp 33) = .slice A363 x360.length cA363), (b_A363 : RwN own 361 362 [] wx 26 37 R37 A363 cA363 x360)⟩, -⟩ := hf
          exact sg_plain rfl rfl (or_mono (f := Fct.val 4 (.slice A363 x360.length cA363)) (or_assign f_33) (fun own' a' w' v' hp h => fun _ _ h0' => by cases (f_33.symm.trans ((hp.2 33 (by decide)).symm.trans h0')); exact h))
        exact steps_nil
      intro own364 a364 w364 hd364 hz364 hk364 hf364 hE364
      have e364_0 : a364.eval (.tmp 0) = .slice Al1 l1.length cl1 := (hk364 0 rfl).trans e337_0
      have e364_3 : a364.eval (.tmp 3) = .slice A336 x334.length cA336 := (hk364 3 rfl).trans e337_3
      have e364_5 : a364.eval (.tmp 5) = .int .i64 i254 := (hk364 5 rfl).trans e337_5
      obtain ⟨⟨⟨A363, cA363⟩, (f_33 : a364.eval (.tmp 33) = .slice A363 x360.length cA363), (b_A363 : RwN own364 361 362 [] w364 26 37 R37 A363 cA363 x360)⟩, (q_4 : ∀ (A363 : Option Addr) (cA363 : Nat), a364.eval (.tmp 33) = .slice A363 x360.length cA363 → a364.eval (.tmp 4) = .slice A363 x360.length cA363), -⟩ := hf364 [8, 9] rfl
      have f_4 := q_4 _ _ f_33
      have e364_4 := f_4
      have hX364 := Evo.step hX337 (fun _ => Nat.le_refl 0) hE364 rfl
      have b364_Al1 := RdO.evo rfl hE364 b337_Al1
      have b364_A336 := RwO.evo rfl hE364 b337_A336
      have b364_A363 := b_A363
      refine hn317 _ _ ?_
      refine hn316 _ _ ?_
      refine rg_plain (n := 50) (rs := []) (own0 := own364) (K := [])
          (bs := [0, 1, 3])
          (ds := [⟨[], [5], [], Fct.val 15 (.int .i64 i254)⟩,
          ⟨[0], [], [], Fct.val 16 (.int .i64 (ad i254 1))⟩,
          ⟨[1], [], [], Fct.val 5 (.int .i64 (ad i254 1))⟩]) (by kernel_rfl) hz364 hd364 (fun _ h => nomatch h) ?_ ?_
      · refine steps_cons (fun own a wx hf hsl hE => ?_) ?_
        · obtain ⟨s_5, -⟩ := hsl
          exact sg_plain rfl rfl (or_move (s_5.trans e364_5))
        refine steps_cons (fun own a wx hf hsl hE => ?_) ?_
        · obtain ⟨(f_15 : a.eval (.tmp 15) = .int .i64 i254), -⟩ := hf
          exact sg_plain rfl rfl (or_add f_15 rfl rfl)
        refine steps_cons (fun own a wx hf hsl hE => ?_) ?_
        · obtain ⟨(f_16 : a.eval (.tmp 16) = .int .i64 (ad i254 1)), -⟩ := hf
          exact sg_plain rfl rfl (or_assign f_16)
        exact steps_nil
      intro own365 a365 w365 hd365 hz365 hk365 hf365 hE365
      have e365_0 : a365.eval (.tmp 0) = .slice Al1 l1.length cl1 := (hk365 0 rfl).trans e364_0
      have e365_3 : a365.eval (.tmp 3) = .slice A336 x334.length cA336 := (hk365 3 rfl).trans e364_3
      have e365_4 : a365.eval (.tmp 4) = .slice A363 x360.length cA363 := (hk365 4 rfl).trans e364_4
      obtain ⟨(f_5 : a365.eval (.tmp 5) = .int .i64 (ad i254 1)), -⟩ := hf365 [2] rfl
      have e365_5 := f_5
      have hX365 := Evo.step hX364 (fun _ => Nat.le_refl 0) hE365 rfl
      have b365_Al1 := RdO.evo rfl hE365 b364_Al1
      have b365_A336 := RwO.evo rfl hE365 b364_A336
      have b365_A363 := RwN.evo rfl hE365 b364_A363
      exact hn310 _ _ _ hs ⟨(rl [(330, 248), (331, 248), (333, 248), (335, 247), (361, 252), (362, 253)] own365), A336, cA336, A363, cA363, hd365, hz365, e365_0, e365_3, e365_4, e365_5, (Evo.rl_ hX365 (fun _ => Nat.le_refl 0) rfl), (RdO.rl_ (mm := [(330, 248), (331, 248), (333, 248), (335, 247), (361, 252), (362, 253)]) b365_Al1), (RwO.more (RwO.rl_ (mm := [(330, 248), (331, 248), (333, 248), (335, 247), (361, 252), (362, 253)]) b365_A336) (by decide)), (RwN.rl_ (mm := [(330, 248), (331, 248), (333, 248), (335, 247), (361, 252), (362, 253)]) b365_A363)⟩
    refine fl_exit ?_
    refine hp312 _ _ _ rfl ?_
    replace hs := hz310 _ hs
    refine hp310 _ _ _ rfl ?_
    refine hx204 _ _ ?_
    refine hn202 _ _ ?_
    obtain ⟨r366, hr366, hs⟩ := obind hs
    refine rg_plain_seq (n := 50) (rs := []) (own0 := own314) (K := [])
        (bs := [0, 1, 3])
        (ds := [⟨[], [3], [], Fct.val 34 (.slice A244 some246.length c245)⟩,
        ⟨[0], [], [], Fct.row 368 [369] 35 24 R24 r366⟩,
        ⟨[1], [], [], Fct.rel [6, 35] (fun l => ∀ (A367 : Option Addr) (cA367 : Nat), l.getD 1 undef = .slice A367 r366.length cA367 → l.getD 0 undef = .slice A367 r366.length cA367)⟩]) (by kernel_rfl) hz314 hd314 (fun _ h => nomatch h) ?_ ?_
    · refine steps_cons (fun own a wx hf hsl hE => ?_) ?_
      · obtain ⟨s_3, -⟩ := hsl
        exact sg_plain rfl rfl (or_move (s_3.trans e314_3))
      refine steps_cons (fun own a wx hf hsl hE => ?_) ?_
      · obtain ⟨(f_34 : a.eval (.tmp 34) = .slice A244 some246.length c245), -⟩ := hf
        exact sg_plain rfl rfl (or_call cf9 (args1 f_34) (lineclip_Join_w _ some246 A244 c245 (RdO.zero (RwO.rd (RwO.evo rfl hE b314_A244))) r366 hr366) (post_row (m' := (look0 [(1, 368), (2, 369)])) (.inr (by decide)) rfl rfl (fun _ => rfl)))
      refine steps_cons (fun own a wx hf hsl hE => ?_) ?_
      · obtain ⟨⟨⟨A367, cA367⟩, (f_35 : a.eval (.tmp 35) = .slice A367 r366.length cA367), (b_A367 : RwO own 368 [369] wx 24 R24 A367 cA367 r366)⟩, -⟩ := hf
        exact sg_plain rfl rfl (or_mono (f := Fct.val 6 (.slice A367 r366.length cA367)) (or_assign f_35) (fun own' a' w' v' hp h => fun _ _ h0' => by cases (f_35.symm.trans ((hp.2 35 (by decide)).symm.trans h0')); exact h))
      exact steps_nil
    intro own370 a370 w370 hd370 hz370 hk370 hf370 hE370
    have e370_4 : a370.eval (.tmp 4) = .slice A249 x251.length c250 := (hk370 4 rfl).trans e314_4
    obtain ⟨⟨⟨A367, cA367⟩, (f_35 : a370.eval (.tmp 35) = .slice A367 r366.length cA367), (b_A367 : RwO own370 368 [369] w370 24 R24 A367 cA367 r366)⟩, (q_6 : ∀ (A367 : Option Addr) (cA367 : Nat), a370.eval (.tmp 35) = .slice A367 r366.length cA367 → a370.eval (.tmp 6) = .slice A367 r366.length cA367), -⟩ := hf370 [1, 2] rfl
    have f_6 := q_6 _ _ f_35
    have e370_6 := f_6
    have hX370 := Evo.step hX314 (fun _ => Nat.le_refl 0) hE370 rfl
    have b370_A249 := RwN.evo rfl hE370 b314_A249
    have b370_A367 := b_A367
    obtain ⟨r371, hr371, hs⟩ := obind hs
    obtain ⟨r372, hr372, hs⟩ := obind hs
    obtain ⟨r376, hr376, hs⟩ := obind hs
    obtain ⟨r377, hr377, hs⟩ := obind hs
    obtain ⟨r381, hr381, hs⟩ := obind hs
    obtain ⟨r385, hr385, hs⟩ := obind hs
    refine rg_plain_seq (n := 50) (rs := []) (own0 := own370) (K := [])
        (bs := [0, 1, 3, 3, 11, 31, 63, 127, 255, 511, 255, 2047, 4095, 8191, 16383])
        (ds := [⟨[], [], [], Fct.val 36 (.bool r371)⟩,
        ⟨[0], [], [], Fct.val 37 (.bool r371)⟩,
        ⟨[1], [6], [], Fct.cond r371 (some 38) (Fct.val 38 (.slice A367 r366.length cA367))⟩,
        ⟨[1], [4], [], Fct.cond r371 (some 39) (Fct.val 39 (.slice A249 x251.length c250))⟩,
        ⟨[1, 3], [], [], Fct.cond r371 (some 40) (Fct.row 374 [375] 40 26 R26 r372)⟩,
        ⟨[1, 2, 4], [], [], Fct.cond r371 (some 41) (Fct.val 41 (.bool r376))⟩,
        ⟨[1, 5], [], [], Fct.val 42 (.bool (r371 && r376))⟩,
        ⟨[6], [], [], Fct.val 43 (.bool (r371 && r376))⟩,
        ⟨[7], [6], [], Fct.cond (r371 && r376) (some 44) (Fct.val 44 (.slice A367 r366.length cA367))⟩,
        ⟨[7, 8], [], [], Fct.cond (r371 && r376) (some 45) (Fct.row 379 [380] 45 24 R24 r377)⟩,
        ⟨[7], [4], [], Fct.cond (r371 && r376) (some 46) (Fct.val 46 (.slice A249 x251.length c250))⟩,
        ⟨[7, 10], [], [], Fct.cond (r371 && r376) (some 47) (Fct.row 383 [384] 47 26 R26 r381)⟩,
        ⟨[7, 9, 11], [], [], Fct.cond (r371 && r376) (some 48) (Fct.val 48 (.bool r385))⟩,
        ⟨[7, 12], [], [], Fct.val 49 (.bool ((r371 && r376) && r385))⟩,
        ⟨[13], [], [], Fct.val 2 (.bool ((r371 && r376) && r385))⟩]) (by kernel_rfl) hz370 hd370 (fun _ h => nomatch h) ?_ ?_
    · refine steps_cons (fun own a wx hf hsl hE => ?_) ?_
      · exact sg_plain rfl rfl (or_call cf10 (args0) (law22_known_w _   r371 hr371) post_val)
      refine steps_cons (fun own a wx hf hsl hE => ?_) ?_
      · obtain ⟨(f_36 : a.eval (.tmp 36) = .bool r371), -⟩ := hf
        exact sg_plain rfl rfl (or_move f_36)
      refine steps_cons (fun own a wx hf hsl hE => ?_) ?_
      · obtain ⟨(f_37 : a.eval (.tmp 37) = .bool r371), -⟩ := hf
        obtain ⟨s_6, -⟩ := hsl
        refine sg_t rfl rfl rfl f_37 (fun hg => ?_)
        exact or_move (s_6.trans e370_6)
      refine steps_cons (fun own a wx hf hsl hE => ?_) ?_
      · obtain ⟨(f_37 : a.eval (.tmp 37) = .bool r371), -⟩ := hf
        obtain ⟨s_4, -⟩ := hsl
        refine sg_t rfl rfl rfl f_37 (fun hg => ?_)
        exact or_move (s_4.trans e370_4)
      refine steps_cons (fun own a wx hf hsl hE => ?_) ?_
      · obtain ⟨(f_37 : a.eval (.tmp 37) = .bool r371), c_39, -⟩ := hf
        refine sg_t rfl rfl rfl f_37 (fun hg => ?_)
        have f_39 : a.eval (.tmp 39) = .slice A249 x251.length c250 := c_39.1 hg
        exact or_call cf12 (args1 f_39) (ref22_Join_w _ x251 A249 c250 (RdO.zero (RwN.rd (RwN.evo rfl hE b370_A249))) r372 (gd_t hr372 hg)) (post_row (m' := (look0 [(1, 374), (2, 375)])) (.inr (by decide)) rfl rfl (fun _ => rfl))
      refine steps_cons (fun own a wx hf hsl hE => ?_) ?_
      · obtain ⟨(f_37 : a.eval (.tmp 37) = .bool r371), c_38, c_40, -⟩ := hf
        refine sg_t rfl rfl rfl f_37 (fun hg => ?_)
        have f_38 : a.eval (.tmp 38) = .slice A367 r366.length cA367 := c_38.1 hg
        obtain ⟨⟨A373, cA373⟩, (f_40 : a.eval (.tmp 40) = .slice A373 r372.length cA373), (b_A373 : RwO own 374 [375] wx 26 R26 A373 cA373 r372)⟩ := c_40.1 hg
        exact or_call cf11 (args2 f_38 f_40) (law22_Same_w _ r366 A367 cA367 r372 A373 cA373 (RdO.zero (RwO.rd (RwO.evo rfl hE b370_A367))) (RdO.zero (RwO.rd b_A373)) r376 (gd_t hr376 hg)) post_val
      refine steps_cons (fun own a wx hf hsl hE => ?_) ?_
      · obtain ⟨(f_37 : a.eval (.tmp 37) = .bool r371), c_41, -⟩ := hf
        exact sg_plain rfl rfl (or_and f_37 (fun hx => c_41.1 hx) rfl rfl)
      refine steps_cons (fun own a wx hf hsl hE => ?_) ?_
      · obtain ⟨(f_42 : a.eval (.tmp 42) = .bool (r371 && r376)), -⟩ := hf
        exact sg_plain rfl rfl (or_move f_42)
      refine steps_cons (fun own a wx hf hsl hE => ?_) ?_
      · obtain ⟨(f_43 : a.eval (.tmp 43) = .bool (r371 && r376)), -⟩ := hf
        obtain ⟨s_6, -⟩ := hsl
        refine sg_t rfl rfl rfl f_43 (fun hg => ?_)
        exact or_move (s_6.trans e370_6)
      refine steps_cons (fun own a wx hf hsl hE => ?_) ?_
      · obtain ⟨(f_43 : a.eval (.tmp 43) = .bool (r371 && r376)), c_44, -⟩ := hf
        refine sg_t rfl rfl rfl f_43 (fun hg => ?_)
        have f_44 : a.eval (.tmp 44) = .slice A367 r366.length cA367 := c_44.1 hg
        exact or_call cf9 (args1 f_44) (lineclip_Join_w _ r366 A367 cA367 (RdO.zero (RwO.rd (RwO.evo rfl hE b370_A367))) r377 (gd_t hr377 hg)) (post_row (m' := (look0 [(1, 379), (2, 380)])) (.inr (by decide)) rfl rfl (fun _ => rfl))
      refine steps_cons (fun own a wx hf hsl hE => ?_) ?_
      · obtain ⟨(f_43 : a.eval (.tmp 43) = .bool (r371 && r376)), -⟩ := hf
        obtain ⟨s_4, -⟩ := hsl
        refine sg_t rfl rfl rfl f_43 (fun hg => ?_)
        exact or_move (s_4.trans e370_4)
      refine steps_cons (fun own a wx hf hsl hE => ?_) ?_
      · obtain ⟨(f_43 : a.eval (.tmp 43) = .bool (r371 && r376)), c_46, -⟩ := hf
        refine sg_t rfl rfl rfl f_43 (fun hg => ?_)
        have f_46 : a.eval (.tmp 46) = .slice A249 x251.length c250 := c_46.1 hg
        exact or_call cf12 (args1 f_46) (ref22_Join_w _ x251 A249 c250 (RdO.zero (RwN.rd (RwN.evo rfl hE b370_A249))) r381 (gd_t hr381 hg)) (post_row (m' := (look0 [(1, 383), (2, 384)])) (.inr (by decide)) rfl rfl (fun _ => rfl))
      refine steps_cons (fun own a wx hf hsl hE => ?_) ?_
      · obtain ⟨(f_43 : a.eval (.tmp 43) = .bool (r371 && r376)), c_45, c_47, -⟩ := hf
        refine sg_t rfl rfl rfl f_43 (fun hg => ?_)
        obtain ⟨⟨A378, cA378⟩, (f_45 : a.eval (.tmp 45) = .slice A378 r377.length cA378), (b_A378 : RwO own 379 [380] wx 24 R24 A378 cA378 r377)⟩ := c_45.1 hg
        obtain ⟨⟨A382, cA382⟩, (f_47 : a.eval (.tmp 47) = .slice A382 r381.length cA382), (b_A382 : RwO own 383 [384] wx 26 R26 A382 cA382 r381)⟩ := c_47.1 hg
        exact or_call cf11 (args2 f_45 f_47) (law22_Same_w _ r377 A378 cA378 r381 A382 cA382 (RdO.zero (RwO.rd b_A378)) (RdO.zero (RwO.rd b_A382)) r385 (gd_t hr385 hg)) post_val
      refine steps_cons (fun own a wx hf hsl hE => ?_) ?_
      · obtain ⟨(f_43 : a.eval (.tmp 43) = .bool (r371 && r376)), c_48, -⟩ := hf
        exact sg_plain rfl rfl (or_and f_43 (fun hx => c_48.1 hx) rfl rfl)
      refine steps_cons (fun own a wx hf hsl hE => ?_) ?_
      · obtain ⟨(f_49 : a.eval (.tmp 49) = .bool ((r371 && r376) && r385)), -⟩ := hf
        exact sg_plain rfl rfl (or_assign f_49)
      exact steps_nil
    intro own386 a386 w386 hd386 hz386 hk386 hf386 hE386
    obtain ⟨(f_2 : a386.eval (.tmp 2) = .bool ((r371 && r376) && r385)), -⟩ := hf386 [14] rfl
    have e386_2 := f_2
    have hX386 := Evo.step hX370 (fun _ => Nat.le_refl 0) hE386 rfl
    refine fl_ret ?_
    obtain rfl := osome hs
    exact hret _ _ _ _ (.inl rfl) hd386 (results1_ rfl (RVal.tmp_ e386_2)) ⟨own386, rfl, hX386⟩

theorem lineclip_Count_w (w : World) (l1 : List (Int × Int)) (Al1 : Option Addr) (cl1 : Nat) (b2 : (Int × Int) × (Int × Int)) (hl1 : RdO (fun _ => 0) [0] w R34 Al1 cl1 l1) (r : Int) (hs : lineclip_Count l1 b2 = some r) :
    Calls Try.prog 18 #[.slice Al1 l1.length cl1, .agg #[.int .i64 b2.1.1, .int .i64 b2.1.2, .int .i64 b2.2.1, .int .i64 b2.2.2]] w fun e w' => ∃ own' : Own, e = .returned (.int .i64 r) ∧ Evo [] (fun _ => 0) own' w w' := by
  refine fl_enter (n := 23) rfl rfl rfl (Nat.le_of_ble_eq_true rfl) ?_
  intro a0 Q hd0 hz0 harg hret
  have ha0 := harg 0 _ rfl
  have ha1 := harg 1 _ rfl
  clear harg
  have hE0 : Evo [] (fun _ => 0) (fun _ => 0) w w := Evo.refl _ _ _
  refine rg_plain_seq (n := 23) (rs := []) (own0 := (fun _ => 0)) (K := [])
      (bs := [0, 0])
      (ds := [⟨[], [1], [], Fct.blk 62 3 (fun g => .pointer (some ⟨g, 0, none⟩)) 36 #[.int .i64 b2.1.1, .int .i64 b2.1.2, .int .i64 b2.2.1, .int .i64 b2.2.2]⟩,
      ⟨[], [], [], Fct.val 4 (.int .i64 0)⟩]) (by kernel_rfl) hz0 hd0 (fun _ h => nomatch h) ?_ ?_
  · refine steps_cons (fun own a wx hf hsl hE => ?_) ?_
    · obtain ⟨s_1, -⟩ := hsl
      exact sg_plain rfl rfl (or_new [(1, .agg #[.int .i64 b2.1.1, .int .i64 b2.1.2, .int .i64 b2.2.1, .int .i64 b2.2.2])] rfl rfl ⟨(s_1.trans ha1), trivial⟩ (by kernel_rfl))
    refine steps_cons (fun own a wx hf hsl hE => ?_) ?_
    · exact sg_plain rfl rfl (or_assign rfl)
    exact steps_nil
  intro own63 a63 w63 hd63 hz63 hk63 hf63 hE63
  have e63_0 : a63.eval (.tmp 0) = .slice Al1 l1.length cl1 := (hk63 0 rfl).trans ha0
  obtain ⟨⟨g61, (f_3 : a63.eval (.tmp 3) = .pointer (some ⟨g61, 0, none⟩)), (b_g61 : BlkO own63 62 w63 g61 36 #[.int .i64 b2.1.1, .int .i64 b2.1.2, .int .i64 b2.2.1, .int .i64 b2.2.2])⟩, -⟩ := hf63 [0] rfl
  have e63_3 := f_3
  have hX63 := Evo.step hE0 (fun _ => Nat.le_refl 0) hE63 rfl
  have b63_Al1 := RdO.evo rfl hE63 hl1
  have b63_g61 := b_g61
  refine rg_plain_seq (n := 23) (rs := []) (own0 := own63) (K := [])
      (bs := [0])
      (ds := [⟨[], [], [], Fct.val 5 (.int .i64 0)⟩]) (by kernel_rfl) hz63 hd63 (fun _ h => nomatch h) ?_ ?_
  · refine steps_cons (fun own a wx hf hsl hE => ?_) ?_
    · exact sg_plain rfl rfl (or_assign rfl)
    exact steps_nil
  intro own64 a64 w64 hd64 hz64 hk64 hf64 hE64
  have e64_0 : a64.eval (.tmp 0) = .slice Al1 l1.length cl1 := (hk64 0 rfl).trans e63_0
  have e64_3 : a64.eval (.tmp 3) = .pointer (some ⟨g61, 0, none⟩) := (hk64 3 rfl).trans e63_3
  obtain ⟨(f_5 : a64.eval (.tmp 5) = .int .i64 0), -⟩ := hf64 [0] rfl
  have e64_5 := f_5
  have hX64 := Evo.step hX63 (fun _ => Nat.le_refl 0) hE64 rfl
  have b64_Al1 := RdO.evo rfl hE64 b63_Al1
  have b64_g61 := BlkO.evo (by decide) hE64 b63_g61
  refine fl_seq (fun Q65 hn65 hp65 => ?_)
  obtain ⟨r66, hr66, hs⟩ := obind hs
  refine rg_plain_seq (n := 23) (rs := []) (own0 := own64) (K := [])
      (bs := [0, 0, 3, 7, 0])
      (ds := [⟨[], [0], [], Fct.val 8 (.slice Al1 l1.length cl1)⟩,
      ⟨[], [3], [], Fct.val 9 (.agg #[.int .i64 b2.1.1, .int .i64 b2.1.2, .int .i64 b2.2.1, .int .i64 b2.2.2])⟩,
      ⟨[0, 1], [], [], Fct.row 68 [69] 10 24 R24 r66⟩,
      ⟨[2], [], [], Fct.val 11 (.int .i64 (r66.length : Int))⟩,
      ⟨[], [], [], Fct.val 12 (.int .i64 0)⟩]) (by kernel_rfl) hz64 hd64 (fun _ h => nomatch h) ?_ ?_
  · refine steps_cons (fun own a wx hf hsl hE => ?_) ?_
    · obtain ⟨s_0, -⟩ := hsl
      exact sg_plain rfl rfl (or_move (s_0.trans e64_0))
    refine steps_cons (fun own a wx hf hsl hE => ?_) ?_
    · obtain ⟨s_3, -⟩ := hsl
      exact sg_plain rfl rfl (or_load (l := [.int .i64 b2.1.1, .int .i64 b2.1.2, .int .i64 b2.2.1, .int .i64 b2.2.2]) ta36 (s_3.trans e64_3) (Blk.cellsFrom (BlkO.evo (by decide) hE b64_g61).2 0 rfl) rfl)
    refine steps_cons (fun own a wx hf hsl hE => ?_) ?_
    · obtain ⟨(f_8 : a.eval (.tmp 8) = .slice Al1 l1.length cl1), (f_9 : a.eval (.tmp 9) = .agg #[.int .i64 b2.1.1, .int .i64 b2.1.2, .int .i64 b2.2.1, .int .i64 b2.2.2]), -⟩ := hf
      exact sg_plain rfl rfl (or_call cf16 (args2 f_8 f_9) (lineclip_Parts_w _ l1 Al1 cl1 b2 (RdO.zero (RdO.evo rfl hE b64_Al1)) r66 hr66) (post_row (m' := (look0 [(1, 68), (2, 69)])) (.inr (by decide)) rfl rfl (fun _ => rfl)))
    refine steps_cons (fun own a wx hf hsl hE => ?_) ?_
    · obtain ⟨⟨⟨A67, cA67⟩, (f_10 : a.eval (.tmp 10) = .slice A67 r66.length cA67), (b_A67 : RwO own 68 [69] wx 24 R24 A67 cA67 r66)⟩, -⟩ := hf
      exact sg_plain rfl rfl (or_len tu22 f_10 rfl)
    refine steps_cons (fun own a wx hf hsl hE => ?_) ?_
    · exact sg_plain rfl rfl (or_move rfl)
    exact steps_nil
  intro own70 a70 w70 hd70 hz70 hk70 hf70 hE70
  have e70_5 : a70.eval (.tmp 5) = .int .i64 0 := (hk70 5 rfl).trans e64_5
  obtain ⟨⟨⟨A67, cA67⟩, (f_10 : a70.eval (.tmp 10) = .slice A67 r66.length cA67), (b_A67 : RwO own70 68 [69] w70 24 R24 A67 cA67 r66)⟩, (f_11 : a70.eval (.tmp 11) = .int .i64 (r66.length : Int)), (f_12 : a70.eval (.tmp 12) = .int .i64 0), -⟩ := hf70 [2, 3, 4] rfl
  have e70_10 := f_10
  have e70_11 := f_11
  have e70_12 := f_12
  have hX70 := Evo.step hX64 (fun _ => Nat.le_refl 0) hE70 rfl
  have b70_A67 := b_A67
  refine fl_block (fun Q71 hn71 hx71 hp71 => ?_)
  refine fl_loop (body := (fun s => lineclip_Count_b1 r66 s.1 s.2)) (z := r) (show loopO _ _ = _ from hs) (fun (s : Int × Int) a wx => match s with | (n84, x86) => ∃ (ox : Own), a.defers = [] ∧ a.tmps.size = 23 ∧ a.eval (.tmp 5) = .int .i64 n84 ∧ a.eval (.tmp 10) = .slice A67 r66.length cA67 ∧ a.eval (.tmp 11) = .int .i64 (r66.length : Int) ∧ a.eval (.tmp 12) = .int .i64 x86 ∧ Evo [] (fun _ => 0) ox w wx ∧ RwO ox 68 [85] wx 24 R24 A67 cA67 r66) ?_ ?_
  · exact ⟨(rl [(69, 85)] own70), hd70, hz70, e70_5, e70_10, e70_11, e70_12, (Evo.rl_ hX70 (fun _ => Nat.le_refl 0) rfl), (RwO.rl_ (mm := [(69, 85)]) b70_A67)⟩
  · rintro ⟨n84, x86⟩ zz98 a98 w98 ⟨own98, hd99, hz99, e99_5, e99_10, e99_11, e99_12, hE99, b99_A67⟩ hs Q98 hn98 hp98 hz98
    have hs : lineclip_Count_b1 r66 n84 x86 = some zz98 := hs
    refine rg_plain_seq (n := 23) (rs := []) (own0 := own98) (K := [])
        (bs := [0])
        (ds := [⟨[], [12, 11], [], Fct.val 13 (.bool (decide (x86 < (r66.length : Int))))⟩]) (by kernel_rfl) hz99 hd99 (fun _ h => nomatch h) ?_ ?_
    · refine steps_cons (fun own a wx hf hsl hE => ?_) ?_
      · obtain ⟨s_12, s_11, -⟩ := hsl
        exact sg_plain rfl rfl (or_lss (s_12.trans e99_12) (s_11.trans e99_11) rfl)
      exact steps_nil
    intro own100 a100 w100 hd100 hz100 hk100 hf100 hE100
    have e100_5 : a100.eval (.tmp 5) = .int .i64 n84 := (hk100 5 rfl).trans e99_5
    have e100_10 : a100.eval (.tmp 10) = .slice A67 r66.length cA67 := (hk100 10 rfl).trans e99_10
    have e100_11 : a100.eval (.tmp 11) = .int .i64 (r66.length : Int) := (hk100 11 rfl).trans e99_11
    have e100_12 : a100.eval (.tmp 12) = .int .i64 x86 := (hk100 12 rfl).trans e99_12
    obtain ⟨(f_13 : a100.eval (.tmp 13) = .bool (decide (x86 < (r66.length : Int)))), -⟩ := hf100 [0] rfl
    have e100_13 := f_13
    have hX100 := Evo.step hE99 (fun _ => Nat.le_refl 0) hE100 rfl
    have b100_A67 := RwO.evo rfl hE100 b99_A67
    refine fl_seq (fun Q101 hn101 hp101 => ?_)
    refine fl_cond e100_13 hs (fun c102 hs => ?_) (fun c102 hs => ?_)
    · refine fl_skip ?_
      refine hn101 _ _ ?_
      refine fl_seq (fun Q103 hn103 hp103 => ?_)
      refine fl_block (fun Q104 hn104 hx104 hp104 => ?_)
      obtain ⟨x105, hx105, hs⟩ := obind hs
      refine rg_plain_seq (n := 23) (rs := []) (own0 := own100) (K := [])
          (bs := [0, 1, 3])
          (ds := [⟨[], [10, 12], [], Fct.val 14 (.pointer (some ((adr A67).add ((x86 : Int).toNat * R24.s))))⟩,
          ⟨[0], [], [], Fct.nest X24 [68, 85] 15 (fun (y : (Option Addr × Nat)) => .slice y.1 x105.length y.2) x105⟩,
          ⟨[1], [], [], Fct.rel [7, 15] (fun l => ∀ (A106 : Option Addr) (cA106 : Nat), l.getD 1 undef = .slice A106 x105.length cA106 → l.getD 0 undef = .slice A106 x105.length cA106)⟩]) (by kernel_rfl) hz100 hd100 (fun _ h => nomatch h) ?_ ?_
      · refine steps_cons (fun own a wx hf hsl hE => ?_) ?_
        · obtain ⟨s_10, s_12, -⟩ := hsl
          exact sg_plain rfl rfl (or_index (R := R24) (l := r66) tl22 (s_10.trans e100_10) (s_12.trans e100_12) (RdO.some_ (RwO.rd b100_A67) hx105) hx105)
        refine steps_cons (fun own a wx hf hsl hE => ?_) ?_
        · obtain ⟨(f_14 : a.eval (.tmp 14) = .pointer (some ((adr A67).add ((x86 : Int).toNat * R24.s)))), -⟩ := hf
          exact sg_plain rfl rfl (or_loadN1 X24 0 to24 f_14 (Addr.add_zero' _).symm (RwO.rd (RwO.evo rfl hE b100_A67)) hx105 (fun _ => rfl))
        refine steps_cons (fun own a wx hf hsl hE => ?_) ?_
        · obtain ⟨⟨⟨A106, cA106⟩, (f_15 : a.eval (.tmp 15) = .slice A106 x105.length cA106), (b_A106 : RdO own [68, 85] wx R34 A106 cA106 x105)⟩, -⟩ := hf
          exact sg_plain rfl rfl (or_mono (f := Fct.val 7 (.slice A106 x105.length cA106)) (or_assign f_15) (fun own' a' w' v' hp h => fun _ _ h0' => by cases (f_15.symm.trans ((hp.2 15 (by decide)).symm.trans h0')); exact h))
        exact steps_nil
      intro own107 a107 w107 hd107 hz107 hk107 hf107 hE107
      have e107_5 : a107.eval (.tmp 5) = .int .i64 n84 := (hk107 5 rfl).trans e100_5
      have e107_10 : a107.eval (.tmp 10) = .slice A67 r66.length cA67 := (hk107 10 rfl).trans e100_10
      have e107_11 : a107.eval (.tmp 11) = .int .i64 (r66.length : Int) := (hk107 11 rfl).trans e100_11
      have e107_12 : a107.eval (.tmp 12) = .int .i64 x86 := (hk107 12 rfl).trans e100_12
      obtain ⟨⟨⟨A106, cA106⟩, (f_15 : a107.eval (.tmp 15) = .slice A106 x105.length cA106), (b_A106 : RdO own107 [68, 85] w107 R34 A106 cA106 x105)⟩, (q_7 : ∀ (A106 : Option Addr) (cA106 : Nat), a107.eval (.tmp 15) = .slice A106 x105.length cA106 → a107.eval (.tmp 7) = .slice A106 x105.length cA106), -⟩ := hf107 [1, 2] rfl
      have f_7 := q_7 _ _ f_15
      have e107_7 := f_7
      have hX107 := Evo.step hX100 (fun _ => Nat.le_refl 0) hE107 rfl
      have b107_A67 := RwO.evo rfl hE107 b100_A67
      have b107_A106 := b_A106
      refine rg_plain (n := 23) (rs := []) (own0 := own107) (K := [])
          (bs := [0, 0, 2, 6, 15, 31])
          (ds := [⟨[], [5], [], Fct.val 16 (.int .i64 n84)⟩,
          ⟨[], [7], [], Fct.val 17 (.slice A106 x105.length cA106)⟩,
          ⟨[1], [], [], Fct.val 18 (.int .i64 (x105.length : Int))⟩,
          ⟨[2], [], [], Fct.val 19 (.int .i64 (sb (x105.length : Int) 1))⟩,
          ⟨[0, 3], [], [], Fct.val 20 (.int .i64 (ad n84 (sb (x105.length : Int) 1)))⟩,
          ⟨[4], [], [], Fct.val 5 (.int .i64 (ad n84 (sb (x105.length : Int) 1)))⟩]) (by kernel_rfl) hz107 hd107 (fun _ h => nomatch h) ?_ ?_
      · refine steps_cons (fun own a wx hf hsl hE => ?_) ?_
        · obtain ⟨s_5, -⟩ := hsl
          exact sg_plain rfl rfl (or_move (s_5.trans e107_5))
        refine steps_cons (fun own a wx hf hsl hE => ?_) ?_
        · obtain ⟨s_7, -⟩ := hsl
          exact sg_plain rfl rfl (or_move (s_7.trans e107_7))
        refine steps_cons (fun own a wx hf hsl hE => ?_) ?_
        · obtain ⟨(f_17 : a.eval (.tmp 17) = .slice A106 x105.length cA106), -⟩ := hf
          exact sg_plain rfl rfl (or_len tu24 f_17 rfl)
        refine steps_cons (fun own a wx hf hsl hE => ?_) ?_
        · obtain ⟨(f_18 : a.eval (.tmp 18) = .int .i64 (x105.length : Int)), -⟩ := hf
          exact sg_plain rfl rfl (or_sub f_18 rfl rfl)
        refine steps_cons (fun own a wx hf hsl hE => ?_) ?_
        · obtain ⟨(f_16 : a.eval (.tmp 16) = .int .i64 n84), (f_19 : a.eval (.tmp 19) = .int .i64 (sb (x105.length : Int) 1)), -⟩ := hf
          exact sg_plain rfl rfl (or_add f_16 f_19 rfl)
        refine steps_cons (fun own a wx hf hsl hE => ?_) ?_
        · obtain ⟨(f_20 : a.eval (.tmp 20) = .int .i64 (ad n84 (sb (x105.length : Int) 1))), -⟩ := hf
          exact sg_plain rfl rfl (or_assign f_20)
        exact steps_nil
      intro own108 a108 w108 hd108 hz108 hk108 hf108 hE108
      have e108_10 : a108.eval (.tmp 10) = .slice A67 r66.length cA67 := (hk108 10 rfl).trans e107_10
      have e108_11 : a108.eval (.tmp 11) = .int .i64 (r66.length : Int) := (hk108 11 rfl).trans e107_11
      have e108_12 : a108.eval (.tmp 12) = .int .i64 x86 := (hk108 12 rfl).trans e107_12
      obtain ⟨(f_5 : a108.eval (.tmp 5) = .int .i64 (ad n84 (sb (x105.length : Int) 1))), -⟩ := hf108 [5] rfl
      have e108_5 := f_5
      have hX108 := Evo.step hX107 (fun _ => Nat.le_refl 0) hE108 rfl
      have b108_A67 := RwO.evo rfl hE108 b107_A67
      refine hn104 _ _ ?_
      refine hn103 _ _ ?_
      refine rg_plain (n := 23) (rs := []) (own0 := own108) (K := [])
          (bs := [0, 1])
          (ds := [⟨[], [12], [], Fct.val 21 (.int .i64 (ad x86 1))⟩,
          ⟨[0], [], [], Fct.val 12 (.int .i64 (ad x86 1))⟩]) (by kernel_rfl) hz108 hd108 (fun _ h => nomatch h) ?_ ?_
      · refine steps_cons (fun own a wx hf hsl hE => ?_) ?_
        · obtain ⟨s_12, -⟩ := hsl
          exact sg_plain rfl rfl (or_add (s_12.trans e108_12) rfl rfl)
        refine steps_cons (fun own a wx hf hsl hE => ?_) ?_
        · obtain ⟨(f_21 : a.eval (.tmp 21) = .int .i64 (ad x86 1)), -⟩ := hf
          exact sg_plain rfl rfl (or_move f_21)
        exact steps_nil
      intro own109 a109 w109 hd109 hz109 hk109 hf109 hE109
      have e109_5 : a109.eval (.tmp 5) = .int .i64 (ad n84 (sb (x105.length : Int) 1)) := (hk109 5 rfl).trans e108_5
      have e109_10 : a109.eval (.tmp 10) = .slice A67 r66.length cA67 := (hk109 10 rfl).trans e108_10
      have e109_11 : a109.eval (.tmp 11) = .int .i64 (r66.length : Int) := (hk109 11 rfl).trans e108_11
      obtain ⟨(f_12 : a109.eval (.tmp 12) = .int .i64 (ad x86 1)), -⟩ := hf109 [1] rfl
      have e109_12 := f_12
      have hX109 := Evo.step hX108 (fun _ => Nat.le_refl 0) hE109 rfl
      have b109_A67 := RwO.evo rfl hE109 b108_A67
      exact hn98 _ _ _ hs ⟨own109, hd109, hz109, e109_5, e109_10, e109_11, e109_12, hX109, b109_A67⟩
    refine fl_exit ?_
    refine hp101 _ _ _ rfl ?_
    replace hs := hz98 _ hs
    refine hp98 _ _ _ rfl ?_
    refine hx71 _ _ ?_
    refine hn65 _ _ ?_
    refine rg_plain_seq (n := 23) (rs := []) (own0 := own100) (K := [])
        (bs := [0, 1])
        (ds := [⟨[], [5], [], Fct.val 22 (.int .i64 n84)⟩,
        ⟨[0], [], [], Fct.val 4 (.int .i64 n84)⟩]) (by kernel_rfl) hz100 hd100 (fun _ h => nomatch h) ?_ ?_
    · refine steps_cons (fun own a wx hf hsl hE => ?_) ?_
      · obtain ⟨s_5, -⟩ := hsl
        exact sg_plain rfl rfl (or_move (s_5.trans e100_5))
      refine steps_cons (fun own a wx hf hsl hE => ?_) ?_
      · obtain ⟨(f_22 : a.eval (.tmp 22) = .int .i64 n84), -⟩ := hf
        exact sg_plain rfl rfl (or_assign f_22)
      exact steps_nil
    intro own110 a110 w110 hd110 hz110 hk110 hf110 hE110
    obtain ⟨(f_4 : a110.eval (.tmp 4) = .int .i64 n84), -⟩ := hf110 [1] rfl
    have e110_4 := f_4
    have hX110 := Evo.step hX100 (fun _ => Nat.le_refl 0) hE110 rfl
    refine fl_ret ?_
    obtain rfl := (osome hs).symm
    exact hret _ _ _ _ (.inl rfl) hd110 (results1_ rfl (RVal.tmp_ e110_4)) ⟨own110, rfl, hX110⟩

end Go.Proofs.Ythjcpojcpafbjaa
