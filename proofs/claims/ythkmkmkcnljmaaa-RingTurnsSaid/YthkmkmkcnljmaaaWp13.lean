/-
  Chapter 03. The walks.
-/
import Derived.Test.YthkmkmkcnljmaaaWp4
import Derived.Test.YthkmkmkcnljmaaaWp5
import Derived.Test.YthkmkmkcnljmaaaWp6
import Derived.Test.YthkmkmkcnljmaaaWp7
import Derived.Test.YthkmkmkcnljmaaaSp13
namespace Go.Proofs.Ythkmkmkcnljmaaa
open Go.RowKit
set_option linter.unusedVariables false
theorem ref03_Same_w (w : World) (x1 : List (Int × Int)) (Ax1 : Option Addr) (cx1 : Nat) (b2 : List (Int × Int)) (Ab2 : Option Addr) (cb2 : Nat) (hx1 : RdO (fun _ => 0) [0] w R49 Ax1 cx1 x1) (hb2 : RdO (fun _ => 0) [0] w R49 Ab2 cb2 b2) (r : Bool) (hs : ref03_Same x1 b2 = some r) :
    Calls Try.prog 49 #[.slice Ax1 x1.length cx1, .slice Ab2 b2.length cb2] w fun e w' => ∃ own' : Own, e = .returned (.bool r) ∧ Evo [] (fun _ => 0) own' w w' := by
  refine fl_enter (n := 26) rfl rfl rfl (Nat.le_of_ble_eq_true rfl) ?_
  intro a0 Q hd0 hz0 harg hret
  have ha0 := harg 0 _ rfl
  have ha1 := harg 1 _ rfl
  clear harg
  have hE0 : Evo [] (fun _ => 0) (fun _ => 0) w w := Evo.refl _ _ _
  refine rg_plain_seq (n := 26) (rs := []) (own0 := (fun _ => 0)) (K := [])
      (bs := [0])
      (ds := [⟨[], [], [], Fct.val 4 (.bool false)⟩]) (by kernel_rfl) hz0 hd0 (fun _ h => nomatch h) ?_ ?_
  · refine steps_cons (fun own a wx hf hsl hE => ?_) ?_
    · exact sg_plain rfl rfl (or_assign rfl)
    exact steps_nil
  intro own58 a58 w58 hd58 hz58 hk58 hf58 hE58
  have e58_0 : a58.eval (.tmp 0) = .slice Ax1 x1.length cx1 := (hk58 0 rfl).trans ha0
  have e58_1 : a58.eval (.tmp 1) = .slice Ab2 b2.length cb2 := (hk58 1 rfl).trans ha1
  have hX58 := Evo.step hE0 (fun _ => Nat.le_refl 0) hE58 rfl
  have b58_Ax1 := RdO.evo rfl hE58 hx1
  have b58_Ab2 := RdO.evo rfl hE58 hb2
  refine fl_seq (fun Q59 hn59 hp59 => ?_)
  refine rg_plain_seq (n := 26) (rs := []) (own0 := own58) (K := [])
      (bs := [0, 1, 0, 4, 15])
      (ds := [⟨[], [0], [], Fct.val 6 (.slice Ax1 x1.length cx1)⟩,
      ⟨[0], [], [], Fct.val 7 (.int .i64 (x1.length : Int))⟩,
      ⟨[], [1], [], Fct.val 8 (.slice Ab2 b2.length cb2)⟩,
      ⟨[2], [], [], Fct.val 9 (.int .i64 (b2.length : Int))⟩,
      ⟨[1, 3], [], [], Fct.val 10 (.bool (!decide ((x1.length : Int) = (b2.length : Int))))⟩]) (by kernel_rfl) hz58 hd58 (fun _ h => nomatch h) ?_ ?_
  · refine steps_cons (fun own a wx hf hsl hE => ?_) ?_
    · obtain ⟨s_0, -⟩ := hsl
      exact sg_plain rfl rfl (or_move (s_0.trans e58_0))
    refine steps_cons (fun own a wx hf hsl hE => ?_) ?_
    · obtain ⟨(f_6 : a.eval (.tmp 6) = .slice Ax1 x1.length cx1), -⟩ := hf
      exact sg_plain rfl rfl (or_len tu24 f_6 rfl)
    refine steps_cons (fun own a wx hf hsl hE => ?_) ?_
    · obtain ⟨s_1, -⟩ := hsl
      exact sg_plain rfl rfl (or_move (s_1.trans e58_1))
    refine steps_cons (fun own a wx hf hsl hE => ?_) ?_
    · obtain ⟨(f_8 : a.eval (.tmp 8) = .slice Ab2 b2.length cb2), -⟩ := hf
      exact sg_plain rfl rfl (or_len tu24 f_8 rfl)
    refine steps_cons (fun own a wx hf hsl hE => ?_) ?_
    · obtain ⟨(f_7 : a.eval (.tmp 7) = .int .i64 (x1.length : Int)), (f_9 : a.eval (.tmp 9) = .int .i64 (b2.length : Int)), -⟩ := hf
      exact sg_plain rfl rfl (or_neq f_7 f_9 rfl)
    exact steps_nil
  intro own60 a60 w60 hd60 hz60 hk60 hf60 hE60
  have e60_0 : a60.eval (.tmp 0) = .slice Ax1 x1.length cx1 := (hk60 0 rfl).trans e58_0
  have e60_1 : a60.eval (.tmp 1) = .slice Ab2 b2.length cb2 := (hk60 1 rfl).trans e58_1
  obtain ⟨(f_10 : a60.eval (.tmp 10) = .bool (!decide ((x1.length : Int) = (b2.length : Int)))), -⟩ := hf60 [4] rfl
  have e60_10 := f_10
  have hX60 := Evo.step hX58 (fun _ => Nat.le_refl 0) hE60 rfl
  have b60_Ax1 := RdO.evo rfl hE60 b58_Ax1
  have b60_Ab2 := RdO.evo rfl hE60 b58_Ab2
  refine fl_cond e60_10 hs (fun c61 hs => ?_) (fun c61 hs => ?_)
  · refine rg_plain_seq (n := 26) (rs := []) (own0 := own60) (K := [])
        (bs := [0])
        (ds := [⟨[], [], [], Fct.val 4 (.bool false)⟩]) (by kernel_rfl) hz60 hd60 (fun _ h => nomatch h) ?_ ?_
    · refine steps_cons (fun own a wx hf hsl hE => ?_) ?_
      · exact sg_plain rfl rfl (or_assign rfl)
      exact steps_nil
    intro own62 a62 w62 hd62 hz62 hk62 hf62 hE62
    obtain ⟨(f_4 : a62.eval (.tmp 4) = .bool false), -⟩ := hf62 [0] rfl
    have e62_4 := f_4
    have hX62 := Evo.step hX60 (fun _ => Nat.le_refl 0) hE62 rfl
    refine fl_ret ?_
    refine hp59 _ _ _ rfl ?_
    obtain rfl := osome hs
    exact hret _ _ _ _ (.inl rfl) hd62 (results1_ rfl (RVal.tmp_ e62_4)) ⟨own62, rfl, hX62⟩
  refine fl_skip ?_
  refine hn59 _ _ ?_
  refine fl_seq (fun Q63 hn63 hp63 => ?_)
  refine rg_plain_seq (n := 26) (rs := []) (own0 := own60) (K := [])
      (bs := [0])
      (ds := [⟨[], [], [], Fct.val 5 (.int .i64 0)⟩]) (by kernel_rfl) hz60 hd60 (fun _ h => nomatch h) ?_ ?_
  · refine steps_cons (fun own a wx hf hsl hE => ?_) ?_
    · exact sg_plain rfl rfl (or_assign rfl)
    exact steps_nil
  intro own64 a64 w64 hd64 hz64 hk64 hf64 hE64
  have e64_0 : a64.eval (.tmp 0) = .slice Ax1 x1.length cx1 := (hk64 0 rfl).trans e60_0
  have e64_1 : a64.eval (.tmp 1) = .slice Ab2 b2.length cb2 := (hk64 1 rfl).trans e60_1
  obtain ⟨(f_5 : a64.eval (.tmp 5) = .int .i64 0), -⟩ := hf64 [0] rfl
  have e64_5 := f_5
  have hX64 := Evo.step hX60 (fun _ => Nat.le_refl 0) hE64 rfl
  have b64_Ax1 := RdO.evo rfl hE64 b60_Ax1
  have b64_Ab2 := RdO.evo rfl hE64 b60_Ab2
  refine fl_block (fun Q65 hn65 hx65 hp65 => ?_)
  refine fl_loop (body := (fun s => ref03_Same_b1 x1 b2 s)) (z := r) (show loopO _ _ = _ from hs) (fun (i78 : Int) a wx => ∃ (ox : Own), a.defers = [] ∧ a.tmps.size = 26 ∧ a.eval (.tmp 0) = .slice Ax1 x1.length cx1 ∧ a.eval (.tmp 1) = .slice Ab2 b2.length cb2 ∧ a.eval (.tmp 5) = .int .i64 i78 ∧ Evo [] (fun _ => 0) ox w wx ∧ RdO ox [0] wx R49 Ax1 cx1 x1 ∧ RdO ox [0] wx R49 Ab2 cb2 b2) ?_ ?_
  · exact ⟨own64, hd64, hz64, e64_0, e64_1, e64_5, hX64, b64_Ax1, b64_Ab2⟩
  · rintro i78 zz91 a91 w91 ⟨own91, hd92, hz92, e92_0, e92_1, e92_5, hE92, b92_Ax1, b92_Ab2⟩ hs Q91 hn91 hp91 hz91
    have hs : ref03_Same_b1 x1 b2 i78 = some zz91 := hs
    refine fl_seq (fun Q93 hn93 hp93 => ?_)
    refine rg_plain_seq (n := 26) (rs := []) (own0 := own91) (K := [])
        (bs := [0, 0, 2, 7])
        (ds := [⟨[], [5], [], Fct.val 11 (.int .i64 i78)⟩,
        ⟨[], [0], [], Fct.val 12 (.slice Ax1 x1.length cx1)⟩,
        ⟨[1], [], [], Fct.val 13 (.int .i64 (x1.length : Int))⟩,
        ⟨[0, 2], [], [], Fct.val 14 (.bool (decide (i78 < (x1.length : Int))))⟩]) (by kernel_rfl) hz92 hd92 (fun _ h => nomatch h) ?_ ?_
    · refine steps_cons (fun own a wx hf hsl hE => ?_) ?_
      · obtain ⟨s_5, -⟩ := hsl
        exact sg_plain rfl rfl (or_move (s_5.trans e92_5))
      refine steps_cons (fun own a wx hf hsl hE => ?_) ?_
      · obtain ⟨s_0, -⟩ := hsl
        exact sg_plain rfl rfl (or_move (s_0.trans e92_0))
      refine steps_cons (fun own a wx hf hsl hE => ?_) ?_
      · obtain ⟨(f_12 : a.eval (.tmp 12) = .slice Ax1 x1.length cx1), -⟩ := hf
        exact sg_plain rfl rfl (or_len tu24 f_12 rfl)
      refine steps_cons (fun own a wx hf hsl hE => ?_) ?_
      · obtain ⟨(f_11 : a.eval (.tmp 11) = .int .i64 i78), (f_13 : a.eval (.tmp 13) = .int .i64 (x1.length : Int)), -⟩ := hf
        exact sg_plain rfl rfl (or_lss f_11 f_13 rfl)
      exact steps_nil
    intro own94 a94 w94 hd94 hz94 hk94 hf94 hE94
    have e94_0 : a94.eval (.tmp 0) = .slice Ax1 x1.length cx1 := (hk94 0 rfl).trans e92_0
    have e94_1 : a94.eval (.tmp 1) = .slice Ab2 b2.length cb2 := (hk94 1 rfl).trans e92_1
    have e94_5 : a94.eval (.tmp 5) = .int .i64 i78 := (hk94 5 rfl).trans e92_5
    obtain ⟨(f_14 : a94.eval (.tmp 14) = .bool (decide (i78 < (x1.length : Int)))), -⟩ := hf94 [3] rfl
    have e94_14 := f_14
    have hX94 := Evo.step hE92 (fun _ => Nat.le_refl 0) hE94 rfl
    have b94_Ax1 := RdO.evo rfl hE94 b92_Ax1
    have b94_Ab2 := RdO.evo rfl hE94 b92_Ab2
    refine fl_cond e94_14 hs (fun c95 hs => ?_) (fun c95 hs => ?_)
    · refine fl_skip ?_
      refine hn93 _ _ ?_
      refine fl_seq (fun Q96 hn96 hp96 => ?_)
      refine fl_block (fun Q97 hn97 hx97 hp97 => ?_)
      obtain ⟨x98, hx98, hs⟩ := obind hs
      obtain ⟨x99, hx99, hs⟩ := obind hs
      refine rg_draw_seq g_mixed (n := 26) (rs := []) (own0 := own94) (K := [])
          (bs := [0, 0, 3, 7, 0, 0, 48, 112, 255])
          (ds := [⟨[], [0], [], Fct.val 17 (.slice Ax1 x1.length cx1)⟩,
          ⟨[], [5], [], Fct.val 18 (.int .i64 i78)⟩,
          ⟨[0, 1], [], [], Fct.val 19 (.pointer (some ((adr Ax1).add ((i78 : Int).toNat * R49.s))))⟩,
          ⟨[2], [], [], Fct.val 20 (.agg #[.int .i64 x98.1, .int .i64 x98.2])⟩,
          ⟨[], [1], [], Fct.val 21 (.slice Ab2 b2.length cb2)⟩,
          ⟨[], [5], [], Fct.val 22 (.int .i64 i78)⟩,
          ⟨[4, 5], [], [], Fct.val 23 (.pointer (some ((adr Ab2).add ((i78 : Int).toNat * R49.s))))⟩,
          ⟨[6], [], [], Fct.val 24 (.agg #[.int .i64 x99.1, .int .i64 x99.2])⟩,
          ⟨[3, 7], [], [], Fct.val 25 (.bool (!decide (x98 = x99)))⟩]) (by kernel_rfl) hz94 hd94 (fun _ h => nomatch h) ?_ ?_
      · refine steps_cons (fun own a wx hf hsl hE => ?_) ?_
        · obtain ⟨s_0, -⟩ := hsl
          exact sg_plain rfl rfl (or_move (s_0.trans e94_0))
        refine steps_cons (fun own a wx hf hsl hE => ?_) ?_
        · obtain ⟨s_5, -⟩ := hsl
          exact sg_plain rfl rfl (or_move (s_5.trans e94_5))
        refine steps_cons (fun own a wx hf hsl hE => ?_) ?_
        · obtain ⟨(f_17 : a.eval (.tmp 17) = .slice Ax1 x1.length cx1), (f_18 : a.eval (.tmp 18) = .int .i64 i78), -⟩ := hf
          exact sg_plain rfl rfl (or_index (R := R49) (l := x1) tl24 f_17 f_18 (RdO.some_ b94_Ax1 hx98) hx98)
        refine steps_cons (fun own a wx hf hsl hE => ?_) ?_
        · obtain ⟨(f_19 : a.eval (.tmp 19) = .pointer (some ((adr Ax1).add ((i78 : Int).toNat * R49.s)))), -⟩ := hf
          exact sg_plain rfl rfl (or_load (l := E49.f x98) ta49 f_19 (RdO.cells (F := E49) (RdO.evo rfl hE b94_Ax1) hx98) rfl)
        refine steps_cons (fun own a wx hf hsl hE => ?_) ?_
        · obtain ⟨s_1, -⟩ := hsl
          exact sg_plain rfl rfl (or_move (s_1.trans e94_1))
        refine steps_cons (fun own a wx hf hsl hE => ?_) ?_
        · obtain ⟨s_5, -⟩ := hsl
          exact sg_plain rfl rfl (or_move (s_5.trans e94_5))
        refine steps_cons (fun own a wx hf hsl hE => ?_) ?_
        · obtain ⟨(f_21 : a.eval (.tmp 21) = .slice Ab2 b2.length cb2), (f_22 : a.eval (.tmp 22) = .int .i64 i78), -⟩ := hf
          exact sg_plain rfl rfl (or_index (R := R49) (l := b2) tl24 f_21 f_22 (RdO.some_ b94_Ab2 hx99) hx99)
        refine steps_cons (fun own a wx hf hsl hE => ?_) ?_
        · obtain ⟨(f_23 : a.eval (.tmp 23) = .pointer (some ((adr Ab2).add ((i78 : Int).toNat * R49.s)))), -⟩ := hf
          exact sg_plain rfl rfl (or_load (l := E49.f x99) ta49 f_23 (RdO.cells (F := E49) (RdO.evo rfl hE b94_Ab2) hx99) rfl)
        refine steps_cons (fun own a wx hf hsl hE => ?_) ?_
        · obtain ⟨(f_20 : a.eval (.tmp 20) = .agg #[.int .i64 x98.1, .int .i64 x98.2]), (f_24 : a.eval (.tmp 24) = .agg #[.int .i64 x99.1, .int .i64 x99.2]), -⟩ := hf
          exact sg_plain rfl rfl (or_neqA sg49 f_20 f_24 (sn49 x98.1 x98.2 x99.1 x99.2 _) rfl)
        exact steps_nil
      intro own100 a100 w100 hd100 hz100 hk100 hf100 hE100
      have e100_0 : a100.eval (.tmp 0) = .slice Ax1 x1.length cx1 := (hk100 0 rfl).trans e94_0
      have e100_1 : a100.eval (.tmp 1) = .slice Ab2 b2.length cb2 := (hk100 1 rfl).trans e94_1
      have e100_5 : a100.eval (.tmp 5) = .int .i64 i78 := (hk100 5 rfl).trans e94_5
      obtain ⟨(f_25 : a100.eval (.tmp 25) = .bool (!decide (x98 = x99))), -⟩ := hf100 [8] rfl
      have e100_25 := f_25
      have hX100 := Evo.step hX94 (fun _ => Nat.le_refl 0) hE100 rfl
      have b100_Ax1 := RdO.evo rfl hE100 b94_Ax1
      have b100_Ab2 := RdO.evo rfl hE100 b94_Ab2
      refine fl_cond e100_25 hs (fun c101 hs => ?_) (fun c101 hs => ?_)
      · refine rg_plain_seq (n := 26) (rs := []) (own0 := own100) (K := [])
            (bs := [0])
            (ds := [⟨[], [], [], Fct.val 4 (.bool false)⟩]) (by kernel_rfl) hz100 hd100 (fun _ h => nomatch h) ?_ ?_
        · refine steps_cons (fun own a wx hf hsl hE => ?_) ?_
          · exact sg_plain rfl rfl (or_assign rfl)
          exact steps_nil
        intro own102 a102 w102 hd102 hz102 hk102 hf102 hE102
        obtain ⟨(f_4 : a102.eval (.tmp 4) = .bool false), -⟩ := hf102 [0] rfl
        have e102_4 := f_4
        have hX102 := Evo.step hX100 (fun _ => Nat.le_refl 0) hE102 rfl
        refine fl_ret ?_
        refine hp97 _ _ _ rfl ?_
        refine hp96 _ _ _ rfl ?_
        replace hs := hz91 _ hs
        refine hp91 _ _ _ rfl ?_
        refine hp65 _ _ _ rfl ?_
        refine hp63 _ _ _ rfl ?_
        obtain rfl := osome hs
        exact hret _ _ _ _ (.inl rfl) hd102 (results1_ rfl (RVal.tmp_ e102_4)) ⟨own102, rfl, hX102⟩
      refine fl_skip ?_
      refine hn97 _ _ ?_
      refine hn96 _ _ ?_
      refine rg_plain (n := 26) (rs := []) (own0 := own100) (K := [])
          (bs := [0, 1, 3])
          (ds := [⟨[], [5], [], Fct.val 15 (.int .i64 i78)⟩,
          ⟨[0], [], [], Fct.val 16 (.int .i64 (ad i78 1))⟩,
          ⟨[1], [], [], Fct.val 5 (.int .i64 (ad i78 1))⟩]) (by kernel_rfl) hz100 hd100 (fun _ h => nomatch h) ?_ ?_
      · refine steps_cons (fun own a wx hf hsl hE => ?_) ?_
        · obtain ⟨s_5, -⟩ := hsl
          exact sg_plain rfl rfl (or_move (s_5.trans e100_5))
        refine steps_cons (fun own a wx hf hsl hE => ?_) ?_
        · obtain ⟨(f_15 : a.eval (.tmp 15) = .int .i64 i78), -⟩ := hf
          exact sg_plain rfl rfl (or_add f_15 rfl rfl)
        refine steps_cons (fun own a wx hf hsl hE => ?_) ?_
        · obtain ⟨(f_16 : a.eval (.tmp 16) = .int .i64 (ad i78 1)), -⟩ := hf
          exact sg_plain rfl rfl (or_assign f_16)
        exact steps_nil
      intro own103 a103 w103 hd103 hz103 hk103 hf103 hE103
      have e103_0 : a103.eval (.tmp 0) = .slice Ax1 x1.length cx1 := (hk103 0 rfl).trans e100_0
      have e103_1 : a103.eval (.tmp 1) = .slice Ab2 b2.length cb2 := (hk103 1 rfl).trans e100_1
      obtain ⟨(f_5 : a103.eval (.tmp 5) = .int .i64 (ad i78 1)), -⟩ := hf103 [2] rfl
      have e103_5 := f_5
      have hX103 := Evo.step hX100 (fun _ => Nat.le_refl 0) hE103 rfl
      have b103_Ax1 := RdO.evo rfl hE103 b100_Ax1
      have b103_Ab2 := RdO.evo rfl hE103 b100_Ab2
      exact hn91 _ _ _ hs ⟨own103, hd103, hz103, e103_0, e103_1, e103_5, hX103, b103_Ax1, b103_Ab2⟩
    refine fl_exit ?_
    refine hp93 _ _ _ rfl ?_
    replace hs := hz91 _ hs
    refine hp91 _ _ _ rfl ?_
    refine hx65 _ _ ?_
    refine hn63 _ _ ?_
    refine rg_plain_seq (n := 26) (rs := []) (own0 := own94) (K := [])
        (bs := [0])
        (ds := [⟨[], [], [], Fct.val 4 (.bool true)⟩]) (by kernel_rfl) hz94 hd94 (fun _ h => nomatch h) ?_ ?_
    · refine steps_cons (fun own a wx hf hsl hE => ?_) ?_
      · exact sg_plain rfl rfl (or_assign rfl)
      exact steps_nil
    intro own104 a104 w104 hd104 hz104 hk104 hf104 hE104
    obtain ⟨(f_4 : a104.eval (.tmp 4) = .bool true), -⟩ := hf104 [0] rfl
    have e104_4 := f_4
    have hX104 := Evo.step hX94 (fun _ => Nat.le_refl 0) hE104 rfl
    refine fl_ret ?_
    obtain rfl := osome hs
    exact hret _ _ _ _ (.inl rfl) hd104 (results1_ rfl (RVal.tmp_ e104_4)) ⟨own104, rfl, hX104⟩

theorem law03_Same_w (w : World) (l1 : List (Int × Int)) (Al1 : Option Addr) (cl1 : Nat) (x2 : List (Int × Int)) (Ax2 : Option Addr) (cx2 : Nat) (hl1 : RdO (fun _ => 0) [0] w R32 Al1 cl1 l1) (hx2 : RdO (fun _ => 0) [0] w R49 Ax2 cx2 x2) (r : Bool) (hs : law03_Same l1 x2 = some r) :
    Calls Try.prog 23 #[.slice Al1 l1.length cl1, .slice Ax2 x2.length cx2] w fun e w' => ∃ own' : Own, e = .returned (.bool r) ∧ Evo [] (fun _ => 0) own' w w' := by
  refine fl_enter (n := 9) rfl rfl rfl (Nat.le_of_ble_eq_true rfl) ?_
  intro a0 Q hd0 hz0 harg hret
  have ha0 := harg 0 _ rfl
  have ha1 := harg 1 _ rfl
  clear harg
  have hE0 : Evo [] (fun _ => 0) (fun _ => 0) w w := Evo.refl _ _ _
  refine rg_plain_seq (n := 9) (rs := []) (own0 := (fun _ => 0)) (K := [])
      (bs := [0])
      (ds := [⟨[], [], [], Fct.val 4 (.bool false)⟩]) (by kernel_rfl) hz0 hd0 (fun _ h => nomatch h) ?_ ?_
  · refine steps_cons (fun own a wx hf hsl hE => ?_) ?_
    · exact sg_plain rfl rfl (or_assign rfl)
    exact steps_nil
  intro own17 a17 w17 hd17 hz17 hk17 hf17 hE17
  have e17_0 : a17.eval (.tmp 0) = .slice Al1 l1.length cl1 := (hk17 0 rfl).trans ha0
  have e17_1 : a17.eval (.tmp 1) = .slice Ax2 x2.length cx2 := (hk17 1 rfl).trans ha1
  have hX17 := Evo.step hE0 (fun _ => Nat.le_refl 0) hE17 rfl
  have b17_Al1 := RdO.evo rfl hE17 hl1
  have b17_Ax2 := RdO.evo rfl hE17 hx2
  obtain ⟨r18, hr18, hs⟩ := obind hs
  obtain ⟨r21, hr21, hs⟩ := obind hs
  refine rg_plain_seq (n := 9) (rs := []) (own0 := own17) (K := [])
      (bs := [0, 1, 0, 7, 15])
      (ds := [⟨[], [0], [], Fct.val 5 (.slice Al1 l1.length cl1)⟩,
      ⟨[0], [], [], Fct.row 20 [] 6 49 R49 r18⟩,
      ⟨[], [1], [], Fct.val 7 (.slice Ax2 x2.length cx2)⟩,
      ⟨[1, 2], [], [], Fct.val 8 (.bool r21)⟩,
      ⟨[3], [], [], Fct.val 4 (.bool r21)⟩]) (by kernel_rfl) hz17 hd17 (fun _ h => nomatch h) ?_ ?_
  · refine steps_cons (fun own a wx hf hsl hE => ?_) ?_
    · obtain ⟨s_0, -⟩ := hsl
      exact sg_plain rfl rfl (or_move (s_0.trans e17_0))
    refine steps_cons (fun own a wx hf hsl hE => ?_) ?_
    · obtain ⟨(f_5 : a.eval (.tmp 5) = .slice Al1 l1.length cl1), -⟩ := hf
      exact sg_plain rfl rfl (or_call cf9 (args1 f_5) (law01_Ofs_w _ l1 Al1 cl1 (RdO.zero (RdO.evo rfl hE b17_Al1)) r18 hr18) (post_row (m' := (look0 [(1, 20)])) (.inl (Rep.fl_flat _)) rfl rfl (fun _ => rfl)))
    refine steps_cons (fun own a wx hf hsl hE => ?_) ?_
    · obtain ⟨s_1, -⟩ := hsl
      exact sg_plain rfl rfl (or_move (s_1.trans e17_1))
    refine steps_cons (fun own a wx hf hsl hE => ?_) ?_
    · obtain ⟨⟨⟨A19, cA19⟩, (f_6 : a.eval (.tmp 6) = .slice A19 r18.length cA19), (b_A19 : RwO own 20 [] wx 49 R49 A19 cA19 r18)⟩, (f_7 : a.eval (.tmp 7) = .slice Ax2 x2.length cx2), -⟩ := hf
      exact sg_plain rfl rfl (or_call cf49 (args2 f_6 f_7) (ref03_Same_w _ r18 A19 cA19 x2 Ax2 cx2 (RdO.zero (RwO.rd b_A19)) (RdO.zero (RdO.evo rfl hE b17_Ax2)) r21 hr21) post_val)
    refine steps_cons (fun own a wx hf hsl hE => ?_) ?_
    · obtain ⟨(f_8 : a.eval (.tmp 8) = .bool r21), -⟩ := hf
      exact sg_plain rfl rfl (or_assign f_8)
    exact steps_nil
  intro own22 a22 w22 hd22 hz22 hk22 hf22 hE22
  obtain ⟨(f_4 : a22.eval (.tmp 4) = .bool r21), -⟩ := hf22 [4] rfl
  have e22_4 := f_4
  have hX22 := Evo.step hX17 (fun _ => Nat.le_refl 0) hE22 rfl
  refine fl_ret ?_
  obtain rfl := (osome hs).symm
  exact hret _ _ _ _ (.inl rfl) hd22 (results1_ rfl (RVal.tmp_ e22_4)) ⟨own22, rfl, hX22⟩

set_option maxHeartbeats 2000000 in
theorem slices_Compact_api_Point_api_Point_w (w : World) (own : Own) (s1 : List (Int × Int)) (As1 : Option Addr) (cs1 : Nat) (hown : ∀ b, own b ≤ 1) (hs1 : RwO own 1 [] w 32 R32 As1 cs1 s1) (r : List (Int × Int)) (hs : slices_Compact_api_Point_api_Point s1 = some r) :
    Calls Try.prog 50 #[.slice As1 s1.length cs1] w fun e w' => ∃ (own' : Own) (x : Option Addr × Nat), e = .returned (.slice x.1 r.length x.2) ∧ Evo [1] own own' w w' ∧ RwO own' 2 [] w' 32 R32 x.1 x.2 r := by
  refine fl_enter (n := 61) rfl rfl rfl (Nat.le_of_ble_eq_true rfl) ?_
  intro a0 Q hd0 hz0 harg hret
  have ha0 := harg 0 _ rfl
  clear harg
  have hE0 : Evo [1] own own w w := Evo.refl _ _ _
  refine rg_plain_seq (n := 61) (rs := []) (own0 := own) (K := [])
      (bs := [0])
      (ds := [⟨[], [], [], Fct.val 2 (.slice none 0 0)⟩]) (by kernel_rfl) hz0 hd0 (fun _ h => nomatch h) ?_ ?_
  · refine steps_cons (fun own a wx hf hsl hE => ?_) ?_
    · exact sg_plain rfl rfl (or_assign rfl)
    exact steps_nil
  intro own914 a914 w914 hd914 hz914 hk914 hf914 hE914
  have e914_0 : a914.eval (.tmp 0) = .slice As1 s1.length cs1 := (hk914 0 rfl).trans ha0
  have hX914 := Evo.step hE0 hown hE914 rfl
  have b914_As1 := RwO.evo rfl hE914 hs1
  refine fl_seq (fun Q915 hn915 hp915 => ?_)
  refine rg_plain_seq (n := 61) (rs := []) (own0 := own914) (K := [])
      (bs := [0, 1, 3])
      (ds := [⟨[], [0], [], Fct.val 6 (.slice As1 s1.length cs1)⟩,
      ⟨[0], [], [], Fct.val 7 (.int .i64 (s1.length : Int))⟩,
      ⟨[1], [], [], Fct.val 8 (.bool (decide ((s1.length : Int) < 2)))⟩]) (by kernel_rfl) hz914 hd914 (fun _ h => nomatch h) ?_ ?_
  · refine steps_cons (fun own a wx hf hsl hE => ?_) ?_
    · obtain ⟨s_0, -⟩ := hsl
      exact sg_plain rfl rfl (or_move (s_0.trans e914_0))
    refine steps_cons (fun own a wx hf hsl hE => ?_) ?_
    · obtain ⟨(f_6 : a.eval (.tmp 6) = .slice As1 s1.length cs1), -⟩ := hf
      exact sg_plain rfl rfl (or_len tu22 f_6 rfl)
    refine steps_cons (fun own a wx hf hsl hE => ?_) ?_
    · obtain ⟨(f_7 : a.eval (.tmp 7) = .int .i64 (s1.length : Int)), -⟩ := hf
      exact sg_plain rfl rfl (or_lss f_7 rfl rfl)
    exact steps_nil
  intro own916 a916 w916 hd916 hz916 hk916 hf916 hE916
  have e916_0 : a916.eval (.tmp 0) = .slice As1 s1.length cs1 := (hk916 0 rfl).trans e914_0
  obtain ⟨(f_8 : a916.eval (.tmp 8) = .bool (decide ((s1.length : Int) < 2))), -⟩ := hf916 [2] rfl
  have e916_8 := f_8
  have hX916 := Evo.step hX914 hown hE916 rfl
  have b916_As1 := RwO.evo rfl hE916 b914_As1
  refine fl_cond e916_8 hs (fun c917 hs => ?_) (fun c917 hs => ?_)
  · refine rg_plain_seq (n := 61) (rs := []) (own0 := own916) (K := [])
        (bs := [0, 1])
        (ds := [⟨[], [0], [], Fct.val 9 (.slice As1 s1.length cs1)⟩,
        ⟨[0], [], [], Fct.val 2 (.slice As1 s1.length cs1)⟩]) (by kernel_rfl) hz916 hd916 (fun _ h => nomatch h) ?_ ?_
    · refine steps_cons (fun own a wx hf hsl hE => ?_) ?_
      · obtain ⟨s_0, -⟩ := hsl
        exact sg_plain rfl rfl (or_move (s_0.trans e916_0))
      refine steps_cons (fun own a wx hf hsl hE => ?_) ?_
      · obtain ⟨(f_9 : a.eval (.tmp 9) = .slice As1 s1.length cs1), -⟩ := hf
        exact sg_plain rfl rfl (or_assign f_9)
      exact steps_nil
    intro own918 a918 w918 hd918 hz918 hk918 hf918 hE918
    obtain ⟨(f_2 : a918.eval (.tmp 2) = .slice As1 s1.length cs1), -⟩ := hf918 [1] rfl
    have e918_2 := f_2
    have hX918 := Evo.step hX916 hown hE918 rfl
    have b918_As1 := RwO.evo rfl hE918 b916_As1
    refine fl_ret ?_
    refine hp915 _ _ _ rfl ?_
    obtain rfl := (osome hs).symm
    exact hret _ _ _ _ (.inl rfl) hd918 (results1_ rfl (RVal.tmp_ e918_2)) ⟨(rl [(1, 2)] own918), (As1, cs1), rfl, (Evo.rl_ hX918 hown rfl), (RwO.rl_ (mm := [(1, 2)]) b918_As1)⟩
  refine fl_skip ?_
  refine hn915 _ _ ?_
  refine fl_seq (fun Q919 hn919 hp919 => ?_)
  refine rg_plain_seq (n := 61) (rs := []) (own0 := own916) (K := [])
      (bs := [0])
      (ds := [⟨[], [], [], Fct.val 3 (.int .i64 1)⟩]) (by kernel_rfl) hz916 hd916 (fun _ h => nomatch h) ?_ ?_
  · refine steps_cons (fun own a wx hf hsl hE => ?_) ?_
    · exact sg_plain rfl rfl (or_assign rfl)
    exact steps_nil
  intro own920 a920 w920 hd920 hz920 hk920 hf920 hE920
  have e920_0 : a920.eval (.tmp 0) = .slice As1 s1.length cs1 := (hk920 0 rfl).trans e916_0
  obtain ⟨(f_3 : a920.eval (.tmp 3) = .int .i64 1), -⟩ := hf920 [0] rfl
  have e920_3 := f_3
  have hX920 := Evo.step hX916 hown hE920 rfl
  have b920_As1 := RwO.evo rfl hE920 b916_As1
  refine fl_block (fun Q921 hn921 hx921 hp921 => ?_)
  refine fl_loop (body := (fun s => slices_Compact_api_Point_api_Point_b1 s1 s)) (z := r) (show loopO _ _ = _ from hs) (fun (k1219 : Int) a wx => ∃ (ox : Own), a.defers = [] ∧ a.tmps.size = 61 ∧ a.eval (.tmp 0) = .slice As1 s1.length cs1 ∧ a.eval (.tmp 3) = .int .i64 k1219 ∧ Evo [1] own ox w wx ∧ RwO ox 1 [] wx 32 R32 As1 cs1 s1) ?_ ?_
  · exact ⟨own920, hd920, hz920, e920_0, e920_3, hX920, b920_As1⟩
  · rintro k1219 zz1517 a1517 w1517 ⟨own1517, hd1518, hz1518, e1518_0, e1518_3, hE1518, b1518_As1⟩ hs Q1517 hn1517 hp1517 hz1517
    have hs : slices_Compact_api_Point_api_Point_b1 s1 k1219 = some zz1517 := hs
    refine fl_seq (fun Q1519 hn1519 hp1519 => ?_)
    refine rg_plain_seq (n := 61) (rs := []) (own0 := own1517) (K := [])
        (bs := [0, 0, 2, 7])
        (ds := [⟨[], [3], [], Fct.val 10 (.int .i64 k1219)⟩,
        ⟨[], [0], [], Fct.val 11 (.slice As1 s1.length cs1)⟩,
        ⟨[1], [], [], Fct.val 12 (.int .i64 (s1.length : Int))⟩,
        ⟨[0, 2], [], [], Fct.val 13 (.bool (decide (k1219 < (s1.length : Int))))⟩]) (by kernel_rfl) hz1518 hd1518 (fun _ h => nomatch h) ?_ ?_
    · refine steps_cons (fun own a wx hf hsl hE => ?_) ?_
      · obtain ⟨s_3, -⟩ := hsl
        exact sg_plain rfl rfl (or_move (s_3.trans e1518_3))
      refine steps_cons (fun own a wx hf hsl hE => ?_) ?_
      · obtain ⟨s_0, -⟩ := hsl
        exact sg_plain rfl rfl (or_move (s_0.trans e1518_0))
      refine steps_cons (fun own a wx hf hsl hE => ?_) ?_
      · obtain ⟨(f_11 : a.eval (.tmp 11) = .slice As1 s1.length cs1), -⟩ := hf
        exact sg_plain rfl rfl (or_len tu22 f_11 rfl)
      refine steps_cons (fun own a wx hf hsl hE => ?_) ?_
      · obtain ⟨(f_10 : a.eval (.tmp 10) = .int .i64 k1219), (f_12 : a.eval (.tmp 12) = .int .i64 (s1.length : Int)), -⟩ := hf
        exact sg_plain rfl rfl (or_lss f_10 f_12 rfl)
      exact steps_nil
    intro own1520 a1520 w1520 hd1520 hz1520 hk1520 hf1520 hE1520
    have e1520_0 : a1520.eval (.tmp 0) = .slice As1 s1.length cs1 := (hk1520 0 rfl).trans e1518_0
    have e1520_3 : a1520.eval (.tmp 3) = .int .i64 k1219 := (hk1520 3 rfl).trans e1518_3
    obtain ⟨(f_13 : a1520.eval (.tmp 13) = .bool (decide (k1219 < (s1.length : Int)))), -⟩ := hf1520 [3] rfl
    have e1520_13 := f_13
    have hX1520 := Evo.step hE1518 hown hE1520 rfl
    have b1520_As1 := RwO.evo rfl hE1520 b1518_As1
    refine fl_cond e1520_13 hs (fun c1521 hs => ?_) (fun c1521 hs => ?_)
    · refine fl_skip ?_
      refine hn1519 _ _ ?_
      refine fl_seq (fun Q1522 hn1522 hp1522 => ?_)
      refine fl_block (fun Q1523 hn1523 hx1523 hp1523 => ?_)
      obtain ⟨x1524, hx1524, hs⟩ := obind hs
      obtain ⟨x1525, hx1525, hs⟩ := obind hs
      refine rg_draw_seq g_mixed (n := 61) (rs := []) (own0 := own1520) (K := [])
          (bs := [0, 0, 3, 7, 0, 0, 32, 112, 240, 511])
          (ds := [⟨[], [0], [], Fct.val 16 (.slice As1 s1.length cs1)⟩,
          ⟨[], [3], [], Fct.val 17 (.int .i64 k1219)⟩,
          ⟨[0, 1], [], [], Fct.val 18 (.pointer (some ((adr As1).add ((k1219 : Int).toNat * R32.s))))⟩,
          ⟨[2], [], [], Fct.val 19 (.agg #[.int .i64 x1524.1, .int .i64 x1524.2])⟩,
          ⟨[], [0], [], Fct.val 20 (.slice As1 s1.length cs1)⟩,
          ⟨[], [3], [], Fct.val 21 (.int .i64 k1219)⟩,
          ⟨[5], [], [], Fct.val 22 (.int .i64 (sb k1219 1))⟩,
          ⟨[4, 6], [], [], Fct.val 23 (.pointer (some ((adr As1).add ((sb k1219 1 : Int).toNat * R32.s))))⟩,
          ⟨[7], [], [], Fct.val 24 (.agg #[.int .i64 x1525.1, .int .i64 x1525.2])⟩,
          ⟨[3, 8], [], [], Fct.val 25 (.bool (decide (x1524 = x1525)))⟩]) (by kernel_rfl) hz1520 hd1520 (fun _ h => nomatch h) ?_ ?_
      · refine steps_cons (fun own a wx hf hsl hE => ?_) ?_
        · obtain ⟨s_0, -⟩ := hsl
          exact sg_plain rfl rfl (or_move (s_0.trans e1520_0))
        refine steps_cons (fun own a wx hf hsl hE => ?_) ?_
        · obtain ⟨s_3, -⟩ := hsl
          exact sg_plain rfl rfl (or_move (s_3.trans e1520_3))
        refine steps_cons (fun own a wx hf hsl hE => ?_) ?_
        · obtain ⟨(f_16 : a.eval (.tmp 16) = .slice As1 s1.length cs1), (f_17 : a.eval (.tmp 17) = .int .i64 k1219), -⟩ := hf
          exact sg_plain rfl rfl (or_index (R := R32) (l := s1) tl22 f_16 f_17 (RdO.some_ (RwO.rd b1520_As1) hx1524) hx1524)
        refine steps_cons (fun own a wx hf hsl hE => ?_) ?_
        · obtain ⟨(f_18 : a.eval (.tmp 18) = .pointer (some ((adr As1).add ((k1219 : Int).toNat * R32.s)))), -⟩ := hf
          exact sg_plain rfl rfl (or_load (l := E32.f x1524) ta32 f_18 (RdO.cells (F := E32) (RwO.rd (RwO.evo rfl hE b1520_As1)) hx1524) rfl)
        refine steps_cons (fun own a wx hf hsl hE => ?_) ?_
        · obtain ⟨s_0, -⟩ := hsl
          exact sg_plain rfl rfl (or_move (s_0.trans e1520_0))
        refine steps_cons (fun own a wx hf hsl hE => ?_) ?_
        · obtain ⟨s_3, -⟩ := hsl
          exact sg_plain rfl rfl (or_move (s_3.trans e1520_3))
        refine steps_cons (fun own a wx hf hsl hE => ?_) ?_
        · obtain ⟨(f_21 : a.eval (.tmp 21) = .int .i64 k1219), -⟩ := hf
          exact sg_plain rfl rfl (or_sub f_21 rfl rfl)
        refine steps_cons (fun own a wx hf hsl hE => ?_) ?_
        · obtain ⟨(f_20 : a.eval (.tmp 20) = .slice As1 s1.length cs1), (f_22 : a.eval (.tmp 22) = .int .i64 (sb k1219 1)), -⟩ := hf
          exact sg_plain rfl rfl (or_index (R := R32) (l := s1) tl22 f_20 f_22 (RdO.some_ (RwO.rd b1520_As1) hx1525) hx1525)
        refine steps_cons (fun own a wx hf hsl hE => ?_) ?_
        · obtain ⟨(f_23 : a.eval (.tmp 23) = .pointer (some ((adr As1).add ((sb k1219 1 : Int).toNat * R32.s)))), -⟩ := hf
          exact sg_plain rfl rfl (or_load (l := E32.f x1525) ta32 f_23 (RdO.cells (F := E32) (RwO.rd (RwO.evo rfl hE b1520_As1)) hx1525) rfl)
        refine steps_cons (fun own a wx hf hsl hE => ?_) ?_
        · obtain ⟨(f_19 : a.eval (.tmp 19) = .agg #[.int .i64 x1524.1, .int .i64 x1524.2]), (f_24 : a.eval (.tmp 24) = .agg #[.int .i64 x1525.1, .int .i64 x1525.2]), -⟩ := hf
          exact sg_plain rfl rfl (or_eqlA sg32 f_19 f_24 (se32 x1524.1 x1524.2 x1525.1 x1525.2 _) rfl)
        exact steps_nil
      intro own1526 a1526 w1526 hd1526 hz1526 hk1526 hf1526 hE1526
      have e1526_0 : a1526.eval (.tmp 0) = .slice As1 s1.length cs1 := (hk1526 0 rfl).trans e1520_0
      have e1526_3 : a1526.eval (.tmp 3) = .int .i64 k1219 := (hk1526 3 rfl).trans e1520_3
      obtain ⟨(f_25 : a1526.eval (.tmp 25) = .bool (decide (x1524 = x1525))), -⟩ := hf1526 [9] rfl
      have e1526_25 := f_25
      have hX1526 := Evo.step hX1520 hown hE1526 rfl
      have b1526_As1 := RwO.evo rfl hE1526 b1520_As1
      refine fl_cond e1526_25 hs (fun c1527 hs => ?_) (fun c1527 hs => ?_)
      · obtain ⟨x1528, hx1528, hs⟩ := obind hs
        obtain ⟨n1530, hn1530, hs⟩ := obind hs
        refine rg_plain_seq (n := 61) (rs := []) (own0 := own1526) (K := [])
            (bs := [0, 0, 3, 7])
            (ds := [⟨[], [0], [], Fct.val 26 (.slice As1 s1.length cs1)⟩,
            ⟨[], [3], [], Fct.val 27 (.int .i64 k1219)⟩,
            ⟨[0, 1], [], [], Fct.val 28 (pieceV As1 cs1 R32.s k1219 n1530)⟩,
            ⟨[2], [], [], Fct.val 4 (pieceV As1 cs1 R32.s k1219 n1530)⟩]) (by kernel_rfl) hz1526 hd1526 (fun _ h => nomatch h) ?_ ?_
        · refine steps_cons (fun own a wx hf hsl hE => ?_) ?_
          · obtain ⟨s_0, -⟩ := hsl
            exact sg_plain rfl rfl (or_move (s_0.trans e1526_0))
          refine steps_cons (fun own a wx hf hsl hE => ?_) ?_
          · obtain ⟨s_3, -⟩ := hsl
            exact sg_plain rfl rfl (or_move (s_3.trans e1526_3))
          refine steps_cons (fun own a wx hf hsl hE => ?_) ?_
          · obtain ⟨(f_26 : a.eval (.tmp 26) = .slice As1 s1.length cs1), (f_27 : a.eval (.tmp 27) = .int .i64 k1219), -⟩ := hf
            exact sg_plain rfl rfl (or_pieceW (R := R32) tu22 ts32 f_26 (Bnd.some_ f_27) (Bnd.noneE (osome hn1530)) (RwO.rd (RwO.evo rfl hE b1526_As1)) (cut_toE hn1530 hx1528))
          refine steps_cons (fun own a wx hf hsl hE => ?_) ?_
          · obtain ⟨(f_28 : a.eval (.tmp 28) = pieceV As1 cs1 R32.s k1219 n1530), -⟩ := hf
            exact sg_plain rfl rfl (or_assign f_28)
          exact steps_nil
        intro own1531 a1531 w1531 hd1531 hz1531 hk1531 hf1531 hE1531
        have e1531_0 : a1531.eval (.tmp 0) = .slice As1 s1.length cs1 := (hk1531 0 rfl).trans e1526_0
        have e1531_3 : a1531.eval (.tmp 3) = .int .i64 k1219 := (hk1531 3 rfl).trans e1526_3
        obtain ⟨(f_4 : a1531.eval (.tmp 4) = pieceV As1 cs1 R32.s k1219 n1530), -⟩ := hf1531 [3] rfl
        have e1531_4 := f_4
        have hX1531 := Evo.step hX1526 hown hE1531 rfl
        have b1531_As1 := RwO.evo rfl hE1531 b1526_As1
        refine fl_seq (fun Q1532 hn1532 hp1532 => ?_)
        refine rg_plain_seq (n := 61) (rs := []) (own0 := own1531) (K := [])
            (bs := [0])
            (ds := [⟨[], [], [], Fct.val 5 (.int .i64 1)⟩]) (by kernel_rfl) hz1531 hd1531 (fun _ h => nomatch h) ?_ ?_
        · refine steps_cons (fun own a wx hf hsl hE => ?_) ?_
          · exact sg_plain rfl rfl (or_assign rfl)
          exact steps_nil
        intro own1533 a1533 w1533 hd1533 hz1533 hk1533 hf1533 hE1533
        have e1533_0 : a1533.eval (.tmp 0) = .slice As1 s1.length cs1 := (hk1533 0 rfl).trans e1531_0
        have e1533_3 : a1533.eval (.tmp 3) = .int .i64 k1219 := (hk1533 3 rfl).trans e1531_3
        have e1533_4 : a1533.eval (.tmp 4) = pieceV As1 cs1 R32.s k1219 n1530 := (hk1533 4 rfl).trans e1531_4
        obtain ⟨(f_5 : a1533.eval (.tmp 5) = .int .i64 1), -⟩ := hf1533 [0] rfl
        have e1533_5 := f_5
        have hX1533 := Evo.step hX1531 hown hE1533 rfl
        have b1533_As1 := RwO.evo rfl hE1533 b1531_As1
        refine fl_block (fun Q1534 hn1534 hx1534 hp1534 => ?_)
        refine fl_loop (body := (fun s => slices_Compact_api_Point_api_Point_b2 k1219 n1530 s.1 s.2.1 s.2.2)) (z := zz1517) (show loopO _ _ = _ from hs) (fun (s : (List (Int × Int)) × Int × Int) a wx => match s with | (s1621, k1623, k1624) => ∃ (ox : Own), a.defers = [] ∧ a.tmps.size = 61 ∧ a.eval (.tmp 0) = .slice As1 s1621.length cs1 ∧ a.eval (.tmp 3) = .int .i64 k1623 ∧ a.eval (.tmp 4) = pieceV As1 cs1 R32.s k1219 n1530 ∧ a.eval (.tmp 5) = .int .i64 k1624 ∧ Evo [1] own ox w wx ∧ RwO ox 1622 [] wx 32 R32 As1 cs1 s1621) ?_ ?_
        · exact ⟨(rl [(1, 1622)] own1533), hd1533, hz1533, e1533_0, e1533_3, e1533_4, e1533_5, (Evo.rl_ hX1533 hown rfl), (RwO.rl_ (mm := [(1, 1622)]) b1533_As1)⟩
        · rintro ⟨s1621, k1623, k1624⟩ zz1711 a1711 w1711 ⟨own1711, hd1712, hz1712, e1712_0, e1712_3, e1712_4, e1712_5, hE1712, b1712_As1⟩ hs Q1711 hn1711 hp1711 hz1711
          have hs : slices_Compact_api_Point_api_Point_b2 k1219 n1530 s1621 k1623 k1624 = some zz1711 := hs
          refine fl_seq (fun Q1713 hn1713 hp1713 => ?_)
          refine rg_plain_seq (n := 61) (rs := []) (own0 := own1711) (K := [])
              (bs := [0, 0, 2, 7])
              (ds := [⟨[], [5], [], Fct.val 29 (.int .i64 k1624)⟩,
              ⟨[], [4], [], Fct.val 30 (pieceV As1 cs1 R32.s k1219 n1530)⟩,
              ⟨[1], [], [], Fct.val 31 (.int .i64 (n1530 - k1219))⟩,
              ⟨[0, 2], [], [], Fct.val 32 (.bool (decide (k1624 < (n1530 - k1219))))⟩]) (by kernel_rfl) hz1712 hd1712 (fun _ h => nomatch h) ?_ ?_
          · refine steps_cons (fun own a wx hf hsl hE => ?_) ?_
            · obtain ⟨s_5, -⟩ := hsl
              exact sg_plain rfl rfl (or_move (s_5.trans e1712_5))
            refine steps_cons (fun own a wx hf hsl hE => ?_) ?_
            · obtain ⟨s_4, -⟩ := hsl
              exact sg_plain rfl rfl (or_move (s_4.trans e1712_4))
            refine steps_cons (fun own a wx hf hsl hE => ?_) ?_
            · obtain ⟨(f_30 : a.eval (.tmp 30) = pieceV As1 cs1 R32.s k1219 n1530), -⟩ := hf
              exact sg_plain rfl rfl (or_lenW (R := R32) tu22 f_30 (cut_some hx1528).1 (cut_lt hn1530 hx1528).1 rfl)
            refine steps_cons (fun own a wx hf hsl hE => ?_) ?_
            · obtain ⟨(f_29 : a.eval (.tmp 29) = .int .i64 k1624), (f_31 : a.eval (.tmp 31) = .int .i64 (n1530 - k1219)), -⟩ := hf
              exact sg_plain rfl rfl (or_lss f_29 f_31 rfl)
            exact steps_nil
          intro own1714 a1714 w1714 hd1714 hz1714 hk1714 hf1714 hE1714
          have e1714_0 : a1714.eval (.tmp 0) = .slice As1 s1621.length cs1 := (hk1714 0 rfl).trans e1712_0
          have e1714_3 : a1714.eval (.tmp 3) = .int .i64 k1623 := (hk1714 3 rfl).trans e1712_3
          have e1714_4 : a1714.eval (.tmp 4) = pieceV As1 cs1 R32.s k1219 n1530 := (hk1714 4 rfl).trans e1712_4
          have e1714_5 : a1714.eval (.tmp 5) = .int .i64 k1624 := (hk1714 5 rfl).trans e1712_5
          obtain ⟨(f_32 : a1714.eval (.tmp 32) = .bool (decide (k1624 < (n1530 - k1219)))), -⟩ := hf1714 [3] rfl
          have e1714_32 := f_32
          have hX1714 := Evo.step hE1712 hown hE1714 rfl
          have b1714_As1 := RwO.evo rfl hE1714 b1712_As1
          refine fl_cond e1714_32 hs (fun c1715 hs => ?_) (fun c1715 hs => ?_)
          · refine fl_skip ?_
            refine hn1713 _ _ ?_
            refine fl_seq (fun Q1716 hn1716 hp1716 => ?_)
            refine fl_block (fun Q1757 hn1757 hx1757 hp1757 => ?_)
            have K1778 : ∀ (a1778 : Act) (w1778 : World) (own1778 : Own) (s1775 : List (Int × Int)) (k1777 : Int), a1778.defers = [] → a1778.tmps.size = 61 → a1778.eval (.tmp 0) = .slice As1 s1775.length cs1 → a1778.eval (.tmp 3) = .int .i64 k1777 → a1778.eval (.tmp 4) = pieceV As1 cs1 R32.s k1219 n1530 → a1778.eval (.tmp 5) = .int .i64 k1624 → Evo [1] own own1778 w w1778 → RwO own1778 1776 [] w1778 32 R32 As1 cs1 s1775 → slices_Compact_api_Point_api_Point_k3 k1624 s1775 k1777 = some zz1711 → (Q1757 .normal a1778 w1778 ∧ Q1757 (.exit 3) a1778 w1778) := by
              intro a1778 w1778 own1778 s1775 k1777 hd1779 hz1779 e1779_0 e1779_3 e1779_4 e1779_5 hE1779 b1779_As1 hs
              refine and_both (hn1757 _ _) (hx1757 _ _) ?_
              refine hn1716 _ _ ?_
              refine rg_plain (n := 61) (rs := []) (own0 := own1778) (K := [])
                  (bs := [0, 1, 3])
                  (ds := [⟨[], [5], [], Fct.val 33 (.int .i64 k1624)⟩,
                  ⟨[0], [], [], Fct.val 34 (.int .i64 (ad k1624 1))⟩,
                  ⟨[1], [], [], Fct.val 5 (.int .i64 (ad k1624 1))⟩]) (by kernel_rfl) hz1779 hd1779 (fun _ h => nomatch h) ?_ ?_
              · refine steps_cons (fun own a wx hf hsl hE => ?_) ?_
                · obtain ⟨s_5, -⟩ := hsl
                  exact sg_plain rfl rfl (or_move (s_5.trans e1779_5))
                refine steps_cons (fun own a wx hf hsl hE => ?_) ?_
                · obtain ⟨(f_33 : a.eval (.tmp 33) = .int .i64 k1624), -⟩ := hf
                  exact sg_plain rfl rfl (or_add f_33 rfl rfl)
                refine steps_cons (fun own a wx hf hsl hE => ?_) ?_
                · obtain ⟨(f_34 : a.eval (.tmp 34) = .int .i64 (ad k1624 1)), -⟩ := hf
                  exact sg_plain rfl rfl (or_assign f_34)
                exact steps_nil
              intro own1780 a1780 w1780 hd1780 hz1780 hk1780 hf1780 hE1780
              have e1780_0 : a1780.eval (.tmp 0) = .slice As1 s1775.length cs1 := (hk1780 0 rfl).trans e1779_0
              have e1780_3 : a1780.eval (.tmp 3) = .int .i64 k1777 := (hk1780 3 rfl).trans e1779_3
              have e1780_4 : a1780.eval (.tmp 4) = pieceV As1 cs1 R32.s k1219 n1530 := (hk1780 4 rfl).trans e1779_4
              obtain ⟨(f_5 : a1780.eval (.tmp 5) = .int .i64 (ad k1624 1)), -⟩ := hf1780 [2] rfl
              have e1780_5 := f_5
              have hX1780 := Evo.step hE1779 hown hE1780 rfl
              have b1780_As1 := RwO.evo rfl hE1780 b1779_As1
              exact hn1711 _ _ _ hs ⟨(rl [(1776, 1622)] own1780), hd1780, hz1780, e1780_0, e1780_3, e1780_4, e1780_5, (Evo.rl_ hX1780 hown rfl), (RwO.rl_ (mm := [(1776, 1622)]) b1780_As1)⟩
            obtain ⟨q1781, hq1781, hs⟩ := obind hs
            obtain ⟨x1782, hx1782, hs⟩ := obind hs
            obtain ⟨q1783, hq1783, hs⟩ := obind hs
            obtain ⟨x1784, hx1784, hs⟩ := obind hs
            refine rg_draw_seq g_mixed (n := 61) (rs := []) (own0 := own1714) (K := [])
                (bs := [0, 0, 3, 7, 0, 0, 32, 112, 240, 511])
                (ds := [⟨[], [4], [], Fct.val 35 (pieceV As1 cs1 R32.s k1219 n1530)⟩,
                ⟨[], [5], [], Fct.val 36 (.int .i64 k1624)⟩,
                ⟨[0, 1], [], [], Fct.val 37 (.pointer (some ((adr As1).add ((q1781 : Int).toNat * R32.s))))⟩,
                ⟨[2], [], [], Fct.val 38 (.agg #[.int .i64 x1782.1, .int .i64 x1782.2])⟩,
                ⟨[], [4], [], Fct.val 39 (pieceV As1 cs1 R32.s k1219 n1530)⟩,
                ⟨[], [5], [], Fct.val 40 (.int .i64 k1624)⟩,
                ⟨[5], [], [], Fct.val 41 (.int .i64 (sb k1624 1))⟩,
                ⟨[4, 6], [], [], Fct.val 42 (.pointer (some ((adr As1).add ((q1783 : Int).toNat * R32.s))))⟩,
                ⟨[7], [], [], Fct.val 43 (.agg #[.int .i64 x1784.1, .int .i64 x1784.2])⟩,
                ⟨[3, 8], [], [], Fct.val 44 (.bool (!decide (x1782 = x1784)))⟩]) (by kernel_rfl) hz1714 hd1714 (fun _ h => nomatch h) ?_ ?_
            · refine steps_cons (fun own a wx hf hsl hE => ?_) ?_
              · obtain ⟨s_4, -⟩ := hsl
                exact sg_plain rfl rfl (or_move (s_4.trans e1714_4))
              refine steps_cons (fun own a wx hf hsl hE => ?_) ?_
              · obtain ⟨s_5, -⟩ := hsl
                exact sg_plain rfl rfl (or_move (s_5.trans e1714_5))
              refine steps_cons (fun own a wx hf hsl hE => ?_) ?_
              · obtain ⟨(f_35 : a.eval (.tmp 35) = pieceV As1 cs1 R32.s k1219 n1530), (f_36 : a.eval (.tmp 36) = .int .i64 k1624), -⟩ := hf
                exact sg_plain rfl rfl (or_indexW (R := R32) tl22 f_35 f_36 (RdO.some_ (RwO.rd b1714_As1) hx1782) (cut_some hx1528).1 (piece_le (cut_toE hn1530 hx1528) (RwO.rd b1526_As1)) hq1781)
              refine steps_cons (fun own a wx hf hsl hE => ?_) ?_
              · obtain ⟨(f_37 : a.eval (.tmp 37) = .pointer (some ((adr As1).add ((q1781 : Int).toNat * R32.s)))), -⟩ := hf
                exact sg_plain rfl rfl (or_load (l := E32.f x1782) ta32 f_37 (RdO.cells (F := E32) (RwO.rd (RwO.evo rfl hE b1714_As1)) hx1782) rfl)
              refine steps_cons (fun own a wx hf hsl hE => ?_) ?_
              · obtain ⟨s_4, -⟩ := hsl
                exact sg_plain rfl rfl (or_move (s_4.trans e1714_4))
              refine steps_cons (fun own a wx hf hsl hE => ?_) ?_
              · obtain ⟨s_5, -⟩ := hsl
                exact sg_plain rfl rfl (or_move (s_5.trans e1714_5))
              refine steps_cons (fun own a wx hf hsl hE => ?_) ?_
              · obtain ⟨(f_40 : a.eval (.tmp 40) = .int .i64 k1624), -⟩ := hf
                exact sg_plain rfl rfl (or_sub f_40 rfl rfl)
              refine steps_cons (fun own a wx hf hsl hE => ?_) ?_
              · obtain ⟨(f_39 : a.eval (.tmp 39) = pieceV As1 cs1 R32.s k1219 n1530), (f_41 : a.eval (.tmp 41) = .int .i64 (sb k1624 1)), -⟩ := hf
                exact sg_plain rfl rfl (or_indexW (R := R32) tl22 f_39 f_41 (RdO.some_ (RwO.rd b1714_As1) hx1784) (cut_some hx1528).1 (piece_le (cut_toE hn1530 hx1528) (RwO.rd b1526_As1)) hq1783)
              refine steps_cons (fun own a wx hf hsl hE => ?_) ?_
              · obtain ⟨(f_42 : a.eval (.tmp 42) = .pointer (some ((adr As1).add ((q1783 : Int).toNat * R32.s)))), -⟩ := hf
                exact sg_plain rfl rfl (or_load (l := E32.f x1784) ta32 f_42 (RdO.cells (F := E32) (RwO.rd (RwO.evo rfl hE b1714_As1)) hx1784) rfl)
              refine steps_cons (fun own a wx hf hsl hE => ?_) ?_
              · obtain ⟨(f_38 : a.eval (.tmp 38) = .agg #[.int .i64 x1782.1, .int .i64 x1782.2]), (f_43 : a.eval (.tmp 43) = .agg #[.int .i64 x1784.1, .int .i64 x1784.2]), -⟩ := hf
                exact sg_plain rfl rfl (or_neqA sg32 f_38 f_43 (sn32 x1782.1 x1782.2 x1784.1 x1784.2 _) rfl)
              exact steps_nil
            intro own1785 a1785 w1785 hd1785 hz1785 hk1785 hf1785 hE1785
            have e1785_0 : a1785.eval (.tmp 0) = .slice As1 s1621.length cs1 := (hk1785 0 rfl).trans e1714_0
            have e1785_3 : a1785.eval (.tmp 3) = .int .i64 k1623 := (hk1785 3 rfl).trans e1714_3
            have e1785_4 : a1785.eval (.tmp 4) = pieceV As1 cs1 R32.s k1219 n1530 := (hk1785 4 rfl).trans e1714_4
            have e1785_5 : a1785.eval (.tmp 5) = .int .i64 k1624 := (hk1785 5 rfl).trans e1714_5
            obtain ⟨(f_44 : a1785.eval (.tmp 44) = .bool (!decide (x1782 = x1784))), -⟩ := hf1785 [9] rfl
            have e1785_44 := f_44
            have hX1785 := Evo.step hX1714 hown hE1785 rfl
            have b1785_As1 := RwO.evo rfl hE1785 b1714_As1
            refine fl_cond e1785_44 hs (fun c1786 hs => ?_) (fun c1786 hs => ?_)
            · obtain ⟨q1790, hq1790, hs⟩ := obind hs
              obtain ⟨x1791, hx1791, hs⟩ := obind hs
              obtain ⟨x1792, hx1792, hs⟩ := obind hs
              obtain ⟨l1793, hl1793, hs⟩ := obind hs
              refine rg_plain_seq (n := 61) (rs := [Fct.rowAt 1622 [] 32 R32 As1 cs1 s1621]) (own0 := own1785) (K := [1622])
                  (bs := [0, 0, 0, 0, 12, 28, 63, 127])
                  (ds := [⟨[], [0], [], Fct.val 45 (.slice As1 s1621.length cs1)⟩,
                  ⟨[], [3], [], Fct.val 46 (.int .i64 k1623)⟩,
                  ⟨[], [4], [], Fct.val 47 (pieceV As1 cs1 R32.s k1219 n1530)⟩,
                  ⟨[], [5], [], Fct.val 48 (.int .i64 k1624)⟩,
                  ⟨[2, 3, 8], [], [], Fct.val 49 (.pointer (some ((adr As1).add ((q1790 : Int).toNat * R32.s))))⟩,
                  ⟨[4, 8], [], [], Fct.val 50 (.agg #[.int .i64 x1791.1, .int .i64 x1791.2])⟩,
                  ⟨[0, 1], [], [], Fct.val 51 (.pointer (some ((adr As1).add ((k1623 : Int).toNat * R32.s))))⟩,
                  ⟨[6, 5, 8], [], [1622], Fct.rowAt 1794 [] 32 R32 As1 cs1 l1793⟩]) (by kernel_rfl) hz1785 hd1785 (by simp only [List.forall_mem_cons]; exact ⟨b1785_As1, fun _ h => nomatch h⟩) ?_ ?_
              · refine steps_cons (fun own a wx hf hsl hE => ?_) ?_
                · obtain ⟨s_0, -⟩ := hsl
                  exact sg_plain rfl rfl (or_move (s_0.trans e1785_0))
                refine steps_cons (fun own a wx hf hsl hE => ?_) ?_
                · obtain ⟨s_3, -⟩ := hsl
                  exact sg_plain rfl rfl (or_move (s_3.trans e1785_3))
                refine steps_cons (fun own a wx hf hsl hE => ?_) ?_
                · obtain ⟨s_4, -⟩ := hsl
                  exact sg_plain rfl rfl (or_move (s_4.trans e1785_4))
                refine steps_cons (fun own a wx hf hsl hE => ?_) ?_
                · obtain ⟨s_5, -⟩ := hsl
                  exact sg_plain rfl rfl (or_move (s_5.trans e1785_5))
                refine steps_cons (fun own a wx hf hsl hE => ?_) ?_
                · obtain ⟨(f_47 : a.eval (.tmp 47) = pieceV As1 cs1 R32.s k1219 n1530), (f_48 : a.eval (.tmp 48) = .int .i64 k1624), (b_As1 : RwO own 1622 [] wx 32 R32 As1 cs1 s1621), -⟩ := hf
                  exact sg_plain rfl rfl (or_indexW (R := R32) tl22 f_47 f_48 (RdO.some_ (RwO.rd b1785_As1) hx1791) (cut_some hx1528).1 (piece_le (cut_toE hn1530 hx1528) (RwO.rd b1526_As1)) hq1790)
                refine steps_cons (fun own a wx hf hsl hE => ?_) ?_
                · obtain ⟨(f_49 : a.eval (.tmp 49) = .pointer (some ((adr As1).add ((q1790 : Int).toNat * R32.s)))), (b_As1 : RwO own 1622 [] wx 32 R32 As1 cs1 s1621), -⟩ := hf
                  exact sg_plain rfl rfl (or_load (l := E32.f x1791) ta32 f_49 (RdO.cells (F := E32) (RwO.rd b_As1) hx1791) rfl)
                refine steps_cons (fun own a wx hf hsl hE => ?_) ?_
                · obtain ⟨(f_45 : a.eval (.tmp 45) = .slice As1 s1621.length cs1), (f_46 : a.eval (.tmp 46) = .int .i64 k1623), -⟩ := hf
                  exact sg_plain rfl rfl (or_index (R := R32) (l := s1621) tl22 f_45 f_46 (RdO.some_ (RwO.rd b1785_As1) hx1792) hx1792)
                refine steps_cons (fun own a wx hf hsl hE => ?_) ?_
                · obtain ⟨(f_51 : a.eval (.tmp 51) = .pointer (some ((adr As1).add ((k1623 : Int).toNat * R32.s)))), (f_50 : a.eval (.tmp 50) = .agg #[.int .i64 x1791.1, .int .i64 x1791.2]), (b_As1 : RwO own 1622 [] wx 32 R32 As1 cs1 s1621), -⟩ := hf
                  exact sg_plain rfl rfl (or_storeIx (R := R32) (lab := 1622) (lab2 := 1794) (cs := [.int .i64 x1791.1, .int .i64 x1791.2]) (v := x1791) ts32 f_51 f_50 rfl (Rep.fl_flat _) (fun _ _ => rfl) b_As1 hl1793 (mem_of rfl) (by decide) (fun own' a' w' ha hb => hb))
                exact steps_nil
              intro own1795 a1795 w1795 hd1795 hz1795 hk1795 hf1795 hE1795
              have e1795_0 : a1795.eval (.tmp 0) = .slice As1 s1621.length cs1 := (hk1795 0 rfl).trans e1785_0
              have e1795_3 : a1795.eval (.tmp 3) = .int .i64 k1623 := (hk1795 3 rfl).trans e1785_3
              have e1795_4 : a1795.eval (.tmp 4) = pieceV As1 cs1 R32.s k1219 n1530 := (hk1795 4 rfl).trans e1785_4
              have e1795_5 : a1795.eval (.tmp 5) = .int .i64 k1624 := (hk1795 5 rfl).trans e1785_5
              obtain ⟨(b_As1 : RwO own1795 1794 [] w1795 32 R32 As1 cs1 l1793), -⟩ := hf1795 [7] rfl
              have hX1795 := Evo.step hX1785 hown hE1795 rfl
              have b1795_As1 := b_As1
              have m1796_0 : a1795.eval (.tmp 0) = .slice As1 l1793.length cs1 := e1795_0.trans (by rw [put_len hl1793])
              refine rg_plain (n := 61) (rs := []) (own0 := own1795) (K := [])
                  (bs := [0, 1, 3])
                  (ds := [⟨[], [3], [], Fct.val 52 (.int .i64 k1623)⟩,
                  ⟨[0], [], [], Fct.val 53 (.int .i64 (ad k1623 1))⟩,
                  ⟨[1], [], [], Fct.val 3 (.int .i64 (ad k1623 1))⟩]) (by kernel_rfl) hz1795 hd1795 (fun _ h => nomatch h) ?_ ?_
              · refine steps_cons (fun own a wx hf hsl hE => ?_) ?_
                · obtain ⟨s_3, -⟩ := hsl
                  exact sg_plain rfl rfl (or_move (s_3.trans e1795_3))
                refine steps_cons (fun own a wx hf hsl hE => ?_) ?_
                · obtain ⟨(f_52 : a.eval (.tmp 52) = .int .i64 k1623), -⟩ := hf
                  exact sg_plain rfl rfl (or_add f_52 rfl rfl)
                refine steps_cons (fun own a wx hf hsl hE => ?_) ?_
                · obtain ⟨(f_53 : a.eval (.tmp 53) = .int .i64 (ad k1623 1)), -⟩ := hf
                  exact sg_plain rfl rfl (or_assign f_53)
                exact steps_nil
              intro own1797 a1797 w1797 hd1797 hz1797 hk1797 hf1797 hE1797
              have e1797_0 : a1797.eval (.tmp 0) = .slice As1 l1793.length cs1 := (hk1797 0 rfl).trans m1796_0
              have e1797_4 : a1797.eval (.tmp 4) = pieceV As1 cs1 R32.s k1219 n1530 := (hk1797 4 rfl).trans e1795_4
              have e1797_5 : a1797.eval (.tmp 5) = .int .i64 k1624 := (hk1797 5 rfl).trans e1795_5
              obtain ⟨(f_3 : a1797.eval (.tmp 3) = .int .i64 (ad k1623 1)), -⟩ := hf1797 [2] rfl
              have e1797_3 := f_3
              have hX1797 := Evo.step hX1795 hown hE1797 rfl
              have b1797_As1 := RwO.evo rfl hE1797 b1795_As1
              exact (K1778 _ _ (rl [(1794, 1776)] own1797) _ _ hd1797 hz1797 e1797_0 e1797_3 e1797_4 e1797_5 (Evo.rl_ hX1797 hown rfl) (RwO.rl_ (mm := [(1794, 1776)]) b1797_As1) hs).1
            refine fl_skip ?_
            exact (K1778 _ _ (rl [(1622, 1776)] own1785) _ _ hd1785 hz1785 e1785_0 e1785_3 e1785_4 e1785_5 (Evo.rl_ hX1785 hown rfl) (RwO.rl_ (mm := [(1622, 1776)]) b1785_As1) hs).1
          refine fl_exit ?_
          refine hp1713 _ _ _ rfl ?_
          replace hs := hz1711 _ hs
          refine hp1711 _ _ _ rfl ?_
          refine hx1534 _ _ ?_
          refine hn1532 _ _ ?_
          obtain ⟨x1801, hx1801, hs⟩ := obind hs
          obtain ⟨n1803, hn1803, hs⟩ := obind hs
          obtain ⟨l1804, hl1804, hs⟩ := obind hs
          refine rg_plain_seq (n := 61) (rs := [Fct.rowAt 1622 [] 32 R32 As1 cs1 s1621]) (own0 := own1714) (K := [1622])
              (bs := [0, 0, 3, 7])
              (ds := [⟨[], [0], [], Fct.val 54 (.slice As1 s1621.length cs1)⟩,
              ⟨[], [3], [], Fct.val 55 (.int .i64 k1623)⟩,
              ⟨[0, 1, 4], [], [], Fct.val 56 (pieceV As1 cs1 R32.s k1623 n1803)⟩,
              ⟨[2, 4], [], [1622], Fct.rowAt 1805 [] 32 R32 As1 cs1 l1804⟩]) (by kernel_rfl) hz1714 hd1714 (by simp only [List.forall_mem_cons]; exact ⟨b1714_As1, fun _ h => nomatch h⟩) ?_ ?_
          · refine steps_cons (fun own a wx hf hsl hE => ?_) ?_
            · obtain ⟨s_0, -⟩ := hsl
              exact sg_plain rfl rfl (or_move (s_0.trans e1714_0))
            refine steps_cons (fun own a wx hf hsl hE => ?_) ?_
            · obtain ⟨s_3, -⟩ := hsl
              exact sg_plain rfl rfl (or_move (s_3.trans e1714_3))
            refine steps_cons (fun own a wx hf hsl hE => ?_) ?_
            · obtain ⟨(f_54 : a.eval (.tmp 54) = .slice As1 s1621.length cs1), (f_55 : a.eval (.tmp 55) = .int .i64 k1623), (b_As1 : RwO own 1622 [] wx 32 R32 As1 cs1 s1621), -⟩ := hf
              exact sg_plain rfl rfl (or_pieceW (R := R32) tu22 ts32 f_54 (Bnd.some_ f_55) (Bnd.noneE (osome hn1803)) (RwO.rd b_As1) (cut_toE hn1803 hx1801))
            refine steps_cons (fun own a wx hf hsl hE => ?_) ?_
            · obtain ⟨(f_56 : a.eval (.tmp 56) = pieceV As1 cs1 R32.s k1623 n1803), (b_As1 : RwO own 1622 [] wx 32 R32 As1 cs1 s1621), -⟩ := hf
              exact sg_plain rfl rfl (or_clear (R := R32) (lab := 1622) (lab2 := 1805) (z := .agg #[.int .i64 0, .int .i64 0]) (dv := (0, 0)) tu22 (by kernel_rfl) rfl f_56 b_As1 hl1804 (Rep.fl_flat _) (fun _ _ => rfl) (mem_of rfl) (by decide) (fun own' a' w' hb => hb))
            exact steps_nil
          intro own1806 a1806 w1806 hd1806 hz1806 hk1806 hf1806 hE1806
          have e1806_0 : a1806.eval (.tmp 0) = .slice As1 s1621.length cs1 := (hk1806 0 rfl).trans e1714_0
          have e1806_3 : a1806.eval (.tmp 3) = .int .i64 k1623 := (hk1806 3 rfl).trans e1714_3
          obtain ⟨(b_As1 : RwO own1806 1805 [] w1806 32 R32 As1 cs1 l1804), -⟩ := hf1806 [3] rfl
          have hX1806 := Evo.step hX1714 hown hE1806 rfl
          have b1806_As1 := b_As1
          have m1807_0 : a1806.eval (.tmp 0) = .slice As1 l1804.length cs1 := e1806_0.trans (by rw [clr_len hl1804])
          obtain ⟨x1810, hx1810, hs⟩ := obind hs
          refine rg_plain_seq (n := 61) (rs := [Fct.rowAt 1805 [] 32 R32 As1 cs1 l1804]) (own0 := own1806) (K := [1805])
              (bs := [0, 0, 3, 7])
              (ds := [⟨[], [0], [], Fct.val 57 (.slice As1 l1804.length cs1)⟩,
              ⟨[], [3], [], Fct.val 58 (.int .i64 k1623)⟩,
              ⟨[0, 1, 4], [], [1805], Fct.row 1812 [] 59 32 R32 x1810⟩,
              ⟨[2], [], [], Fct.rel [2, 59] (fun l => ∀ (A1811 : Option Addr) (cA1811 : Nat), l.getD 1 undef = .slice A1811 x1810.length cA1811 → l.getD 0 undef = .slice A1811 x1810.length cA1811)⟩]) (by kernel_rfl) hz1806 hd1806 (by simp only [List.forall_mem_cons]; exact ⟨b1806_As1, fun _ h => nomatch h⟩) ?_ ?_
          · refine steps_cons (fun own a wx hf hsl hE => ?_) ?_
            · obtain ⟨s_0, -⟩ := hsl
              exact sg_plain rfl rfl (or_move (s_0.trans m1807_0))
            refine steps_cons (fun own a wx hf hsl hE => ?_) ?_
            · obtain ⟨s_3, -⟩ := hsl
              exact sg_plain rfl rfl (or_move (s_3.trans e1806_3))
            refine steps_cons (fun own a wx hf hsl hE => ?_) ?_
            · obtain ⟨(f_57 : a.eval (.tmp 57) = .slice As1 l1804.length cs1), (f_58 : a.eval (.tmp 58) = .int .i64 k1623), (b_As1 : RwO own 1805 [] wx 32 R32 As1 cs1 l1804), -⟩ := hf
              exact sg_plain rfl rfl (or_keep (R := R32) (lab := 1805) (lab2 := 1812) tu22 ts32 f_57 (Bnd.some_ f_58) b_As1 hx1810 (mem_of rfl) (by decide) (.inl (Rep.fl_flat _)))
            refine steps_cons (fun own a wx hf hsl hE => ?_) ?_
            · obtain ⟨⟨⟨A1811, cA1811⟩, (f_59 : a.eval (.tmp 59) = .slice A1811 x1810.length cA1811), (b_A1811 : RwO own 1812 [] wx 32 R32 A1811 cA1811 x1810)⟩, -⟩ := hf
              exact sg_plain rfl rfl (or_mono (f := Fct.val 2 (.slice A1811 x1810.length cA1811)) (or_assign f_59) (fun own' a' w' v' hp h => fun _ _ h0' => by cases (f_59.symm.trans ((hp.2 59 (by decide)).symm.trans h0')); exact h))
            exact steps_nil
          intro own1813 a1813 w1813 hd1813 hz1813 hk1813 hf1813 hE1813
          obtain ⟨⟨⟨A1811, cA1811⟩, (f_59 : a1813.eval (.tmp 59) = .slice A1811 x1810.length cA1811), (b_A1811 : RwO own1813 1812 [] w1813 32 R32 A1811 cA1811 x1810)⟩, (q_2 : ∀ (A1811 : Option Addr) (cA1811 : Nat), a1813.eval (.tmp 59) = .slice A1811 x1810.length cA1811 → a1813.eval (.tmp 2) = .slice A1811 x1810.length cA1811), -⟩ := hf1813 [2, 3] rfl
          have f_2 := q_2 _ _ f_59
          have e1813_2 := f_2
          have hX1813 := Evo.step hX1806 hown hE1813 rfl
          have b1813_A1811 := b_A1811
          refine fl_ret ?_
          refine hp1523 _ _ _ rfl ?_
          refine hp1522 _ _ _ rfl ?_
          replace hs := hz1517 _ hs
          refine hp1517 _ _ _ rfl ?_
          refine hp921 _ _ _ rfl ?_
          refine hp919 _ _ _ rfl ?_
          obtain rfl := (osome hs).symm
          exact hret _ _ _ _ (.inl rfl) hd1813 (results1_ rfl (RVal.tmp_ e1813_2)) ⟨(rl [(1812, 2)] own1813), (A1811, cA1811), rfl, (Evo.rl_ hX1813 hown rfl), (RwO.rl_ (mm := [(1812, 2)]) b1813_A1811)⟩
      refine fl_skip ?_
      refine hn1523 _ _ ?_
      refine hn1522 _ _ ?_
      refine rg_plain (n := 61) (rs := []) (own0 := own1526) (K := [])
          (bs := [0, 1, 3])
          (ds := [⟨[], [3], [], Fct.val 14 (.int .i64 k1219)⟩,
          ⟨[0], [], [], Fct.val 15 (.int .i64 (ad k1219 1))⟩,
          ⟨[1], [], [], Fct.val 3 (.int .i64 (ad k1219 1))⟩]) (by kernel_rfl) hz1526 hd1526 (fun _ h => nomatch h) ?_ ?_
      · refine steps_cons (fun own a wx hf hsl hE => ?_) ?_
        · obtain ⟨s_3, -⟩ := hsl
          exact sg_plain rfl rfl (or_move (s_3.trans e1526_3))
        refine steps_cons (fun own a wx hf hsl hE => ?_) ?_
        · obtain ⟨(f_14 : a.eval (.tmp 14) = .int .i64 k1219), -⟩ := hf
          exact sg_plain rfl rfl (or_add f_14 rfl rfl)
        refine steps_cons (fun own a wx hf hsl hE => ?_) ?_
        · obtain ⟨(f_15 : a.eval (.tmp 15) = .int .i64 (ad k1219 1)), -⟩ := hf
          exact sg_plain rfl rfl (or_assign f_15)
        exact steps_nil
      intro own1814 a1814 w1814 hd1814 hz1814 hk1814 hf1814 hE1814
      have e1814_0 : a1814.eval (.tmp 0) = .slice As1 s1.length cs1 := (hk1814 0 rfl).trans e1526_0
      obtain ⟨(f_3 : a1814.eval (.tmp 3) = .int .i64 (ad k1219 1)), -⟩ := hf1814 [2] rfl
      have e1814_3 := f_3
      have hX1814 := Evo.step hX1526 hown hE1814 rfl
      have b1814_As1 := RwO.evo rfl hE1814 b1526_As1
      exact hn1517 _ _ _ hs ⟨own1814, hd1814, hz1814, e1814_0, e1814_3, hX1814, b1814_As1⟩
    refine fl_exit ?_
    refine hp1519 _ _ _ rfl ?_
    replace hs := hz1517 _ hs
    refine hp1517 _ _ _ rfl ?_
    refine hx921 _ _ ?_
    refine hn919 _ _ ?_
    refine rg_plain_seq (n := 61) (rs := []) (own0 := own1520) (K := [])
        (bs := [0, 1])
        (ds := [⟨[], [0], [], Fct.val 60 (.slice As1 s1.length cs1)⟩,
        ⟨[0], [], [], Fct.val 2 (.slice As1 s1.length cs1)⟩]) (by kernel_rfl) hz1520 hd1520 (fun _ h => nomatch h) ?_ ?_
    · refine steps_cons (fun own a wx hf hsl hE => ?_) ?_
      · obtain ⟨s_0, -⟩ := hsl
        exact sg_plain rfl rfl (or_move (s_0.trans e1520_0))
      refine steps_cons (fun own a wx hf hsl hE => ?_) ?_
      · obtain ⟨(f_60 : a.eval (.tmp 60) = .slice As1 s1.length cs1), -⟩ := hf
        exact sg_plain rfl rfl (or_assign f_60)
      exact steps_nil
    intro own1815 a1815 w1815 hd1815 hz1815 hk1815 hf1815 hE1815
    obtain ⟨(f_2 : a1815.eval (.tmp 2) = .slice As1 s1.length cs1), -⟩ := hf1815 [1] rfl
    have e1815_2 := f_2
    have hX1815 := Evo.step hX1520 hown hE1815 rfl
    have b1815_As1 := RwO.evo rfl hE1815 b1520_As1
    refine fl_ret ?_
    obtain rfl := (osome hs).symm
    exact hret _ _ _ _ (.inl rfl) hd1815 (results1_ rfl (RVal.tmp_ e1815_2)) ⟨(rl [(1, 2)] own1815), (As1, cs1), rfl, (Evo.rl_ hX1815 hown rfl), (RwO.rl_ (mm := [(1, 2)]) b1815_As1)⟩

theorem slices_Clip_api_Point_api_Point_w (w : World) (own : Own) (s1 : List (Int × Int)) (As1 : Option Addr) (cs1 : Nat) (hown : ∀ b, own b ≤ 1) (hs1 : RdO own [1] w R32 As1 cs1 s1) (r : List (Int × Int)) (hs : slices_Clip_api_Point_api_Point s1 = some r) :
    Calls Try.prog 51 #[.slice As1 s1.length cs1] w fun e w' => ∃ (own' : Own) (x : Option Addr × Nat), e = .returned (.slice x.1 r.length x.2) ∧ Evo [] own own' w w' ∧ RdO own' [1, 2] w' R32 x.1 x.2 r := by
  refine fl_enter (n := 9) rfl rfl rfl (Nat.le_of_ble_eq_true rfl) ?_
  intro a0 Q hd0 hz0 harg hret
  have ha0 := harg 0 _ rfl
  clear harg
  have hE0 : Evo [] own own w w := Evo.refl _ _ _
  refine rg_plain_seq (n := 9) (rs := []) (own0 := own) (K := [])
      (bs := [0])
      (ds := [⟨[], [], [], Fct.val 2 (.slice none 0 0)⟩]) (by kernel_rfl) hz0 hd0 (fun _ h => nomatch h) ?_ ?_
  · refine steps_cons (fun own a wx hf hsl hE => ?_) ?_
    · exact sg_plain rfl rfl (or_assign rfl)
    exact steps_nil
  intro own16 a16 w16 hd16 hz16 hk16 hf16 hE16
  have e16_0 : a16.eval (.tmp 0) = .slice As1 s1.length cs1 := (hk16 0 rfl).trans ha0
  have hX16 := Evo.step hE0 hown hE16 rfl
  have b16_As1 := RdO.evo rfl hE16 hs1
  obtain ⟨x17, hx17, hs⟩ := obind hs
  refine rg_plain_seq (n := 9) (rs := []) (own0 := own16) (K := [])
      (bs := [0, 0, 2, 0, 8, 31, 63])
      (ds := [⟨[], [0], [], Fct.val 3 (.slice As1 s1.length cs1)⟩,
      ⟨[], [0], [], Fct.val 4 (.slice As1 s1.length cs1)⟩,
      ⟨[1], [], [], Fct.val 5 (.int .i64 (s1.length : Int))⟩,
      ⟨[], [0], [], Fct.val 6 (.slice As1 s1.length cs1)⟩,
      ⟨[3], [], [], Fct.val 7 (.int .i64 (s1.length : Int))⟩,
      ⟨[0, 2, 4], [], [], Fct.view [1] 8 R32 x17⟩,
      ⟨[5], [], [], Fct.rel [2, 8] (fun l => ∀ (A18 : Option Addr) (cA18 : Nat), l.getD 1 undef = .slice A18 x17.length cA18 → l.getD 0 undef = .slice A18 x17.length cA18)⟩]) (by kernel_rfl) hz16 hd16 (fun _ h => nomatch h) ?_ ?_
  · refine steps_cons (fun own a wx hf hsl hE => ?_) ?_
    · obtain ⟨s_0, -⟩ := hsl
      exact sg_plain rfl rfl (or_move (s_0.trans e16_0))
    refine steps_cons (fun own a wx hf hsl hE => ?_) ?_
    · obtain ⟨s_0, -⟩ := hsl
      exact sg_plain rfl rfl (or_move (s_0.trans e16_0))
    refine steps_cons (fun own a wx hf hsl hE => ?_) ?_
    · obtain ⟨(f_4 : a.eval (.tmp 4) = .slice As1 s1.length cs1), -⟩ := hf
      exact sg_plain rfl rfl (or_len tu22 f_4 rfl)
    refine steps_cons (fun own a wx hf hsl hE => ?_) ?_
    · obtain ⟨s_0, -⟩ := hsl
      exact sg_plain rfl rfl (or_move (s_0.trans e16_0))
    refine steps_cons (fun own a wx hf hsl hE => ?_) ?_
    · obtain ⟨(f_6 : a.eval (.tmp 6) = .slice As1 s1.length cs1), -⟩ := hf
      exact sg_plain rfl rfl (or_len tu22 f_6 rfl)
    refine steps_cons (fun own a wx hf hsl hE => ?_) ?_
    · obtain ⟨(f_3 : a.eval (.tmp 3) = .slice As1 s1.length cs1), (f_5 : a.eval (.tmp 5) = .int .i64 (s1.length : Int)), (f_7 : a.eval (.tmp 7) = .int .i64 (s1.length : Int)), -⟩ := hf
      exact sg_plain rfl rfl (or_view (R := R32) (l := s1) (L := [1]) tu22 ts32 f_3 Bnd.none_ (Bnd.some_ f_5) (Bnd.some_ f_7) (RdO.evo rfl hE b16_As1) hx17 (.inr rfl) (by simp))
    refine steps_cons (fun own a wx hf hsl hE => ?_) ?_
    · obtain ⟨⟨⟨A18, cA18⟩, (f_8 : a.eval (.tmp 8) = .slice A18 x17.length cA18), (b_A18 : RdO own [1] wx R32 A18 cA18 x17)⟩, -⟩ := hf
      exact sg_plain rfl rfl (or_mono (f := Fct.val 2 (.slice A18 x17.length cA18)) (or_assign f_8) (fun own' a' w' v' hp h => fun _ _ h0' => by cases (f_8.symm.trans ((hp.2 8 (by decide)).symm.trans h0')); exact h))
    exact steps_nil
  intro own19 a19 w19 hd19 hz19 hk19 hf19 hE19
  obtain ⟨⟨⟨A18, cA18⟩, (f_8 : a19.eval (.tmp 8) = .slice A18 x17.length cA18), (b_A18 : RdO own19 [1] w19 R32 A18 cA18 x17)⟩, (q_2 : ∀ (A18 : Option Addr) (cA18 : Nat), a19.eval (.tmp 8) = .slice A18 x17.length cA18 → a19.eval (.tmp 2) = .slice A18 x17.length cA18), -⟩ := hf19 [5, 6] rfl
  have f_2 := q_2 _ _ f_8
  have e19_2 := f_2
  have hX19 := Evo.step hX16 hown hE19 rfl
  have b19_A18 := b_A18
  refine fl_ret ?_
  obtain rfl := (osome hs).symm
  exact hret _ _ _ _ (.inl rfl) hd19 (results1_ rfl (RVal.tmp_ e19_2)) ⟨own19, (A18, cA18), rfl, hX19, (RdO.more b19_A18 (by decide))⟩

theorem ring_Thin_w (w : World) (l1 : List (Int × Int)) (Al1 : Option Addr) (cl1 : Nat) (hl1 : RdO (fun _ => 0) [0] w R32 Al1 cl1 l1) (r : List (Int × Int)) (hs : ring_Thin l1 = some r) :
    Calls Try.prog 24 #[.slice Al1 l1.length cl1] w fun e w' => ∃ (own' : Own) (x : Option Addr × Nat), e = .returned (.slice x.1 r.length x.2) ∧ Evo [] (fun _ => 0) own' w w' ∧ RdO own' [1] w' R32 x.1 x.2 r := by
  refine fl_enter (n := 29) rfl rfl rfl (Nat.le_of_ble_eq_true rfl) ?_
  intro a0 Q hd0 hz0 harg hret
  have ha0 := harg 0 _ rfl
  clear harg
  have hE0 : Evo [] (fun _ => 0) (fun _ => 0) w w := Evo.refl _ _ _
  refine rg_plain_seq (n := 29) (rs := []) (own0 := (fun _ => 0)) (K := [])
      (bs := [0])
      (ds := [⟨[], [], [], Fct.val 2 (.slice none 0 0)⟩]) (by kernel_rfl) hz0 hd0 (fun _ h => nomatch h) ?_ ?_
  · refine steps_cons (fun own a wx hf hsl hE => ?_) ?_
    · exact sg_plain rfl rfl (or_assign rfl)
    exact steps_nil
  intro own73 a73 w73 hd73 hz73 hk73 hf73 hE73
  have e73_0 : a73.eval (.tmp 0) = .slice Al1 l1.length cl1 := (hk73 0 rfl).trans ha0
  have hX73 := Evo.step hE0 (fun _ => Nat.le_refl 0) hE73 rfl
  have b73_Al1 := RdO.evo rfl hE73 hl1
  obtain ⟨r74, hr74, hs⟩ := obind hs
  obtain ⟨r77, hr77, hs⟩ := obind hs
  refine rg_plain_seq (n := 29) (rs := []) (own0 := own73) (K := [76])
      (bs := [0, 1, 3, 7])
      (ds := [⟨[], [0], [], Fct.val 4 (.slice Al1 l1.length cl1)⟩,
      ⟨[0], [], [], Fct.row 76 [] 5 32 R32 r74⟩,
      ⟨[1], [], [76], Fct.mems [79] 6 (fun (x : Option Addr × Nat) => .slice x.1 r77.length x.2) (fun (x : Option Addr × Nat) own w => RwO own 79 [] w 32 R32 x.1 x.2 r77) (fun hk he h => RwO.evo (hits_sub hk (by decide)) he h)⟩,
      ⟨[2], [], [], Fct.rel [3, 6] (fun l => ∀ (A78 : Option Addr) (cA78 : Nat), l.getD 1 undef = .slice A78 r77.length cA78 → l.getD 0 undef = .slice A78 r77.length cA78)⟩]) (by kernel_rfl) hz73 hd73 (fun _ h => nomatch h) ?_ ?_
  · refine steps_cons (fun own a wx hf hsl hE => ?_) ?_
    · obtain ⟨s_0, -⟩ := hsl
      exact sg_plain rfl rfl (or_move (s_0.trans e73_0))
    refine steps_cons (fun own a wx hf hsl hE => ?_) ?_
    · obtain ⟨(f_4 : a.eval (.tmp 4) = .slice Al1 l1.length cl1), -⟩ := hf
      exact sg_plain rfl rfl (or_call cf46 (args1 f_4) (slices_Clone_api_Point_api_Point_w _ l1 Al1 cl1 (RdO.zero (RdO.evo rfl hE b73_Al1)) r74 hr74) (post_row (m' := (look0 [(1, 76)])) (.inl (Rep.fl_flat _)) rfl rfl (fun _ => rfl)))
    refine steps_cons (fun own a wx hf hsl hE => ?_) ?_
    · obtain ⟨⟨⟨A75, cA75⟩, (f_5 : a.eval (.tmp 5) = .slice A75 r74.length cA75), (b_A75 : RwO own 76 [] wx 32 R32 A75 cA75 r74)⟩, -⟩ := hf
      exact sg_plain rfl rfl (or_call cf50 (args1 f_5) (slices_Compact_api_Point_api_Point_w _ (forth own (look0 [(76, 1)])) r74 A75 cA75 (look0_le rfl) (RwO.forth_ (m := (look0 [(76, 1)])) b_A75) r77 hr77) (post_mems (m := (look0 [(76, 1)])) (m' := (look0 [(2, 79)])) (hm_of rfl) (fun own' w' a' x h1 h => ⟨x, h1, RwO.back_ h (by decide) (.inl (Rep.fl_flat _))⟩)))
    refine steps_cons (fun own a wx hf hsl hE => ?_) ?_
    · obtain ⟨⟨⟨A78, cA78⟩, (f_6 : a.eval (.tmp 6) = .slice A78 r77.length cA78), (b_A78 : RwO own 79 [] wx 32 R32 A78 cA78 r77)⟩, -⟩ := hf
      exact sg_plain rfl rfl (or_mono (f := Fct.val 3 (.slice A78 r77.length cA78)) (or_assign f_6) (fun own' a' w' v' hp h => fun _ _ h0' => by cases (f_6.symm.trans ((hp.2 6 (by decide)).symm.trans h0')); exact h))
    exact steps_nil
  intro own80 a80 w80 hd80 hz80 hk80 hf80 hE80
  obtain ⟨⟨⟨A78, cA78⟩, (f_6 : a80.eval (.tmp 6) = .slice A78 r77.length cA78), (b_A78 : RwO own80 79 [] w80 32 R32 A78 cA78 r77)⟩, (q_3 : ∀ (A78 : Option Addr) (cA78 : Nat), a80.eval (.tmp 6) = .slice A78 r77.length cA78 → a80.eval (.tmp 3) = .slice A78 r77.length cA78), -⟩ := hf80 [2, 3] rfl
  have f_3 := q_3 _ _ f_6
  have e80_3 := f_3
  have hX80 := Evo.step hX73 (fun _ => Nat.le_refl 0) hE80 rfl
  have b80_A78 := b_A78
  refine fl_seq (fun Q81 hn81 hp81 => ?_)
  refine fl_block (fun Q82 hn82 hx82 hp82 => ?_)
  refine fl_loop (body := (fun s => ring_Thin_b1 s)) (z := r) (show loopO _ _ = _ from hs) (fun (out99 : List (Int × Int)) a wx => ∃ (ox : Own) (A97 : Option Addr) (c98 : Nat), a.defers = [] ∧ a.tmps.size = 29 ∧ a.eval (.tmp 3) = .slice A97 out99.length c98 ∧ Evo [] (fun _ => 0) ox w wx ∧ RwO ox 100 [] wx 32 R32 A97 c98 out99) ?_ ?_
  · exact ⟨(rl [(79, 100)] own80), A78, cA78, hd80, hz80, e80_3, (Evo.rl_ hX80 (fun _ => Nat.le_refl 0) rfl), (RwO.rl_ (mm := [(79, 100)]) b80_A78)⟩
  · rintro out99 zz115 a115 w115 ⟨own115, A97, c98, hd116, hz116, e116_3, hE116, b116_A97⟩ hs Q115 hn115 hp115 hz115
    have hs : ring_Thin_b1 out99 = some zz115 := hs
    refine fl_seq (fun Q117 hn117 hp117 => ?_)
    obtain ⟨x118, hx118, hs⟩ := obind hs
    obtain ⟨x119, hx119, hs⟩ := obind hs
    obtain ⟨x120, hx120, hs⟩ := obind hs
    refine rg_draw_seq g_mixed (n := 29) (rs := []) (own0 := own115) (K := [])
        (bs := [0, 1, 3, 7, 15, 15, 47, 111, 255, 511, 15, 1039, 3087, 8191, 16383])
        (ds := [⟨[], [3], [], Fct.val 7 (.slice A97 out99.length c98)⟩,
        ⟨[0], [], [], Fct.val 8 (.int .i64 (out99.length : Int))⟩,
        ⟨[1], [], [], Fct.val 9 (.bool (decide (1 < (out99.length : Int))))⟩,
        ⟨[2], [], [], Fct.val 10 (.bool (decide (1 < (out99.length : Int))))⟩,
        ⟨[3], [3], [], Fct.cond (decide (1 < (out99.length : Int))) (some 11) (Fct.val 11 (.slice A97 out99.length c98))⟩,
        ⟨[3], [3], [], Fct.cond (decide (1 < (out99.length : Int))) (some 12) (Fct.val 12 (.slice A97 out99.length c98))⟩,
        ⟨[3, 5], [], [], Fct.cond (decide (1 < (out99.length : Int))) (some 13) (Fct.val 13 (.int .i64 (out99.length : Int)))⟩,
        ⟨[3, 6], [], [], Fct.cond (decide (1 < (out99.length : Int))) (some 14) (Fct.val 14 (.int .i64 (sb (out99.length : Int) 1)))⟩,
        ⟨[3, 4, 7], [], [], Fct.cond (decide (1 < (out99.length : Int))) (some 15) (Fct.val 15 (.pointer (some ((adr A97).add ((sb (out99.length : Int) 1 : Int).toNat * R32.s)))))⟩,
        ⟨[3, 8], [], [], Fct.cond (decide (1 < (out99.length : Int))) (some 16) (Fct.val 16 (.agg #[.int .i64 x118.1, .int .i64 x118.2]))⟩,
        ⟨[3], [3], [], Fct.cond (decide (1 < (out99.length : Int))) (some 17) (Fct.val 17 (.slice A97 out99.length c98))⟩,
        ⟨[3, 10], [], [], Fct.cond (decide (1 < (out99.length : Int))) (some 18) (Fct.val 18 (.pointer (some ((adr A97).add ((0 : Int).toNat * R32.s)))))⟩,
        ⟨[3, 11], [], [], Fct.cond (decide (1 < (out99.length : Int))) (some 19) (Fct.val 19 (.agg #[.int .i64 x119.1, .int .i64 x119.2]))⟩,
        ⟨[3, 9, 12], [], [], Fct.cond (decide (1 < (out99.length : Int))) (some 20) (Fct.val 20 (.bool (decide (x118 = x119))))⟩,
        ⟨[3, 13], [], [], Fct.val 21 (.bool x120)⟩]) (by kernel_rfl) hz116 hd116 (fun _ h => nomatch h) ?_ ?_
    · refine steps_cons (fun own a wx hf hsl hE => ?_) ?_
      · obtain ⟨s_3, -⟩ := hsl
        exact sg_plain rfl rfl (or_move (s_3.trans e116_3))
      refine steps_cons (fun own a wx hf hsl hE => ?_) ?_
      · obtain ⟨(f_7 : a.eval (.tmp 7) = .slice A97 out99.length c98), -⟩ := hf
        exact sg_plain rfl rfl (or_len tu22 f_7 rfl)
      refine steps_cons (fun own a wx hf hsl hE => ?_) ?_
      · obtain ⟨(f_8 : a.eval (.tmp 8) = .int .i64 (out99.length : Int)), -⟩ := hf
        exact sg_plain rfl rfl (or_gtr f_8 rfl rfl)
      refine steps_cons (fun own a wx hf hsl hE => ?_) ?_
      · obtain ⟨(f_9 : a.eval (.tmp 9) = .bool (decide (1 < (out99.length : Int)))), -⟩ := hf
        exact sg_plain rfl rfl (or_move f_9)
      refine steps_cons (fun own a wx hf hsl hE => ?_) ?_
      · obtain ⟨(f_10 : a.eval (.tmp 10) = .bool (decide (1 < (out99.length : Int)))), -⟩ := hf
        obtain ⟨s_3, -⟩ := hsl
        refine sg_t rfl rfl rfl f_10 (fun hg => ?_)
        exact or_move (s_3.trans e116_3)
      refine steps_cons (fun own a wx hf hsl hE => ?_) ?_
      · obtain ⟨(f_10 : a.eval (.tmp 10) = .bool (decide (1 < (out99.length : Int)))), -⟩ := hf
        obtain ⟨s_3, -⟩ := hsl
        refine sg_t rfl rfl rfl f_10 (fun hg => ?_)
        exact or_move (s_3.trans e116_3)
      refine steps_cons (fun own a wx hf hsl hE => ?_) ?_
      · obtain ⟨(f_10 : a.eval (.tmp 10) = .bool (decide (1 < (out99.length : Int)))), c_12, -⟩ := hf
        refine sg_t rfl rfl rfl f_10 (fun hg => ?_)
        have f_12 : a.eval (.tmp 12) = .slice A97 out99.length c98 := c_12.1 hg
        exact or_len tu22 f_12 rfl
      refine steps_cons (fun own a wx hf hsl hE => ?_) ?_
      · obtain ⟨(f_10 : a.eval (.tmp 10) = .bool (decide (1 < (out99.length : Int)))), c_13, -⟩ := hf
        refine sg_t rfl rfl rfl f_10 (fun hg => ?_)
        have f_13 : a.eval (.tmp 13) = .int .i64 (out99.length : Int) := c_13.1 hg
        exact or_sub f_13 rfl rfl
      refine steps_cons (fun own a wx hf hsl hE => ?_) ?_
      · obtain ⟨(f_10 : a.eval (.tmp 10) = .bool (decide (1 < (out99.length : Int)))), c_11, c_14, -⟩ := hf
        refine sg_t rfl rfl rfl f_10 (fun hg => ?_)
        have f_11 : a.eval (.tmp 11) = .slice A97 out99.length c98 := c_11.1 hg
        have f_14 : a.eval (.tmp 14) = .int .i64 (sb (out99.length : Int) 1) := c_14.1 hg
        exact or_index (R := R32) (l := out99) tl22 f_11 f_14 (RdO.some_ (RwO.rd b116_A97) (gd_t hx118 hg)) (gd_t hx118 hg)
      refine steps_cons (fun own a wx hf hsl hE => ?_) ?_
      · obtain ⟨(f_10 : a.eval (.tmp 10) = .bool (decide (1 < (out99.length : Int)))), c_15, -⟩ := hf
        refine sg_t rfl rfl rfl f_10 (fun hg => ?_)
        have f_15 : a.eval (.tmp 15) = .pointer (some ((adr A97).add ((sb (out99.length : Int) 1 : Int).toNat * R32.s))) := c_15.1 hg
        exact or_load (l := E32.f x118) ta32 f_15 (RdO.cells (F := E32) (RwO.rd (RwO.evo rfl hE b116_A97)) (gd_t hx118 hg)) rfl
      refine steps_cons (fun own a wx hf hsl hE => ?_) ?_
      · obtain ⟨(f_10 : a.eval (.tmp 10) = .bool (decide (1 < (out99.length : Int)))), -⟩ := hf
        obtain ⟨s_3, -⟩ := hsl
        refine sg_t rfl rfl rfl f_10 (fun hg => ?_)
        exact or_move (s_3.trans e116_3)
      refine steps_cons (fun own a wx hf hsl hE => ?_) ?_
      · obtain ⟨(f_10 : a.eval (.tmp 10) = .bool (decide (1 < (out99.length : Int)))), c_17, -⟩ := hf
        refine sg_t rfl rfl rfl f_10 (fun hg => ?_)
        have f_17 : a.eval (.tmp 17) = .slice A97 out99.length c98 := c_17.1 hg
        exact or_index (R := R32) (l := out99) tl22 f_17 rfl (RdO.some_ (RwO.rd b116_A97) (gd_t hx119 hg)) (gd_t hx119 hg)
      refine steps_cons (fun own a wx hf hsl hE => ?_) ?_
      · obtain ⟨(f_10 : a.eval (.tmp 10) = .bool (decide (1 < (out99.length : Int)))), c_18, -⟩ := hf
        refine sg_t rfl rfl rfl f_10 (fun hg => ?_)
        have f_18 : a.eval (.tmp 18) = .pointer (some ((adr A97).add ((0 : Int).toNat * R32.s))) := c_18.1 hg
        exact or_load (l := E32.f x119) ta32 f_18 (RdO.cells (F := E32) (RwO.rd (RwO.evo rfl hE b116_A97)) (gd_t hx119 hg)) rfl
      refine steps_cons (fun own a wx hf hsl hE => ?_) ?_
      · obtain ⟨(f_10 : a.eval (.tmp 10) = .bool (decide (1 < (out99.length : Int)))), c_16, c_19, -⟩ := hf
        refine sg_t rfl rfl rfl f_10 (fun hg => ?_)
        have f_16 : a.eval (.tmp 16) = .agg #[.int .i64 x118.1, .int .i64 x118.2] := c_16.1 hg
        have f_19 : a.eval (.tmp 19) = .agg #[.int .i64 x119.1, .int .i64 x119.2] := c_19.1 hg
        exact or_eqlA sg32 f_16 f_19 (se32 x118.1 x118.2 x119.1 x119.2 _) rfl
      refine steps_cons (fun own a wx hf hsl hE => ?_) ?_
      · obtain ⟨(f_10 : a.eval (.tmp 10) = .bool (decide (1 < (out99.length : Int)))), c_20, -⟩ := hf
        exact sg_plain rfl rfl (or_and f_10 (fun hx => c_20.1 hx) rfl (osome hx120).symm)
      exact steps_nil
    intro own121 a121 w121 hd121 hz121 hk121 hf121 hE121
    have e121_3 : a121.eval (.tmp 3) = .slice A97 out99.length c98 := (hk121 3 rfl).trans e116_3
    obtain ⟨(f_21 : a121.eval (.tmp 21) = .bool x120), -⟩ := hf121 [14] rfl
    have e121_21 := f_21
    have hX121 := Evo.step hE116 (fun _ => Nat.le_refl 0) hE121 rfl
    have b121_A97 := RwO.evo rfl hE121 b116_A97
    refine fl_cond e121_21 hs (fun c122 hs => ?_) (fun c122 hs => ?_)
    · refine fl_skip ?_
      refine hn117 _ _ ?_
      refine fl_block (fun Q123 hn123 hx123 hp123 => ?_)
      obtain ⟨x126, hx126, hs⟩ := obind hs
      refine rg_plain (n := 29) (rs := [Fct.rowAt 100 [] 32 R32 A97 c98 out99]) (own0 := own121) (K := [100])
          (bs := [0, 0, 2, 6, 15, 31])
          (ds := [⟨[], [3], [], Fct.val 22 (.slice A97 out99.length c98)⟩,
          ⟨[], [3], [], Fct.val 23 (.slice A97 out99.length c98)⟩,
          ⟨[1], [], [], Fct.val 24 (.int .i64 (out99.length : Int))⟩,
          ⟨[2], [], [], Fct.val 25 (.int .i64 (sb (out99.length : Int) 1))⟩,
          ⟨[0, 3, 6], [], [100], Fct.row 128 [] 26 32 R32 x126⟩,
          ⟨[4], [], [], Fct.rel [3, 26] (fun l => ∀ (A127 : Option Addr) (cA127 : Nat), l.getD 1 undef = .slice A127 x126.length cA127 → l.getD 0 undef = .slice A127 x126.length cA127)⟩]) (by kernel_rfl) hz121 hd121 (by simp only [List.forall_mem_cons]; exact ⟨b121_A97, fun _ h => nomatch h⟩) ?_ ?_
      · refine steps_cons (fun own a wx hf hsl hE => ?_) ?_
        · obtain ⟨s_3, -⟩ := hsl
          exact sg_plain rfl rfl (or_move (s_3.trans e121_3))
        refine steps_cons (fun own a wx hf hsl hE => ?_) ?_
        · obtain ⟨s_3, -⟩ := hsl
          exact sg_plain rfl rfl (or_move (s_3.trans e121_3))
        refine steps_cons (fun own a wx hf hsl hE => ?_) ?_
        · obtain ⟨(f_23 : a.eval (.tmp 23) = .slice A97 out99.length c98), -⟩ := hf
          exact sg_plain rfl rfl (or_len tu22 f_23 rfl)
        refine steps_cons (fun own a wx hf hsl hE => ?_) ?_
        · obtain ⟨(f_24 : a.eval (.tmp 24) = .int .i64 (out99.length : Int)), -⟩ := hf
          exact sg_plain rfl rfl (or_sub f_24 rfl rfl)
        refine steps_cons (fun own a wx hf hsl hE => ?_) ?_
        · obtain ⟨(f_22 : a.eval (.tmp 22) = .slice A97 out99.length c98), (f_25 : a.eval (.tmp 25) = .int .i64 (sb (out99.length : Int) 1)), (b_A97 : RwO own 100 [] wx 32 R32 A97 c98 out99), -⟩ := hf
          exact sg_plain rfl rfl (or_keep (R := R32) (lab := 100) (lab2 := 128) tu22 ts32 f_22 (Bnd.some_ f_25) b_A97 hx126 (mem_of rfl) (by decide) (.inl (Rep.fl_flat _)))
        refine steps_cons (fun own a wx hf hsl hE => ?_) ?_
        · obtain ⟨⟨⟨A127, cA127⟩, (f_26 : a.eval (.tmp 26) = .slice A127 x126.length cA127), (b_A127 : RwO own 128 [] wx 32 R32 A127 cA127 x126)⟩, -⟩ := hf
          exact sg_plain rfl rfl (or_mono (f := Fct.val 3 (.slice A127 x126.length cA127)) (or_assign f_26) (fun own' a' w' v' hp h => fun _ _ h0' => by cases (f_26.symm.trans ((hp.2 26 (by decide)).symm.trans h0')); exact h))
        exact steps_nil
      intro own129 a129 w129 hd129 hz129 hk129 hf129 hE129
      obtain ⟨⟨⟨A127, cA127⟩, (f_26 : a129.eval (.tmp 26) = .slice A127 x126.length cA127), (b_A127 : RwO own129 128 [] w129 32 R32 A127 cA127 x126)⟩, (q_3 : ∀ (A127 : Option Addr) (cA127 : Nat), a129.eval (.tmp 26) = .slice A127 x126.length cA127 → a129.eval (.tmp 3) = .slice A127 x126.length cA127), -⟩ := hf129 [4, 5] rfl
      have f_3 := q_3 _ _ f_26
      have e129_3 := f_3
      have hX129 := Evo.step hX121 (fun _ => Nat.le_refl 0) hE129 rfl
      have b129_A127 := b_A127
      refine hn123 _ _ ?_
      exact hn115 _ _ _ hs ⟨(rl [(128, 100)] own129), A127, cA127, hd129, hz129, e129_3, (Evo.rl_ hX129 (fun _ => Nat.le_refl 0) rfl), (RwO.rl_ (mm := [(128, 100)]) b129_A127)⟩
    refine fl_exit ?_
    refine hp117 _ _ _ rfl ?_
    replace hs := hz115 _ hs
    refine hp115 _ _ _ rfl ?_
    refine hx82 _ _ ?_
    refine hn81 _ _ ?_
    obtain ⟨r130, hr130, hs⟩ := obind hs
    refine rg_plain_seq (n := 29) (rs := []) (own0 := own121) (K := [])
        (bs := [0, 1, 3])
        (ds := [⟨[], [3], [], Fct.val 27 (.slice A97 out99.length c98)⟩,
        ⟨[0], [], [], Fct.mems [132, 133, 100] 28 (fun (x : Option Addr × Nat) => .slice x.1 r130.length x.2) (fun (x : Option Addr × Nat) own w => RdO own [132, 133, 100] w R32 x.1 x.2 r130) (fun hk he h => RdO.evo (hits_sub hk (by decide)) he h)⟩,
        ⟨[1], [], [], Fct.rel [2, 28] (fun l => ∀ (A131 : Option Addr) (cA131 : Nat), l.getD 1 undef = .slice A131 r130.length cA131 → l.getD 0 undef = .slice A131 r130.length cA131)⟩]) (by kernel_rfl) hz121 hd121 (fun _ h => nomatch h) ?_ ?_
    · refine steps_cons (fun own a wx hf hsl hE => ?_) ?_
      · obtain ⟨s_3, -⟩ := hsl
        exact sg_plain rfl rfl (or_move (s_3.trans e121_3))
      refine steps_cons (fun own a wx hf hsl hE => ?_) ?_
      · obtain ⟨(f_27 : a.eval (.tmp 27) = .slice A97 out99.length c98), -⟩ := hf
        exact sg_plain rfl rfl (or_call cf51 (args1 f_27) (slices_Clip_api_Point_api_Point_w _ (forth own (inL [100])) out99 A97 c98 inL_le (RdO.alias_ (La := [100]) (RwO.rd (RwO.evo rfl hE b121_A97)) (by decide)) r130 hr130) (post_alias (La := [100]) (m' := (look0 [(1, 132), (2, 133)])) (fun own' w' a' x ho hsz h1 h => ⟨x, h1, RdO.backN_ ho hsz h (by decide) (by decide) (by decide)⟩)))
      refine steps_cons (fun own a wx hf hsl hE => ?_) ?_
      · obtain ⟨⟨⟨A131, cA131⟩, (f_28 : a.eval (.tmp 28) = .slice A131 r130.length cA131), (b_A131 : RdO own [132, 133, 100] wx R32 A131 cA131 r130)⟩, -⟩ := hf
        exact sg_plain rfl rfl (or_mono (f := Fct.val 2 (.slice A131 r130.length cA131)) (or_assign f_28) (fun own' a' w' v' hp h => fun _ _ h0' => by cases (f_28.symm.trans ((hp.2 28 (by decide)).symm.trans h0')); exact h))
      exact steps_nil
    intro own134 a134 w134 hd134 hz134 hk134 hf134 hE134
    obtain ⟨⟨⟨A131, cA131⟩, (f_28 : a134.eval (.tmp 28) = .slice A131 r130.length cA131), (b_A131 : RdO own134 [132, 133, 100] w134 R32 A131 cA131 r130)⟩, (q_2 : ∀ (A131 : Option Addr) (cA131 : Nat), a134.eval (.tmp 28) = .slice A131 r130.length cA131 → a134.eval (.tmp 2) = .slice A131 r130.length cA131), -⟩ := hf134 [1, 2] rfl
    have f_2 := q_2 _ _ f_28
    have e134_2 := f_2
    have hX134 := Evo.step hX121 (fun _ => Nat.le_refl 0) hE134 rfl
    have b134_A131 := b_A131
    refine fl_ret ?_
    obtain rfl := (osome hs).symm
    exact hret _ _ _ _ (.inl rfl) hd134 (results1_ rfl (RVal.tmp_ e134_2)) ⟨(rl [(100, 1), (132, 1), (133, 1)] own134), (A131, cA131), rfl, (Evo.rl_ hX134 (fun _ => Nat.le_refl 0) rfl), (RdO.more (RdO.rl_ (mm := [(100, 1), (132, 1), (133, 1)]) b134_A131) (by decide))⟩

theorem ref03_Thin_w (w : World) (l1 : List (Int × Int)) (Al1 : Option Addr) (cl1 : Nat) (hl1 : RdO (fun _ => 0) [0] w R49 Al1 cl1 l1) (r : List (Int × Int)) (hs : ref03_Thin l1 = some r) :
    Calls Try.prog 25 #[.slice Al1 l1.length cl1] w fun e w' => ∃ (own' : Own) (x : Option Addr × Nat), e = .returned (.slice x.1 r.length x.2) ∧ Evo [] (fun _ => 0) own' w w' ∧ RwO own' 1 [] w' 49 R49 x.1 x.2 r := by
  refine fl_enter (n := 53) rfl rfl rfl (Nat.le_of_ble_eq_true rfl) ?_
  intro a0 Q hd0 hz0 harg hret
  have ha0 := harg 0 _ rfl
  clear harg
  have hE0 : Evo [] (fun _ => 0) (fun _ => 0) w w := Evo.refl _ _ _
  refine rg_plain_seq (n := 53) (rs := []) (own0 := (fun _ => 0)) (K := [])
      (bs := [0])
      (ds := [⟨[], [], [], Fct.val 2 (.slice none 0 0)⟩]) (by kernel_rfl) hz0 hd0 (fun _ h => nomatch h) ?_ ?_
  · refine steps_cons (fun own a wx hf hsl hE => ?_) ?_
    · exact sg_plain rfl rfl (or_assign rfl)
    exact steps_nil
  intro own300 a300 w300 hd300 hz300 hk300 hf300 hE300
  have e300_0 : a300.eval (.tmp 0) = .slice Al1 l1.length cl1 := (hk300 0 rfl).trans ha0
  have hX300 := Evo.step hE0 (fun _ => Nat.le_refl 0) hE300 rfl
  have b300_Al1 := RdO.evo rfl hE300 hl1
  refine rg_plain_seq (n := 53) (rs := []) (own0 := own300) (K := [])
      (bs := [0])
      (ds := [⟨[], [], [], Fct.val 3 (.slice none 0 0)⟩]) (by kernel_rfl) hz300 hd300 (fun _ h => nomatch h) ?_ ?_
  · refine steps_cons (fun own a wx hf hsl hE => ?_) ?_
    · exact sg_plain rfl rfl (or_assign rfl)
    exact steps_nil
  intro own301 a301 w301 hd301 hz301 hk301 hf301 hE301
  have e301_0 : a301.eval (.tmp 0) = .slice Al1 l1.length cl1 := (hk301 0 rfl).trans e300_0
  obtain ⟨(f_3 : a301.eval (.tmp 3) = .slice none 0 0), -⟩ := hf301 [0] rfl
  have e301_3 := f_3
  have hX301 := Evo.step hX300 (fun _ => Nat.le_refl 0) hE301 rfl
  have b301_Al1 := RdO.evo rfl hE301 b300_Al1
  refine fl_seq (fun Q302 hn302 hp302 => ?_)
  refine rg_plain_seq (n := 53) (rs := []) (own0 := own301) (K := [])
      (bs := [0])
      (ds := [⟨[], [], [], Fct.val 4 (.int .i64 0)⟩]) (by kernel_rfl) hz301 hd301 (fun _ h => nomatch h) ?_ ?_
  · refine steps_cons (fun own a wx hf hsl hE => ?_) ?_
    · exact sg_plain rfl rfl (or_assign rfl)
    exact steps_nil
  intro own303 a303 w303 hd303 hz303 hk303 hf303 hE303
  have e303_0 : a303.eval (.tmp 0) = .slice Al1 l1.length cl1 := (hk303 0 rfl).trans e301_0
  have e303_3 : a303.eval (.tmp 3) = .slice none 0 0 := (hk303 3 rfl).trans e301_3
  obtain ⟨(f_4 : a303.eval (.tmp 4) = .int .i64 0), -⟩ := hf303 [0] rfl
  have e303_4 := f_4
  have hX303 := Evo.step hX301 (fun _ => Nat.le_refl 0) hE303 rfl
  have b303_Al1 := RdO.evo rfl hE303 b301_Al1
  refine fl_block (fun Q304 hn304 hx304 hp304 => ?_)
  refine fl_loop (body := (fun s => ref03_Thin_b1 l1 s.1 s.2)) (z := r) (show loopO _ _ = _ from hs) (fun (s : (List (Int × Int)) × Int) a wx => match s with | (out375, i377) => ∃ (ox : Own) (A373 : Option Addr) (c374 : Nat), a.defers = [] ∧ a.tmps.size = 53 ∧ a.eval (.tmp 0) = .slice Al1 l1.length cl1 ∧ a.eval (.tmp 3) = .slice A373 out375.length c374 ∧ a.eval (.tmp 4) = .int .i64 i377 ∧ Evo [] (fun _ => 0) ox w wx ∧ RdO ox [0] wx R49 Al1 cl1 l1 ∧ RwO ox 376 [] wx 49 R49 A373 c374 out375) ?_ ?_
  · exact ⟨own303, none, 0, hd303, hz303, e303_0, e303_3, e303_4, hX303, b303_Al1, RwO.nil_⟩
  · rintro ⟨out375, i377⟩ zz458 a458 w458 ⟨own458, A373, c374, hd459, hz459, e459_0, e459_3, e459_4, hE459, b459_Al1, b459_A373⟩ hs Q458 hn458 hp458 hz458
    have hs : ref03_Thin_b1 l1 out375 i377 = some zz458 := hs
    refine fl_seq (fun Q460 hn460 hp460 => ?_)
    refine rg_plain_seq (n := 53) (rs := []) (own0 := own458) (K := [])
        (bs := [0, 0, 2, 7])
        (ds := [⟨[], [4], [], Fct.val 5 (.int .i64 i377)⟩,
        ⟨[], [0], [], Fct.val 6 (.slice Al1 l1.length cl1)⟩,
        ⟨[1], [], [], Fct.val 7 (.int .i64 (l1.length : Int))⟩,
        ⟨[0, 2], [], [], Fct.val 8 (.bool (decide (i377 < (l1.length : Int))))⟩]) (by kernel_rfl) hz459 hd459 (fun _ h => nomatch h) ?_ ?_
    · refine steps_cons (fun own a wx hf hsl hE => ?_) ?_
      · obtain ⟨s_4, -⟩ := hsl
        exact sg_plain rfl rfl (or_move (s_4.trans e459_4))
      refine steps_cons (fun own a wx hf hsl hE => ?_) ?_
      · obtain ⟨s_0, -⟩ := hsl
        exact sg_plain rfl rfl (or_move (s_0.trans e459_0))
      refine steps_cons (fun own a wx hf hsl hE => ?_) ?_
      · obtain ⟨(f_6 : a.eval (.tmp 6) = .slice Al1 l1.length cl1), -⟩ := hf
        exact sg_plain rfl rfl (or_len tu24 f_6 rfl)
      refine steps_cons (fun own a wx hf hsl hE => ?_) ?_
      · obtain ⟨(f_5 : a.eval (.tmp 5) = .int .i64 i377), (f_7 : a.eval (.tmp 7) = .int .i64 (l1.length : Int)), -⟩ := hf
        exact sg_plain rfl rfl (or_lss f_5 f_7 rfl)
      exact steps_nil
    intro own461 a461 w461 hd461 hz461 hk461 hf461 hE461
    have e461_0 : a461.eval (.tmp 0) = .slice Al1 l1.length cl1 := (hk461 0 rfl).trans e459_0
    have e461_3 : a461.eval (.tmp 3) = .slice A373 out375.length c374 := (hk461 3 rfl).trans e459_3
    have e461_4 : a461.eval (.tmp 4) = .int .i64 i377 := (hk461 4 rfl).trans e459_4
    obtain ⟨(f_8 : a461.eval (.tmp 8) = .bool (decide (i377 < (l1.length : Int)))), -⟩ := hf461 [3] rfl
    have e461_8 := f_8
    have hX461 := Evo.step hE459 (fun _ => Nat.le_refl 0) hE461 rfl
    have b461_Al1 := RdO.evo rfl hE461 b459_Al1
    have b461_A373 := RwO.evo rfl hE461 b459_A373
    refine fl_cond e461_8 hs (fun c462 hs => ?_) (fun c462 hs => ?_)
    · refine fl_skip ?_
      refine hn460 _ _ ?_
      refine fl_seq (fun Q463 hn463 hp463 => ?_)
      refine fl_block (fun Q501 hn501 hx501 hp501 => ?_)
      have K521 : ∀ (a521 : Act) (w521 : World) (own521 : Own) (out519 : List (Int × Int)) (A517 : Option Addr) (c518 : Nat), a521.defers = [] → a521.tmps.size = 53 → a521.eval (.tmp 0) = .slice Al1 l1.length cl1 → a521.eval (.tmp 3) = .slice A517 out519.length c518 → a521.eval (.tmp 4) = .int .i64 i377 → Evo [] (fun _ => 0) own521 w w521 → RdO own521 [0] w521 R49 Al1 cl1 l1 → RwO own521 520 [] w521 49 R49 A517 c518 out519 → ref03_Thin_k2 i377 out519 = some zz458 → (Q501 .normal a521 w521 ∧ Q501 (.exit 1) a521 w521) := by
        intro a521 w521 own521 out519 A517 c518 hd522 hz522 e522_0 e522_3 e522_4 hE522 b522_Al1 b522_A517 hs
        refine and_both (hn501 _ _) (hx501 _ _) ?_
        refine hn463 _ _ ?_
        refine rg_plain (n := 53) (rs := []) (own0 := own521) (K := [])
            (bs := [0, 1, 3])
            (ds := [⟨[], [4], [], Fct.val 9 (.int .i64 i377)⟩,
            ⟨[0], [], [], Fct.val 10 (.int .i64 (ad i377 1))⟩,
            ⟨[1], [], [], Fct.val 4 (.int .i64 (ad i377 1))⟩]) (by kernel_rfl) hz522 hd522 (fun _ h => nomatch h) ?_ ?_
        · refine steps_cons (fun own a wx hf hsl hE => ?_) ?_
          · obtain ⟨s_4, -⟩ := hsl
            exact sg_plain rfl rfl (or_move (s_4.trans e522_4))
          refine steps_cons (fun own a wx hf hsl hE => ?_) ?_
          · obtain ⟨(f_9 : a.eval (.tmp 9) = .int .i64 i377), -⟩ := hf
            exact sg_plain rfl rfl (or_add f_9 rfl rfl)
          refine steps_cons (fun own a wx hf hsl hE => ?_) ?_
          · obtain ⟨(f_10 : a.eval (.tmp 10) = .int .i64 (ad i377 1)), -⟩ := hf
            exact sg_plain rfl rfl (or_assign f_10)
          exact steps_nil
        intro own523 a523 w523 hd523 hz523 hk523 hf523 hE523
        have e523_0 : a523.eval (.tmp 0) = .slice Al1 l1.length cl1 := (hk523 0 rfl).trans e522_0
        have e523_3 : a523.eval (.tmp 3) = .slice A517 out519.length c518 := (hk523 3 rfl).trans e522_3
        obtain ⟨(f_4 : a523.eval (.tmp 4) = .int .i64 (ad i377 1)), -⟩ := hf523 [2] rfl
        have e523_4 := f_4
        have hX523 := Evo.step hE522 (fun _ => Nat.le_refl 0) hE523 rfl
        have b523_Al1 := RdO.evo rfl hE523 b522_Al1
        have b523_A517 := RwO.evo rfl hE523 b522_A517
        exact hn458 _ _ _ hs ⟨(rl [(520, 376)] own523), A517, c518, hd523, hz523, e523_0, e523_3, e523_4, (Evo.rl_ hX523 (fun _ => Nat.le_refl 0) rfl), (RdO.rl_ (mm := [(520, 376)]) b523_Al1), (RwO.rl_ (mm := [(520, 376)]) b523_A517)⟩
      obtain ⟨x524, hx524, hs⟩ := obind hs
      obtain ⟨x525, hx525, hs⟩ := obind hs
      obtain ⟨x526, hx526, hs⟩ := obind hs
      refine rg_draw_seq g_mixed (n := 53) (rs := []) (own0 := own461) (K := [])
          (bs := [0, 1, 3, 7, 7, 31, 63, 7, 7, 263, 903, 1927, 4095, 8191])
          (ds := [⟨[], [4], [], Fct.val 11 (.int .i64 i377)⟩,
          ⟨[0], [], [], Fct.val 12 (.bool (decide (i377 = 0)))⟩,
          ⟨[1], [], [], Fct.val 13 (.bool (decide (i377 = 0)))⟩,
          ⟨[2], [0], [], Fct.cond (!(decide (i377 = 0))) (some 14) (Fct.val 14 (.slice Al1 l1.length cl1))⟩,
          ⟨[2], [4], [], Fct.cond (!(decide (i377 = 0))) (some 15) (Fct.val 15 (.int .i64 i377))⟩,
          ⟨[2, 3, 4], [], [], Fct.cond (!(decide (i377 = 0))) (some 16) (Fct.val 16 (.pointer (some ((adr Al1).add ((i377 : Int).toNat * R49.s)))))⟩,
          ⟨[2, 5], [], [], Fct.cond (!(decide (i377 = 0))) (some 17) (Fct.val 17 (.agg #[.int .i64 x524.1, .int .i64 x524.2]))⟩,
          ⟨[2], [0], [], Fct.cond (!(decide (i377 = 0))) (some 18) (Fct.val 18 (.slice Al1 l1.length cl1))⟩,
          ⟨[2], [4], [], Fct.cond (!(decide (i377 = 0))) (some 19) (Fct.val 19 (.int .i64 i377))⟩,
          ⟨[2, 8], [], [], Fct.cond (!(decide (i377 = 0))) (some 20) (Fct.val 20 (.int .i64 (sb i377 1)))⟩,
          ⟨[2, 7, 9], [], [], Fct.cond (!(decide (i377 = 0))) (some 21) (Fct.val 21 (.pointer (some ((adr Al1).add ((sb i377 1 : Int).toNat * R49.s)))))⟩,
          ⟨[2, 10], [], [], Fct.cond (!(decide (i377 = 0))) (some 22) (Fct.val 22 (.agg #[.int .i64 x525.1, .int .i64 x525.2]))⟩,
          ⟨[2, 6, 11], [], [], Fct.cond (!(decide (i377 = 0))) (some 23) (Fct.val 23 (.bool (!decide (x524 = x525))))⟩,
          ⟨[2, 12], [], [], Fct.val 24 (.bool x526)⟩]) (by kernel_rfl) hz461 hd461 (fun _ h => nomatch h) ?_ ?_
      · refine steps_cons (fun own a wx hf hsl hE => ?_) ?_
        · obtain ⟨s_4, -⟩ := hsl
          exact sg_plain rfl rfl (or_move (s_4.trans e461_4))
        refine steps_cons (fun own a wx hf hsl hE => ?_) ?_
        · obtain ⟨(f_11 : a.eval (.tmp 11) = .int .i64 i377), -⟩ := hf
          exact sg_plain rfl rfl (or_eql f_11 rfl rfl)
        refine steps_cons (fun own a wx hf hsl hE => ?_) ?_
        · obtain ⟨(f_12 : a.eval (.tmp 12) = .bool (decide (i377 = 0))), -⟩ := hf
          exact sg_plain rfl rfl (or_move f_12)
        refine steps_cons (fun own a wx hf hsl hE => ?_) ?_
        · obtain ⟨(f_13 : a.eval (.tmp 13) = .bool (decide (i377 = 0))), -⟩ := hf
          obtain ⟨s_0, -⟩ := hsl
          refine sg_f rfl rfl rfl f_13 (fun hg => ?_)
          exact or_move (s_0.trans e461_0)
        refine steps_cons (fun own a wx hf hsl hE => ?_) ?_
        · obtain ⟨(f_13 : a.eval (.tmp 13) = .bool (decide (i377 = 0))), -⟩ := hf
          obtain ⟨s_4, -⟩ := hsl
          refine sg_f rfl rfl rfl f_13 (fun hg => ?_)
          exact or_move (s_4.trans e461_4)
        refine steps_cons (fun own a wx hf hsl hE => ?_) ?_
        · obtain ⟨(f_13 : a.eval (.tmp 13) = .bool (decide (i377 = 0))), c_14, c_15, -⟩ := hf
          refine sg_f rfl rfl rfl f_13 (fun hg => ?_)
          have f_14 : a.eval (.tmp 14) = .slice Al1 l1.length cl1 := c_14.1 hg
          have f_15 : a.eval (.tmp 15) = .int .i64 i377 := c_15.1 hg
          exact or_index (R := R49) (l := l1) tl24 f_14 f_15 (RdO.some_ b461_Al1 (gd_t hx524 hg)) (gd_t hx524 hg)
        refine steps_cons (fun own a wx hf hsl hE => ?_) ?_
        · obtain ⟨(f_13 : a.eval (.tmp 13) = .bool (decide (i377 = 0))), c_16, -⟩ := hf
          refine sg_f rfl rfl rfl f_13 (fun hg => ?_)
          have f_16 : a.eval (.tmp 16) = .pointer (some ((adr Al1).add ((i377 : Int).toNat * R49.s))) := c_16.1 hg
          exact or_load (l := E49.f x524) ta49 f_16 (RdO.cells (F := E49) (RdO.evo rfl hE b461_Al1) (gd_t hx524 hg)) rfl
        refine steps_cons (fun own a wx hf hsl hE => ?_) ?_
        · obtain ⟨(f_13 : a.eval (.tmp 13) = .bool (decide (i377 = 0))), -⟩ := hf
          obtain ⟨s_0, -⟩ := hsl
          refine sg_f rfl rfl rfl f_13 (fun hg => ?_)
          exact or_move (s_0.trans e461_0)
        refine steps_cons (fun own a wx hf hsl hE => ?_) ?_
        · obtain ⟨(f_13 : a.eval (.tmp 13) = .bool (decide (i377 = 0))), -⟩ := hf
          obtain ⟨s_4, -⟩ := hsl
          refine sg_f rfl rfl rfl f_13 (fun hg => ?_)
          exact or_move (s_4.trans e461_4)
        refine steps_cons (fun own a wx hf hsl hE => ?_) ?_
        · obtain ⟨(f_13 : a.eval (.tmp 13) = .bool (decide (i377 = 0))), c_19, -⟩ := hf
          refine sg_f rfl rfl rfl f_13 (fun hg => ?_)
          have f_19 : a.eval (.tmp 19) = .int .i64 i377 := c_19.1 hg
          exact or_sub f_19 rfl rfl
        refine steps_cons (fun own a wx hf hsl hE => ?_) ?_
        · obtain ⟨(f_13 : a.eval (.tmp 13) = .bool (decide (i377 = 0))), c_18, c_20, -⟩ := hf
          refine sg_f rfl rfl rfl f_13 (fun hg => ?_)
          have f_18 : a.eval (.tmp 18) = .slice Al1 l1.length cl1 := c_18.1 hg
          have f_20 : a.eval (.tmp 20) = .int .i64 (sb i377 1) := c_20.1 hg
          exact or_index (R := R49) (l := l1) tl24 f_18 f_20 (RdO.some_ b461_Al1 (gd_t hx525 hg)) (gd_t hx525 hg)
        refine steps_cons (fun own a wx hf hsl hE => ?_) ?_
        · obtain ⟨(f_13 : a.eval (.tmp 13) = .bool (decide (i377 = 0))), c_21, -⟩ := hf
          refine sg_f rfl rfl rfl f_13 (fun hg => ?_)
          have f_21 : a.eval (.tmp 21) = .pointer (some ((adr Al1).add ((sb i377 1 : Int).toNat * R49.s))) := c_21.1 hg
          exact or_load (l := E49.f x525) ta49 f_21 (RdO.cells (F := E49) (RdO.evo rfl hE b461_Al1) (gd_t hx525 hg)) rfl
        refine steps_cons (fun own a wx hf hsl hE => ?_) ?_
        · obtain ⟨(f_13 : a.eval (.tmp 13) = .bool (decide (i377 = 0))), c_17, c_22, -⟩ := hf
          refine sg_f rfl rfl rfl f_13 (fun hg => ?_)
          have f_17 : a.eval (.tmp 17) = .agg #[.int .i64 x524.1, .int .i64 x524.2] := c_17.1 hg
          have f_22 : a.eval (.tmp 22) = .agg #[.int .i64 x525.1, .int .i64 x525.2] := c_22.1 hg
          exact or_neqA sg49 f_17 f_22 (sn49 x524.1 x524.2 x525.1 x525.2 _) rfl
        refine steps_cons (fun own a wx hf hsl hE => ?_) ?_
        · obtain ⟨(f_13 : a.eval (.tmp 13) = .bool (decide (i377 = 0))), c_23, -⟩ := hf
          exact sg_plain rfl rfl (or_or f_13 rfl (fun hx => c_23.1 hx) (osome hx526).symm)
        exact steps_nil
      intro own527 a527 w527 hd527 hz527 hk527 hf527 hE527
      have e527_0 : a527.eval (.tmp 0) = .slice Al1 l1.length cl1 := (hk527 0 rfl).trans e461_0
      have e527_3 : a527.eval (.tmp 3) = .slice A373 out375.length c374 := (hk527 3 rfl).trans e461_3
      have e527_4 : a527.eval (.tmp 4) = .int .i64 i377 := (hk527 4 rfl).trans e461_4
      obtain ⟨(f_24 : a527.eval (.tmp 24) = .bool x526), -⟩ := hf527 [13] rfl
      have e527_24 := f_24
      have hX527 := Evo.step hX461 (fun _ => Nat.le_refl 0) hE527 rfl
      have b527_Al1 := RdO.evo rfl hE527 b461_Al1
      have b527_A373 := RwO.evo rfl hE527 b461_A373
      refine fl_cond e527_24 hs (fun c528 hs => ?_) (fun c528 hs => ?_)
      · obtain ⟨x532, hx532, hs⟩ := obind hs
        obtain ⟨x535, hx535, hs⟩ := obind hs
        refine rg_plain (n := 53) (rs := [Fct.rowAt 376 [] 49 R49 A373 c374 out375]) (own0 := own527) (K := [376])
            (bs := [0, 0, 0, 6, 14, 30, 63, 127])
            (ds := [⟨[], [3], [], Fct.val 25 (.slice A373 out375.length c374)⟩,
            ⟨[], [0], [], Fct.val 26 (.slice Al1 l1.length cl1)⟩,
            ⟨[], [4], [], Fct.val 27 (.int .i64 i377)⟩,
            ⟨[1, 2], [], [], Fct.val 28 (.pointer (some ((adr Al1).add ((i377 : Int).toNat * R49.s))))⟩,
            ⟨[3], [], [], Fct.val 29 (.agg #[.int .i64 x532.1, .int .i64 x532.2])⟩,
            ⟨[4], [], [], Fct.row 534 [] 30 49 R49 [x532]⟩,
            ⟨[0, 5, 8], [], [376], Fct.row 536 [] 31 49 R49 x535⟩,
            ⟨[6], [], [], Fct.rel [3, 31] (fun l => ∀ (A537 : Option Addr) (cA537 : Nat), l.getD 1 undef = .slice A537 x535.length cA537 → l.getD 0 undef = .slice A537 x535.length cA537)⟩]) (by kernel_rfl) hz527 hd527 (by simp only [List.forall_mem_cons]; exact ⟨b527_A373, fun _ h => nomatch h⟩) ?_ ?_
        · refine steps_cons (fun own a wx hf hsl hE => ?_) ?_
          · obtain ⟨s_3, -⟩ := hsl
            exact sg_plain rfl rfl (or_move (s_3.trans e527_3))
          refine steps_cons (fun own a wx hf hsl hE => ?_) ?_
          · obtain ⟨s_0, -⟩ := hsl
            exact sg_plain rfl rfl (or_move (s_0.trans e527_0))
          refine steps_cons (fun own a wx hf hsl hE => ?_) ?_
          · obtain ⟨s_4, -⟩ := hsl
            exact sg_plain rfl rfl (or_move (s_4.trans e527_4))
          refine steps_cons (fun own a wx hf hsl hE => ?_) ?_
          · obtain ⟨(f_26 : a.eval (.tmp 26) = .slice Al1 l1.length cl1), (f_27 : a.eval (.tmp 27) = .int .i64 i377), -⟩ := hf
            exact sg_plain rfl rfl (or_index (R := R49) (l := l1) tl24 f_26 f_27 (RdO.some_ b527_Al1 hx532) hx532)
          refine steps_cons (fun own a wx hf hsl hE => ?_) ?_
          · obtain ⟨(f_28 : a.eval (.tmp 28) = .pointer (some ((adr Al1).add ((i377 : Int).toNat * R49.s)))), -⟩ := hf
            exact sg_plain rfl rfl (or_load (l := E49.f x532) ta49 f_28 (RdO.cells (F := E49) (RdO.evo rfl hE b527_Al1) hx532) rfl)
          refine steps_cons (fun own a wx hf hsl hE => ?_) ?_
          · obtain ⟨(f_29 : a.eval (.tmp 29) = .agg #[.int .i64 x532.1, .int .i64 x532.2]), -⟩ := hf
            exact sg_plain rfl rfl (or_lit (lab := 534) (e := 49) (cs := #[.int .i64 x532.1, .int .i64 x532.2]) (F := E49) (or_new [(29, .agg #[.int .i64 x532.1, .int .i64 x532.2])] rfl rfl ⟨f_29, trivial⟩ (by kernel_rfl)) rfl rfl (show 1 ≤ maxLen by decide))
          refine steps_cons (fun own a wx hf hsl hE => ?_) ?_
          · obtain ⟨(f_25 : a.eval (.tmp 25) = .slice A373 out375.length c374), ⟨⟨A533, cA533⟩, (f_30 : a.eval (.tmp 30) = .slice A533 [x532].length cA533), (b_A533 : RwO own 534 [] wx 49 R49 A533 cA533 [x532])⟩, (b_A373 : RwO own 376 [] wx 49 R49 A373 c374 out375), -⟩ := hf
            exact sg_plain rfl rfl (or_append (R := R49) (lab := 376) (lab2 := 536) (L := []) (L3 := []) tp24 f_25 b_A373 (by decide) f_30 (RwO.rd b_A533) hx535 (by decide) (by decide) (mem_of rfl) (.inl (Rep.fl_flat _)))
          refine steps_cons (fun own a wx hf hsl hE => ?_) ?_
          · obtain ⟨⟨⟨A537, cA537⟩, (f_31 : a.eval (.tmp 31) = .slice A537 x535.length cA537), (b_A537 : RwO own 536 [] wx 49 R49 A537 cA537 x535)⟩, -⟩ := hf
            exact sg_plain rfl rfl (or_mono (f := Fct.val 3 (.slice A537 x535.length cA537)) (or_assign f_31) (fun own' a' w' v' hp h => fun _ _ h0' => by cases (f_31.symm.trans ((hp.2 31 (by decide)).symm.trans h0')); exact h))
          exact steps_nil
        intro own538 a538 w538 hd538 hz538 hk538 hf538 hE538
        have e538_0 : a538.eval (.tmp 0) = .slice Al1 l1.length cl1 := (hk538 0 rfl).trans e527_0
        have e538_4 : a538.eval (.tmp 4) = .int .i64 i377 := (hk538 4 rfl).trans e527_4
        obtain ⟨⟨⟨A537, cA537⟩, (f_31 : a538.eval (.tmp 31) = .slice A537 x535.length cA537), (b_A537 : RwO own538 536 [] w538 49 R49 A537 cA537 x535)⟩, (q_3 : ∀ (A537 : Option Addr) (cA537 : Nat), a538.eval (.tmp 31) = .slice A537 x535.length cA537 → a538.eval (.tmp 3) = .slice A537 x535.length cA537), -⟩ := hf538 [6, 7] rfl
        have f_3 := q_3 _ _ f_31
        have e538_3 := f_3
        have hX538 := Evo.step hX527 (fun _ => Nat.le_refl 0) hE538 rfl
        have b538_Al1 := RdO.evo rfl hE538 b527_Al1
        have b538_A537 := b_A537
        exact (K521 _ _ (rl [(536, 520)] own538) _ A537 cA537 hd538 hz538 e538_0 e538_3 e538_4 (Evo.rl_ hX538 (fun _ => Nat.le_refl 0) rfl) (RdO.rl_ (mm := [(536, 520)]) b538_Al1) (RwO.rl_ (mm := [(536, 520)]) b538_A537) hs).1
      refine fl_skip ?_
      exact (K521 _ _ (rl [(376, 520)] own527) _ A373 c374 hd527 hz527 e527_0 e527_3 e527_4 (Evo.rl_ hX527 (fun _ => Nat.le_refl 0) rfl) (RdO.rl_ (mm := [(376, 520)]) b527_Al1) (RwO.rl_ (mm := [(376, 520)]) b527_A373) hs).1
    refine fl_exit ?_
    refine hp460 _ _ _ rfl ?_
    replace hs := hz458 _ hs
    refine hp458 _ _ _ rfl ?_
    refine hx304 _ _ ?_
    refine hn302 _ _ ?_
    refine fl_seq (fun Q539 hn539 hp539 => ?_)
    refine fl_block (fun Q540 hn540 hx540 hp540 => ?_)
    refine fl_loop (body := (fun s => ref03_Thin_b3 s)) (z := r) (show loopO _ _ = _ from hs) (fun (out557 : List (Int × Int)) a wx => ∃ (ox : Own) (A555 : Option Addr) (c556 : Nat), a.defers = [] ∧ a.tmps.size = 53 ∧ a.eval (.tmp 3) = .slice A555 out557.length c556 ∧ Evo [] (fun _ => 0) ox w wx ∧ RwO ox 558 [] wx 49 R49 A555 c556 out557) ?_ ?_
    · exact ⟨(rl [(376, 558)] own461), A373, c374, hd461, hz461, e461_3, (Evo.rl_ hX461 (fun _ => Nat.le_refl 0) rfl), (RwO.rl_ (mm := [(376, 558)]) b461_A373)⟩
    · rintro out557 zz573 a573 w573 ⟨own573, A555, c556, hd574, hz574, e574_3, hE574, b574_A555⟩ hs Q573 hn573 hp573 hz573
      have hs : ref03_Thin_b3 out557 = some zz573 := hs
      refine fl_seq (fun Q575 hn575 hp575 => ?_)
      obtain ⟨x576, hx576, hs⟩ := obind hs
      obtain ⟨x577, hx577, hs⟩ := obind hs
      obtain ⟨x578, hx578, hs⟩ := obind hs
      refine rg_draw_seq g_mixed (n := 53) (rs := []) (own0 := own573) (K := [])
          (bs := [0, 1, 3, 7, 15, 31, 63, 15, 15, 271, 783, 1935, 3983, 8191, 16383])
          (ds := [⟨[], [3], [], Fct.val 32 (.slice A555 out557.length c556)⟩,
          ⟨[0], [], [], Fct.val 33 (.int .i64 (out557.length : Int))⟩,
          ⟨[1], [], [], Fct.val 34 (.bool (decide (1 < (out557.length : Int))))⟩,
          ⟨[2], [], [], Fct.val 35 (.bool (decide (1 < (out557.length : Int))))⟩,
          ⟨[3], [3], [], Fct.cond (decide (1 < (out557.length : Int))) (some 36) (Fct.val 36 (.slice A555 out557.length c556))⟩,
          ⟨[3, 4], [], [], Fct.cond (decide (1 < (out557.length : Int))) (some 37) (Fct.val 37 (.pointer (some ((adr A555).add ((0 : Int).toNat * R49.s)))))⟩,
          ⟨[3, 5], [], [], Fct.cond (decide (1 < (out557.length : Int))) (some 38) (Fct.val 38 (.agg #[.int .i64 x576.1, .int .i64 x576.2]))⟩,
          ⟨[3], [3], [], Fct.cond (decide (1 < (out557.length : Int))) (some 39) (Fct.val 39 (.slice A555 out557.length c556))⟩,
          ⟨[3], [3], [], Fct.cond (decide (1 < (out557.length : Int))) (some 40) (Fct.val 40 (.slice A555 out557.length c556))⟩,
          ⟨[3, 8], [], [], Fct.cond (decide (1 < (out557.length : Int))) (some 41) (Fct.val 41 (.int .i64 (out557.length : Int)))⟩,
          ⟨[3, 9], [], [], Fct.cond (decide (1 < (out557.length : Int))) (some 42) (Fct.val 42 (.int .i64 (sb (out557.length : Int) 1)))⟩,
          ⟨[3, 7, 10], [], [], Fct.cond (decide (1 < (out557.length : Int))) (some 43) (Fct.val 43 (.pointer (some ((adr A555).add ((sb (out557.length : Int) 1 : Int).toNat * R49.s)))))⟩,
          ⟨[3, 11], [], [], Fct.cond (decide (1 < (out557.length : Int))) (some 44) (Fct.val 44 (.agg #[.int .i64 x577.1, .int .i64 x577.2]))⟩,
          ⟨[3, 6, 12], [], [], Fct.cond (decide (1 < (out557.length : Int))) (some 45) (Fct.val 45 (.bool (decide (x576 = x577))))⟩,
          ⟨[3, 13], [], [], Fct.val 46 (.bool x578)⟩]) (by kernel_rfl) hz574 hd574 (fun _ h => nomatch h) ?_ ?_
      · refine steps_cons (fun own a wx hf hsl hE => ?_) ?_
        · obtain ⟨s_3, -⟩ := hsl
          exact sg_plain rfl rfl (or_move (s_3.trans e574_3))
        refine steps_cons (fun own a wx hf hsl hE => ?_) ?_
        · obtain ⟨(f_32 : a.eval (.tmp 32) = .slice A555 out557.length c556), -⟩ := hf
          exact sg_plain rfl rfl (or_len tu24 f_32 rfl)
        refine steps_cons (fun own a wx hf hsl hE => ?_) ?_
        · obtain ⟨(f_33 : a.eval (.tmp 33) = .int .i64 (out557.length : Int)), -⟩ := hf
          exact sg_plain rfl rfl (or_gtr f_33 rfl rfl)
        refine steps_cons (fun own a wx hf hsl hE => ?_) ?_
        · obtain ⟨(f_34 : a.eval (.tmp 34) = .bool (decide (1 < (out557.length : Int)))), -⟩ := hf
          exact sg_plain rfl rfl (or_move f_34)
        refine steps_cons (fun own a wx hf hsl hE => ?_) ?_
        · obtain ⟨(f_35 : a.eval (.tmp 35) = .bool (decide (1 < (out557.length : Int)))), -⟩ := hf
          obtain ⟨s_3, -⟩ := hsl
          refine sg_t rfl rfl rfl f_35 (fun hg => ?_)
          exact or_move (s_3.trans e574_3)
        refine steps_cons (fun own a wx hf hsl hE => ?_) ?_
        · obtain ⟨(f_35 : a.eval (.tmp 35) = .bool (decide (1 < (out557.length : Int)))), c_36, -⟩ := hf
          refine sg_t rfl rfl rfl f_35 (fun hg => ?_)
          have f_36 : a.eval (.tmp 36) = .slice A555 out557.length c556 := c_36.1 hg
          exact or_index (R := R49) (l := out557) tl24 f_36 rfl (RdO.some_ (RwO.rd b574_A555) (gd_t hx576 hg)) (gd_t hx576 hg)
        refine steps_cons (fun own a wx hf hsl hE => ?_) ?_
        · obtain ⟨(f_35 : a.eval (.tmp 35) = .bool (decide (1 < (out557.length : Int)))), c_37, -⟩ := hf
          refine sg_t rfl rfl rfl f_35 (fun hg => ?_)
          have f_37 : a.eval (.tmp 37) = .pointer (some ((adr A555).add ((0 : Int).toNat * R49.s))) := c_37.1 hg
          exact or_load (l := E49.f x576) ta49 f_37 (RdO.cells (F := E49) (RwO.rd (RwO.evo rfl hE b574_A555)) (gd_t hx576 hg)) rfl
        refine steps_cons (fun own a wx hf hsl hE => ?_) ?_
        · obtain ⟨(f_35 : a.eval (.tmp 35) = .bool (decide (1 < (out557.length : Int)))), -⟩ := hf
          obtain ⟨s_3, -⟩ := hsl
          refine sg_t rfl rfl rfl f_35 (fun hg => ?_)
          exact or_move (s_3.trans e574_3)
        refine steps_cons (fun own a wx hf hsl hE => ?_) ?_
        · obtain ⟨(f_35 : a.eval (.tmp 35) = .bool (decide (1 < (out557.length : Int)))), -⟩ := hf
          obtain ⟨s_3, -⟩ := hsl
          refine sg_t rfl rfl rfl f_35 (fun hg => ?_)
          exact or_move (s_3.trans e574_3)
        refine steps_cons (fun own a wx hf hsl hE => ?_) ?_
        · obtain ⟨(f_35 : a.eval (.tmp 35) = .bool (decide (1 < (out557.length : Int)))), c_40, -⟩ := hf
          refine sg_t rfl rfl rfl f_35 (fun hg => ?_)
          have f_40 : a.eval (.tmp 40) = .slice A555 out557.length c556 := c_40.1 hg
          exact or_len tu24 f_40 rfl
        refine steps_cons (fun own a wx hf hsl hE => ?_) ?_
        · obtain ⟨(f_35 : a.eval (.tmp 35) = .bool (decide (1 < (out557.length : Int)))), c_41, -⟩ := hf
          refine sg_t rfl rfl rfl f_35 (fun hg => ?_)
          have f_41 : a.eval (.tmp 41) = .int .i64 (out557.length : Int) := c_41.1 hg
          exact or_sub f_41 rfl rfl
        refine steps_cons (fun own a wx hf hsl hE => ?_) ?_
        · obtain ⟨(f_35 : a.eval (.tmp 35) = .bool (decide (1 < (out557.length : Int)))), c_39, c_42, -⟩ := hf
          refine sg_t rfl rfl rfl f_35 (fun hg => ?_)
          have f_39 : a.eval (.tmp 39) = .slice A555 out557.length c556 := c_39.1 hg
          have f_42 : a.eval (.tmp 42) = .int .i64 (sb (out557.length : Int) 1) := c_42.1 hg
          exact or_index (R := R49) (l := out557) tl24 f_39 f_42 (RdO.some_ (RwO.rd b574_A555) (gd_t hx577 hg)) (gd_t hx577 hg)
        refine steps_cons (fun own a wx hf hsl hE => ?_) ?_
        · obtain ⟨(f_35 : a.eval (.tmp 35) = .bool (decide (1 < (out557.length : Int)))), c_43, -⟩ := hf
          refine sg_t rfl rfl rfl f_35 (fun hg => ?_)
          have f_43 : a.eval (.tmp 43) = .pointer (some ((adr A555).add ((sb (out557.length : Int) 1 : Int).toNat * R49.s))) := c_43.1 hg
          exact or_load (l := E49.f x577) ta49 f_43 (RdO.cells (F := E49) (RwO.rd (RwO.evo rfl hE b574_A555)) (gd_t hx577 hg)) rfl
        refine steps_cons (fun own a wx hf hsl hE => ?_) ?_
        · obtain ⟨(f_35 : a.eval (.tmp 35) = .bool (decide (1 < (out557.length : Int)))), c_38, c_44, -⟩ := hf
          refine sg_t rfl rfl rfl f_35 (fun hg => ?_)
          have f_38 : a.eval (.tmp 38) = .agg #[.int .i64 x576.1, .int .i64 x576.2] := c_38.1 hg
          have f_44 : a.eval (.tmp 44) = .agg #[.int .i64 x577.1, .int .i64 x577.2] := c_44.1 hg
          exact or_eqlA sg49 f_38 f_44 (se49 x576.1 x576.2 x577.1 x577.2 _) rfl
        refine steps_cons (fun own a wx hf hsl hE => ?_) ?_
        · obtain ⟨(f_35 : a.eval (.tmp 35) = .bool (decide (1 < (out557.length : Int)))), c_45, -⟩ := hf
          exact sg_plain rfl rfl (or_and f_35 (fun hx => c_45.1 hx) rfl (osome hx578).symm)
        exact steps_nil
      intro own579 a579 w579 hd579 hz579 hk579 hf579 hE579
      have e579_3 : a579.eval (.tmp 3) = .slice A555 out557.length c556 := (hk579 3 rfl).trans e574_3
      obtain ⟨(f_46 : a579.eval (.tmp 46) = .bool x578), -⟩ := hf579 [14] rfl
      have e579_46 := f_46
      have hX579 := Evo.step hE574 (fun _ => Nat.le_refl 0) hE579 rfl
      have b579_A555 := RwO.evo rfl hE579 b574_A555
      refine fl_cond e579_46 hs (fun c580 hs => ?_) (fun c580 hs => ?_)
      · refine fl_skip ?_
        refine hn575 _ _ ?_
        refine fl_block (fun Q581 hn581 hx581 hp581 => ?_)
        obtain ⟨x584, hx584, hs⟩ := obind hs
        refine rg_plain (n := 53) (rs := [Fct.rowAt 558 [] 49 R49 A555 c556 out557]) (own0 := own579) (K := [558])
            (bs := [0, 0, 2, 6, 15, 31])
            (ds := [⟨[], [3], [], Fct.val 47 (.slice A555 out557.length c556)⟩,
            ⟨[], [3], [], Fct.val 48 (.slice A555 out557.length c556)⟩,
            ⟨[1], [], [], Fct.val 49 (.int .i64 (out557.length : Int))⟩,
            ⟨[2], [], [], Fct.val 50 (.int .i64 (sb (out557.length : Int) 1))⟩,
            ⟨[0, 3, 6], [], [558], Fct.row 586 [] 51 49 R49 x584⟩,
            ⟨[4], [], [], Fct.rel [3, 51] (fun l => ∀ (A585 : Option Addr) (cA585 : Nat), l.getD 1 undef = .slice A585 x584.length cA585 → l.getD 0 undef = .slice A585 x584.length cA585)⟩]) (by kernel_rfl) hz579 hd579 (by simp only [List.forall_mem_cons]; exact ⟨b579_A555, fun _ h => nomatch h⟩) ?_ ?_
        · refine steps_cons (fun own a wx hf hsl hE => ?_) ?_
          · obtain ⟨s_3, -⟩ := hsl
            exact sg_plain rfl rfl (or_move (s_3.trans e579_3))
          refine steps_cons (fun own a wx hf hsl hE => ?_) ?_
          · obtain ⟨s_3, -⟩ := hsl
            exact sg_plain rfl rfl (or_move (s_3.trans e579_3))
          refine steps_cons (fun own a wx hf hsl hE => ?_) ?_
          · obtain ⟨(f_48 : a.eval (.tmp 48) = .slice A555 out557.length c556), -⟩ := hf
            exact sg_plain rfl rfl (or_len tu24 f_48 rfl)
          refine steps_cons (fun own a wx hf hsl hE => ?_) ?_
          · obtain ⟨(f_49 : a.eval (.tmp 49) = .int .i64 (out557.length : Int)), -⟩ := hf
            exact sg_plain rfl rfl (or_sub f_49 rfl rfl)
          refine steps_cons (fun own a wx hf hsl hE => ?_) ?_
          · obtain ⟨(f_47 : a.eval (.tmp 47) = .slice A555 out557.length c556), (f_50 : a.eval (.tmp 50) = .int .i64 (sb (out557.length : Int) 1)), (b_A555 : RwO own 558 [] wx 49 R49 A555 c556 out557), -⟩ := hf
            exact sg_plain rfl rfl (or_keep (R := R49) (lab := 558) (lab2 := 586) tu24 ts49 f_47 (Bnd.some_ f_50) b_A555 hx584 (mem_of rfl) (by decide) (.inl (Rep.fl_flat _)))
          refine steps_cons (fun own a wx hf hsl hE => ?_) ?_
          · obtain ⟨⟨⟨A585, cA585⟩, (f_51 : a.eval (.tmp 51) = .slice A585 x584.length cA585), (b_A585 : RwO own 586 [] wx 49 R49 A585 cA585 x584)⟩, -⟩ := hf
            exact sg_plain rfl rfl (or_mono (f := Fct.val 3 (.slice A585 x584.length cA585)) (or_assign f_51) (fun own' a' w' v' hp h => fun _ _ h0' => by cases (f_51.symm.trans ((hp.2 51 (by decide)).symm.trans h0')); exact h))
          exact steps_nil
        intro own587 a587 w587 hd587 hz587 hk587 hf587 hE587
        obtain ⟨⟨⟨A585, cA585⟩, (f_51 : a587.eval (.tmp 51) = .slice A585 x584.length cA585), (b_A585 : RwO own587 586 [] w587 49 R49 A585 cA585 x584)⟩, (q_3 : ∀ (A585 : Option Addr) (cA585 : Nat), a587.eval (.tmp 51) = .slice A585 x584.length cA585 → a587.eval (.tmp 3) = .slice A585 x584.length cA585), -⟩ := hf587 [4, 5] rfl
        have f_3 := q_3 _ _ f_51
        have e587_3 := f_3
        have hX587 := Evo.step hX579 (fun _ => Nat.le_refl 0) hE587 rfl
        have b587_A585 := b_A585
        refine hn581 _ _ ?_
        exact hn573 _ _ _ hs ⟨(rl [(586, 558)] own587), A585, cA585, hd587, hz587, e587_3, (Evo.rl_ hX587 (fun _ => Nat.le_refl 0) rfl), (RwO.rl_ (mm := [(586, 558)]) b587_A585)⟩
      refine fl_exit ?_
      refine hp575 _ _ _ rfl ?_
      replace hs := hz573 _ hs
      refine hp573 _ _ _ rfl ?_
      refine hx540 _ _ ?_
      refine hn539 _ _ ?_
      refine rg_plain_seq (n := 53) (rs := []) (own0 := own579) (K := [])
          (bs := [0, 1])
          (ds := [⟨[], [3], [], Fct.val 52 (.slice A555 out557.length c556)⟩,
          ⟨[0], [], [], Fct.val 2 (.slice A555 out557.length c556)⟩]) (by kernel_rfl) hz579 hd579 (fun _ h => nomatch h) ?_ ?_
      · refine steps_cons (fun own a wx hf hsl hE => ?_) ?_
        · obtain ⟨s_3, -⟩ := hsl
          exact sg_plain rfl rfl (or_move (s_3.trans e579_3))
        refine steps_cons (fun own a wx hf hsl hE => ?_) ?_
        · obtain ⟨(f_52 : a.eval (.tmp 52) = .slice A555 out557.length c556), -⟩ := hf
          exact sg_plain rfl rfl (or_assign f_52)
        exact steps_nil
      intro own588 a588 w588 hd588 hz588 hk588 hf588 hE588
      obtain ⟨(f_2 : a588.eval (.tmp 2) = .slice A555 out557.length c556), -⟩ := hf588 [1] rfl
      have e588_2 := f_2
      have hX588 := Evo.step hX579 (fun _ => Nat.le_refl 0) hE588 rfl
      have b588_A555 := RwO.evo rfl hE588 b579_A555
      refine fl_ret ?_
      obtain rfl := (osome hs).symm
      exact hret _ _ _ _ (.inl rfl) hd588 (results1_ rfl (RVal.tmp_ e588_2)) ⟨(rl [(558, 1)] own588), (A555, c556), rfl, (Evo.rl_ hX588 (fun _ => Nat.le_refl 0) rfl), (RwO.rl_ (mm := [(558, 1)]) b588_A555)⟩

end Go.Proofs.Ythkmkmkcnljmaaa
