import Derived.Test.YtaobbaohelpdgaaWp1
import Derived.Test.YtaobbaohelpdgaaSp2
namespace Go.Proofs.Ytaobbaohelpdgaa
open Go.RowKit
set_option linter.unusedVariables false
set_option maxRecDepth 10000
theorem ref07_Same_w (w : World) (x1 : List Int) (Ax1 : Option Addr) (cx1 : Nat) (b2 : List Int) (Ab2 : Option Addr) (cb2 : Nat) (hx1 : RdO (fun _ => 0) [0] w R5 Ax1 cx1 x1) (hb2 : RdO (fun _ => 0) [0] w R5 Ab2 cb2 b2) (r : Bool) (hs : ref07_Same x1 b2 = some r) :
    Calls Try.prog 14 #[.slice Ax1 x1.length cx1, .slice Ab2 b2.length cb2] w fun e w' => ∃ own' : Own, e = .returned (.bool r) ∧ Evo [] (fun _ => 0) own' w w' := by
  refine fl_enter (n := 26) rfl rfl rfl (Nat.le_of_ble_eq_true rfl) ?_
  intro a0 Q hd0 hz0 harg hret
  have ha0 := harg 0 _ rfl
  have ha1 := harg 1 _ rfl
  clear harg
  have hE0 : Evo [] (fun _ => 0) (fun _ => 0) w w := Evo.refl _ _ _
  refine rg0_seq 26 (fun _ => 0) (bz 1) [⟨[], [], [], Fct.val 4 (.bool false)⟩] hz0 hd0 (by kernel_rfl) ?_ ?_
  · refine sc (fun _ _ _ _ _ _ => px (or_assign rfl)) ?_
    exact steps_nil
  intro own58 a58 w58 hd58 hz58 hk58 hf58 hE58
  have e58_0 := (hk58 0 rfl).trans ha0
  have e58_1 := (hk58 1 rfl).trans ha1
  have hX58 := es_ hE0 hE58
  have b58_Ax1 := RdO.evo rfl hE58 hx1
  have b58_Ab2 := RdO.evo rfl hE58 hb2
  refine fl_seq (fun Q59 hn59 hp59 => ?_)
  refine rg0_seq 26 own58 [0, 1, 0, 4, 15] [⟨[], [0], [], Fct.val 6 (.slice Ax1 x1.length cx1)⟩, ⟨[0], [], [], Fct.val 7 (.int .i64 (x1.length : Int))⟩, ⟨[], [1], [], Fct.val 8 (.slice Ab2 b2.length cb2)⟩, ⟨[2], [], [], Fct.val 9 (.int .i64 (b2.length : Int))⟩, ⟨[1, 3], [], [], Fct.val 10 (.bool (!decide ((x1.length : Int) = (b2.length : Int))))⟩] hz58 hd58 (by kernel_rfl) ?_ ?_
  · refine sc (fun _ _ _ _ s _ => px (or_move (s.1.trans e58_0))) ?_
    refine sc (fun _ _ _ f _ _ => px (or_len tu33 f.1 rfl)) ?_
    refine sc (fun _ _ _ _ s _ => px (or_move (s.1.trans e58_1))) ?_
    refine sc (fun _ _ _ f _ _ => px (or_len tu33 f.1 rfl)) ?_
    refine sc (fun _ _ _ f _ _ => px (or_neq f.1 f.2.1 rfl)) ?_
    exact steps_nil
  intro own60 a60 w60 hd60 hz60 hk60 hf60 hE60
  have e60_0 := (hk60 0 rfl).trans e58_0
  have e60_1 := (hk60 1 rfl).trans e58_1
  obtain ⟨(e60_10 : a60.eval (.tmp 10) = .bool (!decide ((x1.length : Int) = (b2.length : Int)))), -⟩ := hf60 [4] rfl
  have hX60 := es_ hX58 hE60
  have b60_Ax1 := RdO.evo rfl hE60 b58_Ax1
  have b60_Ab2 := RdO.evo rfl hE60 b58_Ab2
  refine fl_cond e60_10 hs (fun c61 hs => ?_) (fun c61 hs => ?_)
  · refine rg0_seq 26 own60 (bz 1) [⟨[], [], [], Fct.val 4 (.bool false)⟩] hz60 hd60 (by kernel_rfl) ?_ ?_
    · refine sc (fun _ _ _ _ _ _ => px (or_assign rfl)) ?_
      exact steps_nil
    intro own62 a62 w62 hd62 hz62 hk62 hf62 hE62
    obtain ⟨(e62_4 : a62.eval (.tmp 4) = .bool false), -⟩ := hf62 [0] rfl
    have hX62 := es_ hX60 hE62
    refine fl_ret ?_
    refine hp59 _ _ _ rfl ?_
    obtain rfl := osome hs
    exact hret _ _ _ _ (.inl rfl) hd62 (results1_ rfl (RVal.tmp_ e62_4)) ⟨own62, rfl, hX62⟩
  refine fl_skip ?_
  refine hn59 _ _ ?_
  refine fl_seq (fun Q63 hn63 hp63 => ?_)
  refine rg0_seq 26 own60 (bz 1) [⟨[], [], [], Fct.val 5 (.int .i64 0)⟩] hz60 hd60 (by kernel_rfl) ?_ ?_
  · refine sc (fun _ _ _ _ _ _ => px (or_assign rfl)) ?_
    exact steps_nil
  intro own64 a64 w64 hd64 hz64 hk64 hf64 hE64
  have e64_0 := (hk64 0 rfl).trans e60_0
  have e64_1 := (hk64 1 rfl).trans e60_1
  obtain ⟨(e64_5 : a64.eval (.tmp 5) = .int .i64 0), -⟩ := hf64 [0] rfl
  have hX64 := es_ hX60 hE64
  have b64_Ax1 := RdO.evo rfl hE64 b60_Ax1
  have b64_Ab2 := RdO.evo rfl hE64 b60_Ab2
  refine fl_block (fun Q65 hn65 hx65 hp65 => ?_)
  refine fl_loop (body := (fun s => ref07_Same_b1 x1 b2 s)) (z := r) (show loopO _ _ = _ from hs) (fun (i78 : Int) a wx => ∃ (ox : Own), a.defers = [] ∧ a.tmps.size = 26 ∧ a.eval (.tmp 0) = .slice Ax1 x1.length cx1 ∧ a.eval (.tmp 1) = .slice Ab2 b2.length cb2 ∧ a.eval (.tmp 5) = .int .i64 i78 ∧ Evo [] (fun _ => 0) ox w wx ∧ RdO ox [0] wx R5 Ax1 cx1 x1 ∧ RdO ox [0] wx R5 Ab2 cb2 b2) ?_ ?_
  · exact ⟨own64, hd64, hz64, e64_0, e64_1, e64_5, hX64, b64_Ax1, b64_Ab2⟩
  · rintro i78 zz91 a91 w91 ⟨own91, hd92, hz92, e92_0, e92_1, e92_5, hE92, b92_Ax1, b92_Ab2⟩ hs Q91 hn91 hp91 hz91
    have hs : ref07_Same_b1 x1 b2 i78 = some zz91 := hs
    refine fl_seq (fun Q93 hn93 hp93 => ?_)
    refine rg0_seq 26 own91 [0, 0, 2, 7] [⟨[], [5], [], Fct.val 11 (.int .i64 i78)⟩, ⟨[], [0], [], Fct.val 12 (.slice Ax1 x1.length cx1)⟩, ⟨[1], [], [], Fct.val 13 (.int .i64 (x1.length : Int))⟩, ⟨[0, 2], [], [], Fct.val 14 (.bool (decide (i78 < (x1.length : Int))))⟩] hz92 hd92 (by kernel_rfl) ?_ ?_
    · refine sc (fun _ _ _ _ s _ => px (or_move (s.1.trans e92_5))) ?_
      refine sc (fun _ _ _ _ s _ => px (or_move (s.1.trans e92_0))) ?_
      refine sc (fun _ _ _ f _ _ => px (or_len tu33 f.1 rfl)) ?_
      refine sc (fun _ _ _ f _ _ => px (or_lss f.1 f.2.1 rfl)) ?_
      exact steps_nil
    intro own94 a94 w94 hd94 hz94 hk94 hf94 hE94
    have e94_0 := (hk94 0 rfl).trans e92_0
    have e94_1 := (hk94 1 rfl).trans e92_1
    have e94_5 := (hk94 5 rfl).trans e92_5
    obtain ⟨(e94_14 : a94.eval (.tmp 14) = .bool (decide (i78 < (x1.length : Int)))), -⟩ := hf94 [3] rfl
    have hX94 := es_ hE92 hE94
    have b94_Ax1 := RdO.evo rfl hE94 b92_Ax1
    have b94_Ab2 := RdO.evo rfl hE94 b92_Ab2
    refine fl_cond e94_14 hs (fun c95 hs => ?_) (fun c95 hs => ?_)
    · refine fl_skip ?_
      refine hn93 _ _ ?_
      refine fl_seq (fun Q96 hn96 hp96 => ?_)
      refine fl_block (fun Q97 hn97 hx97 hp97 => ?_)
      obtain ⟨x98, hx98, hs⟩ := obind hs
      obtain ⟨x99, hx99, hs⟩ := obind hs
      refine rg_draw_seq g_mixed (n := 26) (rs := []) (own0 := own94) (K := []) (bs := [0, 0, 3, 7, 0, 0, 48, 112, 255]) (ds := [⟨[], [0], [], Fct.val 17 (.slice Ax1 x1.length cx1)⟩, ⟨[], [5], [], Fct.val 18 (.int .i64 i78)⟩, ⟨[0, 1], [], [], Fct.val 19 (.pointer (some ((adr Ax1).add ((i78 : Int).toNat * R5.s))))⟩, ⟨[2], [], [], Fct.val 20 (.int .u8 x98)⟩, ⟨[], [1], [], Fct.val 21 (.slice Ab2 b2.length cb2)⟩, ⟨[], [5], [], Fct.val 22 (.int .i64 i78)⟩, ⟨[4, 5], [], [], Fct.val 23 (.pointer (some ((adr Ab2).add ((i78 : Int).toNat * R5.s))))⟩, ⟨[6], [], [], Fct.val 24 (.int .u8 x99)⟩, ⟨[3, 7], [], [], Fct.val 25 (.bool (!decide (x98 = x99)))⟩]) (by kernel_rfl) hz94 hd94 nm_ ?_ ?_
      · refine sc (fun _ _ _ _ s _ => px (or_move (s.1.trans e94_0))) ?_
        refine sc (fun _ _ _ _ s _ => px (or_move (s.1.trans e94_5))) ?_
        refine sc (fun _ _ _ f _ _ => px (or_index (R := R5) (l := x1) tl33 f.1 f.2.1 (RdO.some_ b94_Ax1 hx98) hx98)) ?_
        refine sc (fun _ _ _ f _ hE => px (or_load1 to5 f.1 (CellsAt.zero (RdO.cells (F := E5) (RdO.evo rfl hE b94_Ax1) hx98) rfl))) ?_
        refine sc (fun _ _ _ _ s _ => px (or_move (s.1.trans e94_1))) ?_
        refine sc (fun _ _ _ _ s _ => px (or_move (s.1.trans e94_5))) ?_
        refine sc (fun _ _ _ f _ _ => px (or_index (R := R5) (l := b2) tl33 f.1 f.2.1 (RdO.some_ b94_Ab2 hx99) hx99)) ?_
        refine sc (fun _ _ _ f _ hE => px (or_load1 to5 f.1 (CellsAt.zero (RdO.cells (F := E5) (RdO.evo rfl hE b94_Ab2) hx99) rfl))) ?_
        refine sc (fun _ _ _ f _ _ => px (or_neq f.1 f.2.1 rfl)) ?_
        exact steps_nil
      intro own100 a100 w100 hd100 hz100 hk100 hf100 hE100
      have e100_0 := (hk100 0 rfl).trans e94_0
      have e100_1 := (hk100 1 rfl).trans e94_1
      have e100_5 := (hk100 5 rfl).trans e94_5
      obtain ⟨(e100_25 : a100.eval (.tmp 25) = .bool (!decide (x98 = x99))), -⟩ := hf100 [8] rfl
      have hX100 := es_ hX94 hE100
      have b100_Ax1 := RdO.evo rfl hE100 b94_Ax1
      have b100_Ab2 := RdO.evo rfl hE100 b94_Ab2
      refine fl_cond e100_25 hs (fun c101 hs => ?_) (fun c101 hs => ?_)
      · refine rg0_seq 26 own100 (bz 1) [⟨[], [], [], Fct.val 4 (.bool false)⟩] hz100 hd100 (by kernel_rfl) ?_ ?_
        · refine sc (fun _ _ _ _ _ _ => px (or_assign rfl)) ?_
          exact steps_nil
        intro own102 a102 w102 hd102 hz102 hk102 hf102 hE102
        obtain ⟨(e102_4 : a102.eval (.tmp 4) = .bool false), -⟩ := hf102 [0] rfl
        have hX102 := es_ hX100 hE102
        refine fl_ret ?_
        refine hp97 _ _ _ rfl ?_
        refine hp96 _ _ _ rfl ?_
        replace hs := hz91 _ hs
        refine hp91 _ _ _ rfl ?_
        refine hp65 _ _ _ rfl ?_
        refine hp63 _ _ _ rfl ?_
        obtain rfl := osome hs
        exact hret _ _ _ _ (.inl rfl) hd102 (results1_ rfl (RVal.tmp_ e102_4)) ⟨own102, rfl, hX102⟩
      refine fl_skip ?_
      refine hn97 _ _ ?_
      refine hn96 _ _ ?_
      refine rg0 26 own100 (bz 3) [⟨[], [5], [], Fct.val 15 (.int .i64 i78)⟩, ⟨[0], [], [], Fct.val 16 (.int .i64 (ad i78 1))⟩, ⟨[1], [], [], Fct.val 5 (.int .i64 (ad i78 1))⟩] hz100 hd100 (by kernel_rfl) ?_ ?_
      · refine sc (fun _ _ _ _ s _ => px (or_move (s.1.trans e100_5))) ?_
        refine sc (fun _ _ _ f _ _ => px (or_add f.1 rfl rfl)) ?_
        refine sc (fun _ _ _ f _ _ => px (or_assign f.1)) ?_
        exact steps_nil
      intro own103 a103 w103 hd103 hz103 hk103 hf103 hE103
      have e103_0 := (hk103 0 rfl).trans e100_0
      have e103_1 := (hk103 1 rfl).trans e100_1
      obtain ⟨(e103_5 : a103.eval (.tmp 5) = .int .i64 (ad i78 1)), -⟩ := hf103 [2] rfl
      have hX103 := es_ hX100 hE103
      have b103_Ax1 := RdO.evo rfl hE103 b100_Ax1
      have b103_Ab2 := RdO.evo rfl hE103 b100_Ab2
      exact hn91 _ _ _ hs ⟨own103, hd103, hz103, e103_0, e103_1, e103_5, hX103, b103_Ax1, b103_Ab2⟩
    refine fl_exit ?_
    refine hp93 _ _ _ rfl ?_
    replace hs := hz91 _ hs
    refine hp91 _ _ _ rfl ?_
    refine hx65 _ _ ?_
    refine hn63 _ _ ?_
    refine rg0_seq 26 own94 (bz 1) [⟨[], [], [], Fct.val 4 (.bool true)⟩] hz94 hd94 (by kernel_rfl) ?_ ?_
    · refine sc (fun _ _ _ _ _ _ => px (or_assign rfl)) ?_
      exact steps_nil
    intro own104 a104 w104 hd104 hz104 hk104 hf104 hE104
    obtain ⟨(e104_4 : a104.eval (.tmp 4) = .bool true), -⟩ := hf104 [0] rfl
    have hX104 := es_ hX94 hE104
    refine fl_ret ?_
    obtain rfl := osome hs
    exact hret _ _ _ _ (.inl rfl) hd104 (results1_ rfl (RVal.tmp_ e104_4)) ⟨own104, rfl, hX104⟩
theorem law26_known_w (w : World) (r : Bool) (hs : law26_known = some r) :
    Calls Try.prog 7 #[] w fun e w' => ∃ own' : Own, e = .returned (.bool r) ∧ Evo [] (fun _ => 0) own' w w' := by
  refine fl_enter (n := 36) rfl rfl rfl (Nat.le_of_ble_eq_true rfl) ?_
  intro a0 Q hd0 hz0 harg hret
  clear harg
  have hE0 : Evo [] (fun _ => 0) (fun _ => 0) w w := Evo.refl _ _ _
  refine rg0_seq 36 (fun _ => 0) (bz 1) [⟨[], [], [], Fct.val 0 (.bool false)⟩] hz0 hd0 (by kernel_rfl) ?_ ?_
  · refine sc (fun _ _ _ _ _ _ => px (or_assign rfl)) ?_
    exact steps_nil
  intro own32 a32 w32 hd32 hz32 hk32 hf32 hE32
  have hX32 := es_ hE0 hE32
  obtain ⟨r33, hr33, hs⟩ := obind hs
  refine rg0_seq 36 own32 [0, 1, 3, 7, 7, 15, 63] [⟨[], [], [], Fct.val 6 (.agg #[.slice none 0 0, .slice none 0 0])⟩, ⟨[0], [], [], Fct.mems [35] 7 (fun (x : Option Addr × Nat) => .tuple #[.slice x.1 r33.1.length x.2, .int .i64 r33.2]) (fun (x : Option Addr × Nat) own w => RwO own 35 [] w 5 R5 x.1 x.2 r33.1) (fun hk he h => RwO.evo (hits_sub hk (by decide)) he h)⟩, ⟨[1], [], [], Fct.rel [5, 7] (fun l => ∀ (A34 : Option Addr) (cA34 : Nat), l.getD 1 undef = .tuple #[.slice A34 r33.1.length cA34, .int .i64 r33.2] → l.getD 0 undef = .tuple #[.slice A34 r33.1.length cA34, .int .i64 r33.2])⟩, ⟨[2, 1], [], [], Fct.rel [8, 7] (fun l => ∀ (A34 : Option Addr) (cA34 : Nat), l.getD 1 undef = .tuple #[.slice A34 r33.1.length cA34, .int .i64 r33.2] → l.getD 0 undef = .slice A34 r33.1.length cA34)⟩, ⟨[2, 1], [], [], Fct.val 9 (.int .i64 r33.2)⟩, ⟨[3, 1], [], [], Fct.rel [1, 7] (fun l => ∀ (A34 : Option Addr) (cA34 : Nat), l.getD 1 undef = .tuple #[.slice A34 r33.1.length cA34, .int .i64 r33.2] → l.getD 0 undef = .slice A34 r33.1.length cA34)⟩, ⟨[4], [], [], Fct.val 2 (.int .i64 r33.2)⟩] hz32 hd32 (by kernel_rfl) ?_ ?_
  · refine sc (fun _ _ _ _ _ _ => px (or_k [] rfl rfl trivial (by kernel_rfl))) ?_
    refine sc (fun _ _ _ f _ _ => px (or_call cf13 (args1 f.1) (block_Bytes_w _ (([] : List ((List (Int × Int)) × Int × Int)), ([] : List (List (List Int)))) none 0 none 0 RdO.nil_ RdO.nil_ r33 hr33) (post_mems (m := (fun _ => 0)) (m' := (look0 [(1, 35)])) (fun _ _ => .inl rfl) (fun own' w' a' x h1 h => ⟨x, h1, RwO.back_ h (by decide) (.inl (Rep.fl_flat _))⟩)))) ?_
    refine sc (fun own a wx hf hsl hE => ?_) ?_
    · obtain ⟨⟨⟨A34, cA34⟩, (f_7 : a.eval (.tmp 7) = .tuple #[.slice A34 r33.1.length cA34, .int .i64 r33.2]), b_A34⟩, -⟩ := hf
      exact px (or_mono (f := Fct.val 5 (.tuple #[.slice A34 r33.1.length cA34, .int .i64 r33.2])) (or_move f_7) (fun own' a' w' v' hp h => fun _ _ h0' => by cases (f_7.symm.trans ((hp.2 7 (by decide)).symm.trans h0')); exact h))
    refine sc (fun own a wx hf hsl hE => ?_) ?_
    · obtain ⟨(q_5 : ∀ (A34 : Option Addr) (cA34 : Nat), a.eval (.tmp 7) = .tuple #[.slice A34 r33.1.length cA34, .int .i64 r33.2] → a.eval (.tmp 5) = .tuple #[.slice A34 r33.1.length cA34, .int .i64 r33.2]), ⟨⟨A34, cA34⟩, (f_7 : a.eval (.tmp 7) = .tuple #[.slice A34 r33.1.length cA34, .int .i64 r33.2]), b_A34⟩, -⟩ := hf
      have f_5 := q_5 _ _ f_7
      exact px (or_mono (f := Fct.val 8 (.slice A34 r33.1.length cA34)) (or_k [(5, .tuple #[.slice A34 r33.1.length cA34, .int .i64 r33.2])] rfl rfl ⟨f_5, trivial⟩ (by kernel_rfl)) (fun own' a' w' v' hp h => fun _ _ h0' => by cases (f_7.symm.trans ((hp.2 7 (by decide)).symm.trans h0')); exact h))
    refine sc (fun own a wx hf hsl hE => ?_) ?_
    · obtain ⟨(q_5 : ∀ (A34 : Option Addr) (cA34 : Nat), a.eval (.tmp 7) = .tuple #[.slice A34 r33.1.length cA34, .int .i64 r33.2] → a.eval (.tmp 5) = .tuple #[.slice A34 r33.1.length cA34, .int .i64 r33.2]), ⟨⟨A34, cA34⟩, f_7, b_A34⟩, -⟩ := hf
      have f_5 := q_5 _ _ f_7
      exact px (or_k [(5, .tuple #[.slice A34 r33.1.length cA34, .int .i64 r33.2])] rfl rfl ⟨f_5, trivial⟩ (by kernel_rfl))
    refine sc (fun own a wx hf hsl hE => ?_) ?_
    · obtain ⟨(q_8 : ∀ (A34 : Option Addr) (cA34 : Nat), a.eval (.tmp 7) = .tuple #[.slice A34 r33.1.length cA34, .int .i64 r33.2] → a.eval (.tmp 8) = .slice A34 r33.1.length cA34), ⟨⟨A34, cA34⟩, (f_7 : a.eval (.tmp 7) = .tuple #[.slice A34 r33.1.length cA34, .int .i64 r33.2]), b_A34⟩, -⟩ := hf
      have f_8 := q_8 _ _ f_7
      exact px (or_mono (f := Fct.val 1 (.slice A34 r33.1.length cA34)) (or_assign f_8) (fun own' a' w' v' hp h => fun _ _ h0' => by cases (f_7.symm.trans ((hp.2 7 (by decide)).symm.trans h0')); exact h))
    refine sc (fun _ _ _ f _ _ => px (or_assign f.1)) ?_
    exact steps_nil
  intro own36 a36 w36 hd36 hz36 hk36 hf36 hE36
  obtain ⟨⟨⟨A34, cA34⟩, (f_7 : a36.eval (.tmp 7) = .tuple #[.slice A34 r33.1.length cA34, .int .i64 r33.2]), (b36_A34 : RwO own36 35 [] w36 5 R5 A34 cA34 r33.1)⟩, (q_1 : ∀ (A34 : Option Addr) (cA34 : Nat), a36.eval (.tmp 7) = .tuple #[.slice A34 r33.1.length cA34, .int .i64 r33.2] → a36.eval (.tmp 1) = .slice A34 r33.1.length cA34), (e36_2 : a36.eval (.tmp 2) = .int .i64 r33.2), -⟩ := hf36 [1, 5, 6] rfl
  have e36_1 := q_1 _ _ f_7
  have hX36 := es_ hX32 hE36
  obtain ⟨r41, hr41, hs⟩ := obind hs
  refine rg0_seq 36 own36 [0, 0, 3, 7, 15, 31, 63, 127, 255, 255, 511, 2047] [⟨[], [], [], Fct.val 11 (.agg #[.int .i64 0, .int .i64 0])⟩, ⟨[], [], [], Fct.val 12 (.agg #[.int .i64 3, .int .i64 0])⟩, ⟨[0, 1], [], [], Fct.row 38 [] 13 56 R56 [(0, 0), (3, 0)]⟩, ⟨[2], [], [], Fct.rel [14, 13] (fun l => ∀ (A37 : Option Addr) (cA37 : Nat), l.getD 1 undef = .slice A37 [(0, 0), (3, 0)].length cA37 → l.getD 0 undef = .agg #[.slice A37 [(0, 0), (3, 0)].length cA37, .int .i64 0, .int .i64 1])⟩, ⟨[3, 2], [], [], Fct.row 40 [38] 15 59 R59 [([(0, 0), (3, 0)], 0, 1)]⟩, ⟨[4], [], [], Fct.rel [16, 15] (fun l => ∀ (A39 : Option Addr) (cA39 : Nat), l.getD 1 undef = .slice A39 [([(0, 0), (3, 0)], 0, 1)].length cA39 → l.getD 0 undef = .agg #[.slice A39 [([(0, 0), (3, 0)], 0, 1)].length cA39, .slice none 0 0])⟩, ⟨[5, 4], [], [], Fct.mems [43] 17 (fun (x : Option Addr × Nat) => .tuple #[.slice x.1 r41.1.length x.2, .int .i64 r41.2]) (fun (x : Option Addr × Nat) own w => RwO own 43 [] w 5 R5 x.1 x.2 r41.1) (fun hk he h => RwO.evo (hits_sub hk (by decide)) he h)⟩, ⟨[6], [], [], Fct.rel [10, 17] (fun l => ∀ (A42 : Option Addr) (cA42 : Nat), l.getD 1 undef = .tuple #[.slice A42 r41.1.length cA42, .int .i64 r41.2] → l.getD 0 undef = .tuple #[.slice A42 r41.1.length cA42, .int .i64 r41.2])⟩, ⟨[7, 6], [], [], Fct.rel [18, 17] (fun l => ∀ (A42 : Option Addr) (cA42 : Nat), l.getD 1 undef = .tuple #[.slice A42 r41.1.length cA42, .int .i64 r41.2] → l.getD 0 undef = .slice A42 r41.1.length cA42)⟩, ⟨[7, 6], [], [], Fct.val 19 (.int .i64 r41.2)⟩, ⟨[8, 6], [], [], Fct.rel [3, 17] (fun l => ∀ (A42 : Option Addr) (cA42 : Nat), l.getD 1 undef = .tuple #[.slice A42 r41.1.length cA42, .int .i64 r41.2] → l.getD 0 undef = .slice A42 r41.1.length cA42)⟩, ⟨[9], [], [], Fct.val 4 (.int .i64 r41.2)⟩] hz36 hd36 (by kernel_rfl) ?_ ?_
  · refine sc (fun _ _ _ _ _ _ => px (or_k [] rfl rfl trivial (by kernel_rfl))) ?_
    refine sc (fun _ _ _ _ _ _ => px (or_k [] rfl rfl trivial (by kernel_rfl))) ?_
    refine sc (fun _ _ _ f _ _ => px (or_lit (lab := 38) (e := 56) (cs := #[.int .i64 0, .int .i64 0, .int .i64 3, .int .i64 0]) (F := E56) (or_new [(11, .agg #[.int .i64 0, .int .i64 0]), (12, .agg #[.int .i64 3, .int .i64 0])] rfl rfl ⟨f.1, f.2.1, trivial⟩ (by kernel_rfl)) rfl rfl (show 2 ≤ maxLen by decide))) ?_
    refine sc (fun own a wx hf hsl hE => ?_) ?_
    · obtain ⟨⟨⟨A37, cA37⟩, (f_13 : a.eval (.tmp 13) = .slice A37 [(0, 0), (3, 0)].length cA37), b_A37⟩, -⟩ := hf
      exact px (or_mono (f := Fct.val 14 (.agg #[.slice A37 [(0, 0), (3, 0)].length cA37, .int .i64 0, .int .i64 1])) (or_k [(13, .slice A37 [(0, 0), (3, 0)].length cA37)] rfl rfl ⟨f_13, trivial⟩ (by kernel_rfl)) (fun own' a' w' v' hp h => fun _ _ h0' => by cases (f_13.symm.trans ((hp.2 13 (by decide)).symm.trans h0')); exact h))
    refine sc (fun own a wx hf hsl hE => ?_) ?_
    · obtain ⟨(q_14 : ∀ (A37 : Option Addr) (cA37 : Nat), a.eval (.tmp 13) = .slice A37 [(0, 0), (3, 0)].length cA37 → a.eval (.tmp 14) = .agg #[.slice A37 [(0, 0), (3, 0)].length cA37, .int .i64 0, .int .i64 1]), ⟨⟨A37, cA37⟩, f_13, b_A37⟩, -⟩ := hf
      have f_14 := q_14 _ _ f_13
      exact px (or_litN (R := R59) (lab := 40) (L := [38]) (e := 59) (cs := #[.slice A37 [(0, 0), (3, 0)].length cA37, .int .i64 0, .int .i64 1]) (l := [([(0, 0), (3, 0)], 0, 1)]) (n := 1) [(14, .agg #[.slice A37 [(0, 0), (3, 0)].length cA37, .int .i64 0, .int .i64 1])] rfl rfl ⟨f_14, trivial⟩ (by kernel_rfl) rfl (by decide) ⟨(Ex.iff X59).2 ⟨((A37, cA37), (), ()), rfl, ⟨(RwO.rd b_A37), trivial, trivial⟩⟩, rfl⟩ rfl)
    refine sc (fun own a wx hf hsl hE => ?_) ?_
    · obtain ⟨⟨⟨A39, cA39⟩, (f_15 : a.eval (.tmp 15) = .slice A39 [([(0, 0), (3, 0)], 0, 1)].length cA39), b_A39⟩, -⟩ := hf
      exact px (or_mono (f := Fct.val 16 (.agg #[.slice A39 [([(0, 0), (3, 0)], 0, 1)].length cA39, .slice none 0 0])) (or_k [(15, .slice A39 [([(0, 0), (3, 0)], 0, 1)].length cA39)] rfl rfl ⟨f_15, trivial⟩ (by kernel_rfl)) (fun own' a' w' v' hp h => fun _ _ h0' => by cases (f_15.symm.trans ((hp.2 15 (by decide)).symm.trans h0')); exact h))
    refine sc (fun own a wx hf hsl hE => ?_) ?_
    · obtain ⟨(q_16 : ∀ (A39 : Option Addr) (cA39 : Nat), a.eval (.tmp 15) = .slice A39 [([(0, 0), (3, 0)], 0, 1)].length cA39 → a.eval (.tmp 16) = .agg #[.slice A39 [([(0, 0), (3, 0)], 0, 1)].length cA39, .slice none 0 0]), ⟨⟨A39, cA39⟩, f_15, b_A39⟩, -⟩ := hf
      have f_16 := q_16 _ _ f_15
      exact px (or_call cf13 (args1 f_16) (block_Bytes_w _ ([([(0, 0), (3, 0)], 0, 1)], ([] : List (List (List Int)))) A39 cA39 none 0 (RdO.zero (RwO.rd b_A39)) RdO.nil_ r41 hr41) (post_mems (m := (fun _ => 0)) (m' := (look0 [(1, 43)])) (fun _ _ => .inl rfl) (fun own' w' a' x h1 h => ⟨x, h1, RwO.back_ h (by decide) (.inl (Rep.fl_flat _))⟩)))
    refine sc (fun own a wx hf hsl hE => ?_) ?_
    · obtain ⟨⟨⟨A42, cA42⟩, (f_17 : a.eval (.tmp 17) = .tuple #[.slice A42 r41.1.length cA42, .int .i64 r41.2]), b_A42⟩, -⟩ := hf
      exact px (or_mono (f := Fct.val 10 (.tuple #[.slice A42 r41.1.length cA42, .int .i64 r41.2])) (or_move f_17) (fun own' a' w' v' hp h => fun _ _ h0' => by cases (f_17.symm.trans ((hp.2 17 (by decide)).symm.trans h0')); exact h))
    refine sc (fun own a wx hf hsl hE => ?_) ?_
    · obtain ⟨(q_10 : ∀ (A42 : Option Addr) (cA42 : Nat), a.eval (.tmp 17) = .tuple #[.slice A42 r41.1.length cA42, .int .i64 r41.2] → a.eval (.tmp 10) = .tuple #[.slice A42 r41.1.length cA42, .int .i64 r41.2]), ⟨⟨A42, cA42⟩, (f_17 : a.eval (.tmp 17) = .tuple #[.slice A42 r41.1.length cA42, .int .i64 r41.2]), b_A42⟩, -⟩ := hf
      have f_10 := q_10 _ _ f_17
      exact px (or_mono (f := Fct.val 18 (.slice A42 r41.1.length cA42)) (or_k [(10, .tuple #[.slice A42 r41.1.length cA42, .int .i64 r41.2])] rfl rfl ⟨f_10, trivial⟩ (by kernel_rfl)) (fun own' a' w' v' hp h => fun _ _ h0' => by cases (f_17.symm.trans ((hp.2 17 (by decide)).symm.trans h0')); exact h))
    refine sc (fun own a wx hf hsl hE => ?_) ?_
    · obtain ⟨(q_10 : ∀ (A42 : Option Addr) (cA42 : Nat), a.eval (.tmp 17) = .tuple #[.slice A42 r41.1.length cA42, .int .i64 r41.2] → a.eval (.tmp 10) = .tuple #[.slice A42 r41.1.length cA42, .int .i64 r41.2]), ⟨⟨A42, cA42⟩, f_17, b_A42⟩, -⟩ := hf
      have f_10 := q_10 _ _ f_17
      exact px (or_k [(10, .tuple #[.slice A42 r41.1.length cA42, .int .i64 r41.2])] rfl rfl ⟨f_10, trivial⟩ (by kernel_rfl))
    refine sc (fun own a wx hf hsl hE => ?_) ?_
    · obtain ⟨(q_18 : ∀ (A42 : Option Addr) (cA42 : Nat), a.eval (.tmp 17) = .tuple #[.slice A42 r41.1.length cA42, .int .i64 r41.2] → a.eval (.tmp 18) = .slice A42 r41.1.length cA42), ⟨⟨A42, cA42⟩, (f_17 : a.eval (.tmp 17) = .tuple #[.slice A42 r41.1.length cA42, .int .i64 r41.2]), b_A42⟩, -⟩ := hf
      have f_18 := q_18 _ _ f_17
      exact px (or_mono (f := Fct.val 3 (.slice A42 r41.1.length cA42)) (or_assign f_18) (fun own' a' w' v' hp h => fun _ _ h0' => by cases (f_17.symm.trans ((hp.2 17 (by decide)).symm.trans h0')); exact h))
    refine sc (fun _ _ _ f _ _ => px (or_assign f.1)) ?_
    exact steps_nil
  intro own44 a44 w44 hd44 hz44 hk44 hf44 hE44
  have e44_1 := (hk44 1 rfl).trans e36_1
  have e44_2 := (hk44 2 rfl).trans e36_2
  obtain ⟨⟨⟨A42, cA42⟩, (f_17 : a44.eval (.tmp 17) = .tuple #[.slice A42 r41.1.length cA42, .int .i64 r41.2]), (b44_A42 : RwO own44 43 [] w44 5 R5 A42 cA42 r41.1)⟩, (q_3 : ∀ (A42 : Option Addr) (cA42 : Nat), a44.eval (.tmp 17) = .tuple #[.slice A42 r41.1.length cA42, .int .i64 r41.2] → a44.eval (.tmp 3) = .slice A42 r41.1.length cA42), (e44_4 : a44.eval (.tmp 4) = .int .i64 r41.2), -⟩ := hf44 [6, 10, 11] rfl
  have e44_3 := q_3 _ _ f_17
  have hX44 := es_ hX36 hE44
  have b44_A34 := re_ hE44 b36_A34
  obtain ⟨x45, hx45, hs⟩ := obind hs
  obtain ⟨r48, hr48, hs⟩ := obind hs
  obtain ⟨r51, hr51, hs⟩ := obind hs
  refine rg0_seq 36 own44 [0, 1, 3, 7, 15, 31, 63, 127, 127, 511, 1023, 2047, 4095, 4095, 16383, 32767, 65535] [⟨[], [2], [], Fct.val 20 (.int .i64 r33.2)⟩, ⟨[0], [], [], Fct.val 21 (.bool (decide (r33.2 = 0)))⟩, ⟨[1], [], [], Fct.val 22 (.bool (decide (r33.2 = 0)))⟩, ⟨[2], [4], [], Fct.cond (decide (r33.2 = 0)) (some 23) (Fct.val 23 (.int .i64 r41.2))⟩, ⟨[2, 3], [], [], Fct.cond (decide (r33.2 = 0)) (some 24) (Fct.val 24 (.bool (decide (r41.2 = 0))))⟩, ⟨[2, 4], [], [], Fct.val 25 (.bool x45)⟩, ⟨[5], [], [], Fct.val 26 (.bool x45)⟩, ⟨[6], [1], [], Fct.cond x45 (some 27) (Fct.val 27 (.slice A34 r33.1.length cA34))⟩, ⟨[6], [], [], Fct.cond x45 (some 28) (Fct.row 47 [] 28 5 R5 [0, 0])⟩, ⟨[6, 7, 8], [], [], Fct.cond x45 (some 29) (Fct.val 29 (.bool r48))⟩, ⟨[6, 9], [], [], Fct.val 30 (.bool (x45 && r48))⟩, ⟨[10], [], [], Fct.val 31 (.bool (x45 && r48))⟩, ⟨[11], [3], [], Fct.cond (x45 && r48) (some 32) (Fct.val 32 (.slice A42 r41.1.length cA42))⟩, ⟨[11], [], [], Fct.cond (x45 && r48) (some 33) (Fct.row 50 [] 33 5 R5 [1, 0, 1, 2, 0, 0, 6, 0, 0])⟩, ⟨[11, 12, 13], [], [], Fct.cond (x45 && r48) (some 34) (Fct.val 34 (.bool r51))⟩, ⟨[11, 14], [], [], Fct.val 35 (.bool ((x45 && r48) && r51))⟩, ⟨[15], [], [], Fct.val 0 (.bool ((x45 && r48) && r51))⟩] hz44 hd44 (by kernel_rfl) ?_ ?_
  · refine sc (fun _ _ _ _ s _ => px (or_move (s.1.trans e44_2))) ?_
    refine sc (fun _ _ _ f _ _ => px (or_eql f.1 rfl rfl)) ?_
    refine sc (fun _ _ _ f _ _ => px (or_move f.1)) ?_
    refine sc (fun _ _ _ f s _ => sg_t rfl rfl rfl f.1 (fun hg => or_move (s.1.trans e44_4))) ?_
    refine sc (fun _ _ _ f _ _ => sg_t rfl rfl rfl f.1 (fun hg => or_eql (f.2.1.1 hg) rfl rfl)) ?_
    refine sc (fun _ _ _ f _ _ => px (or_and f.1 (fun hx => f.2.1.1 hx) rfl (osome hx45).symm)) ?_
    refine sc (fun _ _ _ f _ _ => px (or_move f.1)) ?_
    refine sc (fun _ _ _ f s _ => sg_t rfl rfl rfl f.1 (fun hg => or_move (s.1.trans e44_1))) ?_
    refine sc (fun _ _ _ f _ _ => sg_t rfl rfl rfl f.1 (fun hg => or_lit (lab := 47) (e := 5) (cs := #[.int .u8 0, .int .u8 0]) (F := E5) (or_new [] rfl rfl trivial (by kernel_rfl)) rfl rfl (show 2 ≤ maxLen by decide))) ?_
    refine sc (fun own a wx hf hsl hE => ?_) ?_
    · obtain ⟨f_26, c_27, c_28, -⟩ := hf
      refine sg_t rfl rfl rfl f_26 (fun hg => ?_)
      have f_27 := c_27.1 hg
      obtain ⟨⟨A46, cA46⟩, f_28, b_A46⟩ := c_28.1 hg
      exact or_call cf14 (args2 f_27 f_28) (ref07_Same_w _ r33.1 A34 cA34 [0, 0] A46 cA46 (RdO.zero (RwO.rd (re_ hE b44_A34))) (RdO.zero (RwO.rd b_A46)) r48 (gd_t hr48 hg)) post_val
    refine sc (fun _ _ _ f _ _ => px (or_and f.1 (fun hx => f.2.1.1 hx) rfl rfl)) ?_
    refine sc (fun _ _ _ f _ _ => px (or_move f.1)) ?_
    refine sc (fun _ _ _ f s _ => sg_t rfl rfl rfl f.1 (fun hg => or_move (s.1.trans e44_3))) ?_
    refine sc (fun _ _ _ f _ _ => sg_t rfl rfl rfl f.1 (fun hg => or_lit (lab := 50) (e := 5) (cs := #[.int .u8 1, .int .u8 0, .int .u8 1, .int .u8 2, .int .u8 0, .int .u8 0, .int .u8 6, .int .u8 0, .int .u8 0]) (F := E5) (or_new [] rfl rfl trivial (by kernel_rfl)) rfl rfl (show 9 ≤ maxLen by decide))) ?_
    refine sc (fun own a wx hf hsl hE => ?_) ?_
    · obtain ⟨f_31, c_32, c_33, -⟩ := hf
      refine sg_t rfl rfl rfl f_31 (fun hg => ?_)
      have f_32 := c_32.1 hg
      obtain ⟨⟨A49, cA49⟩, f_33, b_A49⟩ := c_33.1 hg
      exact or_call cf14 (args2 f_32 f_33) (ref07_Same_w _ r41.1 A42 cA42 [1, 0, 1, 2, 0, 0, 6, 0, 0] A49 cA49 (RdO.zero (RwO.rd (re_ hE b44_A42))) (RdO.zero (RwO.rd b_A49)) r51 (gd_t hr51 hg)) post_val
    refine sc (fun _ _ _ f _ _ => px (or_and f.1 (fun hx => f.2.1.1 hx) rfl rfl)) ?_
    refine sc (fun _ _ _ f _ _ => px (or_assign f.1)) ?_
    exact steps_nil
  intro own52 a52 w52 hd52 hz52 hk52 hf52 hE52
  obtain ⟨(e52_0 : a52.eval (.tmp 0) = .bool ((x45 && r48) && r51)), -⟩ := hf52 [16] rfl
  have hX52 := es_ hX44 hE52
  refine fl_ret ?_
  obtain rfl := osome hs
  exact hret _ _ _ _ (.inl rfl) hd52 (results1_ rfl (RVal.tmp_ e52_0)) ⟨own52, rfl, hX52⟩
theorem varint_Read_w (w : World) (b1 : List Int) (Ab1 : Option Addr) (cb1 : Nat) (hb1 : RdO (fun _ => 0) [0] w R5 Ab1 cb1 b1) (r : Int × Int × Int) (hs : varint_Read b1 = some r) :
    Calls Try.prog 60 #[.slice Ab1 b1.length cb1] w fun e w' => ∃ own' : Own, e = .returned (.tuple #[.int .u64 r.1, .int .i64 r.2.1, .int .i64 r.2.2]) ∧ Evo [] (fun _ => 0) own' w w' := by
  refine fl_enter (n := 56) rfl rfl rfl (Nat.le_of_ble_eq_true rfl) ?_
  intro a0 Q hd0 hz0 harg hret
  have ha0 := harg 0 _ rfl
  clear harg
  have hE0 : Evo [] (fun _ => 0) (fun _ => 0) w w := Evo.refl _ _ _
  refine rg0_seq 56 (fun _ => 0) (bz 3) [⟨[], [], [], Fct.val 2 (.int .u64 0)⟩, ⟨[], [], [], Fct.val 3 (.int .i64 0)⟩, ⟨[], [], [], Fct.val 4 (.int .i64 0)⟩] hz0 hd0 (by kernel_rfl) ?_ ?_
  · refine sc (fun _ _ _ _ _ _ => px (or_assign rfl)) ?_
    refine sc (fun _ _ _ _ _ _ => px (or_assign rfl)) ?_
    refine sc (fun _ _ _ _ _ _ => px (or_assign rfl)) ?_
    exact steps_nil
  intro own157 a157 w157 hd157 hz157 hk157 hf157 hE157
  have e157_0 := (hk157 0 rfl).trans ha0
  have hX157 := es_ hE0 hE157
  have b157_Ab1 := RdO.evo rfl hE157 hb1
  refine fl_scope (S := (Int × Int)) (body := (fun s => varint_Read_b1_0 b1 s.1 s.2)) (z := r) (fun _ => 0) ?_ (fun s a wx => ((fun (s : Int × Int) => match s with | (n211, i212) => ∃ (ox : Own), a.defers = [] ∧ a.tmps.size = 56 ∧ a.eval (.tmp 0) = .slice Ab1 b1.length cb1 ∧ a.eval (.tmp 5) = .int .u64 n211 ∧ a.eval (.tmp 6) = .int .i64 i212 ∧ Evo [] (fun _ => 0) ox w wx ∧ RdO ox [0] wx R5 Ab1 cb1 b1) : ((Int × Int)) → Prop) s) ?_ ?_
  · intro s; rfl
  · intro Q244 hj244 hp244
    refine rg0_seq 56 own157 (bz 1) [⟨[], [], [], Fct.val 5 (.int .u64 0)⟩] hz157 hd157 (by kernel_rfl) ?_ ?_
    · refine sc (fun _ _ _ _ _ _ => px (or_assign rfl)) ?_
      exact steps_nil
    intro own277 a277 w277 hd277 hz277 hk277 hf277 hE277
    have e277_0 := (hk277 0 rfl).trans e157_0
    obtain ⟨(e277_5 : a277.eval (.tmp 5) = .int .u64 0), -⟩ := hf277 [0] rfl
    have hX277 := es_ hX157 hE277
    have b277_Ab1 := RdO.evo rfl hE277 b157_Ab1
    refine rg0_seq 56 own277 (bz 1) [⟨[], [], [], Fct.val 6 (.int .i64 0)⟩] hz277 hd277 (by kernel_rfl) ?_ ?_
    · refine sc (fun _ _ _ _ _ _ => px (or_assign rfl)) ?_
      exact steps_nil
    intro own278 a278 w278 hd278 hz278 hk278 hf278 hE278
    have e278_0 := (hk278 0 rfl).trans e277_0
    have e278_5 := (hk278 5 rfl).trans e277_5
    obtain ⟨(e278_6 : a278.eval (.tmp 6) = .int .i64 0), -⟩ := hf278 [0] rfl
    have hX278 := es_ hX277 hE278
    have b278_Ab1 := RdO.evo rfl hE278 b277_Ab1
    refine fl_seq (fun Q279 hn279 hp279 => ?_)
    refine fl_label ?_
    refine hn279 _ _ ?_
    refine fl_seq (fun Q280 hn280 hp280 => ?_)
    refine rg0_seq 56 own278 (bz 2) [⟨[], [6], [], Fct.val 7 (.int .i64 0)⟩, ⟨[0], [], [], Fct.val 8 (.bool false)⟩] hz278 hd278 (by kernel_rfl) ?_ ?_
    · refine sc (fun _ _ _ _ s _ => px (or_move (s.1.trans e278_6))) ?_
      refine sc (fun _ _ _ f _ _ => px (or_eql f.1 rfl (by decide))) ?_
      exact steps_nil
    intro own281 a281 w281 hd281 hz281 hk281 hf281 hE281
    have e281_0 := (hk281 0 rfl).trans e278_0
    have e281_5 := (hk281 5 rfl).trans e278_5
    have e281_6 := (hk281 6 rfl).trans e278_6
    obtain ⟨(e281_8 : a281.eval (.tmp 8) = .bool false), -⟩ := hf281 [1] rfl
    have hX281 := es_ hX278 hE281
    have b281_Ab1 := RdO.evo rfl hE281 b278_Ab1
    refine fl_f e281_8 ?_
    refine fl_skip ?_
    refine hn280 _ _ ?_
    refine fl_seq (fun Q282 hn282 hp282 => ?_)
    refine rg0_seq 56 own281 [0, 0, 2, 7] [⟨[], [6], [], Fct.val 9 (.int .i64 0)⟩, ⟨[], [0], [], Fct.val 10 (.slice Ab1 b1.length cb1)⟩, ⟨[1], [], [], Fct.val 11 (.int .i64 (b1.length : Int))⟩, ⟨[0, 2], [], [], Fct.val 12 (.bool (decide (0 = (b1.length : Int))))⟩] hz281 hd281 (by kernel_rfl) ?_ ?_
    · refine sc (fun _ _ _ _ s _ => px (or_move (s.1.trans e281_6))) ?_
      refine sc (fun _ _ _ _ s _ => px (or_move (s.1.trans e281_0))) ?_
      refine sc (fun _ _ _ f _ _ => px (or_len tu33 f.1 rfl)) ?_
      refine sc (fun _ _ _ f _ _ => px (or_eql f.1 f.2.1 rfl)) ?_
      exact steps_nil
    intro own283 a283 w283 hd283 hz283 hk283 hf283 hE283
    have e283_0 := (hk283 0 rfl).trans e281_0
    have e283_5 := (hk283 5 rfl).trans e281_5
    have e283_6 := (hk283 6 rfl).trans e281_6
    obtain ⟨(e283_12 : a283.eval (.tmp 12) = .bool (decide (0 = (b1.length : Int)))), -⟩ := hf283 [3] rfl
    have hX283 := es_ hX281 hE283
    have b283_Ab1 := RdO.evo rfl hE283 b281_Ab1
    refine fl_cond e283_12 hs (fun c284 hs => ?_) (fun c284 hs => ?_)
    · refine rg0_seq 56 own283 (bz 3) [⟨[], [], [], Fct.val 2 (.int .u64 0)⟩, ⟨[], [], [], Fct.val 3 (.int .i64 0)⟩, ⟨[], [], [], Fct.val 4 (.int .i64 4)⟩] hz283 hd283 (by kernel_rfl) ?_ ?_
      · refine sc (fun _ _ _ _ _ _ => px (or_assign rfl)) ?_
        refine sc (fun _ _ _ _ _ _ => px (or_assign rfl)) ?_
        refine sc (fun _ _ _ _ _ _ => px (or_assign rfl)) ?_
        exact steps_nil
      intro own285 a285 w285 hd285 hz285 hk285 hf285 hE285
      obtain ⟨(e285_2 : a285.eval (.tmp 2) = .int .u64 0), (e285_3 : a285.eval (.tmp 3) = .int .i64 0), (e285_4 : a285.eval (.tmp 4) = .int .i64 4), -⟩ := hf285 [0, 1, 2] rfl
      have hX285 := es_ hX283 hE285
      refine fl_ret ?_
      refine hp282 _ _ _ rfl ?_
      refine hp244.leaves _ _ _ rfl ?_
      obtain rfl := osome hs
      exact hret _ _ _ _ (.inl rfl) hd285 (results3_ rfl (RVal.tmp_ e285_2) (RVal.tmp_ e285_3) (RVal.tmp_ e285_4)) ⟨own285, rfl, hX285⟩
    refine fl_skip ?_
    refine hn282 _ _ ?_
    obtain ⟨x286, hx286, hs⟩ := obind hs
    obtain ⟨x287, hx287, hs⟩ := obind hs
    refine rg0_seq 56 own283 [0, 0, 0, 6, 14, 30, 62, 0, 128, 510, 1023, 2047] [⟨[], [5], [], Fct.val 13 (.int .u64 0)⟩, ⟨[], [0], [], Fct.val 14 (.slice Ab1 b1.length cb1)⟩, ⟨[], [6], [], Fct.val 15 (.int .i64 0)⟩, ⟨[1, 2], [], [], Fct.val 16 (.pointer (some ((adr Ab1).add ((0 : Int).toNat * R5.s))))⟩, ⟨[3], [], [], Fct.val 17 (.int .u8 x286)⟩, ⟨[4], [], [], Fct.val 18 (.int .u8 (anK .u8 x286 127))⟩, ⟨[5], [], [], Fct.val 19 (.int .u64 (IntKind.u64.wrap (anK .u8 x286 127)))⟩, ⟨[], [6], [], Fct.val 20 (.int .i64 0)⟩, ⟨[7], [], [], Fct.val 21 (.int .i64 0)⟩, ⟨[6, 8], [], [], Fct.val 22 (.int .u64 x287)⟩, ⟨[0, 9], [], [], Fct.val 23 (.int .u64 (orK .u64 0 x287))⟩, ⟨[10], [], [], Fct.val 5 (.int .u64 (orK .u64 0 x287))⟩] hz283 hd283 (by kernel_rfl) ?_ ?_
    · refine sc (fun _ _ _ _ s _ => px (or_move (s.1.trans e283_5))) ?_
      refine sc (fun _ _ _ _ s _ => px (or_move (s.1.trans e283_0))) ?_
      refine sc (fun _ _ _ _ s _ => px (or_move (s.1.trans e283_6))) ?_
      refine sc (fun _ _ _ f _ _ => px (or_index (R := R5) (l := b1) tl33 f.1 f.2.1 (RdO.some_ b283_Ab1 hx286) hx286)) ?_
      refine sc (fun _ _ _ f _ hE => px (or_load1 to5 f.1 (CellsAt.zero (RdO.cells (F := E5) (RdO.evo rfl hE b283_Ab1) hx286) rfl))) ?_
      refine sc (fun _ _ _ f _ _ => px (or_band f.1 rfl rfl)) ?_
      refine sc (fun _ _ _ f _ _ => px (or_conv f.1 tn5 tn26 rfl)) ?_
      refine sc (fun _ _ _ _ s _ => px (or_move (s.1.trans e283_6))) ?_
      refine sc (fun _ _ _ f _ _ => px (or_mul rfl f.1 (by decide))) ?_
      refine sc (fun _ _ _ f _ _ => px (or_shl f.1 f.2.1 hx287)) ?_
      refine sc (fun _ _ _ f _ _ => px (or_bor f.1 f.2.1 rfl)) ?_
      refine sc (fun _ _ _ f _ _ => px (or_assign f.1)) ?_
      exact steps_nil
    intro own288 a288 w288 hd288 hz288 hk288 hf288 hE288
    have e288_0 := (hk288 0 rfl).trans e283_0
    have e288_6 := (hk288 6 rfl).trans e283_6
    obtain ⟨(e288_5 : a288.eval (.tmp 5) = .int .u64 (orK .u64 0 x287)), -⟩ := hf288 [11] rfl
    have hX288 := es_ hX283 hE288
    have b288_Ab1 := RdO.evo rfl hE288 b283_Ab1
    refine rg0_seq 56 own288 (bz 3) [⟨[], [6], [], Fct.val 24 (.int .i64 0)⟩, ⟨[0], [], [], Fct.val 25 (.int .i64 1)⟩, ⟨[1], [], [], Fct.val 6 (.int .i64 1)⟩] hz288 hd288 (by kernel_rfl) ?_ ?_
    · refine sc (fun _ _ _ _ s _ => px (or_move (s.1.trans e288_6))) ?_
      refine sc (fun _ _ _ f _ _ => px (or_add f.1 rfl (by decide))) ?_
      refine sc (fun _ _ _ f _ _ => px (or_assign f.1)) ?_
      exact steps_nil
    intro own289 a289 w289 hd289 hz289 hk289 hf289 hE289
    have e289_0 := (hk289 0 rfl).trans e288_0
    have e289_5 := (hk289 5 rfl).trans e288_5
    obtain ⟨(e289_6 : a289.eval (.tmp 6) = .int .i64 1), -⟩ := hf289 [2] rfl
    have hX289 := es_ hX288 hE289
    have b289_Ab1 := RdO.evo rfl hE289 b288_Ab1
    refine fl_seq (fun Q290 hn290 hp290 => ?_)
    obtain ⟨x291, hx291, hs⟩ := obind hs
    refine rg0_seq 56 own289 [0, 0, 2, 7, 15, 31] [⟨[], [0], [], Fct.val 26 (.slice Ab1 b1.length cb1)⟩, ⟨[], [6], [], Fct.val 27 (.int .i64 1)⟩, ⟨[1], [], [], Fct.val 28 (.int .i64 0)⟩, ⟨[0, 2], [], [], Fct.val 29 (.pointer (some ((adr Ab1).add ((0 : Int).toNat * R5.s))))⟩, ⟨[3], [], [], Fct.val 30 (.int .u8 x291)⟩, ⟨[4], [], [], Fct.val 31 (.bool (decide (128 ≤ x291)))⟩] hz289 hd289 (by kernel_rfl) ?_ ?_
    · refine sc (fun _ _ _ _ s _ => px (or_move (s.1.trans e289_0))) ?_
      refine sc (fun _ _ _ _ s _ => px (or_move (s.1.trans e289_6))) ?_
      refine sc (fun _ _ _ f _ _ => px (or_sub f.1 rfl (by decide))) ?_
      refine sc (fun _ _ _ f _ _ => px (or_index (R := R5) (l := b1) tl33 f.1 f.2.1 (RdO.some_ b289_Ab1 hx291) hx291)) ?_
      refine sc (fun _ _ _ f _ hE => px (or_load1 to5 f.1 (CellsAt.zero (RdO.cells (F := E5) (RdO.evo rfl hE b289_Ab1) hx291) rfl))) ?_
      refine sc (fun _ _ _ f _ _ => px (or_geq f.1 rfl rfl)) ?_
      exact steps_nil
    intro own292 a292 w292 hd292 hz292 hk292 hf292 hE292
    have e292_0 := (hk292 0 rfl).trans e289_0
    have e292_5 := (hk292 5 rfl).trans e289_5
    have e292_6 := (hk292 6 rfl).trans e289_6
    obtain ⟨(e292_31 : a292.eval (.tmp 31) = .bool (decide (128 ≤ x291))), -⟩ := hf292 [5] rfl
    have hX292 := es_ hX289 hE292
    have b292_Ab1 := RdO.evo rfl hE292 b289_Ab1
    refine fl_cond e292_31 hs (fun c293 hs => ?_) (fun c293 hs => ?_)
    · refine fl_goto ?_
      refine hp290 _ _ _ rfl ?_
      exact hj244 (orK .u64 0 x287, 1) _ _ (show loopO _ _ = _ from hs) ⟨own292, hd292, hz292, e292_0, e292_5, e292_6, hX292, b292_Ab1⟩
    refine fl_skip ?_
    refine hn290 _ _ ?_
    refine fl_seq (fun Q294 hn294 hp294 => ?_)
    refine fl_block (fun Q295 hn295 hx295 hp295 => ?_)
    refine rg0_seq 56 own292 [0, 1, 3, 7, 7, 23, 63, 127, 255, 511, 1023] [⟨[], [6], [], Fct.val 33 (.int .i64 1)⟩, ⟨[0], [], [], Fct.val 34 (.bool false)⟩, ⟨[1], [], [], Fct.val 35 (.bool false)⟩, ⟨[2], [], [], Fct.cond false (some 36) (Fct.val 36 (.slice none 0 0))⟩, ⟨[2], [], [], Fct.cond false (some 37) (Fct.val 37 (.int .i64 0))⟩, ⟨[2], [], [], Fct.cond false (some 38) (Fct.val 38 (.int .i64 0))⟩, ⟨[2], [], [], Fct.cond false (some 39) (Fct.val 39 (.pointer none))⟩, ⟨[2], [], [], Fct.cond false (some 40) (Fct.val 40 (.int .u8 0))⟩, ⟨[2], [], [], Fct.cond false (some 41) (Fct.val 41 (.bool false))⟩, ⟨[2, 8], [], [], Fct.val 42 (.bool (false && false))⟩, ⟨[9], [], [], Fct.val 32 (.bool (false && false))⟩] hz292 hd292 (by kernel_rfl) ?_ ?_
    · refine sc (fun _ _ _ _ s _ => px (or_move (s.1.trans e292_6))) ?_
      refine sc (fun _ _ _ f _ _ => px (or_eql f.1 rfl (by decide))) ?_
      refine sc (fun _ _ _ f _ _ => px (or_move f.1)) ?_
      refine sc (fun own a wx hf hsl hE => ?_) ?_
      · obtain ⟨f_35, -⟩ := hf
        refine sg_t rfl rfl rfl f_35 (fun hg => ?_)
        exact absurd hg (by simp)
      refine sc (fun own a wx hf hsl hE => ?_) ?_
      · obtain ⟨f_35, -⟩ := hf
        refine sg_t rfl rfl rfl f_35 (fun hg => ?_)
        exact absurd hg (by simp)
      refine sc (fun own a wx hf hsl hE => ?_) ?_
      · obtain ⟨f_35, -⟩ := hf
        refine sg_t rfl rfl rfl f_35 (fun hg => ?_)
        exact absurd hg (by simp)
      refine sc (fun own a wx hf hsl hE => ?_) ?_
      · obtain ⟨f_35, -⟩ := hf
        refine sg_t rfl rfl rfl f_35 (fun hg => ?_)
        exact absurd hg (by simp)
      refine sc (fun own a wx hf hsl hE => ?_) ?_
      · obtain ⟨f_35, -⟩ := hf
        refine sg_t rfl rfl rfl f_35 (fun hg => ?_)
        exact absurd hg (by simp)
      refine sc (fun own a wx hf hsl hE => ?_) ?_
      · obtain ⟨f_35, -⟩ := hf
        refine sg_t rfl rfl rfl f_35 (fun hg => ?_)
        exact absurd hg (by simp)
      refine sc (fun _ _ _ f _ _ => px (or_and f.1 (fun hx => f.2.1.1 hx) rfl rfl)) ?_
      refine sc (fun _ _ _ f _ _ => px (or_assign f.1)) ?_
      exact steps_nil
    intro own296 a296 w296 hd296 hz296 hk296 hf296 hE296
    have e296_0 := (hk296 0 rfl).trans e292_0
    have e296_5 := (hk296 5 rfl).trans e292_5
    have e296_6 := (hk296 6 rfl).trans e292_6
    obtain ⟨(e296_32 : a296.eval (.tmp 32) = .bool (false && false)), -⟩ := hf296 [10] rfl
    have hX296 := es_ hX292 hE296
    have b296_Ab1 := RdO.evo rfl hE296 b292_Ab1
    refine fl_cond e296_32 hs (fun c297 hs => ?_) (fun c297 hs => ?_)
    · refine rg0_seq 56 own296 (bz 3) [⟨[], [], [], Fct.val 2 (.int .u64 0)⟩, ⟨[], [], [], Fct.val 3 (.int .i64 0)⟩, ⟨[], [], [], Fct.val 4 (.int .i64 5)⟩] hz296 hd296 (by kernel_rfl) ?_ ?_
      · refine sc (fun _ _ _ _ _ _ => px (or_assign rfl)) ?_
        refine sc (fun _ _ _ _ _ _ => px (or_assign rfl)) ?_
        refine sc (fun _ _ _ _ _ _ => px (or_assign rfl)) ?_
        exact steps_nil
      intro own298 a298 w298 hd298 hz298 hk298 hf298 hE298
      obtain ⟨(e298_2 : a298.eval (.tmp 2) = .int .u64 0), (e298_3 : a298.eval (.tmp 3) = .int .i64 0), (e298_4 : a298.eval (.tmp 4) = .int .i64 5), -⟩ := hf298 [0, 1, 2] rfl
      have hX298 := es_ hX296 hE298
      refine fl_ret ?_
      refine hp295 _ _ _ rfl ?_
      refine hp294 _ _ _ rfl ?_
      refine hp244.leaves _ _ _ rfl ?_
      obtain rfl := osome hs
      exact hret _ _ _ _ (.inl rfl) hd298 (results3_ rfl (RVal.tmp_ e298_2) (RVal.tmp_ e298_3) (RVal.tmp_ e298_4)) ⟨own298, rfl, hX298⟩
    refine rg0_seq 56 own296 [0, 1, 3, 7, 7, 23, 63, 127, 255, 511, 1023] [⟨[], [6], [], Fct.val 44 (.int .i64 1)⟩, ⟨[0], [], [], Fct.val 45 (.bool false)⟩, ⟨[1], [], [], Fct.val 46 (.bool false)⟩, ⟨[2], [], [], Fct.cond false (some 47) (Fct.val 47 (.slice none 0 0))⟩, ⟨[2], [], [], Fct.cond false (some 48) (Fct.val 48 (.int .i64 0))⟩, ⟨[2], [], [], Fct.cond false (some 49) (Fct.val 49 (.int .i64 0))⟩, ⟨[2], [], [], Fct.cond false (some 50) (Fct.val 50 (.pointer none))⟩, ⟨[2], [], [], Fct.cond false (some 51) (Fct.val 51 (.int .u8 0))⟩, ⟨[2], [], [], Fct.cond false (some 52) (Fct.val 52 (.bool false))⟩, ⟨[2, 8], [], [], Fct.val 53 (.bool (false && false))⟩, ⟨[9], [], [], Fct.val 43 (.bool (false && false))⟩] hz296 hd296 (by kernel_rfl) ?_ ?_
    · refine sc (fun _ _ _ _ s _ => px (or_move (s.1.trans e296_6))) ?_
      refine sc (fun _ _ _ f _ _ => px (or_gtr f.1 rfl (by decide))) ?_
      refine sc (fun _ _ _ f _ _ => px (or_move f.1)) ?_
      refine sc (fun own a wx hf hsl hE => ?_) ?_
      · obtain ⟨f_46, -⟩ := hf
        refine sg_t rfl rfl rfl f_46 (fun hg => ?_)
        exact absurd hg (by simp)
      refine sc (fun own a wx hf hsl hE => ?_) ?_
      · obtain ⟨f_46, -⟩ := hf
        refine sg_t rfl rfl rfl f_46 (fun hg => ?_)
        exact absurd hg (by simp)
      refine sc (fun own a wx hf hsl hE => ?_) ?_
      · obtain ⟨f_46, -⟩ := hf
        refine sg_t rfl rfl rfl f_46 (fun hg => ?_)
        exact absurd hg (by simp)
      refine sc (fun own a wx hf hsl hE => ?_) ?_
      · obtain ⟨f_46, -⟩ := hf
        refine sg_t rfl rfl rfl f_46 (fun hg => ?_)
        exact absurd hg (by simp)
      refine sc (fun own a wx hf hsl hE => ?_) ?_
      · obtain ⟨f_46, -⟩ := hf
        refine sg_t rfl rfl rfl f_46 (fun hg => ?_)
        exact absurd hg (by simp)
      refine sc (fun own a wx hf hsl hE => ?_) ?_
      · obtain ⟨f_46, -⟩ := hf
        refine sg_t rfl rfl rfl f_46 (fun hg => ?_)
        exact absurd hg (by simp)
      refine sc (fun _ _ _ f _ _ => px (or_and f.1 (fun hx => f.2.1.1 hx) rfl rfl)) ?_
      refine sc (fun _ _ _ f _ _ => px (or_assign f.1)) ?_
      exact steps_nil
    intro own299 a299 w299 hd299 hz299 hk299 hf299 hE299
    have e299_5 := (hk299 5 rfl).trans e296_5
    have e299_6 := (hk299 6 rfl).trans e296_6
    obtain ⟨(e299_43 : a299.eval (.tmp 43) = .bool (false && false)), -⟩ := hf299 [10] rfl
    have hX299 := es_ hX296 hE299
    refine fl_cond e299_43 hs (fun c300 hs => ?_) (fun c300 hs => ?_)
    · refine rg0_seq 56 own299 (bz 3) [⟨[], [], [], Fct.val 2 (.int .u64 0)⟩, ⟨[], [], [], Fct.val 3 (.int .i64 0)⟩, ⟨[], [], [], Fct.val 4 (.int .i64 3)⟩] hz299 hd299 (by kernel_rfl) ?_ ?_
      · refine sc (fun _ _ _ _ _ _ => px (or_assign rfl)) ?_
        refine sc (fun _ _ _ _ _ _ => px (or_assign rfl)) ?_
        refine sc (fun _ _ _ _ _ _ => px (or_assign rfl)) ?_
        exact steps_nil
      intro own301 a301 w301 hd301 hz301 hk301 hf301 hE301
      obtain ⟨(e301_2 : a301.eval (.tmp 2) = .int .u64 0), (e301_3 : a301.eval (.tmp 3) = .int .i64 0), (e301_4 : a301.eval (.tmp 4) = .int .i64 3), -⟩ := hf301 [0, 1, 2] rfl
      have hX301 := es_ hX299 hE301
      refine fl_ret ?_
      refine hp295 _ _ _ rfl ?_
      refine hp294 _ _ _ rfl ?_
      refine hp244.leaves _ _ _ rfl ?_
      obtain rfl := osome hs
      exact hret _ _ _ _ (.inl rfl) hd301 (results3_ rfl (RVal.tmp_ e301_2) (RVal.tmp_ e301_3) (RVal.tmp_ e301_4)) ⟨own301, rfl, hX301⟩
    refine fl_skip ?_
    refine hn295 _ _ ?_
    refine hn294 _ _ ?_
    refine rg0_seq 56 own299 [0, 0, 1, 7, 15] [⟨[], [5], [], Fct.val 54 (.int .u64 (orK .u64 0 x287))⟩, ⟨[], [6], [], Fct.val 55 (.int .i64 1)⟩, ⟨[0], [], [], Fct.val 2 (.int .u64 (orK .u64 0 x287))⟩, ⟨[1], [], [], Fct.val 3 (.int .i64 1)⟩, ⟨[], [], [], Fct.val 4 (.int .i64 0)⟩] hz299 hd299 (by kernel_rfl) ?_ ?_
    · refine sc (fun _ _ _ _ s _ => px (or_move (s.1.trans e299_5))) ?_
      refine sc (fun _ _ _ _ s _ => px (or_move (s.1.trans e299_6))) ?_
      refine sc (fun _ _ _ f _ _ => px (or_assign f.1)) ?_
      refine sc (fun _ _ _ f _ _ => px (or_assign f.1)) ?_
      refine sc (fun _ _ _ _ _ _ => px (or_assign rfl)) ?_
      exact steps_nil
    intro own302 a302 w302 hd302 hz302 hk302 hf302 hE302
    obtain ⟨(e302_2 : a302.eval (.tmp 2) = .int .u64 (orK .u64 0 x287)), (e302_3 : a302.eval (.tmp 3) = .int .i64 1), (e302_4 : a302.eval (.tmp 4) = .int .i64 0), -⟩ := hf302 [2, 3, 4] rfl
    have hX302 := es_ hX299 hE302
    refine fl_ret ?_
    refine hp244.leaves _ _ _ rfl ?_
    obtain rfl := osome hs
    exact hret _ _ _ _ (.inl rfl) hd302 (results3_ rfl (RVal.tmp_ e302_2) (RVal.tmp_ e302_3) (RVal.tmp_ e302_4)) ⟨own302, rfl, hX302⟩
  · rintro ⟨n211, i212⟩
    rintro zz244 a245 w245 ⟨own245, hd246, hz246, e246_0, e246_5, e246_6, hE246, b246_Ab1⟩ hs Q245 hj245 hp245 hz245
    have hs : varint_Read_b1_0 b1 n211 i212 = some zz244 := hs
    conv => arg 4; whnf
    refine fl_seq (fun Q247 hn247 hp247 => ?_)
    refine fl_skip ?_
    refine hn247 _ _ ?_
    refine fl_seq (fun Q248 hn248 hp248 => ?_)
    refine rg0_seq 56 own245 (bz 2) [⟨[], [6], [], Fct.val 7 (.int .i64 i212)⟩, ⟨[0], [], [], Fct.val 8 (.bool (decide (i212 = 10)))⟩] hz246 hd246 (by kernel_rfl) ?_ ?_
    · refine sc (fun _ _ _ _ s _ => px (or_move (s.1.trans e246_6))) ?_
      refine sc (fun _ _ _ f _ _ => px (or_eql f.1 rfl rfl)) ?_
      exact steps_nil
    intro own249 a249 w249 hd249 hz249 hk249 hf249 hE249
    have e249_0 := (hk249 0 rfl).trans e246_0
    have e249_5 := (hk249 5 rfl).trans e246_5
    have e249_6 := (hk249 6 rfl).trans e246_6
    obtain ⟨(e249_8 : a249.eval (.tmp 8) = .bool (decide (i212 = 10))), -⟩ := hf249 [1] rfl
    have hX249 := es_ hE246 hE249
    have b249_Ab1 := RdO.evo rfl hE249 b246_Ab1
    refine fl_cond e249_8 hs (fun c250 hs => ?_) (fun c250 hs => ?_)
    · refine rg0_seq 56 own249 (bz 3) [⟨[], [], [], Fct.val 2 (.int .u64 0)⟩, ⟨[], [], [], Fct.val 3 (.int .i64 0)⟩, ⟨[], [], [], Fct.val 4 (.int .i64 5)⟩] hz249 hd249 (by kernel_rfl) ?_ ?_
      · refine sc (fun _ _ _ _ _ _ => px (or_assign rfl)) ?_
        refine sc (fun _ _ _ _ _ _ => px (or_assign rfl)) ?_
        refine sc (fun _ _ _ _ _ _ => px (or_assign rfl)) ?_
        exact steps_nil
      intro own251 a251 w251 hd251 hz251 hk251 hf251 hE251
      obtain ⟨(e251_2 : a251.eval (.tmp 2) = .int .u64 0), (e251_3 : a251.eval (.tmp 3) = .int .i64 0), (e251_4 : a251.eval (.tmp 4) = .int .i64 5), -⟩ := hf251 [0, 1, 2] rfl
      have hX251 := es_ hX249 hE251
      refine fl_ret ?_
      refine hp248 _ _ _ rfl ?_
      replace hs := hz245 _ hs
      refine hp245.leaves _ _ _ rfl ?_
      obtain rfl := osome hs
      exact hret _ _ _ _ (.inl rfl) hd251 (results3_ rfl (RVal.tmp_ e251_2) (RVal.tmp_ e251_3) (RVal.tmp_ e251_4)) ⟨own251, rfl, hX251⟩
    refine fl_skip ?_
    refine hn248 _ _ ?_
    refine fl_seq (fun Q252 hn252 hp252 => ?_)
    refine rg0_seq 56 own249 [0, 0, 2, 7] [⟨[], [6], [], Fct.val 9 (.int .i64 i212)⟩, ⟨[], [0], [], Fct.val 10 (.slice Ab1 b1.length cb1)⟩, ⟨[1], [], [], Fct.val 11 (.int .i64 (b1.length : Int))⟩, ⟨[0, 2], [], [], Fct.val 12 (.bool (decide (i212 = (b1.length : Int))))⟩] hz249 hd249 (by kernel_rfl) ?_ ?_
    · refine sc (fun _ _ _ _ s _ => px (or_move (s.1.trans e249_6))) ?_
      refine sc (fun _ _ _ _ s _ => px (or_move (s.1.trans e249_0))) ?_
      refine sc (fun _ _ _ f _ _ => px (or_len tu33 f.1 rfl)) ?_
      refine sc (fun _ _ _ f _ _ => px (or_eql f.1 f.2.1 rfl)) ?_
      exact steps_nil
    intro own253 a253 w253 hd253 hz253 hk253 hf253 hE253
    have e253_0 := (hk253 0 rfl).trans e249_0
    have e253_5 := (hk253 5 rfl).trans e249_5
    have e253_6 := (hk253 6 rfl).trans e249_6
    obtain ⟨(e253_12 : a253.eval (.tmp 12) = .bool (decide (i212 = (b1.length : Int)))), -⟩ := hf253 [3] rfl
    have hX253 := es_ hX249 hE253
    have b253_Ab1 := RdO.evo rfl hE253 b249_Ab1
    refine fl_cond e253_12 hs (fun c254 hs => ?_) (fun c254 hs => ?_)
    · refine rg0_seq 56 own253 (bz 3) [⟨[], [], [], Fct.val 2 (.int .u64 0)⟩, ⟨[], [], [], Fct.val 3 (.int .i64 0)⟩, ⟨[], [], [], Fct.val 4 (.int .i64 4)⟩] hz253 hd253 (by kernel_rfl) ?_ ?_
      · refine sc (fun _ _ _ _ _ _ => px (or_assign rfl)) ?_
        refine sc (fun _ _ _ _ _ _ => px (or_assign rfl)) ?_
        refine sc (fun _ _ _ _ _ _ => px (or_assign rfl)) ?_
        exact steps_nil
      intro own255 a255 w255 hd255 hz255 hk255 hf255 hE255
      obtain ⟨(e255_2 : a255.eval (.tmp 2) = .int .u64 0), (e255_3 : a255.eval (.tmp 3) = .int .i64 0), (e255_4 : a255.eval (.tmp 4) = .int .i64 4), -⟩ := hf255 [0, 1, 2] rfl
      have hX255 := es_ hX253 hE255
      refine fl_ret ?_
      refine hp252 _ _ _ rfl ?_
      replace hs := hz245 _ hs
      refine hp245.leaves _ _ _ rfl ?_
      obtain rfl := osome hs
      exact hret _ _ _ _ (.inl rfl) hd255 (results3_ rfl (RVal.tmp_ e255_2) (RVal.tmp_ e255_3) (RVal.tmp_ e255_4)) ⟨own255, rfl, hX255⟩
    refine fl_skip ?_
    refine hn252 _ _ ?_
    obtain ⟨x256, hx256, hs⟩ := obind hs
    obtain ⟨x257, hx257, hs⟩ := obind hs
    refine rg0_seq 56 own253 [0, 0, 0, 6, 14, 30, 62, 0, 128, 510, 1023, 2047] [⟨[], [5], [], Fct.val 13 (.int .u64 n211)⟩, ⟨[], [0], [], Fct.val 14 (.slice Ab1 b1.length cb1)⟩, ⟨[], [6], [], Fct.val 15 (.int .i64 i212)⟩, ⟨[1, 2], [], [], Fct.val 16 (.pointer (some ((adr Ab1).add ((i212 : Int).toNat * R5.s))))⟩, ⟨[3], [], [], Fct.val 17 (.int .u8 x256)⟩, ⟨[4], [], [], Fct.val 18 (.int .u8 (anK .u8 x256 127))⟩, ⟨[5], [], [], Fct.val 19 (.int .u64 (IntKind.u64.wrap (anK .u8 x256 127)))⟩, ⟨[], [6], [], Fct.val 20 (.int .i64 i212)⟩, ⟨[7], [], [], Fct.val 21 (.int .i64 (ml 7 i212))⟩, ⟨[6, 8], [], [], Fct.val 22 (.int .u64 x257)⟩, ⟨[0, 9], [], [], Fct.val 23 (.int .u64 (orK .u64 n211 x257))⟩, ⟨[10], [], [], Fct.val 5 (.int .u64 (orK .u64 n211 x257))⟩] hz253 hd253 (by kernel_rfl) ?_ ?_
    · refine sc (fun _ _ _ _ s _ => px (or_move (s.1.trans e253_5))) ?_
      refine sc (fun _ _ _ _ s _ => px (or_move (s.1.trans e253_0))) ?_
      refine sc (fun _ _ _ _ s _ => px (or_move (s.1.trans e253_6))) ?_
      refine sc (fun _ _ _ f _ _ => px (or_index (R := R5) (l := b1) tl33 f.1 f.2.1 (RdO.some_ b253_Ab1 hx256) hx256)) ?_
      refine sc (fun _ _ _ f _ hE => px (or_load1 to5 f.1 (CellsAt.zero (RdO.cells (F := E5) (RdO.evo rfl hE b253_Ab1) hx256) rfl))) ?_
      refine sc (fun _ _ _ f _ _ => px (or_band f.1 rfl rfl)) ?_
      refine sc (fun _ _ _ f _ _ => px (or_conv f.1 tn5 tn26 rfl)) ?_
      refine sc (fun _ _ _ _ s _ => px (or_move (s.1.trans e253_6))) ?_
      refine sc (fun _ _ _ f _ _ => px (or_mul rfl f.1 rfl)) ?_
      refine sc (fun _ _ _ f _ _ => px (or_shl f.1 f.2.1 hx257)) ?_
      refine sc (fun _ _ _ f _ _ => px (or_bor f.1 f.2.1 rfl)) ?_
      refine sc (fun _ _ _ f _ _ => px (or_assign f.1)) ?_
      exact steps_nil
    intro own258 a258 w258 hd258 hz258 hk258 hf258 hE258
    have e258_0 := (hk258 0 rfl).trans e253_0
    have e258_6 := (hk258 6 rfl).trans e253_6
    obtain ⟨(e258_5 : a258.eval (.tmp 5) = .int .u64 (orK .u64 n211 x257)), -⟩ := hf258 [11] rfl
    have hX258 := es_ hX253 hE258
    have b258_Ab1 := RdO.evo rfl hE258 b253_Ab1
    refine rg0_seq 56 own258 (bz 3) [⟨[], [6], [], Fct.val 24 (.int .i64 i212)⟩, ⟨[0], [], [], Fct.val 25 (.int .i64 (ad i212 1))⟩, ⟨[1], [], [], Fct.val 6 (.int .i64 (ad i212 1))⟩] hz258 hd258 (by kernel_rfl) ?_ ?_
    · refine sc (fun _ _ _ _ s _ => px (or_move (s.1.trans e258_6))) ?_
      refine sc (fun _ _ _ f _ _ => px (or_add f.1 rfl rfl)) ?_
      refine sc (fun _ _ _ f _ _ => px (or_assign f.1)) ?_
      exact steps_nil
    intro own259 a259 w259 hd259 hz259 hk259 hf259 hE259
    have e259_0 := (hk259 0 rfl).trans e258_0
    have e259_5 := (hk259 5 rfl).trans e258_5
    obtain ⟨(e259_6 : a259.eval (.tmp 6) = .int .i64 (ad i212 1)), -⟩ := hf259 [2] rfl
    have hX259 := es_ hX258 hE259
    have b259_Ab1 := RdO.evo rfl hE259 b258_Ab1
    refine fl_seq (fun Q260 hn260 hp260 => ?_)
    obtain ⟨x261, hx261, hs⟩ := obind hs
    refine rg0_seq 56 own259 [0, 0, 2, 7, 15, 31] [⟨[], [0], [], Fct.val 26 (.slice Ab1 b1.length cb1)⟩, ⟨[], [6], [], Fct.val 27 (.int .i64 (ad i212 1))⟩, ⟨[1], [], [], Fct.val 28 (.int .i64 (sb (ad i212 1) 1))⟩, ⟨[0, 2], [], [], Fct.val 29 (.pointer (some ((adr Ab1).add ((sb (ad i212 1) 1 : Int).toNat * R5.s))))⟩, ⟨[3], [], [], Fct.val 30 (.int .u8 x261)⟩, ⟨[4], [], [], Fct.val 31 (.bool (decide (128 ≤ x261)))⟩] hz259 hd259 (by kernel_rfl) ?_ ?_
    · refine sc (fun _ _ _ _ s _ => px (or_move (s.1.trans e259_0))) ?_
      refine sc (fun _ _ _ _ s _ => px (or_move (s.1.trans e259_6))) ?_
      refine sc (fun _ _ _ f _ _ => px (or_sub f.1 rfl rfl)) ?_
      refine sc (fun _ _ _ f _ _ => px (or_index (R := R5) (l := b1) tl33 f.1 f.2.1 (RdO.some_ b259_Ab1 hx261) hx261)) ?_
      refine sc (fun _ _ _ f _ hE => px (or_load1 to5 f.1 (CellsAt.zero (RdO.cells (F := E5) (RdO.evo rfl hE b259_Ab1) hx261) rfl))) ?_
      refine sc (fun _ _ _ f _ _ => px (or_geq f.1 rfl rfl)) ?_
      exact steps_nil
    intro own262 a262 w262 hd262 hz262 hk262 hf262 hE262
    have e262_0 := (hk262 0 rfl).trans e259_0
    have e262_5 := (hk262 5 rfl).trans e259_5
    have e262_6 := (hk262 6 rfl).trans e259_6
    obtain ⟨(e262_31 : a262.eval (.tmp 31) = .bool (decide (128 ≤ x261))), -⟩ := hf262 [5] rfl
    have hX262 := es_ hX259 hE262
    have b262_Ab1 := RdO.evo rfl hE262 b259_Ab1
    refine fl_cond e262_31 hs (fun c263 hs => ?_) (fun c263 hs => ?_)
    · refine fl_goto ?_
      refine hp260 _ _ _ rfl ?_
      exact hj245 (orK .u64 n211 x257, ad i212 1) _ _ hs ⟨own262, hd262, hz262, e262_0, e262_5, e262_6, hX262, b262_Ab1⟩
    refine fl_skip ?_
    refine hn260 _ _ ?_
    refine fl_seq (fun Q264 hn264 hp264 => ?_)
    refine fl_block (fun Q265 hn265 hx265 hp265 => ?_)
    obtain ⟨x266, hx266, hs⟩ := obind hs
    obtain ⟨x267, hx267, hs⟩ := obind hs
    refine rg0_seq 56 own262 [0, 1, 3, 7, 7, 23, 63, 127, 255, 511, 1023] [⟨[], [6], [], Fct.val 33 (.int .i64 (ad i212 1))⟩, ⟨[0], [], [], Fct.val 34 (.bool (decide ((ad i212 1) = 10)))⟩, ⟨[1], [], [], Fct.val 35 (.bool (decide ((ad i212 1) = 10)))⟩, ⟨[2], [0], [], Fct.cond (decide ((ad i212 1) = 10)) (some 36) (Fct.val 36 (.slice Ab1 b1.length cb1))⟩, ⟨[2], [6], [], Fct.cond (decide ((ad i212 1) = 10)) (some 37) (Fct.val 37 (.int .i64 (ad i212 1)))⟩, ⟨[2, 4], [], [], Fct.cond (decide ((ad i212 1) = 10)) (some 38) (Fct.val 38 (.int .i64 (sb (ad i212 1) 1)))⟩, ⟨[2, 3, 5], [], [], Fct.cond (decide ((ad i212 1) = 10)) (some 39) (Fct.val 39 (.pointer (some ((adr Ab1).add ((sb (ad i212 1) 1 : Int).toNat * R5.s)))))⟩, ⟨[2, 6], [], [], Fct.cond (decide ((ad i212 1) = 10)) (some 40) (Fct.val 40 (.int .u8 x266))⟩, ⟨[2, 7], [], [], Fct.cond (decide ((ad i212 1) = 10)) (some 41) (Fct.val 41 (.bool (decide (1 < x266))))⟩, ⟨[2, 8], [], [], Fct.val 42 (.bool x267)⟩, ⟨[9], [], [], Fct.val 32 (.bool x267)⟩] hz262 hd262 (by kernel_rfl) ?_ ?_
    · refine sc (fun _ _ _ _ s _ => px (or_move (s.1.trans e262_6))) ?_
      refine sc (fun _ _ _ f _ _ => px (or_eql f.1 rfl rfl)) ?_
      refine sc (fun _ _ _ f _ _ => px (or_move f.1)) ?_
      refine sc (fun _ _ _ f s _ => sg_t rfl rfl rfl f.1 (fun hg => or_move (s.1.trans e262_0))) ?_
      refine sc (fun _ _ _ f s _ => sg_t rfl rfl rfl f.1 (fun hg => or_move (s.1.trans e262_6))) ?_
      refine sc (fun _ _ _ f _ _ => sg_t rfl rfl rfl f.1 (fun hg => or_sub (f.2.1.1 hg) rfl rfl)) ?_
      refine sc (fun _ _ _ f _ _ => sg_t rfl rfl rfl f.1 (fun hg => or_index (R := R5) (l := b1) tl33 (f.2.1.1 hg) (f.2.2.1.1 hg) (RdO.some_ b262_Ab1 (gd_t hx266 hg)) (gd_t hx266 hg))) ?_
      refine sc (fun _ _ _ f _ hE => sg_t rfl rfl rfl f.1 (fun hg => or_load1 to5 (f.2.1.1 hg) (CellsAt.zero (RdO.cells (F := E5) (RdO.evo rfl hE b262_Ab1) (gd_t hx266 hg)) rfl))) ?_
      refine sc (fun _ _ _ f _ _ => sg_t rfl rfl rfl f.1 (fun hg => or_gtr (f.2.1.1 hg) rfl rfl)) ?_
      refine sc (fun _ _ _ f _ _ => px (or_and f.1 (fun hx => f.2.1.1 hx) rfl (osome hx267).symm)) ?_
      refine sc (fun _ _ _ f _ _ => px (or_assign f.1)) ?_
      exact steps_nil
    intro own268 a268 w268 hd268 hz268 hk268 hf268 hE268
    have e268_0 := (hk268 0 rfl).trans e262_0
    have e268_5 := (hk268 5 rfl).trans e262_5
    have e268_6 := (hk268 6 rfl).trans e262_6
    obtain ⟨(e268_32 : a268.eval (.tmp 32) = .bool x267), -⟩ := hf268 [10] rfl
    have hX268 := es_ hX262 hE268
    have b268_Ab1 := RdO.evo rfl hE268 b262_Ab1
    refine fl_cond e268_32 hs (fun c269 hs => ?_) (fun c269 hs => ?_)
    · refine rg0_seq 56 own268 (bz 3) [⟨[], [], [], Fct.val 2 (.int .u64 0)⟩, ⟨[], [], [], Fct.val 3 (.int .i64 0)⟩, ⟨[], [], [], Fct.val 4 (.int .i64 5)⟩] hz268 hd268 (by kernel_rfl) ?_ ?_
      · refine sc (fun _ _ _ _ _ _ => px (or_assign rfl)) ?_
        refine sc (fun _ _ _ _ _ _ => px (or_assign rfl)) ?_
        refine sc (fun _ _ _ _ _ _ => px (or_assign rfl)) ?_
        exact steps_nil
      intro own270 a270 w270 hd270 hz270 hk270 hf270 hE270
      obtain ⟨(e270_2 : a270.eval (.tmp 2) = .int .u64 0), (e270_3 : a270.eval (.tmp 3) = .int .i64 0), (e270_4 : a270.eval (.tmp 4) = .int .i64 5), -⟩ := hf270 [0, 1, 2] rfl
      have hX270 := es_ hX268 hE270
      refine fl_ret ?_
      refine hp265 _ _ _ rfl ?_
      refine hp264 _ _ _ rfl ?_
      replace hs := hz245 _ hs
      refine hp245.leaves _ _ _ rfl ?_
      obtain rfl := osome hs
      exact hret _ _ _ _ (.inl rfl) hd270 (results3_ rfl (RVal.tmp_ e270_2) (RVal.tmp_ e270_3) (RVal.tmp_ e270_4)) ⟨own270, rfl, hX270⟩
    obtain ⟨x271, hx271, hs⟩ := obind hs
    obtain ⟨x272, hx272, hs⟩ := obind hs
    refine rg0_seq 56 own268 [0, 1, 3, 7, 7, 23, 63, 127, 255, 511, 1023] [⟨[], [6], [], Fct.val 44 (.int .i64 (ad i212 1))⟩, ⟨[0], [], [], Fct.val 45 (.bool (decide (1 < (ad i212 1))))⟩, ⟨[1], [], [], Fct.val 46 (.bool (decide (1 < (ad i212 1))))⟩, ⟨[2], [0], [], Fct.cond (decide (1 < (ad i212 1))) (some 47) (Fct.val 47 (.slice Ab1 b1.length cb1))⟩, ⟨[2], [6], [], Fct.cond (decide (1 < (ad i212 1))) (some 48) (Fct.val 48 (.int .i64 (ad i212 1)))⟩, ⟨[2, 4], [], [], Fct.cond (decide (1 < (ad i212 1))) (some 49) (Fct.val 49 (.int .i64 (sb (ad i212 1) 1)))⟩, ⟨[2, 3, 5], [], [], Fct.cond (decide (1 < (ad i212 1))) (some 50) (Fct.val 50 (.pointer (some ((adr Ab1).add ((sb (ad i212 1) 1 : Int).toNat * R5.s)))))⟩, ⟨[2, 6], [], [], Fct.cond (decide (1 < (ad i212 1))) (some 51) (Fct.val 51 (.int .u8 x271))⟩, ⟨[2, 7], [], [], Fct.cond (decide (1 < (ad i212 1))) (some 52) (Fct.val 52 (.bool (decide (x271 = 0))))⟩, ⟨[2, 8], [], [], Fct.val 53 (.bool x272)⟩, ⟨[9], [], [], Fct.val 43 (.bool x272)⟩] hz268 hd268 (by kernel_rfl) ?_ ?_
    · refine sc (fun _ _ _ _ s _ => px (or_move (s.1.trans e268_6))) ?_
      refine sc (fun _ _ _ f _ _ => px (or_gtr f.1 rfl rfl)) ?_
      refine sc (fun _ _ _ f _ _ => px (or_move f.1)) ?_
      refine sc (fun _ _ _ f s _ => sg_t rfl rfl rfl f.1 (fun hg => or_move (s.1.trans e268_0))) ?_
      refine sc (fun _ _ _ f s _ => sg_t rfl rfl rfl f.1 (fun hg => or_move (s.1.trans e268_6))) ?_
      refine sc (fun _ _ _ f _ _ => sg_t rfl rfl rfl f.1 (fun hg => or_sub (f.2.1.1 hg) rfl rfl)) ?_
      refine sc (fun _ _ _ f _ _ => sg_t rfl rfl rfl f.1 (fun hg => or_index (R := R5) (l := b1) tl33 (f.2.1.1 hg) (f.2.2.1.1 hg) (RdO.some_ b268_Ab1 (gd_t hx271 hg)) (gd_t hx271 hg))) ?_
      refine sc (fun _ _ _ f _ hE => sg_t rfl rfl rfl f.1 (fun hg => or_load1 to5 (f.2.1.1 hg) (CellsAt.zero (RdO.cells (F := E5) (RdO.evo rfl hE b268_Ab1) (gd_t hx271 hg)) rfl))) ?_
      refine sc (fun _ _ _ f _ _ => sg_t rfl rfl rfl f.1 (fun hg => or_eql (f.2.1.1 hg) rfl rfl)) ?_
      refine sc (fun _ _ _ f _ _ => px (or_and f.1 (fun hx => f.2.1.1 hx) rfl (osome hx272).symm)) ?_
      refine sc (fun _ _ _ f _ _ => px (or_assign f.1)) ?_
      exact steps_nil
    intro own273 a273 w273 hd273 hz273 hk273 hf273 hE273
    have e273_5 := (hk273 5 rfl).trans e268_5
    have e273_6 := (hk273 6 rfl).trans e268_6
    obtain ⟨(e273_43 : a273.eval (.tmp 43) = .bool x272), -⟩ := hf273 [10] rfl
    have hX273 := es_ hX268 hE273
    refine fl_cond e273_43 hs (fun c274 hs => ?_) (fun c274 hs => ?_)
    · refine rg0_seq 56 own273 (bz 3) [⟨[], [], [], Fct.val 2 (.int .u64 0)⟩, ⟨[], [], [], Fct.val 3 (.int .i64 0)⟩, ⟨[], [], [], Fct.val 4 (.int .i64 3)⟩] hz273 hd273 (by kernel_rfl) ?_ ?_
      · refine sc (fun _ _ _ _ _ _ => px (or_assign rfl)) ?_
        refine sc (fun _ _ _ _ _ _ => px (or_assign rfl)) ?_
        refine sc (fun _ _ _ _ _ _ => px (or_assign rfl)) ?_
        exact steps_nil
      intro own275 a275 w275 hd275 hz275 hk275 hf275 hE275
      obtain ⟨(e275_2 : a275.eval (.tmp 2) = .int .u64 0), (e275_3 : a275.eval (.tmp 3) = .int .i64 0), (e275_4 : a275.eval (.tmp 4) = .int .i64 3), -⟩ := hf275 [0, 1, 2] rfl
      have hX275 := es_ hX273 hE275
      refine fl_ret ?_
      refine hp265 _ _ _ rfl ?_
      refine hp264 _ _ _ rfl ?_
      replace hs := hz245 _ hs
      refine hp245.leaves _ _ _ rfl ?_
      obtain rfl := osome hs
      exact hret _ _ _ _ (.inl rfl) hd275 (results3_ rfl (RVal.tmp_ e275_2) (RVal.tmp_ e275_3) (RVal.tmp_ e275_4)) ⟨own275, rfl, hX275⟩
    refine fl_skip ?_
    refine hn265 _ _ ?_
    refine hn264 _ _ ?_
    refine rg0_seq 56 own273 [0, 0, 1, 7, 15] [⟨[], [5], [], Fct.val 54 (.int .u64 (orK .u64 n211 x257))⟩, ⟨[], [6], [], Fct.val 55 (.int .i64 (ad i212 1))⟩, ⟨[0], [], [], Fct.val 2 (.int .u64 (orK .u64 n211 x257))⟩, ⟨[1], [], [], Fct.val 3 (.int .i64 (ad i212 1))⟩, ⟨[], [], [], Fct.val 4 (.int .i64 0)⟩] hz273 hd273 (by kernel_rfl) ?_ ?_
    · refine sc (fun _ _ _ _ s _ => px (or_move (s.1.trans e273_5))) ?_
      refine sc (fun _ _ _ _ s _ => px (or_move (s.1.trans e273_6))) ?_
      refine sc (fun _ _ _ f _ _ => px (or_assign f.1)) ?_
      refine sc (fun _ _ _ f _ _ => px (or_assign f.1)) ?_
      refine sc (fun _ _ _ _ _ _ => px (or_assign rfl)) ?_
      exact steps_nil
    intro own276 a276 w276 hd276 hz276 hk276 hf276 hE276
    obtain ⟨(e276_2 : a276.eval (.tmp 2) = .int .u64 (orK .u64 n211 x257)), (e276_3 : a276.eval (.tmp 3) = .int .i64 (ad i212 1)), (e276_4 : a276.eval (.tmp 4) = .int .i64 0), -⟩ := hf276 [2, 3, 4] rfl
    have hX276 := es_ hX273 hE276
    refine fl_ret ?_
    replace hs := hz245 _ hs
    refine hp245.leaves _ _ _ rfl ?_
    obtain rfl := osome hs
    exact hret _ _ _ _ (.inl rfl) hd276 (results3_ rfl (RVal.tmp_ e276_2) (RVal.tmp_ e276_3) (RVal.tmp_ e276_4)) ⟨own276, rfl, hX276⟩
theorem block_cursor_number_z (w : World) (own : Own) (c1 : ((List Int) × Int) × (Int × Int)) (gc1 : Nat) (tc1 : TypeId) (Ac1_0 : Option Addr) (cc1_0 : Nat) (hown : ∀ b, own b ≤ 1) (hgc1 : BlkO own 1 w gc1 tc1 #[.slice Ac1_0 c1.1.1.length cc1_0, .int .i64 c1.1.2, .int .i64 c1.2.1, .int .i64 c1.2.2]) (hAc1_0 : RdO own [0] w R5 Ac1_0 cc1_0 c1.1.1) (r : (Int × (((List Int) × Int) × (Int × Int))) ⊕ Int) (hs : block_cursor_number c1 = some r) :
    Calls Try.prog 47 #[.pointer (some ⟨gc1, 0, none⟩)] w fun e w' => match r with
      | .inl r => ∃ (own' : Own), e = .returned (.int .u64 r.1) ∧ Evo [1] own own' w w' ∧ BlkO own' 1 w' gc1 tc1 #[.slice Ac1_0 c1.1.1.length cc1_0, .int .i64 r.2.1.2, .int .i64 r.2.2.1, .int .i64 r.2.2.2]
      | .inr x => ∃ own' : Own, e = .panicked (pE (.iface 69 (.agg #[.int .i64 x]))) ∧ Evo [1] own own' w w' := by
  refine fl_enterP (n := 38) rfl rfl rfl (Nat.le_of_ble_eq_true rfl) ?_
  intro a0 Q hd0 hz0 harg hret hpan
  have ha0 := harg 0 _ rfl
  clear harg
  have hE0 : Evo [1] own own w w := Evo.refl _ _ _
  refine rg0_seq 38 own (bz 1) [⟨[], [], [], Fct.val 2 (.int .u64 0)⟩] hz0 hd0 (by kernel_rfl) ?_ ?_
  · refine sc (fun _ _ _ _ _ _ => px (or_assign rfl)) ?_
    exact steps_nil
  intro own27 a27 w27 hd27 hz27 hk27 hf27 hE27
  have e27_0 := (hk27 0 rfl).trans ha0
  have hX27 := Evo.step hE0 hown hE27 rfl
  have b27_Ac1_0 := RdO.evo rfl hE27 hAc1_0
  have b27_gc1 := be_ hE27 hgc1
  obtain ⟨x28, hx28, hs⟩ := obind hs
  obtain ⟨r30, hr30, hs⟩ := obind hs
  refine rg_draw_seq g_mixed (n := 38) (rs := []) (own0 := own27) (K := []) (bs := [0, 1, 3, 7, 15, 0, 32, 96, 224, 480, 1023, 2047, 4095, 8191, 8191, 8191, 16383, 98303, 262143]) (ds := [⟨[], [0], [], Fct.val 7 (.pointer (some ⟨gc1, 0, none⟩))⟩, ⟨[0], [], [], Fct.val 8 (.pointer (some ⟨gc1, 0, none⟩))⟩, ⟨[1], [], [], Fct.val 9 (.pointer (some ⟨gc1, 0, none⟩))⟩, ⟨[2], [], [], Fct.val 10 (.pointer (some ⟨gc1, 0, none⟩))⟩, ⟨[3], [], [], Fct.val 11 (.slice Ac1_0 c1.1.1.length cc1_0)⟩, ⟨[], [0], [], Fct.val 12 (.pointer (some ⟨gc1, 0, none⟩))⟩, ⟨[5], [], [], Fct.val 13 (.pointer (some ⟨gc1, 0, none⟩))⟩, ⟨[6], [], [], Fct.val 14 (.pointer (some ⟨gc1, 0, none⟩))⟩, ⟨[7], [], [], Fct.val 15 (.pointer (some ⟨gc1, 1, none⟩))⟩, ⟨[8], [], [], Fct.val 16 (.int .i64 c1.1.2)⟩, ⟨[4, 9], [], [], Fct.view [0] 17 R5 x28⟩, ⟨[10], [], [], Fct.val 18 (.tuple #[.int .u64 r30.1, .int .i64 r30.2.1, .int .i64 r30.2.2])⟩, ⟨[11], [], [], Fct.val 6 (.tuple #[.int .u64 r30.1, .int .i64 r30.2.1, .int .i64 r30.2.2])⟩, ⟨[12], [], [], Fct.val 19 (.int .u64 r30.1)⟩, ⟨[12], [], [], Fct.val 20 (.int .i64 r30.2.1)⟩, ⟨[12], [], [], Fct.val 21 (.int .i64 r30.2.2)⟩, ⟨[13], [], [], Fct.val 3 (.int .u64 r30.1)⟩, ⟨[14], [], [], Fct.val 4 (.int .i64 r30.2.1)⟩, ⟨[15], [], [], Fct.val 5 (.int .i64 r30.2.2)⟩]) (by kernel_rfl) hz27 hd27 nm_ ?_ ?_
  · refine sc (fun _ _ _ _ s _ => px (or_move (s.1.trans e27_0))) ?_
    refine sc (fun _ _ _ f _ _ => px (or_k [(7, .pointer (some ⟨gc1, 0, none⟩))] rfl rfl ⟨f.1, trivial⟩ (by kernel_rfl))) ?_
    refine sc (fun _ _ _ f _ _ => px (or_field fo67_0 f.1 (by rfl))) ?_
    refine sc (fun _ _ _ f _ _ => px (or_field fo65_0 f.1 (by rfl))) ?_
    refine sc (fun _ _ _ f _ hE => px (or_load1 to33 f.1 (Blk.at_ (be_ hE b27_gc1).2 0 rfl))) ?_
    refine sc (fun _ _ _ _ s _ => px (or_move (s.1.trans e27_0))) ?_
    refine sc (fun _ _ _ f _ _ => px (or_k [(12, .pointer (some ⟨gc1, 0, none⟩))] rfl rfl ⟨f.1, trivial⟩ (by kernel_rfl))) ?_
    refine sc (fun _ _ _ f _ _ => px (or_field fo67_0 f.1 (by rfl))) ?_
    refine sc (fun _ _ _ f _ _ => px (or_field fo65_1 f.1 (by rfl))) ?_
    refine sc (fun _ _ _ f _ hE => px (or_load1 to3 f.1 (Blk.at_ (be_ hE b27_gc1).2 1 rfl))) ?_
    refine sc (fun _ _ _ f _ hE => px (or_view (R := R5) (l := c1.1.1) (L := [0]) tu33 ts5 f.1 (Bnd.some_ f.2.1) Bnd.none_ Bnd.none_ (RdO.evo rfl hE b27_Ac1_0) hx28 (.inl rfl) (by simp))) ?_
    refine sc (fun own a wx hf hsl hE => ?_) ?_
    · obtain ⟨⟨⟨A29, cA29⟩, f_17, b_A29⟩, -⟩ := hf
      exact px (or_call cf60 (args1 f_17) (varint_Read_w _ x28 A29 cA29 (RdO.zero b_A29) r30 hr30) post_val)
    refine sc (fun _ _ _ f _ _ => px (or_move f.1)) ?_
    refine sc (fun _ _ _ f _ _ => px (or_k [(6, .tuple #[.int .u64 r30.1, .int .i64 r30.2.1, .int .i64 r30.2.2])] rfl rfl ⟨f.1, trivial⟩ (by kernel_rfl))) ?_
    refine sc (fun _ _ _ f _ _ => px (or_k [(6, .tuple #[.int .u64 r30.1, .int .i64 r30.2.1, .int .i64 r30.2.2])] rfl rfl ⟨f.1, trivial⟩ (by kernel_rfl))) ?_
    refine sc (fun _ _ _ f _ _ => px (or_k [(6, .tuple #[.int .u64 r30.1, .int .i64 r30.2.1, .int .i64 r30.2.2])] rfl rfl ⟨f.1, trivial⟩ (by kernel_rfl))) ?_
    refine sc (fun _ _ _ f _ _ => px (or_assign f.1)) ?_
    refine sc (fun _ _ _ f _ _ => px (or_assign f.1)) ?_
    refine sc (fun _ _ _ f _ _ => px (or_assign f.1)) ?_
    exact steps_nil
  intro own31 a31 w31 hd31 hz31 hk31 hf31 hE31
  have e31_0 := (hk31 0 rfl).trans e27_0
  obtain ⟨(e31_3 : a31.eval (.tmp 3) = .int .u64 r30.1), (e31_4 : a31.eval (.tmp 4) = .int .i64 r30.2.1), (e31_5 : a31.eval (.tmp 5) = .int .i64 r30.2.2), -⟩ := hf31 [16, 17, 18] rfl
  have hX31 := Evo.step hX27 hown hE31 rfl
  have b31_Ac1_0 := RdO.evo rfl hE31 b27_Ac1_0
  have b31_gc1 := be_ hE31 b27_gc1
  refine fl_seq (fun Q32 hn32 hp32 => ?_)
  refine rg0_seq 38 own31 (bz 2) [⟨[], [5], [], Fct.val 22 (.int .i64 r30.2.2)⟩, ⟨[0], [], [], Fct.val 23 (.bool (!decide (r30.2.2 = 0)))⟩] hz31 hd31 (by kernel_rfl) ?_ ?_
  · refine sc (fun _ _ _ _ s _ => px (or_move (s.1.trans e31_5))) ?_
    refine sc (fun _ _ _ f _ _ => px (or_neq f.1 rfl rfl)) ?_
    exact steps_nil
  intro own36 a36 w36 hd36 hz36 hk36 hf36 hE36
  have e36_0 := (hk36 0 rfl).trans e31_0
  have e36_3 := (hk36 3 rfl).trans e31_3
  have e36_4 := (hk36 4 rfl).trans e31_4
  have e36_5 := (hk36 5 rfl).trans e31_5
  obtain ⟨(e36_23 : a36.eval (.tmp 23) = .bool (!decide (r30.2.2 = 0))), -⟩ := hf36 [1] rfl
  have hX36 := Evo.step hX31 hown hE36 rfl
  have b36_Ac1_0 := RdO.evo rfl hE36 b31_Ac1_0
  have b36_gc1 := be_ hE36 b31_gc1
  refine fl_cond e36_23 hs (fun c37 hs => ?_) (fun c37 hs => ?_)
  · refine rg_pan 3 (n := 38) (rs := []) (own0 := own36) (K := []) (bs := (bz 4)) (ds := [⟨[], [5], [], Fct.val 24 (.int .i64 r30.2.2)⟩, ⟨[0], [], [], Fct.val 25 (.agg #[.int .i64 r30.2.2])⟩, ⟨[1], [], [], Fct.val 26 (.iface 69 (.agg #[.int .i64 r30.2.2]))⟩, ⟨[2], [], [], Fct.any⟩]) (by kernel_rfl) hz36 hd36 nm_ rfl rfl rfl ?_ (ch := pE (.iface 69 (.agg #[.int .i64 r30.2.2]))) ?_ ?_
    · refine sc (fun _ _ _ _ s _ => px (or_move (s.1.trans e36_5))) ?_
      refine sc (fun _ _ _ f _ _ => px (or_k [(24, .int .i64 r30.2.2)] rfl rfl ⟨f.1, trivial⟩ (by kernel_rfl))) ?_
      refine sc (fun _ _ _ f _ _ => px (or_k [(25, .agg #[.int .i64 r30.2.2])] rfl rfl ⟨f.1, trivial⟩ (by kernel_rfl))) ?_
      exact steps_nil
    · intro own a wx hf hsl hE
      obtain ⟨f_26, -⟩ := hf
      exact or_panic f_26
    intro own38 a38 w38 hd38 hz38 hk38 hE38
    have hX38 := Evo.step hX36 hown hE38 rfl
    refine hp32 _ _ _ rfl ?_
    obtain rfl := osome hs
    exact hpan _ _ _ hd38 ⟨own38, rfl, hX38⟩
  refine fl_skip ?_
  refine hn32 _ _ ?_
  refine rg_plain_seq (n := 38) (rs := [Fct.at_ 1 gc1 tc1 #[.slice Ac1_0 c1.1.1.length cc1_0, .int .i64 c1.1.2, .int .i64 c1.2.1, .int .i64 c1.2.2]]) (own0 := own36) (K := [1]) (bs := [0, 1, 3, 7, 15, 0, 63, 127, 255, 511, 1023]) (ds := [⟨[], [0], [], Fct.val 27 (.pointer (some ⟨gc1, 0, none⟩))⟩, ⟨[0], [], [], Fct.val 28 (.pointer (some ⟨gc1, 0, none⟩))⟩, ⟨[1], [], [], Fct.val 29 (.pointer (some ⟨gc1, 0, none⟩))⟩, ⟨[2], [], [], Fct.val 30 (.pointer (some ⟨gc1, 1, none⟩))⟩, ⟨[3, 11], [], [], Fct.val 31 (.int .i64 c1.1.2)⟩, ⟨[], [4], [], Fct.val 32 (.int .i64 r30.2.1)⟩, ⟨[4, 5], [], [], Fct.val 33 (.int .i64 (ad c1.1.2 r30.2.1))⟩, ⟨[0], [], [], Fct.val 34 (.pointer (some ⟨gc1, 0, none⟩))⟩, ⟨[7], [], [], Fct.val 35 (.pointer (some ⟨gc1, 0, none⟩))⟩, ⟨[8], [], [], Fct.val 36 (.pointer (some ⟨gc1, 1, none⟩))⟩, ⟨[9, 6, 11], [], [1], Fct.at_ 39 gc1 tc1 #[.slice Ac1_0 c1.1.1.length cc1_0, .int .i64 (ad c1.1.2 r30.2.1), .int .i64 c1.2.1, .int .i64 c1.2.2]⟩]) (by kernel_rfl) hz36 hd36 (by simp only [List.forall_mem_cons]; exact ⟨b36_gc1, fun _ h => nomatch h⟩) ?_ ?_
  · refine sc (fun _ _ _ _ s _ => px (or_move (s.1.trans e36_0))) ?_
    refine sc (fun _ _ _ f _ _ => px (or_k [(27, .pointer (some ⟨gc1, 0, none⟩))] rfl rfl ⟨f.1, trivial⟩ (by kernel_rfl))) ?_
    refine sc (fun _ _ _ f _ _ => px (or_field fo67_0 f.1 (by rfl))) ?_
    refine sc (fun _ _ _ f _ _ => px (or_field fo65_1 f.1 (by rfl))) ?_
    refine sc (fun own a wx hf hsl hE => ?_) ?_
    · obtain ⟨f_30, (b_gc1 : BlkO own 1 wx gc1 tc1 #[.slice Ac1_0 c1.1.1.length cc1_0, .int .i64 c1.1.2, .int .i64 c1.2.1, .int .i64 c1.2.2]), -⟩ := hf
      exact px (or_load1 to3 f_30 (Blk.at_ b_gc1.2 1 rfl))
    refine sc (fun _ _ _ _ s _ => px (or_move (s.1.trans e36_4))) ?_
    refine sc (fun _ _ _ f _ _ => px (or_add f.1 f.2.1 rfl)) ?_
    refine sc (fun _ _ _ f _ _ => px (or_k [(27, .pointer (some ⟨gc1, 0, none⟩))] rfl rfl ⟨f.1, trivial⟩ (by kernel_rfl))) ?_
    refine sc (fun _ _ _ f _ _ => px (or_field fo67_0 f.1 (by rfl))) ?_
    refine sc (fun _ _ _ f _ _ => px (or_field fo65_1 f.1 (by rfl))) ?_
    refine sc (fun own a wx hf hsl hE => ?_) ?_
    · obtain ⟨f_36, f_33, b_gc1, -⟩ := hf
      exact px (or_store1 (lab := 1) (lab2 := 39) ts3 f_36 f_33 b_gc1 (by simp) rfl (mem_of rfl) (by decide) rfl (fun own' a' w' ha hb => hb))
    exact steps_nil
  intro own40 a40 w40 hd40 hz40 hk40 hf40 hE40
  have e40_0 := (hk40 0 rfl).trans e36_0
  have e40_3 := (hk40 3 rfl).trans e36_3
  obtain ⟨(b40_gc1 : BlkO own40 39 w40 gc1 tc1 #[.slice Ac1_0 c1.1.1.length cc1_0, .int .i64 (ad c1.1.2 r30.2.1), .int .i64 c1.2.1, .int .i64 c1.2.2]), -⟩ := hf40 [10] rfl
  have hX40 := Evo.step hX36 hown hE40 rfl
  have b40_Ac1_0 := RdO.evo rfl hE40 b36_Ac1_0
  refine rg0_seq 38 own40 (bz 2) [⟨[], [3], [], Fct.val 37 (.int .u64 r30.1)⟩, ⟨[0], [], [], Fct.val 2 (.int .u64 r30.1)⟩] hz40 hd40 (by kernel_rfl) ?_ ?_
  · refine sc (fun _ _ _ _ s _ => px (or_move (s.1.trans e40_3))) ?_
    refine sc (fun _ _ _ f _ _ => px (or_assign f.1)) ?_
    exact steps_nil
  intro own41 a41 w41 hd41 hz41 hk41 hf41 hE41
  have e41_0 := (hk41 0 rfl).trans e40_0
  obtain ⟨(e41_2 : a41.eval (.tmp 2) = .int .u64 r30.1), -⟩ := hf41 [1] rfl
  have hX41 := Evo.step hX40 hown hE41 rfl
  have b41_Ac1_0 := RdO.evo rfl hE41 b40_Ac1_0
  have b41_gc1 := be_ hE41 b40_gc1
  refine fl_ret ?_
  obtain rfl := osome hs
  exact hret _ _ _ _ (.inl rfl) hd41 (results1_ rfl (RVal.tmp_ e41_2)) ⟨(rl [(39, 1)] own41), rfl, (Evo.rl_ hX41 hown rfl), (BlkO.rl_ (mm := [(39, 1)]) b41_gc1)⟩
theorem block_cursor_number_w (w : World) (own : Own) (c1 : ((List Int) × Int) × (Int × Int)) (gc1 : Nat) (tc1 : TypeId) (Ac1_0 : Option Addr) (cc1_0 : Nat) (hown : ∀ b, own b ≤ 1) (hgc1 : BlkO own 1 w gc1 tc1 #[.slice Ac1_0 c1.1.1.length cc1_0, .int .i64 c1.1.2, .int .i64 c1.2.1, .int .i64 c1.2.2]) (hAc1_0 : RdO own [0] w R5 Ac1_0 cc1_0 c1.1.1) (r : Int × (((List Int) × Int) × (Int × Int))) (hs : block_cursor_number c1 = some (.inl r)) :
    Calls Try.prog 47 #[.pointer (some ⟨gc1, 0, none⟩)] w fun e w' => ∃ (own' : Own), e = .returned (.int .u64 r.1) ∧ Evo [1] own own' w w' ∧ BlkO own' 1 w' gc1 tc1 #[.slice Ac1_0 c1.1.1.length cc1_0, .int .i64 r.2.1.2, .int .i64 r.2.2.1, .int .i64 r.2.2.2] := block_cursor_number_z w own c1 gc1 tc1 Ac1_0 cc1_0 hown hgc1 hAc1_0 (.inl r) hs
theorem block_cursor_number_p (w : World) (own : Own) (c1 : ((List Int) × Int) × (Int × Int)) (gc1 : Nat) (tc1 : TypeId) (Ac1_0 : Option Addr) (cc1_0 : Nat) (hown : ∀ b, own b ≤ 1) (hgc1 : BlkO own 1 w gc1 tc1 #[.slice Ac1_0 c1.1.1.length cc1_0, .int .i64 c1.1.2, .int .i64 c1.2.1, .int .i64 c1.2.2]) (hAc1_0 : RdO own [0] w R5 Ac1_0 cc1_0 c1.1.1) (x : Int) (hs : block_cursor_number c1 = some (.inr x)) :
    Calls Try.prog 47 #[.pointer (some ⟨gc1, 0, none⟩)] w fun e w' => ∃ own' : Own, e = .panicked (pE (.iface 69 (.agg #[.int .i64 x]))) ∧ Evo [1] own own' w w' := block_cursor_number_z w own c1 gc1 tc1 Ac1_0 cc1_0 hown hgc1 hAc1_0 (.inr x) hs
theorem block_cursor_count_z (w : World) (own : Own) (c1 : ((List Int) × Int) × (Int × Int)) (gc1 : Nat) (tc1 : TypeId) (Ac1_0 : Option Addr) (cc1_0 : Nat) (left2 : Int) (gleft2 : Nat) (tleft2 : TypeId) (hown : ∀ b, own b ≤ 2) (hgc1 : BlkO own 1 w gc1 tc1 #[.slice Ac1_0 c1.1.1.length cc1_0, .int .i64 c1.1.2, .int .i64 c1.2.1, .int .i64 c1.2.2]) (hAc1_0 : RdO own [0] w R5 Ac1_0 cc1_0 c1.1.1) (hgleft2 : BlkO own 2 w gleft2 tleft2 #[.int .i64 left2]) (r : (Int × (((List Int) × Int) × (Int × Int)) × Int) ⊕ Int) (hs : block_cursor_count c1 left2 = some r) :
    Calls Try.prog 44 #[.pointer (some ⟨gc1, 0, none⟩), .pointer (some ⟨gleft2, 0, none⟩)] w fun e w' => match r with
      | .inl r => ∃ (own' : Own), e = .returned (.int .i64 r.1) ∧ Evo [1, 2] own own' w w' ∧ BlkO own' 1 w' gc1 tc1 #[.slice Ac1_0 c1.1.1.length cc1_0, .int .i64 r.2.1.1.2, .int .i64 r.2.1.2.1, .int .i64 r.2.1.2.2] ∧ BlkO own' 2 w' gleft2 tleft2 #[.int .i64 r.2.2]
      | .inr x => ∃ own' : Own, e = .panicked (pE (.iface 69 (.agg #[.int .i64 x]))) ∧ Evo [1, 2] own own' w w' := by
  refine fl_enterP (n := 25) rfl rfl rfl (Nat.le_of_ble_eq_true rfl) ?_
  intro a0 Q hd0 hz0 harg hret hpan
  have ha0 := harg 0 _ rfl
  have ha1 := harg 1 _ rfl
  clear harg
  have hE0 : Evo [1, 2] own own w w := Evo.refl _ _ _
  refine rg0_seq 25 own (bz 1) [⟨[], [], [], Fct.val 4 (.int .i64 0)⟩] hz0 hd0 (by kernel_rfl) ?_ ?_
  · refine sc (fun _ _ _ _ _ _ => px (or_assign rfl)) ?_
    exact steps_nil
  intro own29 a29 w29 hd29 hz29 hk29 hf29 hE29
  have e29_0 := (hk29 0 rfl).trans ha0
  have e29_1 := (hk29 1 rfl).trans ha1
  have hX29 := Evo.step hE0 hown hE29 rfl
  have b29_Ac1_0 := RdO.evo rfl hE29 hAc1_0
  have b29_gc1 := be_ hE29 hgc1
  have b29_gleft2 := be_ hE29 hgleft2
  refine rngO_cases hs (fun e32 he32 hs => ?_) (fun r30 hr30 hs => ?_)
  · refine rg_pan_seq 1 (n := 25) (rs := [Fct.at_ 1 gc1 tc1 #[.slice Ac1_0 c1.1.1.length cc1_0, .int .i64 c1.1.2, .int .i64 c1.2.1, .int .i64 c1.2.2]]) (own0 := own29) (K := [1]) (bs := (bz 3)) (ds := [⟨[], [0], [], Fct.val 6 (.pointer (some ⟨gc1, 0, none⟩))⟩, ⟨[0, 3], [], [1], Fct.any⟩, dN]) (by kernel_rfl) hz29 hd29 (by simp only [List.forall_mem_cons]; exact ⟨b29_gc1, fun _ h => nomatch h⟩) rfl rfl rfl ?_ (ch := pE (.iface 69 (.agg #[.int .i64 e32]))) ?_ ?_
    · refine sc (fun _ _ _ _ s _ => px (or_move (s.1.trans e29_0))) ?_
      exact steps_nil
    · intro own a wx hf hsl hE
      obtain ⟨f_6, b_gc1, -⟩ := hf
      exact or_callP cf47 (args1 f_6) (block_cursor_number_p _ (forth own (look0 [(1, 1)])) c1 gc1 tc1 Ac1_0 cc1_0 (look0_le rfl) (BlkO.forth_ (m := (look0 [(1, 1)])) b_gc1) (RdO.forth_ (m := (look0 [(1, 1)])) (RdO.evo rfl hE b29_Ac1_0)) e32 he32) (m' := look [(1, 1)]) (hm_of rfl)
    intro own33 a33 w33 hd33 hz33 hk33 hE33
    have hX33 := Evo.step hX29 hown hE33 rfl
    obtain rfl := osome hs
    exact hpan _ _ _ hd33 ⟨own33, rfl, hX33⟩
  refine rg_plain_seq (n := 25) (rs := [Fct.at_ 1 gc1 tc1 #[.slice Ac1_0 c1.1.1.length cc1_0, .int .i64 c1.1.2, .int .i64 c1.2.1, .int .i64 c1.2.2]]) (own0 := own29) (K := [1]) (bs := (bz 3)) (ds := [⟨[], [0], [], Fct.val 6 (.pointer (some ⟨gc1, 0, none⟩))⟩, ⟨[0, 3], [], [1], Fct.mems [31] 7 (fun (_ : Unit) => .int .u64 r30.1) (fun (_ : Unit) own w => BlkO own 31 w gc1 tc1 #[.slice Ac1_0 c1.1.1.length cc1_0, .int .i64 r30.2.1.2, .int .i64 r30.2.2.1, .int .i64 r30.2.2.2]) (fun hk he h => BlkO.evo (not_hit hk (by decide)) he h)⟩, ⟨[1], [], [], Fct.val 5 (.int .u64 r30.1)⟩]) (by kernel_rfl) hz29 hd29 (by simp only [List.forall_mem_cons]; exact ⟨b29_gc1, fun _ h => nomatch h⟩) ?_ ?_
  · refine sc (fun _ _ _ _ s _ => px (or_move (s.1.trans e29_0))) ?_
    refine sc (fun own a wx hf hsl hE => ?_) ?_
    · obtain ⟨f_6, b_gc1, -⟩ := hf
      exact px (or_call cf47 (args1 f_6) (block_cursor_number_w _ (forth own (look0 [(1, 1)])) c1 gc1 tc1 Ac1_0 cc1_0 (look0_le rfl) (BlkO.forth_ (m := (look0 [(1, 1)])) b_gc1) (RdO.forth_ (m := (look0 [(1, 1)])) (RdO.evo rfl hE b29_Ac1_0)) r30 hr30) (post_mems0 (m := (look0 [(1, 1)])) (m' := (look0 [(1, 31)])) (hm_of rfl) (fun own' w' a' h1 h => ⟨(), h1, BlkO.back_ h (by decide)⟩)))
    refine sc (fun own a wx hf hsl hE => ?_) ?_
    · obtain ⟨⟨_, f_7, b_gc1⟩, -⟩ := hf
      exact px (or_assign f_7)
    exact steps_nil
  intro own34 a34 w34 hd34 hz34 hk34 hf34 hE34
  have e34_0 := (hk34 0 rfl).trans e29_0
  have e34_1 := (hk34 1 rfl).trans e29_1
  obtain ⟨(e34_5 : a34.eval (.tmp 5) = .int .u64 r30.1), ⟨_, (f_7 : a34.eval (.tmp 7) = .int .u64 r30.1), (b34_gc1 : BlkO own34 31 w34 gc1 tc1 #[.slice Ac1_0 c1.1.1.length cc1_0, .int .i64 r30.2.1.2, .int .i64 r30.2.2.1, .int .i64 r30.2.2.2])⟩, -⟩ := hf34 [2, 1] rfl
  have hX34 := Evo.step hX29 hown hE34 rfl
  have b34_Ac1_0 := RdO.evo rfl hE34 b29_Ac1_0
  have b34_gleft2 := be_ hE34 b29_gleft2
  refine fl_seq (fun Q35 hn35 hp35 => ?_)
  refine rg0_seq 25 own34 [0, 0, 2, 6, 14, 31] [⟨[], [5], [], Fct.val 8 (.int .u64 r30.1)⟩, ⟨[], [1], [], Fct.val 9 (.pointer (some ⟨gleft2, 0, none⟩))⟩, ⟨[1], [], [], Fct.val 10 (.pointer (some ⟨gleft2, 0, none⟩))⟩, ⟨[2], [], [], Fct.val 11 (.int .i64 left2)⟩, ⟨[3], [], [], Fct.val 12 (.int .u64 (IntKind.u64.wrap left2))⟩, ⟨[0, 4], [], [], Fct.val 13 (.bool (decide ((IntKind.u64.wrap left2) < r30.1)))⟩] hz34 hd34 (by kernel_rfl) ?_ ?_
  · refine sc (fun _ _ _ _ s _ => px (or_move (s.1.trans e34_5))) ?_
    refine sc (fun _ _ _ _ s _ => px (or_move (s.1.trans e34_1))) ?_
    refine sc (fun _ _ _ f _ _ => px (or_k [(9, .pointer (some ⟨gleft2, 0, none⟩))] rfl rfl ⟨f.1, trivial⟩ (by kernel_rfl))) ?_
    refine sc (fun _ _ _ f _ hE => px (or_load1 to3 f.1 (Blk.at_ (be_ hE b34_gleft2).2 0 rfl))) ?_
    refine sc (fun _ _ _ f _ _ => px (or_conv f.1 tn3 tn26 rfl)) ?_
    refine sc (fun _ _ _ f _ _ => px (or_gtr f.1 f.2.1 rfl)) ?_
    exact steps_nil
  intro own39 a39 w39 hd39 hz39 hk39 hf39 hE39
  have e39_0 := (hk39 0 rfl).trans e34_0
  have e39_1 := (hk39 1 rfl).trans e34_1
  have e39_5 := (hk39 5 rfl).trans e34_5
  obtain ⟨(e39_13 : a39.eval (.tmp 13) = .bool (decide ((IntKind.u64.wrap left2) < r30.1))), -⟩ := hf39 [5] rfl
  have hX39 := Evo.step hX34 hown hE39 rfl
  have b39_Ac1_0 := RdO.evo rfl hE39 b34_Ac1_0
  have b39_gleft2 := be_ hE39 b34_gleft2
  have b39_gc1 := be_ hE39 b34_gc1
  refine fl_cond e39_13 hs (fun c40 hs => ?_) (fun c40 hs => ?_)
  · refine rg_pan 2 (n := 25) (rs := []) (own0 := own39) (K := []) (bs := (bz 3)) (ds := [⟨[], [], [], Fct.val 14 (.agg #[.int .i64 6])⟩, ⟨[0], [], [], Fct.val 15 (.iface 69 (.agg #[.int .i64 6]))⟩, ⟨[1], [], [], Fct.any⟩]) (by kernel_rfl) hz39 hd39 nm_ rfl rfl rfl ?_ (ch := pE (.iface 69 (.agg #[.int .i64 6]))) ?_ ?_
    · refine sc (fun _ _ _ _ _ _ => px (or_k [] rfl rfl trivial (by kernel_rfl))) ?_
      refine sc (fun _ _ _ f _ _ => px (or_k [(14, .agg #[.int .i64 6])] rfl rfl ⟨f.1, trivial⟩ (by kernel_rfl))) ?_
      exact steps_nil
    · intro own a wx hf hsl hE
      obtain ⟨f_15, -⟩ := hf
      exact or_panic f_15
    intro own41 a41 w41 hd41 hz41 hk41 hE41
    have hX41 := Evo.step hX39 hown hE41 rfl
    refine hp35 _ _ _ rfl ?_
    obtain rfl := osome hs
    exact hpan _ _ _ hd41 ⟨own41, rfl, hX41⟩
  refine fl_skip ?_
  refine hn35 _ _ ?_
  refine rg_plain_seq (n := 25) (rs := [Fct.at_ 2 gleft2 tleft2 #[.int .i64 left2]]) (own0 := own39) (K := [2]) (bs := [0, 1, 3, 0, 8, 31, 63, 127]) (ds := [⟨[], [1], [], Fct.val 16 (.pointer (some ⟨gleft2, 0, none⟩))⟩, ⟨[0], [], [], Fct.val 17 (.pointer (some ⟨gleft2, 0, none⟩))⟩, ⟨[1, 8], [], [], Fct.val 18 (.int .i64 left2)⟩, ⟨[], [5], [], Fct.val 19 (.int .u64 r30.1)⟩, ⟨[3], [], [], Fct.val 20 (.int .i64 (IntKind.i64.wrap r30.1))⟩, ⟨[2, 4], [], [], Fct.val 21 (.int .i64 (sb left2 (IntKind.i64.wrap r30.1)))⟩, ⟨[0], [], [], Fct.val 22 (.pointer (some ⟨gleft2, 0, none⟩))⟩, ⟨[6, 5, 8], [], [2], Fct.at_ 42 gleft2 tleft2 #[.int .i64 (sb left2 (IntKind.i64.wrap r30.1))]⟩]) (by kernel_rfl) hz39 hd39 (by simp only [List.forall_mem_cons]; exact ⟨b39_gleft2, fun _ h => nomatch h⟩) ?_ ?_
  · refine sc (fun _ _ _ _ s _ => px (or_move (s.1.trans e39_1))) ?_
    refine sc (fun _ _ _ f _ _ => px (or_k [(16, .pointer (some ⟨gleft2, 0, none⟩))] rfl rfl ⟨f.1, trivial⟩ (by kernel_rfl))) ?_
    refine sc (fun own a wx hf hsl hE => ?_) ?_
    · obtain ⟨f_17, (b_gleft2 : BlkO own 2 wx gleft2 tleft2 #[.int .i64 left2]), -⟩ := hf
      exact px (or_load1 to3 f_17 (Blk.at_ b_gleft2.2 0 rfl))
    refine sc (fun _ _ _ _ s _ => px (or_move (s.1.trans e39_5))) ?_
    refine sc (fun _ _ _ f _ _ => px (or_conv f.1 tn26 tn3 rfl)) ?_
    refine sc (fun _ _ _ f _ _ => px (or_sub f.1 f.2.1 rfl)) ?_
    refine sc (fun _ _ _ f _ _ => px (or_k [(16, .pointer (some ⟨gleft2, 0, none⟩))] rfl rfl ⟨f.1, trivial⟩ (by kernel_rfl))) ?_
    refine sc (fun own a wx hf hsl hE => ?_) ?_
    · obtain ⟨f_22, f_21, b_gleft2, -⟩ := hf
      exact px (or_store1 (lab := 2) (lab2 := 42) ts3 f_22 f_21 b_gleft2 (by simp) rfl (mem_of rfl) (by decide) rfl (fun own' a' w' ha hb => hb))
    exact steps_nil
  intro own43 a43 w43 hd43 hz43 hk43 hf43 hE43
  have e43_0 := (hk43 0 rfl).trans e39_0
  have e43_1 := (hk43 1 rfl).trans e39_1
  have e43_5 := (hk43 5 rfl).trans e39_5
  obtain ⟨(b43_gleft2 : BlkO own43 42 w43 gleft2 tleft2 #[.int .i64 (sb left2 (IntKind.i64.wrap r30.1))]), -⟩ := hf43 [7] rfl
  have hX43 := Evo.step hX39 hown hE43 rfl
  have b43_Ac1_0 := RdO.evo rfl hE43 b39_Ac1_0
  have b43_gc1 := be_ hE43 b39_gc1
  refine rg0_seq 25 own43 (bz 3) [⟨[], [5], [], Fct.val 23 (.int .u64 r30.1)⟩, ⟨[0], [], [], Fct.val 24 (.int .i64 (IntKind.i64.wrap r30.1))⟩, ⟨[1], [], [], Fct.val 4 (.int .i64 (IntKind.i64.wrap r30.1))⟩] hz43 hd43 (by kernel_rfl) ?_ ?_
  · refine sc (fun _ _ _ _ s _ => px (or_move (s.1.trans e43_5))) ?_
    refine sc (fun _ _ _ f _ _ => px (or_conv f.1 tn26 tn3 rfl)) ?_
    refine sc (fun _ _ _ f _ _ => px (or_assign f.1)) ?_
    exact steps_nil
  intro own44 a44 w44 hd44 hz44 hk44 hf44 hE44
  have e44_0 := (hk44 0 rfl).trans e43_0
  have e44_1 := (hk44 1 rfl).trans e43_1
  obtain ⟨(e44_4 : a44.eval (.tmp 4) = .int .i64 (IntKind.i64.wrap r30.1)), -⟩ := hf44 [2] rfl
  have hX44 := Evo.step hX43 hown hE44 rfl
  have b44_Ac1_0 := RdO.evo rfl hE44 b43_Ac1_0
  have b44_gc1 := be_ hE44 b43_gc1
  have b44_gleft2 := be_ hE44 b43_gleft2
  refine fl_ret ?_
  obtain rfl := osome hs
  exact hret _ _ _ _ (.inl rfl) hd44 (results1_ rfl (RVal.tmp_ e44_4)) ⟨(rl [(31, 1), (42, 2)] own44), rfl, (Evo.rl_ hX44 hown rfl), (BlkO.rl_ (mm := [(31, 1), (42, 2)]) b44_gc1), (BlkO.rl_ (mm := [(31, 1), (42, 2)]) b44_gleft2)⟩
theorem block_cursor_count_w (w : World) (own : Own) (c1 : ((List Int) × Int) × (Int × Int)) (gc1 : Nat) (tc1 : TypeId) (Ac1_0 : Option Addr) (cc1_0 : Nat) (left2 : Int) (gleft2 : Nat) (tleft2 : TypeId) (hown : ∀ b, own b ≤ 2) (hgc1 : BlkO own 1 w gc1 tc1 #[.slice Ac1_0 c1.1.1.length cc1_0, .int .i64 c1.1.2, .int .i64 c1.2.1, .int .i64 c1.2.2]) (hAc1_0 : RdO own [0] w R5 Ac1_0 cc1_0 c1.1.1) (hgleft2 : BlkO own 2 w gleft2 tleft2 #[.int .i64 left2]) (r : Int × (((List Int) × Int) × (Int × Int)) × Int) (hs : block_cursor_count c1 left2 = some (.inl r)) :
    Calls Try.prog 44 #[.pointer (some ⟨gc1, 0, none⟩), .pointer (some ⟨gleft2, 0, none⟩)] w fun e w' => ∃ (own' : Own), e = .returned (.int .i64 r.1) ∧ Evo [1, 2] own own' w w' ∧ BlkO own' 1 w' gc1 tc1 #[.slice Ac1_0 c1.1.1.length cc1_0, .int .i64 r.2.1.1.2, .int .i64 r.2.1.2.1, .int .i64 r.2.1.2.2] ∧ BlkO own' 2 w' gleft2 tleft2 #[.int .i64 r.2.2] := block_cursor_count_z w own c1 gc1 tc1 Ac1_0 cc1_0 left2 gleft2 tleft2 hown hgc1 hAc1_0 hgleft2 (.inl r) hs
theorem block_cursor_count_p (w : World) (own : Own) (c1 : ((List Int) × Int) × (Int × Int)) (gc1 : Nat) (tc1 : TypeId) (Ac1_0 : Option Addr) (cc1_0 : Nat) (left2 : Int) (gleft2 : Nat) (tleft2 : TypeId) (hown : ∀ b, own b ≤ 2) (hgc1 : BlkO own 1 w gc1 tc1 #[.slice Ac1_0 c1.1.1.length cc1_0, .int .i64 c1.1.2, .int .i64 c1.2.1, .int .i64 c1.2.2]) (hAc1_0 : RdO own [0] w R5 Ac1_0 cc1_0 c1.1.1) (hgleft2 : BlkO own 2 w gleft2 tleft2 #[.int .i64 left2]) (x : Int) (hs : block_cursor_count c1 left2 = some (.inr x)) :
    Calls Try.prog 44 #[.pointer (some ⟨gc1, 0, none⟩), .pointer (some ⟨gleft2, 0, none⟩)] w fun e w' => ∃ own' : Own, e = .panicked (pE (.iface 69 (.agg #[.int .i64 x]))) ∧ Evo [1, 2] own own' w w' := block_cursor_count_z w own c1 gc1 tc1 Ac1_0 cc1_0 left2 gleft2 tleft2 hown hgc1 hAc1_0 hgleft2 (.inr x) hs
theorem block_whole_w (w : World) (n1 : Int) (r : Int) (hs : block_whole n1 = some r) :
    Calls Try.prog 46 #[.int .u64 n1] w fun e w' => ∃ own' : Own, e = .returned (.int .i64 r) ∧ Evo [] (fun _ => 0) own' w w' := by
  refine fl_enter (n := 6) rfl rfl rfl (Nat.le_of_ble_eq_true rfl) ?_
  intro a0 Q hd0 hz0 harg hret
  have ha0 := harg 0 _ rfl
  clear harg
  have hE0 : Evo [] (fun _ => 0) (fun _ => 0) w w := Evo.refl _ _ _
  refine rg0_seq 6 (fun _ => 0) (bz 1) [⟨[], [], [], Fct.val 2 (.int .i64 0)⟩] hz0 hd0 (by kernel_rfl) ?_ ?_
  · refine sc (fun _ _ _ _ _ _ => px (or_assign rfl)) ?_
    exact steps_nil
  intro own14 a14 w14 hd14 hz14 hk14 hf14 hE14
  have e14_0 := (hk14 0 rfl).trans ha0
  have hX14 := es_ hE0 hE14
  obtain ⟨x15, hx15, hs⟩ := obind hs
  refine rg0_seq 6 own14 (bz 4) [⟨[], [0], [], Fct.val 3 (.int .u64 n1)⟩, ⟨[0], [], [], Fct.val 4 (.int .u64 (mn n1 4611686018427387904))⟩, ⟨[1], [], [], Fct.val 5 (.int .i64 x15)⟩, ⟨[2], [], [], Fct.val 2 (.int .i64 x15)⟩] hz14 hd14 (by kernel_rfl) ?_ ?_
  · refine sc (fun _ _ _ _ s _ => px (or_move (s.1.trans e14_0))) ?_
    refine sc (fun _ _ _ f _ _ => px (or_min f.1 rfl)) ?_
    refine sc (fun _ _ _ f _ _ => px (or_conv f.1 tn26 tn3 (osome hx15).symm)) ?_
    refine sc (fun _ _ _ f _ _ => px (or_assign f.1)) ?_
    exact steps_nil
  intro own16 a16 w16 hd16 hz16 hk16 hf16 hE16
  obtain ⟨(e16_2 : a16.eval (.tmp 2) = .int .i64 x15), -⟩ := hf16 [3] rfl
  have hX16 := es_ hX14 hE16
  refine fl_ret ?_
  obtain rfl := (osome hs).symm
  exact hret _ _ _ _ (.inl rfl) hd16 (results1_ rfl (RVal.tmp_ e16_2)) ⟨own16, rfl, hX16⟩
theorem varint_Zag_w (w : World) (u1 : Int) (r : Int) (hs : varint_Zag u1 = some r) :
    Calls Try.prog 49 #[.int .u64 u1] w fun e w' => ∃ own' : Own, e = .returned (.int .i64 r) ∧ Evo [] (fun _ => 0) own' w w' := by
  refine fl_enter (n := 11) rfl rfl rfl (Nat.le_of_ble_eq_true rfl) ?_
  intro a0 Q hd0 hz0 harg hret
  have ha0 := harg 0 _ rfl
  clear harg
  have hE0 : Evo [] (fun _ => 0) (fun _ => 0) w w := Evo.refl _ _ _
  refine rg0_seq 11 (fun _ => 0) (bz 1) [⟨[], [], [], Fct.val 2 (.int .i64 0)⟩] hz0 hd0 (by kernel_rfl) ?_ ?_
  · refine sc (fun _ _ _ _ _ _ => px (or_assign rfl)) ?_
    exact steps_nil
  intro own15 a15 w15 hd15 hz15 hk15 hf15 hE15
  have e15_0 := (hk15 0 rfl).trans ha0
  have hX15 := es_ hE0 hE15
  obtain ⟨x16, hx16, hs⟩ := obind hs
  obtain ⟨x17, hx17, hs⟩ := obind hs
  refine rg0_seq 11 own15 [0, 1, 3, 0, 8, 24, 56, 127, 255] [⟨[], [0], [], Fct.val 3 (.int .u64 u1)⟩, ⟨[0], [], [], Fct.val 4 (.int .u64 x16)⟩, ⟨[1], [], [], Fct.val 5 (.int .i64 (IntKind.i64.wrap x16))⟩, ⟨[], [0], [], Fct.val 6 (.int .u64 u1)⟩, ⟨[3], [], [], Fct.val 7 (.int .u64 (anK .u64 u1 1))⟩, ⟨[4], [], [], Fct.val 8 (.int .i64 (IntKind.i64.wrap (anK .u64 u1 1)))⟩, ⟨[5], [], [], Fct.val 9 (.int .i64 (ng (IntKind.i64.wrap (anK .u64 u1 1))))⟩, ⟨[2, 6], [], [], Fct.val 10 (.int .i64 x17)⟩, ⟨[7], [], [], Fct.val 2 (.int .i64 x17)⟩] hz15 hd15 (by kernel_rfl) ?_ ?_
  · refine sc (fun _ _ _ _ s _ => px (or_move (s.1.trans e15_0))) ?_
    refine sc (fun _ _ _ f _ _ => px (or_shr f.1 rfl hx16)) ?_
    refine sc (fun _ _ _ f _ _ => px (or_conv f.1 tn26 tn3 rfl)) ?_
    refine sc (fun _ _ _ _ s _ => px (or_move (s.1.trans e15_0))) ?_
    refine sc (fun _ _ _ f _ _ => px (or_band f.1 rfl rfl)) ?_
    refine sc (fun _ _ _ f _ _ => px (or_conv f.1 tn26 tn3 rfl)) ?_
    refine sc (fun _ _ _ f _ _ => px (or_neg f.1 rfl)) ?_
    refine sc (fun _ _ _ f _ _ => px (or_bxor f.1 f.2.1 (osome hx17).symm)) ?_
    refine sc (fun _ _ _ f _ _ => px (or_assign f.1)) ?_
    exact steps_nil
  intro own18 a18 w18 hd18 hz18 hk18 hf18 hE18
  obtain ⟨(e18_2 : a18.eval (.tmp 2) = .int .i64 x17), -⟩ := hf18 [8] rfl
  have hX18 := es_ hX15 hE18
  refine fl_ret ?_
  obtain rfl := (osome hs).symm
  exact hret _ _ _ _ (.inl rfl) hd18 (results1_ rfl (RVal.tmp_ e18_2)) ⟨own18, rfl, hX18⟩
theorem block_cursor_step_1_w (w : World) (n1 : Int) (r : Bool) (hs : block_cursor_step_1 n1 = some r) :
    Calls Try.prog 61 #[.int .i64 n1] w fun e w' => ∃ own' : Own, e = .returned (.bool r) ∧ Evo [] (fun _ => 0) own' w w' := by
  refine fl_enter (n := 9) rfl rfl rfl (Nat.le_of_ble_eq_true rfl) ?_
  intro a0 Q hd0 hz0 harg hret
  have ha0 := harg 0 _ rfl
  clear harg
  have hE0 : Evo [] (fun _ => 0) (fun _ => 0) w w := Evo.refl _ _ _
  refine rg0_seq 9 (fun _ => 0) (bz 1) [⟨[], [], [], Fct.val 2 (.bool false)⟩] hz0 hd0 (by kernel_rfl) ?_ ?_
  · refine sc (fun _ _ _ _ _ _ => px (or_assign rfl)) ?_
    exact steps_nil
  intro own14 a14 w14 hd14 hz14 hk14 hf14 hE14
  have e14_0 := (hk14 0 rfl).trans ha0
  have hX14 := es_ hE0 hE14
  obtain ⟨x15, hx15, hs⟩ := obind hs
  refine rg0_seq 9 own14 (bz 7) [⟨[], [0], [], Fct.val 3 (.int .i64 n1)⟩, ⟨[0], [], [], Fct.val 4 (.bool (decide ((-16777216) ≤ n1)))⟩, ⟨[1], [], [], Fct.val 5 (.bool (decide ((-16777216) ≤ n1)))⟩, ⟨[2], [0], [], Fct.cond (decide ((-16777216) ≤ n1)) (some 6) (Fct.val 6 (.int .i64 n1))⟩, ⟨[2, 3], [], [], Fct.cond (decide ((-16777216) ≤ n1)) (some 7) (Fct.val 7 (.bool (decide (n1 ≤ 16777216))))⟩, ⟨[2, 4], [], [], Fct.val 8 (.bool x15)⟩, ⟨[5], [], [], Fct.val 2 (.bool x15)⟩] hz14 hd14 (by kernel_rfl) ?_ ?_
  · refine sc (fun _ _ _ _ s _ => px (or_move (s.1.trans e14_0))) ?_
    refine sc (fun _ _ _ f _ _ => px (or_geq f.1 rfl rfl)) ?_
    refine sc (fun _ _ _ f _ _ => px (or_move f.1)) ?_
    refine sc (fun _ _ _ f s _ => sg_t rfl rfl rfl f.1 (fun hg => or_move (s.1.trans e14_0))) ?_
    refine sc (fun _ _ _ f _ _ => sg_t rfl rfl rfl f.1 (fun hg => or_leq (f.2.1.1 hg) rfl rfl)) ?_
    refine sc (fun _ _ _ f _ _ => px (or_and f.1 (fun hx => f.2.1.1 hx) rfl (osome hx15).symm)) ?_
    refine sc (fun _ _ _ f _ _ => px (or_assign f.1)) ?_
    exact steps_nil
  intro own16 a16 w16 hd16 hz16 hk16 hf16 hE16
  obtain ⟨(e16_2 : a16.eval (.tmp 2) = .bool x15), -⟩ := hf16 [6] rfl
  have hX16 := es_ hX14 hE16
  refine fl_ret ?_
  obtain rfl := (osome hs).symm
  exact hret _ _ _ _ (.inl rfl) hd16 (results1_ rfl (RVal.tmp_ e16_2)) ⟨own16, rfl, hX16⟩
theorem block_cursor_within_step_1_z (w : World) (c1 : ((List Int) × Int) × (Int × Int)) (gc1 : Nat) (tc1 : TypeId) (Ac1_0 : Option Addr) (cc1_0 : Nat) (n2 : Int) (hgc1 : BlkO (fun _ => 0) 0 w gc1 tc1 #[.slice Ac1_0 c1.1.1.length cc1_0, .int .i64 c1.1.2, .int .i64 c1.2.1, .int .i64 c1.2.2]) (hAc1_0 : RdO (fun _ => 0) [0] w R5 Ac1_0 cc1_0 c1.1.1) (r : Int ⊕ Int) (hs : block_cursor_within_step_1 c1 n2 = some r) :
    Calls Try.prog 45 #[.pointer (some ⟨gc1, 0, none⟩), .int .i64 n2, .func (.func 61) #[] #[]] w fun e w' => match r with
      | .inl r => ∃ own' : Own, e = .returned (.int .i64 r) ∧ Evo [] (fun _ => 0) own' w w'
      | .inr x => ∃ own' : Own, e = .panicked (pE (.iface 69 (.agg #[.int .i64 x]))) ∧ Evo [] (fun _ => 0) own' w w' := by
  refine fl_enterP (n := 14) rfl rfl rfl (Nat.le_of_ble_eq_true rfl) ?_
  intro a0 Q hd0 hz0 harg hret hpan
  have ha0 := harg 0 _ rfl
  have ha1 := harg 1 _ rfl
  have ha2 := harg 2 _ rfl
  clear harg
  have hE0 : Evo [] (fun _ => 0) (fun _ => 0) w w := Evo.refl _ _ _
  refine rg0_seq 14 (fun _ => 0) (bz 1) [⟨[], [], [], Fct.val 6 (.int .i64 0)⟩] hz0 hd0 (by kernel_rfl) ?_ ?_
  · refine sc (fun _ _ _ _ _ _ => px (or_assign rfl)) ?_
    exact steps_nil
  intro own22 a22 w22 hd22 hz22 hk22 hf22 hE22
  have e22_1 := (hk22 1 rfl).trans ha1
  have e22_2 := (hk22 2 rfl).trans ha2
  have hX22 := es_ hE0 hE22
  refine fl_seq (fun Q23 hn23 hp23 => ?_)
  obtain ⟨r28, hr28, hs⟩ := obind hs
  refine rg0_seq 14 own22 [0, 0, 3, 7] [⟨[], [2], [], Fct.val 7 (.func (.func 61) #[] #[])⟩, ⟨[], [1], [], Fct.val 8 (.int .i64 n2)⟩, ⟨[0, 1], [], [], Fct.val 9 (.bool r28)⟩, ⟨[2], [], [], Fct.val 10 (.bool (!r28))⟩] hz22 hd22 (by kernel_rfl) ?_ ?_
  · refine sc (fun _ _ _ _ s _ => px (or_move (s.1.trans e22_2))) ?_
    refine sc (fun _ _ _ _ s _ => px (or_move (s.1.trans e22_1))) ?_
    refine sc (fun _ _ _ f _ _ => px (or_callf cf61 f.1 (args1 f.2.1) rfl (block_cursor_step_1_w _ n2  r28 hr28) post_val)) ?_
    refine sc (fun _ _ _ f _ _ => px (or_not f.1 rfl)) ?_
    exact steps_nil
  intro own29 a29 w29 hd29 hz29 hk29 hf29 hE29
  have e29_1 := (hk29 1 rfl).trans e22_1
  obtain ⟨(e29_10 : a29.eval (.tmp 10) = .bool (!r28)), -⟩ := hf29 [3] rfl
  have hX29 := es_ hX22 hE29
  refine fl_cond e29_10 hs (fun c30 hs => ?_) (fun c30 hs => ?_)
  · refine rg_pan 2 (n := 14) (rs := []) (own0 := own29) (K := []) (bs := (bz 3)) (ds := [⟨[], [], [], Fct.val 11 (.agg #[.int .i64 5])⟩, ⟨[0], [], [], Fct.val 12 (.iface 69 (.agg #[.int .i64 5]))⟩, ⟨[1], [], [], Fct.any⟩]) (by kernel_rfl) hz29 hd29 nm_ rfl rfl rfl ?_ (ch := pE (.iface 69 (.agg #[.int .i64 5]))) ?_ ?_
    · refine sc (fun _ _ _ _ _ _ => px (or_k [] rfl rfl trivial (by kernel_rfl))) ?_
      refine sc (fun _ _ _ f _ _ => px (or_k [(11, .agg #[.int .i64 5])] rfl rfl ⟨f.1, trivial⟩ (by kernel_rfl))) ?_
      exact steps_nil
    · intro own a wx hf hsl hE
      obtain ⟨f_12, -⟩ := hf
      exact or_panic f_12
    intro own31 a31 w31 hd31 hz31 hk31 hE31
    have hX31 := es_ hX29 hE31
    refine hp23 _ _ _ rfl ?_
    obtain rfl := osome hs
    exact hpan _ _ _ hd31 ⟨own31, rfl, hX31⟩
  refine fl_skip ?_
  refine hn23 _ _ ?_
  refine rg0_seq 14 own29 (bz 2) [⟨[], [1], [], Fct.val 13 (.int .i64 n2)⟩, ⟨[0], [], [], Fct.val 6 (.int .i64 n2)⟩] hz29 hd29 (by kernel_rfl) ?_ ?_
  · refine sc (fun _ _ _ _ s _ => px (or_move (s.1.trans e29_1))) ?_
    refine sc (fun _ _ _ f _ _ => px (or_assign f.1)) ?_
    exact steps_nil
  intro own32 a32 w32 hd32 hz32 hk32 hf32 hE32
  obtain ⟨(e32_6 : a32.eval (.tmp 6) = .int .i64 n2), -⟩ := hf32 [1] rfl
  have hX32 := es_ hX29 hE32
  refine fl_ret ?_
  obtain rfl := osome hs
  exact hret _ _ _ _ (.inl rfl) hd32 (results1_ rfl (RVal.tmp_ e32_6)) ⟨own32, rfl, hX32⟩
theorem block_cursor_within_step_1_w (w : World) (c1 : ((List Int) × Int) × (Int × Int)) (gc1 : Nat) (tc1 : TypeId) (Ac1_0 : Option Addr) (cc1_0 : Nat) (n2 : Int) (hgc1 : BlkO (fun _ => 0) 0 w gc1 tc1 #[.slice Ac1_0 c1.1.1.length cc1_0, .int .i64 c1.1.2, .int .i64 c1.2.1, .int .i64 c1.2.2]) (hAc1_0 : RdO (fun _ => 0) [0] w R5 Ac1_0 cc1_0 c1.1.1) (r : Int) (hs : block_cursor_within_step_1 c1 n2 = some (.inl r)) :
    Calls Try.prog 45 #[.pointer (some ⟨gc1, 0, none⟩), .int .i64 n2, .func (.func 61) #[] #[]] w fun e w' => ∃ own' : Own, e = .returned (.int .i64 r) ∧ Evo [] (fun _ => 0) own' w w' := block_cursor_within_step_1_z w c1 gc1 tc1 Ac1_0 cc1_0 n2 hgc1 hAc1_0 (.inl r) hs
theorem block_cursor_within_step_1_p (w : World) (c1 : ((List Int) × Int) × (Int × Int)) (gc1 : Nat) (tc1 : TypeId) (Ac1_0 : Option Addr) (cc1_0 : Nat) (n2 : Int) (hgc1 : BlkO (fun _ => 0) 0 w gc1 tc1 #[.slice Ac1_0 c1.1.1.length cc1_0, .int .i64 c1.1.2, .int .i64 c1.2.1, .int .i64 c1.2.2]) (hAc1_0 : RdO (fun _ => 0) [0] w R5 Ac1_0 cc1_0 c1.1.1) (x : Int) (hs : block_cursor_within_step_1 c1 n2 = some (.inr x)) :
    Calls Try.prog 45 #[.pointer (some ⟨gc1, 0, none⟩), .int .i64 n2, .func (.func 61) #[] #[]] w fun e w' => ∃ own' : Own, e = .panicked (pE (.iface 69 (.agg #[.int .i64 x]))) ∧ Evo [] (fun _ => 0) own' w w' := block_cursor_within_step_1_z w c1 gc1 tc1 Ac1_0 cc1_0 n2 hgc1 hAc1_0 (.inr x) hs
theorem block_cursor_step_z (w : World) (own : Own) (c1 : ((List Int) × Int) × (Int × Int)) (gc1 : Nat) (tc1 : TypeId) (Ac1_0 : Option Addr) (cc1_0 : Nat) (x2 : Int) (hown : ∀ b, own b ≤ 1) (hgc1 : BlkO own 1 w gc1 tc1 #[.slice Ac1_0 c1.1.1.length cc1_0, .int .i64 c1.1.2, .int .i64 c1.2.1, .int .i64 c1.2.2]) (hAc1_0 : RdO own [0] w R5 Ac1_0 cc1_0 c1.1.1) (r : (Int × (((List Int) × Int) × (Int × Int))) ⊕ Int) (hs : block_cursor_step c1 x2 = some r) :
    Calls Try.prog 48 #[.pointer (some ⟨gc1, 0, none⟩), .int .i64 x2] w fun e w' => match r with
      | .inl r => ∃ (own' : Own), e = .returned (.int .i64 r.1) ∧ Evo [1] own own' w w' ∧ BlkO own' 1 w' gc1 tc1 #[.slice Ac1_0 c1.1.1.length cc1_0, .int .i64 r.2.1.2, .int .i64 r.2.2.1, .int .i64 r.2.2.2]
      | .inr x => ∃ own' : Own, e = .panicked (pE (.iface 69 (.agg #[.int .i64 x]))) ∧ Evo [1] own own' w w' := by
  refine fl_enterP (n := 16) rfl rfl rfl (Nat.le_of_ble_eq_true rfl) ?_
  intro a0 Q hd0 hz0 harg hret hpan
  have ha0 := harg 0 _ rfl
  have ha1 := harg 1 _ rfl
  clear harg
  have hE0 : Evo [1] own own w w := Evo.refl _ _ _
  refine rg0_seq 16 own (bz 1) [⟨[], [], [], Fct.val 4 (.int .i64 0)⟩] hz0 hd0 (by kernel_rfl) ?_ ?_
  · refine sc (fun _ _ _ _ _ _ => px (or_assign rfl)) ?_
    exact steps_nil
  intro own24 a24 w24 hd24 hz24 hk24 hf24 hE24
  have e24_0 := (hk24 0 rfl).trans ha0
  have e24_1 := (hk24 1 rfl).trans ha1
  have hX24 := Evo.step hE0 hown hE24 rfl
  have b24_Ac1_0 := RdO.evo rfl hE24 hAc1_0
  have b24_gc1 := be_ hE24 hgc1
  refine rngO_cases hs (fun e28 he28 hs => ?_) (fun r25 hr25 hs => ?_)
  · refine rg_pan_seq 1 (n := 16) (rs := [Fct.at_ 1 gc1 tc1 #[.slice Ac1_0 c1.1.1.length cc1_0, .int .i64 c1.1.2, .int .i64 c1.2.1, .int .i64 c1.2.2]]) (own0 := own24) (K := [1]) (bs := (bz 4)) (ds := [⟨[], [0], [], Fct.val 6 (.pointer (some ⟨gc1, 0, none⟩))⟩, ⟨[0, 4], [], [1], Fct.any⟩, dN, dN]) (by kernel_rfl) hz24 hd24 (by simp only [List.forall_mem_cons]; exact ⟨b24_gc1, fun _ h => nomatch h⟩) rfl rfl rfl ?_ (ch := pE (.iface 69 (.agg #[.int .i64 e28]))) ?_ ?_
    · refine sc (fun _ _ _ _ s _ => px (or_move (s.1.trans e24_0))) ?_
      exact steps_nil
    · intro own a wx hf hsl hE
      obtain ⟨f_6, b_gc1, -⟩ := hf
      exact or_callP cf47 (args1 f_6) (block_cursor_number_p _ (forth own (look0 [(1, 1)])) c1 gc1 tc1 Ac1_0 cc1_0 (look0_le rfl) (BlkO.forth_ (m := (look0 [(1, 1)])) b_gc1) (RdO.forth_ (m := (look0 [(1, 1)])) (RdO.evo rfl hE b24_Ac1_0)) e28 he28) (m' := look [(1, 1)]) (hm_of rfl)
    intro own29 a29 w29 hd29 hz29 hk29 hE29
    have hX29 := Evo.step hX24 hown hE29 rfl
    obtain rfl := osome hs
    exact hpan _ _ _ hd29 ⟨own29, rfl, hX29⟩
  obtain ⟨r27, hr27, hs⟩ := obind hs
  refine rg_plain_seq (n := 16) (rs := [Fct.at_ 1 gc1 tc1 #[.slice Ac1_0 c1.1.1.length cc1_0, .int .i64 c1.1.2, .int .i64 c1.2.1, .int .i64 c1.2.2]]) (own0 := own24) (K := [1]) (bs := (bz 4)) (ds := [⟨[], [0], [], Fct.val 6 (.pointer (some ⟨gc1, 0, none⟩))⟩, ⟨[0, 4], [], [1], Fct.mems [26] 7 (fun (_ : Unit) => .int .u64 r25.1) (fun (_ : Unit) own w => BlkO own 26 w gc1 tc1 #[.slice Ac1_0 c1.1.1.length cc1_0, .int .i64 r25.2.1.2, .int .i64 r25.2.2.1, .int .i64 r25.2.2.2]) (fun hk he h => BlkO.evo (not_hit hk (by decide)) he h)⟩, ⟨[1], [], [], Fct.val 8 (.int .i64 r27)⟩, ⟨[2], [], [], Fct.val 5 (.int .i64 r27)⟩]) (by kernel_rfl) hz24 hd24 (by simp only [List.forall_mem_cons]; exact ⟨b24_gc1, fun _ h => nomatch h⟩) ?_ ?_
  · refine sc (fun _ _ _ _ s _ => px (or_move (s.1.trans e24_0))) ?_
    refine sc (fun own a wx hf hsl hE => ?_) ?_
    · obtain ⟨f_6, b_gc1, -⟩ := hf
      exact px (or_call cf47 (args1 f_6) (block_cursor_number_w _ (forth own (look0 [(1, 1)])) c1 gc1 tc1 Ac1_0 cc1_0 (look0_le rfl) (BlkO.forth_ (m := (look0 [(1, 1)])) b_gc1) (RdO.forth_ (m := (look0 [(1, 1)])) (RdO.evo rfl hE b24_Ac1_0)) r25 hr25) (post_mems0 (m := (look0 [(1, 1)])) (m' := (look0 [(1, 26)])) (hm_of rfl) (fun own' w' a' h1 h => ⟨(), h1, BlkO.back_ h (by decide)⟩)))
    refine sc (fun own a wx hf hsl hE => ?_) ?_
    · obtain ⟨⟨_, f_7, b_gc1⟩, -⟩ := hf
      exact px (or_call cf49 (args1 f_7) (varint_Zag_w _ r25.1  r27 hr27) post_val)
    refine sc (fun _ _ _ f _ _ => px (or_assign f.1)) ?_
    exact steps_nil
  intro own30 a30 w30 hd30 hz30 hk30 hf30 hE30
  have e30_0 := (hk30 0 rfl).trans e24_0
  have e30_1 := (hk30 1 rfl).trans e24_1
  obtain ⟨(e30_5 : a30.eval (.tmp 5) = .int .i64 r27), ⟨_, (f_7 : a30.eval (.tmp 7) = .int .u64 r25.1), (b30_gc1 : BlkO own30 26 w30 gc1 tc1 #[.slice Ac1_0 c1.1.1.length cc1_0, .int .i64 r25.2.1.2, .int .i64 r25.2.2.1, .int .i64 r25.2.2.2])⟩, -⟩ := hf30 [3, 1] rfl
  have hX30 := Evo.step hX24 hown hE30 rfl
  have b30_Ac1_0 := RdO.evo rfl hE30 b24_Ac1_0
  obtain ⟨x31, hx31, hs⟩ := obind hs
  refine rngO_cases hs (fun e33 he33 hs => ?_) (fun r32 hr32 hs => ?_)
  · refine rg_pan_seq 6 (n := 16) (rs := []) (own0 := own30) (K := []) (bs := [0, 0, 0, 4, 12, 30, 63, 127]) (ds := [⟨[], [0], [], Fct.val 9 (.pointer (some ⟨gc1, 0, none⟩))⟩, ⟨[], [1], [], Fct.val 10 (.int .i64 x2)⟩, ⟨[], [5], [], Fct.val 11 (.int .i64 r27)⟩, ⟨[2], [], [], Fct.val 12 (.int .i64 (mx r27 (-4294967296)))⟩, ⟨[3], [], [], Fct.val 13 (.int .i64 (mn (mx r27 (-4294967296)) 4294967296))⟩, ⟨[1, 4], [], [], Fct.val 14 (.int .i64 x31)⟩, ⟨[0, 5], [], [], Fct.any⟩, dN]) (by kernel_rfl) hz30 hd30 nm_ rfl rfl rfl ?_ (ch := pE (.iface 69 (.agg #[.int .i64 e33]))) ?_ ?_
    · refine sc (fun _ _ _ _ s _ => px (or_move (s.1.trans e30_0))) ?_
      refine sc (fun _ _ _ _ s _ => px (or_move (s.1.trans e30_1))) ?_
      refine sc (fun _ _ _ _ s _ => px (or_move (s.1.trans e30_5))) ?_
      refine sc (fun _ _ _ f _ _ => px (or_max f.1 rfl)) ?_
      refine sc (fun _ _ _ f _ _ => px (or_min f.1 rfl)) ?_
      refine sc (fun _ _ _ f _ _ => px (or_add f.1 f.2.1 (osome hx31).symm)) ?_
      exact steps_nil
    · intro own a wx hf hsl hE
      obtain ⟨f_9, f_14, -⟩ := hf
      exact or_callP0 cf45 (args3 f_9 f_14 rfl) (block_cursor_within_step_1_p _ ((c1.1.1, r25.2.1.2), r25.2.2) gc1 tc1 Ac1_0 cc1_0 x31 (BlkO.zero_ (be_ hE b30_gc1)) (RdO.zero (RdO.evo rfl hE b30_Ac1_0)) e33 he33)
    intro own34 a34 w34 hd34 hz34 hk34 hE34
    have hX34 := Evo.step hX30 hown hE34 rfl
    obtain rfl := osome hs
    exact hpan _ _ _ hd34 ⟨own34, rfl, hX34⟩
  refine rg0_seq 16 own30 [0, 0, 0, 4, 12, 30, 63, 127] [⟨[], [0], [], Fct.val 9 (.pointer (some ⟨gc1, 0, none⟩))⟩, ⟨[], [1], [], Fct.val 10 (.int .i64 x2)⟩, ⟨[], [5], [], Fct.val 11 (.int .i64 r27)⟩, ⟨[2], [], [], Fct.val 12 (.int .i64 (mx r27 (-4294967296)))⟩, ⟨[3], [], [], Fct.val 13 (.int .i64 (mn (mx r27 (-4294967296)) 4294967296))⟩, ⟨[1, 4], [], [], Fct.val 14 (.int .i64 x31)⟩, ⟨[0, 5], [], [], Fct.val 15 (.int .i64 r32)⟩, ⟨[6], [], [], Fct.val 4 (.int .i64 r32)⟩] hz30 hd30 (by kernel_rfl) ?_ ?_
  · refine sc (fun _ _ _ _ s _ => px (or_move (s.1.trans e30_0))) ?_
    refine sc (fun _ _ _ _ s _ => px (or_move (s.1.trans e30_1))) ?_
    refine sc (fun _ _ _ _ s _ => px (or_move (s.1.trans e30_5))) ?_
    refine sc (fun _ _ _ f _ _ => px (or_max f.1 rfl)) ?_
    refine sc (fun _ _ _ f _ _ => px (or_min f.1 rfl)) ?_
    refine sc (fun _ _ _ f _ _ => px (or_add f.1 f.2.1 (osome hx31).symm)) ?_
    refine sc (fun _ _ _ f _ hE => px (or_call cf45 (args3 f.1 f.2.1 rfl) (block_cursor_within_step_1_w _ ((c1.1.1, r25.2.1.2), r25.2.2) gc1 tc1 Ac1_0 cc1_0 x31 (BlkO.zero_ (be_ hE b30_gc1)) (RdO.zero (RdO.evo rfl hE b30_Ac1_0)) r32 hr32) post_val)) ?_
    refine sc (fun _ _ _ f _ _ => px (or_assign f.1)) ?_
    exact steps_nil
  intro own35 a35 w35 hd35 hz35 hk35 hf35 hE35
  have e35_0 := (hk35 0 rfl).trans e30_0
  obtain ⟨(e35_4 : a35.eval (.tmp 4) = .int .i64 r32), -⟩ := hf35 [7] rfl
  have hX35 := Evo.step hX30 hown hE35 rfl
  have b35_Ac1_0 := RdO.evo rfl hE35 b30_Ac1_0
  have b35_gc1 := be_ hE35 b30_gc1
  refine fl_ret ?_
  obtain rfl := osome hs
  exact hret _ _ _ _ (.inl rfl) hd35 (results1_ rfl (RVal.tmp_ e35_4)) ⟨(rl [(26, 1)] own35), rfl, (Evo.rl_ hX35 hown rfl), (BlkO.rl_ (mm := [(26, 1)]) b35_gc1)⟩
theorem block_cursor_step_w (w : World) (own : Own) (c1 : ((List Int) × Int) × (Int × Int)) (gc1 : Nat) (tc1 : TypeId) (Ac1_0 : Option Addr) (cc1_0 : Nat) (x2 : Int) (hown : ∀ b, own b ≤ 1) (hgc1 : BlkO own 1 w gc1 tc1 #[.slice Ac1_0 c1.1.1.length cc1_0, .int .i64 c1.1.2, .int .i64 c1.2.1, .int .i64 c1.2.2]) (hAc1_0 : RdO own [0] w R5 Ac1_0 cc1_0 c1.1.1) (r : Int × (((List Int) × Int) × (Int × Int))) (hs : block_cursor_step c1 x2 = some (.inl r)) :
    Calls Try.prog 48 #[.pointer (some ⟨gc1, 0, none⟩), .int .i64 x2] w fun e w' => ∃ (own' : Own), e = .returned (.int .i64 r.1) ∧ Evo [1] own own' w w' ∧ BlkO own' 1 w' gc1 tc1 #[.slice Ac1_0 c1.1.1.length cc1_0, .int .i64 r.2.1.2, .int .i64 r.2.2.1, .int .i64 r.2.2.2] := block_cursor_step_z w own c1 gc1 tc1 Ac1_0 cc1_0 x2 hown hgc1 hAc1_0 (.inl r) hs
theorem block_cursor_step_p (w : World) (own : Own) (c1 : ((List Int) × Int) × (Int × Int)) (gc1 : Nat) (tc1 : TypeId) (Ac1_0 : Option Addr) (cc1_0 : Nat) (x2 : Int) (hown : ∀ b, own b ≤ 1) (hgc1 : BlkO own 1 w gc1 tc1 #[.slice Ac1_0 c1.1.1.length cc1_0, .int .i64 c1.1.2, .int .i64 c1.2.1, .int .i64 c1.2.2]) (hAc1_0 : RdO own [0] w R5 Ac1_0 cc1_0 c1.1.1) (x : Int) (hs : block_cursor_step c1 x2 = some (.inr x)) :
    Calls Try.prog 48 #[.pointer (some ⟨gc1, 0, none⟩), .int .i64 x2] w fun e w' => ∃ own' : Own, e = .panicked (pE (.iface 69 (.agg #[.int .i64 x]))) ∧ Evo [1] own own' w w' := block_cursor_step_z w own c1 gc1 tc1 Ac1_0 cc1_0 x2 hown hgc1 hAc1_0 (.inr x) hs
theorem block_cursor_within_side_z (w : World) (c1 : ((List Int) × Int) × (Int × Int)) (gc1 : Nat) (tc1 : TypeId) (Ac1_0 : Option Addr) (cc1_0 : Nat) (n2 : Int) (hgc1 : BlkO (fun _ => 0) 0 w gc1 tc1 #[.slice Ac1_0 c1.1.1.length cc1_0, .int .i64 c1.1.2, .int .i64 c1.2.1, .int .i64 c1.2.2]) (hAc1_0 : RdO (fun _ => 0) [0] w R5 Ac1_0 cc1_0 c1.1.1) (r : Int ⊕ Int) (hs : block_cursor_within_side c1 n2 = some r) :
    Calls Try.prog 45 #[.pointer (some ⟨gc1, 0, none⟩), .int .i64 n2, .func (.func 21) #[] #[]] w fun e w' => match r with
      | .inl r => ∃ own' : Own, e = .returned (.int .i64 r) ∧ Evo [] (fun _ => 0) own' w w'
      | .inr x => ∃ own' : Own, e = .panicked (pE (.iface 69 (.agg #[.int .i64 x]))) ∧ Evo [] (fun _ => 0) own' w w' := by
  refine fl_enterP (n := 14) rfl rfl rfl (Nat.le_of_ble_eq_true rfl) ?_
  intro a0 Q hd0 hz0 harg hret hpan
  have ha0 := harg 0 _ rfl
  have ha1 := harg 1 _ rfl
  have ha2 := harg 2 _ rfl
  clear harg
  have hE0 : Evo [] (fun _ => 0) (fun _ => 0) w w := Evo.refl _ _ _
  refine rg0_seq 14 (fun _ => 0) (bz 1) [⟨[], [], [], Fct.val 6 (.int .i64 0)⟩] hz0 hd0 (by kernel_rfl) ?_ ?_
  · refine sc (fun _ _ _ _ _ _ => px (or_assign rfl)) ?_
    exact steps_nil
  intro own22 a22 w22 hd22 hz22 hk22 hf22 hE22
  have e22_1 := (hk22 1 rfl).trans ha1
  have e22_2 := (hk22 2 rfl).trans ha2
  have hX22 := es_ hE0 hE22
  refine fl_seq (fun Q23 hn23 hp23 => ?_)
  obtain ⟨r28, hr28, hs⟩ := obind hs
  refine rg0_seq 14 own22 [0, 0, 3, 7] [⟨[], [2], [], Fct.val 7 (.func (.func 21) #[] #[])⟩, ⟨[], [1], [], Fct.val 8 (.int .i64 n2)⟩, ⟨[0, 1], [], [], Fct.val 9 (.bool r28)⟩, ⟨[2], [], [], Fct.val 10 (.bool (!r28))⟩] hz22 hd22 (by kernel_rfl) ?_ ?_
  · refine sc (fun _ _ _ _ s _ => px (or_move (s.1.trans e22_2))) ?_
    refine sc (fun _ _ _ _ s _ => px (or_move (s.1.trans e22_1))) ?_
    refine sc (fun _ _ _ f _ _ => px (or_callf cf21 f.1 (args1 f.2.1) rfl (block_side_w _ n2  r28 hr28) post_val)) ?_
    refine sc (fun _ _ _ f _ _ => px (or_not f.1 rfl)) ?_
    exact steps_nil
  intro own29 a29 w29 hd29 hz29 hk29 hf29 hE29
  have e29_1 := (hk29 1 rfl).trans e22_1
  obtain ⟨(e29_10 : a29.eval (.tmp 10) = .bool (!r28)), -⟩ := hf29 [3] rfl
  have hX29 := es_ hX22 hE29
  refine fl_cond e29_10 hs (fun c30 hs => ?_) (fun c30 hs => ?_)
  · refine rg_pan 2 (n := 14) (rs := []) (own0 := own29) (K := []) (bs := (bz 3)) (ds := [⟨[], [], [], Fct.val 11 (.agg #[.int .i64 5])⟩, ⟨[0], [], [], Fct.val 12 (.iface 69 (.agg #[.int .i64 5]))⟩, ⟨[1], [], [], Fct.any⟩]) (by kernel_rfl) hz29 hd29 nm_ rfl rfl rfl ?_ (ch := pE (.iface 69 (.agg #[.int .i64 5]))) ?_ ?_
    · refine sc (fun _ _ _ _ _ _ => px (or_k [] rfl rfl trivial (by kernel_rfl))) ?_
      refine sc (fun _ _ _ f _ _ => px (or_k [(11, .agg #[.int .i64 5])] rfl rfl ⟨f.1, trivial⟩ (by kernel_rfl))) ?_
      exact steps_nil
    · intro own a wx hf hsl hE
      obtain ⟨f_12, -⟩ := hf
      exact or_panic f_12
    intro own31 a31 w31 hd31 hz31 hk31 hE31
    have hX31 := es_ hX29 hE31
    refine hp23 _ _ _ rfl ?_
    obtain rfl := osome hs
    exact hpan _ _ _ hd31 ⟨own31, rfl, hX31⟩
  refine fl_skip ?_
  refine hn23 _ _ ?_
  refine rg0_seq 14 own29 (bz 2) [⟨[], [1], [], Fct.val 13 (.int .i64 n2)⟩, ⟨[0], [], [], Fct.val 6 (.int .i64 n2)⟩] hz29 hd29 (by kernel_rfl) ?_ ?_
  · refine sc (fun _ _ _ _ s _ => px (or_move (s.1.trans e29_1))) ?_
    refine sc (fun _ _ _ f _ _ => px (or_assign f.1)) ?_
    exact steps_nil
  intro own32 a32 w32 hd32 hz32 hk32 hf32 hE32
  obtain ⟨(e32_6 : a32.eval (.tmp 6) = .int .i64 n2), -⟩ := hf32 [1] rfl
  have hX32 := es_ hX29 hE32
  refine fl_ret ?_
  obtain rfl := osome hs
  exact hret _ _ _ _ (.inl rfl) hd32 (results1_ rfl (RVal.tmp_ e32_6)) ⟨own32, rfl, hX32⟩
theorem block_cursor_within_side_w (w : World) (c1 : ((List Int) × Int) × (Int × Int)) (gc1 : Nat) (tc1 : TypeId) (Ac1_0 : Option Addr) (cc1_0 : Nat) (n2 : Int) (hgc1 : BlkO (fun _ => 0) 0 w gc1 tc1 #[.slice Ac1_0 c1.1.1.length cc1_0, .int .i64 c1.1.2, .int .i64 c1.2.1, .int .i64 c1.2.2]) (hAc1_0 : RdO (fun _ => 0) [0] w R5 Ac1_0 cc1_0 c1.1.1) (r : Int) (hs : block_cursor_within_side c1 n2 = some (.inl r)) :
    Calls Try.prog 45 #[.pointer (some ⟨gc1, 0, none⟩), .int .i64 n2, .func (.func 21) #[] #[]] w fun e w' => ∃ own' : Own, e = .returned (.int .i64 r) ∧ Evo [] (fun _ => 0) own' w w' := block_cursor_within_side_z w c1 gc1 tc1 Ac1_0 cc1_0 n2 hgc1 hAc1_0 (.inl r) hs
theorem block_cursor_within_side_p (w : World) (c1 : ((List Int) × Int) × (Int × Int)) (gc1 : Nat) (tc1 : TypeId) (Ac1_0 : Option Addr) (cc1_0 : Nat) (n2 : Int) (hgc1 : BlkO (fun _ => 0) 0 w gc1 tc1 #[.slice Ac1_0 c1.1.1.length cc1_0, .int .i64 c1.1.2, .int .i64 c1.2.1, .int .i64 c1.2.2]) (hAc1_0 : RdO (fun _ => 0) [0] w R5 Ac1_0 cc1_0 c1.1.1) (x : Int) (hs : block_cursor_within_side c1 n2 = some (.inr x)) :
    Calls Try.prog 45 #[.pointer (some ⟨gc1, 0, none⟩), .int .i64 n2, .func (.func 21) #[] #[]] w fun e w' => ∃ own' : Own, e = .panicked (pE (.iface 69 (.agg #[.int .i64 x]))) ∧ Evo [] (fun _ => 0) own' w w' := block_cursor_within_side_z w c1 gc1 tc1 Ac1_0 cc1_0 n2 hgc1 hAc1_0 (.inr x) hs
theorem block_cursor_within_ref_z (w : World) (c1 : ((List Int) × Int) × (Int × Int)) (gc1 : Nat) (tc1 : TypeId) (Ac1_0 : Option Addr) (cc1_0 : Nat) (n2 : Int) (hgc1 : BlkO (fun _ => 0) 0 w gc1 tc1 #[.slice Ac1_0 c1.1.1.length cc1_0, .int .i64 c1.1.2, .int .i64 c1.2.1, .int .i64 c1.2.2]) (hAc1_0 : RdO (fun _ => 0) [0] w R5 Ac1_0 cc1_0 c1.1.1) (r : Int ⊕ Int) (hs : block_cursor_within_ref c1 n2 = some r) :
    Calls Try.prog 45 #[.pointer (some ⟨gc1, 0, none⟩), .int .i64 n2, .func (.func 23) #[] #[]] w fun e w' => match r with
      | .inl r => ∃ own' : Own, e = .returned (.int .i64 r) ∧ Evo [] (fun _ => 0) own' w w'
      | .inr x => ∃ own' : Own, e = .panicked (pE (.iface 69 (.agg #[.int .i64 x]))) ∧ Evo [] (fun _ => 0) own' w w' := by
  refine fl_enterP (n := 14) rfl rfl rfl (Nat.le_of_ble_eq_true rfl) ?_
  intro a0 Q hd0 hz0 harg hret hpan
  have ha0 := harg 0 _ rfl
  have ha1 := harg 1 _ rfl
  have ha2 := harg 2 _ rfl
  clear harg
  have hE0 : Evo [] (fun _ => 0) (fun _ => 0) w w := Evo.refl _ _ _
  refine rg0_seq 14 (fun _ => 0) (bz 1) [⟨[], [], [], Fct.val 6 (.int .i64 0)⟩] hz0 hd0 (by kernel_rfl) ?_ ?_
  · refine sc (fun _ _ _ _ _ _ => px (or_assign rfl)) ?_
    exact steps_nil
  intro own22 a22 w22 hd22 hz22 hk22 hf22 hE22
  have e22_1 := (hk22 1 rfl).trans ha1
  have e22_2 := (hk22 2 rfl).trans ha2
  have hX22 := es_ hE0 hE22
  refine fl_seq (fun Q23 hn23 hp23 => ?_)
  obtain ⟨r28, hr28, hs⟩ := obind hs
  refine rg0_seq 14 own22 [0, 0, 3, 7] [⟨[], [2], [], Fct.val 7 (.func (.func 23) #[] #[])⟩, ⟨[], [1], [], Fct.val 8 (.int .i64 n2)⟩, ⟨[0, 1], [], [], Fct.val 9 (.bool r28)⟩, ⟨[2], [], [], Fct.val 10 (.bool (!r28))⟩] hz22 hd22 (by kernel_rfl) ?_ ?_
  · refine sc (fun _ _ _ _ s _ => px (or_move (s.1.trans e22_2))) ?_
    refine sc (fun _ _ _ _ s _ => px (or_move (s.1.trans e22_1))) ?_
    refine sc (fun _ _ _ f _ _ => px (or_callf cf23 f.1 (args1 f.2.1) rfl (block_ref_w _ n2  r28 hr28) post_val)) ?_
    refine sc (fun _ _ _ f _ _ => px (or_not f.1 rfl)) ?_
    exact steps_nil
  intro own29 a29 w29 hd29 hz29 hk29 hf29 hE29
  have e29_1 := (hk29 1 rfl).trans e22_1
  obtain ⟨(e29_10 : a29.eval (.tmp 10) = .bool (!r28)), -⟩ := hf29 [3] rfl
  have hX29 := es_ hX22 hE29
  refine fl_cond e29_10 hs (fun c30 hs => ?_) (fun c30 hs => ?_)
  · refine rg_pan 2 (n := 14) (rs := []) (own0 := own29) (K := []) (bs := (bz 3)) (ds := [⟨[], [], [], Fct.val 11 (.agg #[.int .i64 5])⟩, ⟨[0], [], [], Fct.val 12 (.iface 69 (.agg #[.int .i64 5]))⟩, ⟨[1], [], [], Fct.any⟩]) (by kernel_rfl) hz29 hd29 nm_ rfl rfl rfl ?_ (ch := pE (.iface 69 (.agg #[.int .i64 5]))) ?_ ?_
    · refine sc (fun _ _ _ _ _ _ => px (or_k [] rfl rfl trivial (by kernel_rfl))) ?_
      refine sc (fun _ _ _ f _ _ => px (or_k [(11, .agg #[.int .i64 5])] rfl rfl ⟨f.1, trivial⟩ (by kernel_rfl))) ?_
      exact steps_nil
    · intro own a wx hf hsl hE
      obtain ⟨f_12, -⟩ := hf
      exact or_panic f_12
    intro own31 a31 w31 hd31 hz31 hk31 hE31
    have hX31 := es_ hX29 hE31
    refine hp23 _ _ _ rfl ?_
    obtain rfl := osome hs
    exact hpan _ _ _ hd31 ⟨own31, rfl, hX31⟩
  refine fl_skip ?_
  refine hn23 _ _ ?_
  refine rg0_seq 14 own29 (bz 2) [⟨[], [1], [], Fct.val 13 (.int .i64 n2)⟩, ⟨[0], [], [], Fct.val 6 (.int .i64 n2)⟩] hz29 hd29 (by kernel_rfl) ?_ ?_
  · refine sc (fun _ _ _ _ s _ => px (or_move (s.1.trans e29_1))) ?_
    refine sc (fun _ _ _ f _ _ => px (or_assign f.1)) ?_
    exact steps_nil
  intro own32 a32 w32 hd32 hz32 hk32 hf32 hE32
  obtain ⟨(e32_6 : a32.eval (.tmp 6) = .int .i64 n2), -⟩ := hf32 [1] rfl
  have hX32 := es_ hX29 hE32
  refine fl_ret ?_
  obtain rfl := osome hs
  exact hret _ _ _ _ (.inl rfl) hd32 (results1_ rfl (RVal.tmp_ e32_6)) ⟨own32, rfl, hX32⟩
theorem block_cursor_within_ref_w (w : World) (c1 : ((List Int) × Int) × (Int × Int)) (gc1 : Nat) (tc1 : TypeId) (Ac1_0 : Option Addr) (cc1_0 : Nat) (n2 : Int) (hgc1 : BlkO (fun _ => 0) 0 w gc1 tc1 #[.slice Ac1_0 c1.1.1.length cc1_0, .int .i64 c1.1.2, .int .i64 c1.2.1, .int .i64 c1.2.2]) (hAc1_0 : RdO (fun _ => 0) [0] w R5 Ac1_0 cc1_0 c1.1.1) (r : Int) (hs : block_cursor_within_ref c1 n2 = some (.inl r)) :
    Calls Try.prog 45 #[.pointer (some ⟨gc1, 0, none⟩), .int .i64 n2, .func (.func 23) #[] #[]] w fun e w' => ∃ own' : Own, e = .returned (.int .i64 r) ∧ Evo [] (fun _ => 0) own' w w' := block_cursor_within_ref_z w c1 gc1 tc1 Ac1_0 cc1_0 n2 hgc1 hAc1_0 (.inl r) hs
theorem block_cursor_within_ref_p (w : World) (c1 : ((List Int) × Int) × (Int × Int)) (gc1 : Nat) (tc1 : TypeId) (Ac1_0 : Option Addr) (cc1_0 : Nat) (n2 : Int) (hgc1 : BlkO (fun _ => 0) 0 w gc1 tc1 #[.slice Ac1_0 c1.1.1.length cc1_0, .int .i64 c1.1.2, .int .i64 c1.2.1, .int .i64 c1.2.2]) (hAc1_0 : RdO (fun _ => 0) [0] w R5 Ac1_0 cc1_0 c1.1.1) (x : Int) (hs : block_cursor_within_ref c1 n2 = some (.inr x)) :
    Calls Try.prog 45 #[.pointer (some ⟨gc1, 0, none⟩), .int .i64 n2, .func (.func 23) #[] #[]] w fun e w' => ∃ own' : Own, e = .panicked (pE (.iface 69 (.agg #[.int .i64 x]))) ∧ Evo [] (fun _ => 0) own' w w' := block_cursor_within_ref_z w c1 gc1 tc1 Ac1_0 cc1_0 n2 hgc1 hAc1_0 (.inr x) hs
set_option maxHeartbeats 2000000 in
theorem block_cursor_net_z (w : World) (own : Own) (c1 : ((List Int) × Int) × (Int × Int)) (gc1 : Nat) (tc1 : TypeId) (Ac1_0 : Option Addr) (cc1_0 : Nat) (hown : ∀ b, own b ≤ 1) (hgc1 : BlkO own 1 w gc1 tc1 #[.slice Ac1_0 c1.1.1.length cc1_0, .int .i64 c1.1.2, .int .i64 c1.2.1, .int .i64 c1.2.2]) (hAc1_0 : RdO own [0] w R5 Ac1_0 cc1_0 c1.1.1) (r : (((List ((List (Int × Int)) × Int × Int)) × (List (List (List Int)))) × (((List Int) × Int) × (Int × Int))) ⊕ Int) (hs : block_cursor_net c1 = some r) :
    Calls Try.prog 25 #[.pointer (some ⟨gc1, 0, none⟩)] w fun e w' => match r with
      | .inl r => ∃ (own' : Own) (x : (Option Addr × Nat) × (Option Addr × Nat)), e = .returned (.agg #[.slice x.1.1 r.1.1.length x.1.2, .slice x.2.1 r.1.2.length x.2.2]) ∧ Evo [1] own own' w w' ∧ RwO own' 2 [3] w' 59 R59 x.1.1 x.1.2 r.1.1 ∧ RwO own' 4 [5] w' 27 R27 x.2.1 x.2.2 r.1.2 ∧ BlkO own' 1 w' gc1 tc1 #[.slice Ac1_0 c1.1.1.length cc1_0, .int .i64 r.2.1.2, .int .i64 r.2.2.1, .int .i64 r.2.2.2]
      | .inr x => ∃ own' : Own, e = .panicked (pE (.iface 69 (.agg #[.int .i64 x]))) ∧ Evo [1] own own' w w' := by
  refine fl_enterP (n := 104) rfl rfl rfl (Nat.le_of_ble_eq_true rfl) ?_
  intro a0 Q hd0 hz0 harg hret hpan
  have ha0 := harg 0 _ rfl
  clear harg
  have hE0 : Evo [1] own own w w := Evo.refl _ _ _
  refine rg0_seq 104 own (bz 1) [⟨[], [], [], Fct.blk 1785 2 (fun g => .pointer (some ⟨g, 0, none⟩)) 25 #[.slice none 0 0, .slice none 0 0]⟩] hz0 hd0 (by kernel_rfl) ?_ ?_
  · refine sc (fun _ _ _ _ _ _ => px (or_new [] rfl rfl trivial (by kernel_rfl))) ?_
    exact steps_nil
  intro own1786 a1786 w1786 hd1786 hz1786 hk1786 hf1786 hE1786
  have e1786_0 := (hk1786 0 rfl).trans ha0
  obtain ⟨⟨g1784, (e1786_2 : a1786.eval (.tmp 2) = .pointer (some ⟨g1784, 0, none⟩)), (b1786_g1784 : BlkO own1786 1785 w1786 g1784 25 #[.slice none 0 0, .slice none 0 0])⟩, -⟩ := hf1786 [0] rfl
  have hX1786 := Evo.step hE0 hown hE1786 rfl
  have b1786_Ac1_0 := RdO.evo rfl hE1786 hAc1_0
  have b1786_gc1 := be_ hE1786 hgc1
  refine rg0_seq 104 own1786 (bz 1) [⟨[], [], [], Fct.blk 1788 3 (fun g => .pointer (some ⟨g, 0, none⟩)) 25 #[.slice none 0 0, .slice none 0 0]⟩] hz1786 hd1786 (by kernel_rfl) ?_ ?_
  · refine sc (fun _ _ _ _ _ _ => px (or_new [] rfl rfl trivial (by kernel_rfl))) ?_
    exact steps_nil
  intro own1789 a1789 w1789 hd1789 hz1789 hk1789 hf1789 hE1789
  have e1789_0 := (hk1789 0 rfl).trans e1786_0
  have e1789_2 := (hk1789 2 rfl).trans e1786_2
  obtain ⟨⟨g1787, (e1789_3 : a1789.eval (.tmp 3) = .pointer (some ⟨g1787, 0, none⟩)), (b1789_g1787 : BlkO own1789 1788 w1789 g1787 25 #[.slice none 0 0, .slice none 0 0])⟩, -⟩ := hf1789 [0] rfl
  have hX1789 := Evo.step hX1786 hown hE1789 rfl
  have b1789_Ac1_0 := RdO.evo rfl hE1789 b1786_Ac1_0
  have b1789_gc1 := be_ hE1789 b1786_gc1
  have b1789_g1784 := be_ hE1789 b1786_g1784
  refine rg_plain_seq (n := 104) (rs := []) (own0 := own1789) (K := [1791, 1793, 1795, 1797, 1799]) (bs := [0, 0, 0, 0, 0, 31, 63, 127, 255, 511]) (ds := [⟨[], [], [], Fct.blk 1791 4 (fun g => .pointer (some ⟨g, 0, none⟩)) 3 #[.int .i64 0]⟩, ⟨[], [], [], Fct.blk 1793 5 (fun g => .pointer (some ⟨g, 0, none⟩)) 3 #[.int .i64 0]⟩, ⟨[], [], [], Fct.blk 1795 6 (fun g => .pointer (some ⟨g, 0, none⟩)) 3 #[.int .i64 0]⟩, ⟨[], [], [], Fct.blk 1797 7 (fun g => .pointer (some ⟨g, 0, none⟩)) 3 #[.int .i64 0]⟩, ⟨[], [], [], Fct.blk 1799 8 (fun g => .pointer (some ⟨g, 0, none⟩)) 3 #[.int .i64 0]⟩, ⟨[0], [], [1791], Fct.blk 1800 4 (fun g => .pointer (some ⟨g, 0, none⟩)) 3 #[.int .i64 65536]⟩, ⟨[1], [], [1793], Fct.blk 1801 5 (fun g => .pointer (some ⟨g, 0, none⟩)) 3 #[.int .i64 65536]⟩, ⟨[2], [], [1795], Fct.blk 1802 6 (fun g => .pointer (some ⟨g, 0, none⟩)) 3 #[.int .i64 32]⟩, ⟨[3], [], [1797], Fct.blk 1803 7 (fun g => .pointer (some ⟨g, 0, none⟩)) 3 #[.int .i64 64]⟩, ⟨[4], [], [1799], Fct.blk 1804 8 (fun g => .pointer (some ⟨g, 0, none⟩)) 3 #[.int .i64 65536]⟩]) (by kernel_rfl) hz1789 hd1789 nm_ ?_ ?_
  · refine sc (fun _ _ _ _ _ _ => px (or_new [] rfl rfl trivial (by kernel_rfl))) ?_
    refine sc (fun _ _ _ _ _ _ => px (or_new [] rfl rfl trivial (by kernel_rfl))) ?_
    refine sc (fun _ _ _ _ _ _ => px (or_new [] rfl rfl trivial (by kernel_rfl))) ?_
    refine sc (fun _ _ _ _ _ _ => px (or_new [] rfl rfl trivial (by kernel_rfl))) ?_
    refine sc (fun _ _ _ _ _ _ => px (or_new [] rfl rfl trivial (by kernel_rfl))) ?_
    refine sc (fun own a wx hf hsl hE => ?_) ?_
    · obtain ⟨⟨g1790, f_4, b_g1790⟩, -⟩ := hf
      exact px (or_store1 (lab := 1791) (lab2 := 1800) ts3 f_4 rfl b_g1790 (by simp) rfl (mem_of rfl) (by decide) rfl (fun own' a' w' ha hb => ⟨_, (ha 4).trans f_4, hb⟩))
    refine sc (fun own a wx hf hsl hE => ?_) ?_
    · obtain ⟨⟨g1792, f_5, b_g1792⟩, -⟩ := hf
      exact px (or_store1 (lab := 1793) (lab2 := 1801) ts3 f_5 rfl b_g1792 (by simp) rfl (mem_of rfl) (by decide) rfl (fun own' a' w' ha hb => ⟨_, (ha 5).trans f_5, hb⟩))
    refine sc (fun own a wx hf hsl hE => ?_) ?_
    · obtain ⟨⟨g1794, f_6, b_g1794⟩, -⟩ := hf
      exact px (or_store1 (lab := 1795) (lab2 := 1802) ts3 f_6 rfl b_g1794 (by simp) rfl (mem_of rfl) (by decide) rfl (fun own' a' w' ha hb => ⟨_, (ha 6).trans f_6, hb⟩))
    refine sc (fun own a wx hf hsl hE => ?_) ?_
    · obtain ⟨⟨g1796, f_7, b_g1796⟩, -⟩ := hf
      exact px (or_store1 (lab := 1797) (lab2 := 1803) ts3 f_7 rfl b_g1796 (by simp) rfl (mem_of rfl) (by decide) rfl (fun own' a' w' ha hb => ⟨_, (ha 7).trans f_7, hb⟩))
    refine sc (fun own a wx hf hsl hE => ?_) ?_
    · obtain ⟨⟨g1798, f_8, b_g1798⟩, -⟩ := hf
      exact px (or_store1 (lab := 1799) (lab2 := 1804) ts3 f_8 rfl b_g1798 (by simp) rfl (mem_of rfl) (by decide) rfl (fun own' a' w' ha hb => ⟨_, (ha 8).trans f_8, hb⟩))
    exact steps_nil
  intro own1805 a1805 w1805 hd1805 hz1805 hk1805 hf1805 hE1805
  have e1805_0 := (hk1805 0 rfl).trans e1789_0
  have e1805_2 := (hk1805 2 rfl).trans e1789_2
  have e1805_3 := (hk1805 3 rfl).trans e1789_3
  obtain ⟨⟨g1790, (e1805_4 : a1805.eval (.tmp 4) = .pointer (some ⟨g1790, 0, none⟩)), (b1805_g1790 : BlkO own1805 1800 w1805 g1790 3 #[.int .i64 65536])⟩, ⟨g1792, (e1805_5 : a1805.eval (.tmp 5) = .pointer (some ⟨g1792, 0, none⟩)), (b1805_g1792 : BlkO own1805 1801 w1805 g1792 3 #[.int .i64 65536])⟩, ⟨g1794, (e1805_6 : a1805.eval (.tmp 6) = .pointer (some ⟨g1794, 0, none⟩)), (b1805_g1794 : BlkO own1805 1802 w1805 g1794 3 #[.int .i64 32])⟩, ⟨g1796, (e1805_7 : a1805.eval (.tmp 7) = .pointer (some ⟨g1796, 0, none⟩)), (b1805_g1796 : BlkO own1805 1803 w1805 g1796 3 #[.int .i64 64])⟩, ⟨g1798, (e1805_8 : a1805.eval (.tmp 8) = .pointer (some ⟨g1798, 0, none⟩)), (b1805_g1798 : BlkO own1805 1804 w1805 g1798 3 #[.int .i64 65536])⟩, -⟩ := hf1805 [5, 6, 7, 8, 9] rfl
  have hX1805 := Evo.step hX1789 hown hE1805 rfl
  have b1805_Ac1_0 := RdO.evo rfl hE1805 b1789_Ac1_0
  have b1805_gc1 := be_ hE1805 b1789_gc1
  have b1805_g1784 := be_ hE1805 b1789_g1784
  have b1805_g1787 := be_ hE1805 b1789_g1787
  refine fl_seq (fun Q1806 hn1806 hp1806 => ?_)
  refine rngO_cases hs (fun e1810 he1810 hs => ?_) (fun r1807 hr1807 hs => ?_)
  · refine rg_pan_seq 1 (n := 104) (rs := [Fct.at_ 1 gc1 tc1 #[.slice Ac1_0 c1.1.1.length cc1_0, .int .i64 c1.1.2, .int .i64 c1.2.1, .int .i64 c1.2.2], Fct.at_ 1800 g1790 3 #[.int .i64 65536]]) (own0 := own1805) (K := [1, 1800]) (bs := [0, 1, 0]) (ds := [⟨[], [0], [], Fct.val 13 (.pointer (some ⟨gc1, 0, none⟩))⟩, ⟨[0, 3, 4], [4], [1, 1800], Fct.any⟩, dN]) (by kernel_rfl) hz1805 hd1805 (by simp only [List.forall_mem_cons]; exact ⟨b1805_gc1, b1805_g1790, fun _ h => nomatch h⟩) rfl rfl rfl ?_ (ch := pE (.iface 69 (.agg #[.int .i64 e1810]))) ?_ ?_
    · refine sc (fun _ _ _ _ s _ => px (or_move (s.1.trans e1805_0))) ?_
      exact steps_nil
    · intro own a wx hf hsl hE
      obtain ⟨f_13, b_gc1, b_g1790, -⟩ := hf
      obtain ⟨s_4, -⟩ := hsl
      exact or_callP cf44 (args2 f_13 (s_4.trans e1805_4)) (block_cursor_count_p _ (forth own (look0 [(1, 1), (1800, 2)])) c1 gc1 tc1 Ac1_0 cc1_0 65536 g1790 3 (look0_le rfl) (BlkO.forth_ (m := (look0 [(1, 1), (1800, 2)])) b_gc1) (RdO.forth_ (m := (look0 [(1, 1), (1800, 2)])) (RdO.evo rfl hE b1805_Ac1_0)) (BlkO.forth_ (m := (look0 [(1, 1), (1800, 2)])) b_g1790) e1810 he1810) (m' := look [(1, 1), (2, 1800)]) (hm_of rfl)
    intro own1811 a1811 w1811 hd1811 hz1811 hk1811 hE1811
    have hX1811 := Evo.step hX1805 hown hE1811 rfl
    refine hp1806 _ _ _ rfl ?_
    obtain rfl := osome hs
    exact hpan _ _ _ hd1811 ⟨own1811, rfl, hX1811⟩
  refine rg_plain_seq (n := 104) (rs := [Fct.at_ 1 gc1 tc1 #[.slice Ac1_0 c1.1.1.length cc1_0, .int .i64 c1.1.2, .int .i64 c1.2.1, .int .i64 c1.2.2], Fct.at_ 1800 g1790 3 #[.int .i64 65536]]) (own0 := own1805) (K := [1, 1800]) (bs := [0, 1, 0]) (ds := [⟨[], [0], [], Fct.val 13 (.pointer (some ⟨gc1, 0, none⟩))⟩, ⟨[0, 3, 4], [4], [1, 1800], Fct.mems [1808, 1809] 14 (fun (_ : Unit) => .int .i64 r1807.1) (fun (_ : Unit) own w => BlkO own 1808 w gc1 tc1 #[.slice Ac1_0 c1.1.1.length cc1_0, .int .i64 r1807.2.1.1.2, .int .i64 r1807.2.1.2.1, .int .i64 r1807.2.1.2.2] ∧ BlkO own 1809 w g1790 3 #[.int .i64 r1807.2.2]) (fun hk he h => ⟨BlkO.evo (not_hit hk (by decide)) he h.1, BlkO.evo (not_hit hk (by decide)) he h.2⟩)⟩, ⟨[], [], [], Fct.val 15 (.int .i64 0)⟩]) (by kernel_rfl) hz1805 hd1805 (by simp only [List.forall_mem_cons]; exact ⟨b1805_gc1, b1805_g1790, fun _ h => nomatch h⟩) ?_ ?_
  · refine sc (fun _ _ _ _ s _ => px (or_move (s.1.trans e1805_0))) ?_
    refine sc (fun own a wx hf hsl hE => ?_) ?_
    · obtain ⟨f_13, b_gc1, b_g1790, -⟩ := hf
      obtain ⟨s_4, -⟩ := hsl
      exact px (or_call cf44 (args2 f_13 (s_4.trans e1805_4)) (block_cursor_count_w _ (forth own (look0 [(1, 1), (1800, 2)])) c1 gc1 tc1 Ac1_0 cc1_0 65536 g1790 3 (look0_le rfl) (BlkO.forth_ (m := (look0 [(1, 1), (1800, 2)])) b_gc1) (RdO.forth_ (m := (look0 [(1, 1), (1800, 2)])) (RdO.evo rfl hE b1805_Ac1_0)) (BlkO.forth_ (m := (look0 [(1, 1), (1800, 2)])) b_g1790) r1807 hr1807) (post_mems0 (m := (look0 [(1, 1), (1800, 2)])) (m' := (look0 [(1, 1808), (2, 1809)])) (hm_of rfl) (fun own' w' a' h1 h => ⟨(), h1, ⟨BlkO.back_ h.1 (by decide), BlkO.back_ h.2 (by decide)⟩⟩)))
    refine sc (fun _ _ _ _ _ _ => px (or_move rfl)) ?_
    exact steps_nil
  intro own1812 a1812 w1812 hd1812 hz1812 hk1812 hf1812 hE1812
  have e1812_0 := (hk1812 0 rfl).trans e1805_0
  have e1812_2 := (hk1812 2 rfl).trans e1805_2
  have e1812_3 := (hk1812 3 rfl).trans e1805_3
  have e1812_5 := (hk1812 5 rfl).trans e1805_5
  have e1812_6 := (hk1812 6 rfl).trans e1805_6
  have e1812_7 := (hk1812 7 rfl).trans e1805_7
  have e1812_8 := (hk1812 8 rfl).trans e1805_8
  obtain ⟨⟨_, (e1812_14 : a1812.eval (.tmp 14) = .int .i64 r1807.1), (b1812_gc1 : BlkO own1812 1808 w1812 gc1 tc1 #[.slice Ac1_0 c1.1.1.length cc1_0, .int .i64 r1807.2.1.1.2, .int .i64 r1807.2.1.2.1, .int .i64 r1807.2.1.2.2]), (b_g1790 : BlkO own1812 1809 w1812 g1790 3 #[.int .i64 r1807.2.2])⟩, (e1812_15 : a1812.eval (.tmp 15) = .int .i64 0), -⟩ := hf1812 [1, 2] rfl
  have hX1812 := Evo.step hX1805 hown hE1812 rfl
  have b1812_Ac1_0 := RdO.evo rfl hE1812 b1805_Ac1_0
  have b1812_g1784 := be_ hE1812 b1805_g1784
  have b1812_g1787 := be_ hE1812 b1805_g1787
  have b1812_g1792 := be_ hE1812 b1805_g1792
  have b1812_g1794 := be_ hE1812 b1805_g1794
  have b1812_g1796 := be_ hE1812 b1805_g1796
  have b1812_g1798 := be_ hE1812 b1805_g1798
  refine fl_block (fun Q1813 hn1813 hx1813 hp1813 => ?_)
  refine fl_loop (body := (fun s => block_cursor_net_b1 c1 r1807 s.1 s.2.1 s.2.2.1 s.2.2.2.1 s.2.2.2.2.1 s.2.2.2.2.2)) (z := r) (show loopO _ _ = _ from hs) (fun (s : Int × Int × Int × (List ((List (Int × Int)) × Int × Int)) × Int × Int) a wx => match s with | (c1983, c1984, c1985, out1989, points1993, x1994) => ∃ (ox : Own) (A1987 : Option Addr) (c1988 : Nat), a.defers = [] ∧ a.tmps.size = 104 ∧ a.eval (.tmp 0) = .pointer (some ⟨gc1, 0, none⟩) ∧ a.eval (.tmp 2) = .pointer (some ⟨g1784, 0, none⟩) ∧ a.eval (.tmp 3) = .pointer (some ⟨g1787, 0, none⟩) ∧ a.eval (.tmp 5) = .pointer (some ⟨g1792, 0, none⟩) ∧ a.eval (.tmp 6) = .pointer (some ⟨g1794, 0, none⟩) ∧ a.eval (.tmp 7) = .pointer (some ⟨g1796, 0, none⟩) ∧ a.eval (.tmp 8) = .pointer (some ⟨g1798, 0, none⟩) ∧ a.eval (.tmp 14) = .int .i64 r1807.1 ∧ a.eval (.tmp 15) = .int .i64 x1994 ∧ Evo [1] own ox w wx ∧ BlkO ox 1982 wx gc1 tc1 #[.slice Ac1_0 c1.1.1.length cc1_0, .int .i64 c1983, .int .i64 c1984, .int .i64 c1985] ∧ RdO ox [0] wx R5 Ac1_0 cc1_0 c1.1.1 ∧ BlkO ox 1785 wx g1784 25 #[.slice none 0 0, .slice none 0 0] ∧ BlkO ox 1986 wx g1787 25 #[.slice A1987 out1989.length c1988, .slice none 0 0] ∧ RwO ox 1990 [1991] wx 59 R59 A1987 c1988 out1989 ∧ BlkO ox 1992 wx g1792 3 #[.int .i64 points1993] ∧ BlkO ox 1802 wx g1794 3 #[.int .i64 32] ∧ BlkO ox 1803 wx g1796 3 #[.int .i64 64] ∧ BlkO ox 1804 wx g1798 3 #[.int .i64 65536]) ?_ ?_
  · exact ⟨(rl [(1788, 1986), (1801, 1992), (1808, 1982)] own1812), none, 0, hd1812, hz1812, e1812_0, e1812_2, e1812_3, e1812_5, e1812_6, e1812_7, e1812_8, e1812_14, e1812_15, (Evo.rl_ hX1812 hown rfl), (BlkO.rl_ (mm := [(1788, 1986), (1801, 1992), (1808, 1982)]) b1812_gc1), (RdO.rl_ (mm := [(1788, 1986), (1801, 1992), (1808, 1982)]) b1812_Ac1_0), (BlkO.rl_ (mm := [(1788, 1986), (1801, 1992), (1808, 1982)]) b1812_g1784), (BlkO.rl_ (mm := [(1788, 1986), (1801, 1992), (1808, 1982)]) b1812_g1787), RwO.nil_, (BlkO.rl_ (mm := [(1788, 1986), (1801, 1992), (1808, 1982)]) b1812_g1792), (BlkO.rl_ (mm := [(1788, 1986), (1801, 1992), (1808, 1982)]) b1812_g1794), (BlkO.rl_ (mm := [(1788, 1986), (1801, 1992), (1808, 1982)]) b1812_g1796), (BlkO.rl_ (mm := [(1788, 1986), (1801, 1992), (1808, 1982)]) b1812_g1798)⟩
  · rintro ⟨c1983, c1984, c1985, out1989, points1993, x1994⟩ zz2165 a2165 w2165 ⟨own2165, A1987, c1988, hd2166, hz2166, e2166_0, e2166_2, e2166_3, e2166_5, e2166_6, e2166_7, e2166_8, e2166_14, e2166_15, hE2166, b2166_gc1, b2166_Ac1_0, b2166_g1784, b2166_g1787, b2166_A1987, b2166_g1792, b2166_g1794, b2166_g1796, b2166_g1798⟩ hs Q2165 hn2165 hp2165 hz2165
    have hs : block_cursor_net_b1 c1 r1807 c1983 c1984 c1985 out1989 points1993 x1994 = some zz2165 := hs
    refine rg0_seq 104 own2165 (bz 1) [⟨[], [15, 14], [], Fct.val 16 (.bool (decide (x1994 < r1807.1)))⟩] hz2166 hd2166 (by kernel_rfl) ?_ ?_
    · refine sc (fun _ _ _ _ s _ => px (or_lss (s.1.trans e2166_15) (s.2.1.trans e2166_14) rfl)) ?_
      exact steps_nil
    intro own2167 a2167 w2167 hd2167 hz2167 hk2167 hf2167 hE2167
    have e2167_0 := (hk2167 0 rfl).trans e2166_0
    have e2167_2 := (hk2167 2 rfl).trans e2166_2
    have e2167_3 := (hk2167 3 rfl).trans e2166_3
    have e2167_5 := (hk2167 5 rfl).trans e2166_5
    have e2167_6 := (hk2167 6 rfl).trans e2166_6
    have e2167_7 := (hk2167 7 rfl).trans e2166_7
    have e2167_8 := (hk2167 8 rfl).trans e2166_8
    have e2167_14 := (hk2167 14 rfl).trans e2166_14
    have e2167_15 := (hk2167 15 rfl).trans e2166_15
    obtain ⟨(e2167_16 : a2167.eval (.tmp 16) = .bool (decide (x1994 < r1807.1))), -⟩ := hf2167 [0] rfl
    have hX2167 := Evo.step hE2166 hown hE2167 rfl
    have b2167_gc1 := be_ hE2167 b2166_gc1
    have b2167_Ac1_0 := RdO.evo rfl hE2167 b2166_Ac1_0
    have b2167_g1784 := be_ hE2167 b2166_g1784
    have b2167_g1787 := be_ hE2167 b2166_g1787
    have b2167_A1987 := re_ hE2167 b2166_A1987
    have b2167_g1792 := be_ hE2167 b2166_g1792
    have b2167_g1794 := be_ hE2167 b2166_g1794
    have b2167_g1796 := be_ hE2167 b2166_g1796
    have b2167_g1798 := be_ hE2167 b2166_g1798
    refine fl_seq (fun Q2168 hn2168 hp2168 => ?_)
    refine fl_cond e2167_16 hs (fun c2169 hs => ?_) (fun c2169 hs => ?_)
    · refine fl_skip ?_
      refine hn2168 _ _ ?_
      refine fl_seq (fun Q2170 hn2170 hp2170 => ?_)
      refine fl_block (fun Q2171 hn2171 hx2171 hp2171 => ?_)
      refine rg_plain_seq (n := 104) (rs := []) (own0 := own2167) (K := [2173]) (bs := [0, 0, 3]) (ds := [⟨[], [], [], Fct.val 17 (.agg #[.slice none 0 0, .int .i64 0, .int .i64 0])⟩, ⟨[], [], [], Fct.blk 2173 9 (fun g => .pointer (some ⟨g, 0, none⟩)) 59 #[.slice none 0 0, .int .i64 0, .int .i64 0]⟩, ⟨[1, 0], [], [2173], Fct.blk 2174 9 (fun g => .pointer (some ⟨g, 0, none⟩)) 59 #[.slice none 0 0, .int .i64 0, .int .i64 0]⟩]) (by kernel_rfl) hz2167 hd2167 nm_ ?_ ?_
      · refine sc (fun _ _ _ _ _ _ => px (or_k [] rfl rfl trivial (by kernel_rfl))) ?_
        refine sc (fun _ _ _ _ _ _ => px (or_new [] rfl rfl trivial (by kernel_rfl))) ?_
        refine sc (fun own a wx hf hsl hE => ?_) ?_
        · obtain ⟨⟨g2172, f_9, b_g2172⟩, f_17, -⟩ := hf
          exact px (or_store (l := #[.slice none 0 0, .int .i64 0, .int .i64 0]) (lab := 2173) (lab2 := 2174) ts59 f_9 f_17 b_g2172 (by simp) (by kernel_rfl) (mem_of rfl) (by decide) (by kernel_rfl) (fun own' a' w' ha hb => ⟨_, (ha 9).trans f_9, hb⟩))
        exact steps_nil
      intro own2175 a2175 w2175 hd2175 hz2175 hk2175 hf2175 hE2175
      have e2175_0 := (hk2175 0 rfl).trans e2167_0
      have e2175_2 := (hk2175 2 rfl).trans e2167_2
      have e2175_3 := (hk2175 3 rfl).trans e2167_3
      have e2175_5 := (hk2175 5 rfl).trans e2167_5
      have e2175_6 := (hk2175 6 rfl).trans e2167_6
      have e2175_7 := (hk2175 7 rfl).trans e2167_7
      have e2175_8 := (hk2175 8 rfl).trans e2167_8
      have e2175_14 := (hk2175 14 rfl).trans e2167_14
      have e2175_15 := (hk2175 15 rfl).trans e2167_15
      obtain ⟨⟨g2172, (e2175_9 : a2175.eval (.tmp 9) = .pointer (some ⟨g2172, 0, none⟩)), (b2175_g2172 : BlkO own2175 2174 w2175 g2172 59 #[.slice none 0 0, .int .i64 0, .int .i64 0])⟩, -⟩ := hf2175 [2] rfl
      have hX2175 := Evo.step hX2167 hown hE2175 rfl
      have b2175_gc1 := be_ hE2175 b2167_gc1
      have b2175_Ac1_0 := RdO.evo rfl hE2175 b2167_Ac1_0
      have b2175_g1784 := be_ hE2175 b2167_g1784
      have b2175_g1787 := be_ hE2175 b2167_g1787
      have b2175_A1987 := re_ hE2175 b2167_A1987
      have b2175_g1792 := be_ hE2175 b2167_g1792
      have b2175_g1794 := be_ hE2175 b2167_g1794
      have b2175_g1796 := be_ hE2175 b2167_g1796
      have b2175_g1798 := be_ hE2175 b2167_g1798
      refine rngO_cases hs (fun e2185 he2185 hs => ?_) (fun r2180 hr2180 hs => ?_)
      · refine rg_pan_seq 2 (n := 104) (rs := [Fct.at_ 1982 gc1 tc1 #[.slice Ac1_0 c1.1.1.length cc1_0, .int .i64 c1983, .int .i64 c1984, .int .i64 c1985], Fct.at_ 2174 g2172 59 #[.slice none 0 0, .int .i64 0, .int .i64 0]]) (own0 := own2175) (K := [1982]) (bs := [0, 0, 2, 6, 15, 31, 63]) (ds := [⟨[], [0], [], Fct.val 18 (.pointer (some ⟨gc1, 0, none⟩))⟩, ⟨[], [0], [], Fct.val 19 (.pointer (some ⟨gc1, 0, none⟩))⟩, ⟨[1, 7], [], [1982], Fct.any⟩, dN, dN, dN, dN]) (by kernel_rfl) hz2175 hd2175 (by simp only [List.forall_mem_cons]; exact ⟨b2175_gc1, b2175_g2172, fun _ h => nomatch h⟩) rfl rfl rfl ?_ (ch := pE (.iface 69 (.agg #[.int .i64 e2185]))) ?_ ?_
        · refine sc (fun _ _ _ _ s _ => px (or_move (s.1.trans e2175_0))) ?_
          refine sc (fun _ _ _ _ s _ => px (or_move (s.1.trans e2175_0))) ?_
          exact steps_nil
        · intro own a wx hf hsl hE
          obtain ⟨f_19, b_gc1, -⟩ := hf
          exact or_callP cf47 (args1 f_19) (block_cursor_number_p _ (forth own (look0 [(1982, 1)])) ((c1.1.1, c1983), (c1984, c1985)) gc1 tc1 Ac1_0 cc1_0 (look0_le rfl) (BlkO.forth_ (m := (look0 [(1982, 1)])) b_gc1) (RdO.forth_ (m := (look0 [(1982, 1)])) (RdO.evo rfl hE b2175_Ac1_0)) e2185 he2185) (m' := look [(1, 1982)]) (hm_of rfl)
        intro own2186 a2186 w2186 hd2186 hz2186 hk2186 hE2186
        have hX2186 := Evo.step hX2175 hown hE2186 rfl
        refine hp2171 _ _ _ rfl ?_
        refine hp2170 _ _ _ rfl ?_
        replace hs := hz2165 _ hs
        refine hp2165 _ _ _ rfl ?_
        refine hp1813 _ _ _ rfl ?_
        refine hp1806 _ _ _ rfl ?_
        obtain rfl := osome hs
        exact hpan _ _ _ hd2186 ⟨own2186, rfl, hX2186⟩
      obtain ⟨r2182, hr2182, hs⟩ := obind hs
      refine rngO_cases hs (fun e2187 he2187 hs => ?_) (fun r2183 hr2183 hs => ?_)
      · refine rg_pan_seq 4 (n := 104) (rs := [Fct.at_ 1982 gc1 tc1 #[.slice Ac1_0 c1.1.1.length cc1_0, .int .i64 c1983, .int .i64 c1984, .int .i64 c1985], Fct.at_ 2174 g2172 59 #[.slice none 0 0, .int .i64 0, .int .i64 0]]) (own0 := own2175) (K := [1982]) (bs := [0, 0, 2, 6, 15, 31, 63]) (ds := [⟨[], [0], [], Fct.val 18 (.pointer (some ⟨gc1, 0, none⟩))⟩, ⟨[], [0], [], Fct.val 19 (.pointer (some ⟨gc1, 0, none⟩))⟩, ⟨[1, 7], [], [1982], Fct.mems [2181] 20 (fun (_ : Unit) => .int .u64 r2180.1) (fun (_ : Unit) own w => BlkO own 2181 w gc1 tc1 #[.slice Ac1_0 c1.1.1.length cc1_0, .int .i64 r2180.2.1.2, .int .i64 r2180.2.2.1, .int .i64 r2180.2.2.2]) (fun hk he h => BlkO.evo (not_hit hk (by decide)) he h)⟩, ⟨[2], [], [], Fct.val 21 (.int .i64 r2182)⟩, ⟨[0, 3, 2], [], [], Fct.any⟩, dN, dN]) (by kernel_rfl) hz2175 hd2175 (by simp only [List.forall_mem_cons]; exact ⟨b2175_gc1, b2175_g2172, fun _ h => nomatch h⟩) rfl rfl rfl ?_ (ch := pE (.iface 69 (.agg #[.int .i64 e2187]))) ?_ ?_
        · refine sc (fun _ _ _ _ s _ => px (or_move (s.1.trans e2175_0))) ?_
          refine sc (fun _ _ _ _ s _ => px (or_move (s.1.trans e2175_0))) ?_
          refine sc (fun own a wx hf hsl hE => ?_) ?_
          · obtain ⟨f_19, b_gc1, -⟩ := hf
            exact px (or_call cf47 (args1 f_19) (block_cursor_number_w _ (forth own (look0 [(1982, 1)])) ((c1.1.1, c1983), (c1984, c1985)) gc1 tc1 Ac1_0 cc1_0 (look0_le rfl) (BlkO.forth_ (m := (look0 [(1982, 1)])) b_gc1) (RdO.forth_ (m := (look0 [(1982, 1)])) (RdO.evo rfl hE b2175_Ac1_0)) r2180 hr2180) (post_mems0 (m := (look0 [(1982, 1)])) (m' := (look0 [(1, 2181)])) (hm_of rfl) (fun own' w' a' h1 h => ⟨(), h1, BlkO.back_ h (by decide)⟩)))
          refine sc (fun own a wx hf hsl hE => ?_) ?_
          · obtain ⟨⟨_, f_20, b_gc1⟩, -⟩ := hf
            exact px (or_call cf46 (args1 f_20) (block_whole_w _ r2180.1  r2182 hr2182) post_val)
          exact steps_nil
        · intro own a wx hf hsl hE
          obtain ⟨f_18, f_21, ⟨_, f_20, b_gc1⟩, -⟩ := hf
          exact or_callP0 cf45 (args3 f_18 f_21 rfl) (block_cursor_within_side_p _ ((c1.1.1, r2180.2.1.2), r2180.2.2) gc1 tc1 Ac1_0 cc1_0 r2182 (BlkO.zero_ b_gc1) (RdO.zero (RdO.evo rfl hE b2175_Ac1_0)) e2187 he2187)
        intro own2188 a2188 w2188 hd2188 hz2188 hk2188 hE2188
        have hX2188 := Evo.step hX2175 hown hE2188 rfl
        refine hp2171 _ _ _ rfl ?_
        refine hp2170 _ _ _ rfl ?_
        replace hs := hz2165 _ hs
        refine hp2165 _ _ _ rfl ?_
        refine hp1813 _ _ _ rfl ?_
        refine hp1806 _ _ _ rfl ?_
        obtain rfl := osome hs
        exact hpan _ _ _ hd2188 ⟨own2188, rfl, hX2188⟩
      refine rg_plain_seq (n := 104) (rs := [Fct.at_ 1982 gc1 tc1 #[.slice Ac1_0 c1.1.1.length cc1_0, .int .i64 c1983, .int .i64 c1984, .int .i64 c1985], Fct.at_ 2174 g2172 59 #[.slice none 0 0, .int .i64 0, .int .i64 0]]) (own0 := own2175) (K := [1982, 2174]) (bs := [0, 0, 2, 6, 15, 31, 63]) (ds := [⟨[], [0], [], Fct.val 18 (.pointer (some ⟨gc1, 0, none⟩))⟩, ⟨[], [0], [], Fct.val 19 (.pointer (some ⟨gc1, 0, none⟩))⟩, ⟨[1, 7], [], [1982], Fct.mems [2181] 20 (fun (_ : Unit) => .int .u64 r2180.1) (fun (_ : Unit) own w => BlkO own 2181 w gc1 tc1 #[.slice Ac1_0 c1.1.1.length cc1_0, .int .i64 r2180.2.1.2, .int .i64 r2180.2.2.1, .int .i64 r2180.2.2.2]) (fun hk he h => BlkO.evo (not_hit hk (by decide)) he h)⟩, ⟨[2], [], [], Fct.val 21 (.int .i64 r2182)⟩, ⟨[0, 3, 2], [], [], Fct.val 22 (.int .i64 r2183)⟩, ⟨[], [9], [], Fct.val 23 (.pointer (some ⟨g2172, 1, none⟩))⟩, ⟨[5, 4, 8], [], [2174], Fct.at_ 2184 g2172 59 #[.slice none 0 0, .int .i64 r2183, .int .i64 0]⟩]) (by kernel_rfl) hz2175 hd2175 (by simp only [List.forall_mem_cons]; exact ⟨b2175_gc1, b2175_g2172, fun _ h => nomatch h⟩) ?_ ?_
      · refine sc (fun _ _ _ _ s _ => px (or_move (s.1.trans e2175_0))) ?_
        refine sc (fun _ _ _ _ s _ => px (or_move (s.1.trans e2175_0))) ?_
        refine sc (fun own a wx hf hsl hE => ?_) ?_
        · obtain ⟨f_19, b_gc1, -⟩ := hf
          exact px (or_call cf47 (args1 f_19) (block_cursor_number_w _ (forth own (look0 [(1982, 1)])) ((c1.1.1, c1983), (c1984, c1985)) gc1 tc1 Ac1_0 cc1_0 (look0_le rfl) (BlkO.forth_ (m := (look0 [(1982, 1)])) b_gc1) (RdO.forth_ (m := (look0 [(1982, 1)])) (RdO.evo rfl hE b2175_Ac1_0)) r2180 hr2180) (post_mems0 (m := (look0 [(1982, 1)])) (m' := (look0 [(1, 2181)])) (hm_of rfl) (fun own' w' a' h1 h => ⟨(), h1, BlkO.back_ h (by decide)⟩)))
        refine sc (fun own a wx hf hsl hE => ?_) ?_
        · obtain ⟨⟨_, f_20, b_gc1⟩, -⟩ := hf
          exact px (or_call cf46 (args1 f_20) (block_whole_w _ r2180.1  r2182 hr2182) post_val)
        refine sc (fun own a wx hf hsl hE => ?_) ?_
        · obtain ⟨f_18, f_21, ⟨_, f_20, b_gc1⟩, -⟩ := hf
          exact px (or_call cf45 (args3 f_18 f_21 rfl) (block_cursor_within_side_w _ ((c1.1.1, r2180.2.1.2), r2180.2.2) gc1 tc1 Ac1_0 cc1_0 r2182 (BlkO.zero_ b_gc1) (RdO.zero (RdO.evo rfl hE b2175_Ac1_0)) r2183 hr2183) post_val)
        refine sc (fun _ _ _ _ s _ => px (or_field fo59_1 (s.1.trans e2175_9) (by rfl))) ?_
        refine sc (fun own a wx hf hsl hE => ?_) ?_
        · obtain ⟨f_23, f_22, b_g2172, -⟩ := hf
          exact px (or_store1 (lab := 2174) (lab2 := 2184) ts3 f_23 f_22 b_g2172 (by simp) rfl (mem_of rfl) (by decide) rfl (fun own' a' w' ha hb => hb))
        exact steps_nil
      intro own2189 a2189 w2189 hd2189 hz2189 hk2189 hf2189 hE2189
      have e2189_0 := (hk2189 0 rfl).trans e2175_0
      have e2189_2 := (hk2189 2 rfl).trans e2175_2
      have e2189_3 := (hk2189 3 rfl).trans e2175_3
      have e2189_5 := (hk2189 5 rfl).trans e2175_5
      have e2189_6 := (hk2189 6 rfl).trans e2175_6
      have e2189_7 := (hk2189 7 rfl).trans e2175_7
      have e2189_8 := (hk2189 8 rfl).trans e2175_8
      have e2189_9 := (hk2189 9 rfl).trans e2175_9
      have e2189_14 := (hk2189 14 rfl).trans e2175_14
      have e2189_15 := (hk2189 15 rfl).trans e2175_15
      obtain ⟨⟨_, (f_20 : a2189.eval (.tmp 20) = .int .u64 r2180.1), (b2189_gc1 : BlkO own2189 2181 w2189 gc1 tc1 #[.slice Ac1_0 c1.1.1.length cc1_0, .int .i64 r2180.2.1.2, .int .i64 r2180.2.2.1, .int .i64 r2180.2.2.2])⟩, (b2189_g2172 : BlkO own2189 2184 w2189 g2172 59 #[.slice none 0 0, .int .i64 r2183, .int .i64 0]), -⟩ := hf2189 [2, 6] rfl
      have hX2189 := Evo.step hX2175 hown hE2189 rfl
      have b2189_Ac1_0 := RdO.evo rfl hE2189 b2175_Ac1_0
      have b2189_g1784 := be_ hE2189 b2175_g1784
      have b2189_g1787 := be_ hE2189 b2175_g1787
      have b2189_A1987 := re_ hE2189 b2175_A1987
      have b2189_g1792 := be_ hE2189 b2175_g1792
      have b2189_g1794 := be_ hE2189 b2175_g1794
      have b2189_g1796 := be_ hE2189 b2175_g1796
      have b2189_g1798 := be_ hE2189 b2175_g1798
      refine rngO_cases hs (fun e2199 he2199 hs => ?_) (fun r2194 hr2194 hs => ?_)
      · refine rg_pan_seq 2 (n := 104) (rs := [Fct.at_ 2181 gc1 tc1 #[.slice Ac1_0 c1.1.1.length cc1_0, .int .i64 r2180.2.1.2, .int .i64 r2180.2.2.1, .int .i64 r2180.2.2.2], Fct.at_ 2184 g2172 59 #[.slice none 0 0, .int .i64 r2183, .int .i64 0]]) (own0 := own2189) (K := [2181]) (bs := [0, 0, 2, 6, 15, 31, 63]) (ds := [⟨[], [0], [], Fct.val 24 (.pointer (some ⟨gc1, 0, none⟩))⟩, ⟨[], [0], [], Fct.val 25 (.pointer (some ⟨gc1, 0, none⟩))⟩, ⟨[1, 7], [], [2181], Fct.any⟩, dN, dN, dN, dN]) (by kernel_rfl) hz2189 hd2189 (by simp only [List.forall_mem_cons]; exact ⟨b2189_gc1, b2189_g2172, fun _ h => nomatch h⟩) rfl rfl rfl ?_ (ch := pE (.iface 69 (.agg #[.int .i64 e2199]))) ?_ ?_
        · refine sc (fun _ _ _ _ s _ => px (or_move (s.1.trans e2189_0))) ?_
          refine sc (fun _ _ _ _ s _ => px (or_move (s.1.trans e2189_0))) ?_
          exact steps_nil
        · intro own a wx hf hsl hE
          obtain ⟨f_25, b_gc1, -⟩ := hf
          exact or_callP cf47 (args1 f_25) (block_cursor_number_p _ (forth own (look0 [(2181, 1)])) ((c1.1.1, r2180.2.1.2), r2180.2.2) gc1 tc1 Ac1_0 cc1_0 (look0_le rfl) (BlkO.forth_ (m := (look0 [(2181, 1)])) b_gc1) (RdO.forth_ (m := (look0 [(2181, 1)])) (RdO.evo rfl hE b2189_Ac1_0)) e2199 he2199) (m' := look [(1, 2181)]) (hm_of rfl)
        intro own2200 a2200 w2200 hd2200 hz2200 hk2200 hE2200
        have hX2200 := Evo.step hX2189 hown hE2200 rfl
        refine hp2171 _ _ _ rfl ?_
        refine hp2170 _ _ _ rfl ?_
        replace hs := hz2165 _ hs
        refine hp2165 _ _ _ rfl ?_
        refine hp1813 _ _ _ rfl ?_
        refine hp1806 _ _ _ rfl ?_
        obtain rfl := osome hs
        exact hpan _ _ _ hd2200 ⟨own2200, rfl, hX2200⟩
      obtain ⟨r2196, hr2196, hs⟩ := obind hs
      refine rngO_cases hs (fun e2201 he2201 hs => ?_) (fun r2197 hr2197 hs => ?_)
      · refine rg_pan_seq 4 (n := 104) (rs := [Fct.at_ 2181 gc1 tc1 #[.slice Ac1_0 c1.1.1.length cc1_0, .int .i64 r2180.2.1.2, .int .i64 r2180.2.2.1, .int .i64 r2180.2.2.2], Fct.at_ 2184 g2172 59 #[.slice none 0 0, .int .i64 r2183, .int .i64 0]]) (own0 := own2189) (K := [2181]) (bs := [0, 0, 2, 6, 15, 31, 63]) (ds := [⟨[], [0], [], Fct.val 24 (.pointer (some ⟨gc1, 0, none⟩))⟩, ⟨[], [0], [], Fct.val 25 (.pointer (some ⟨gc1, 0, none⟩))⟩, ⟨[1, 7], [], [2181], Fct.mems [2195] 26 (fun (_ : Unit) => .int .u64 r2194.1) (fun (_ : Unit) own w => BlkO own 2195 w gc1 tc1 #[.slice Ac1_0 c1.1.1.length cc1_0, .int .i64 r2194.2.1.2, .int .i64 r2194.2.2.1, .int .i64 r2194.2.2.2]) (fun hk he h => BlkO.evo (not_hit hk (by decide)) he h)⟩, ⟨[2], [], [], Fct.val 27 (.int .i64 r2196)⟩, ⟨[0, 3, 2], [], [], Fct.any⟩, dN, dN]) (by kernel_rfl) hz2189 hd2189 (by simp only [List.forall_mem_cons]; exact ⟨b2189_gc1, b2189_g2172, fun _ h => nomatch h⟩) rfl rfl rfl ?_ (ch := pE (.iface 69 (.agg #[.int .i64 e2201]))) ?_ ?_
        · refine sc (fun _ _ _ _ s _ => px (or_move (s.1.trans e2189_0))) ?_
          refine sc (fun _ _ _ _ s _ => px (or_move (s.1.trans e2189_0))) ?_
          refine sc (fun own a wx hf hsl hE => ?_) ?_
          · obtain ⟨f_25, b_gc1, -⟩ := hf
            exact px (or_call cf47 (args1 f_25) (block_cursor_number_w _ (forth own (look0 [(2181, 1)])) ((c1.1.1, r2180.2.1.2), r2180.2.2) gc1 tc1 Ac1_0 cc1_0 (look0_le rfl) (BlkO.forth_ (m := (look0 [(2181, 1)])) b_gc1) (RdO.forth_ (m := (look0 [(2181, 1)])) (RdO.evo rfl hE b2189_Ac1_0)) r2194 hr2194) (post_mems0 (m := (look0 [(2181, 1)])) (m' := (look0 [(1, 2195)])) (hm_of rfl) (fun own' w' a' h1 h => ⟨(), h1, BlkO.back_ h (by decide)⟩)))
          refine sc (fun own a wx hf hsl hE => ?_) ?_
          · obtain ⟨⟨_, f_26, b_gc1⟩, -⟩ := hf
            exact px (or_call cf46 (args1 f_26) (block_whole_w _ r2194.1  r2196 hr2196) post_val)
          exact steps_nil
        · intro own a wx hf hsl hE
          obtain ⟨f_24, f_27, ⟨_, f_26, b_gc1⟩, -⟩ := hf
          exact or_callP0 cf45 (args3 f_24 f_27 rfl) (block_cursor_within_side_p _ ((c1.1.1, r2194.2.1.2), r2194.2.2) gc1 tc1 Ac1_0 cc1_0 r2196 (BlkO.zero_ b_gc1) (RdO.zero (RdO.evo rfl hE b2189_Ac1_0)) e2201 he2201)
        intro own2202 a2202 w2202 hd2202 hz2202 hk2202 hE2202
        have hX2202 := Evo.step hX2189 hown hE2202 rfl
        refine hp2171 _ _ _ rfl ?_
        refine hp2170 _ _ _ rfl ?_
        replace hs := hz2165 _ hs
        refine hp2165 _ _ _ rfl ?_
        refine hp1813 _ _ _ rfl ?_
        refine hp1806 _ _ _ rfl ?_
        obtain rfl := osome hs
        exact hpan _ _ _ hd2202 ⟨own2202, rfl, hX2202⟩
      refine rg_plain_seq (n := 104) (rs := [Fct.at_ 2181 gc1 tc1 #[.slice Ac1_0 c1.1.1.length cc1_0, .int .i64 r2180.2.1.2, .int .i64 r2180.2.2.1, .int .i64 r2180.2.2.2], Fct.at_ 2184 g2172 59 #[.slice none 0 0, .int .i64 r2183, .int .i64 0]]) (own0 := own2189) (K := [2181, 2184]) (bs := [0, 0, 2, 6, 15, 31, 63]) (ds := [⟨[], [0], [], Fct.val 24 (.pointer (some ⟨gc1, 0, none⟩))⟩, ⟨[], [0], [], Fct.val 25 (.pointer (some ⟨gc1, 0, none⟩))⟩, ⟨[1, 7], [], [2181], Fct.mems [2195] 26 (fun (_ : Unit) => .int .u64 r2194.1) (fun (_ : Unit) own w => BlkO own 2195 w gc1 tc1 #[.slice Ac1_0 c1.1.1.length cc1_0, .int .i64 r2194.2.1.2, .int .i64 r2194.2.2.1, .int .i64 r2194.2.2.2]) (fun hk he h => BlkO.evo (not_hit hk (by decide)) he h)⟩, ⟨[2], [], [], Fct.val 27 (.int .i64 r2196)⟩, ⟨[0, 3, 2], [], [], Fct.val 28 (.int .i64 r2197)⟩, ⟨[], [9], [], Fct.val 29 (.pointer (some ⟨g2172, 2, none⟩))⟩, ⟨[5, 4, 8], [], [2184], Fct.at_ 2198 g2172 59 #[.slice none 0 0, .int .i64 r2183, .int .i64 r2197]⟩]) (by kernel_rfl) hz2189 hd2189 (by simp only [List.forall_mem_cons]; exact ⟨b2189_gc1, b2189_g2172, fun _ h => nomatch h⟩) ?_ ?_
      · refine sc (fun _ _ _ _ s _ => px (or_move (s.1.trans e2189_0))) ?_
        refine sc (fun _ _ _ _ s _ => px (or_move (s.1.trans e2189_0))) ?_
        refine sc (fun own a wx hf hsl hE => ?_) ?_
        · obtain ⟨f_25, b_gc1, -⟩ := hf
          exact px (or_call cf47 (args1 f_25) (block_cursor_number_w _ (forth own (look0 [(2181, 1)])) ((c1.1.1, r2180.2.1.2), r2180.2.2) gc1 tc1 Ac1_0 cc1_0 (look0_le rfl) (BlkO.forth_ (m := (look0 [(2181, 1)])) b_gc1) (RdO.forth_ (m := (look0 [(2181, 1)])) (RdO.evo rfl hE b2189_Ac1_0)) r2194 hr2194) (post_mems0 (m := (look0 [(2181, 1)])) (m' := (look0 [(1, 2195)])) (hm_of rfl) (fun own' w' a' h1 h => ⟨(), h1, BlkO.back_ h (by decide)⟩)))
        refine sc (fun own a wx hf hsl hE => ?_) ?_
        · obtain ⟨⟨_, f_26, b_gc1⟩, -⟩ := hf
          exact px (or_call cf46 (args1 f_26) (block_whole_w _ r2194.1  r2196 hr2196) post_val)
        refine sc (fun own a wx hf hsl hE => ?_) ?_
        · obtain ⟨f_24, f_27, ⟨_, f_26, b_gc1⟩, -⟩ := hf
          exact px (or_call cf45 (args3 f_24 f_27 rfl) (block_cursor_within_side_w _ ((c1.1.1, r2194.2.1.2), r2194.2.2) gc1 tc1 Ac1_0 cc1_0 r2196 (BlkO.zero_ b_gc1) (RdO.zero (RdO.evo rfl hE b2189_Ac1_0)) r2197 hr2197) post_val)
        refine sc (fun _ _ _ _ s _ => px (or_field fo59_2 (s.1.trans e2189_9) (by rfl))) ?_
        refine sc (fun own a wx hf hsl hE => ?_) ?_
        · obtain ⟨f_29, f_28, b_g2172, -⟩ := hf
          exact px (or_store1 (lab := 2184) (lab2 := 2198) ts3 f_29 f_28 b_g2172 (by simp) rfl (mem_of rfl) (by decide) rfl (fun own' a' w' ha hb => hb))
        exact steps_nil
      intro own2203 a2203 w2203 hd2203 hz2203 hk2203 hf2203 hE2203
      have e2203_0 := (hk2203 0 rfl).trans e2189_0
      have e2203_2 := (hk2203 2 rfl).trans e2189_2
      have e2203_3 := (hk2203 3 rfl).trans e2189_3
      have e2203_5 := (hk2203 5 rfl).trans e2189_5
      have e2203_6 := (hk2203 6 rfl).trans e2189_6
      have e2203_7 := (hk2203 7 rfl).trans e2189_7
      have e2203_8 := (hk2203 8 rfl).trans e2189_8
      have e2203_9 := (hk2203 9 rfl).trans e2189_9
      have e2203_14 := (hk2203 14 rfl).trans e2189_14
      have e2203_15 := (hk2203 15 rfl).trans e2189_15
      obtain ⟨⟨_, (f_26 : a2203.eval (.tmp 26) = .int .u64 r2194.1), (b2203_gc1 : BlkO own2203 2195 w2203 gc1 tc1 #[.slice Ac1_0 c1.1.1.length cc1_0, .int .i64 r2194.2.1.2, .int .i64 r2194.2.2.1, .int .i64 r2194.2.2.2])⟩, (b2203_g2172 : BlkO own2203 2198 w2203 g2172 59 #[.slice none 0 0, .int .i64 r2183, .int .i64 r2197]), -⟩ := hf2203 [2, 6] rfl
      have hX2203 := Evo.step hX2189 hown hE2203 rfl
      have b2203_Ac1_0 := RdO.evo rfl hE2203 b2189_Ac1_0
      have b2203_g1784 := be_ hE2203 b2189_g1784
      have b2203_g1787 := be_ hE2203 b2189_g1787
      have b2203_A1987 := re_ hE2203 b2189_A1987
      have b2203_g1792 := be_ hE2203 b2189_g1792
      have b2203_g1794 := be_ hE2203 b2189_g1794
      have b2203_g1796 := be_ hE2203 b2189_g1796
      have b2203_g1798 := be_ hE2203 b2189_g1798
      refine fl_seq (fun Q2204 hn2204 hp2204 => ?_)
      refine rngO_cases hs (fun e2208 he2208 hs => ?_) (fun r2205 hr2205 hs => ?_)
      · refine rg_pan_seq 1 (n := 104) (rs := [Fct.at_ 2195 gc1 tc1 #[.slice Ac1_0 c1.1.1.length cc1_0, .int .i64 r2194.2.1.2, .int .i64 r2194.2.2.1, .int .i64 r2194.2.2.2], Fct.at_ 1992 g1792 3 #[.int .i64 points1993]]) (own0 := own2203) (K := [2195, 1992]) (bs := [0, 1, 0]) (ds := [⟨[], [0], [], Fct.val 30 (.pointer (some ⟨gc1, 0, none⟩))⟩, ⟨[0, 3, 4], [5], [2195, 1992], Fct.any⟩, dN]) (by kernel_rfl) hz2203 hd2203 (by simp only [List.forall_mem_cons]; exact ⟨b2203_gc1, b2203_g1792, fun _ h => nomatch h⟩) rfl rfl rfl ?_ (ch := pE (.iface 69 (.agg #[.int .i64 e2208]))) ?_ ?_
        · refine sc (fun _ _ _ _ s _ => px (or_move (s.1.trans e2203_0))) ?_
          exact steps_nil
        · intro own a wx hf hsl hE
          obtain ⟨f_30, b_gc1, b_g1792, -⟩ := hf
          obtain ⟨s_5, -⟩ := hsl
          exact or_callP cf44 (args2 f_30 (s_5.trans e2203_5)) (block_cursor_count_p _ (forth own (look0 [(1992, 2), (2195, 1)])) ((c1.1.1, r2194.2.1.2), r2194.2.2) gc1 tc1 Ac1_0 cc1_0 points1993 g1792 3 (look0_le rfl) (BlkO.forth_ (m := (look0 [(1992, 2), (2195, 1)])) b_gc1) (RdO.forth_ (m := (look0 [(1992, 2), (2195, 1)])) (RdO.evo rfl hE b2203_Ac1_0)) (BlkO.forth_ (m := (look0 [(1992, 2), (2195, 1)])) b_g1792) e2208 he2208) (m' := look [(2, 1992), (1, 2195)]) (hm_of rfl)
        intro own2209 a2209 w2209 hd2209 hz2209 hk2209 hE2209
        have hX2209 := Evo.step hX2203 hown hE2209 rfl
        refine hp2204 _ _ _ rfl ?_
        refine hp2171 _ _ _ rfl ?_
        refine hp2170 _ _ _ rfl ?_
        replace hs := hz2165 _ hs
        refine hp2165 _ _ _ rfl ?_
        refine hp1813 _ _ _ rfl ?_
        refine hp1806 _ _ _ rfl ?_
        obtain rfl := osome hs
        exact hpan _ _ _ hd2209 ⟨own2209, rfl, hX2209⟩
      refine rg_plain_seq (n := 104) (rs := [Fct.at_ 2195 gc1 tc1 #[.slice Ac1_0 c1.1.1.length cc1_0, .int .i64 r2194.2.1.2, .int .i64 r2194.2.2.1, .int .i64 r2194.2.2.2], Fct.at_ 1992 g1792 3 #[.int .i64 points1993]]) (own0 := own2203) (K := [2195, 1992]) (bs := [0, 1, 0]) (ds := [⟨[], [0], [], Fct.val 30 (.pointer (some ⟨gc1, 0, none⟩))⟩, ⟨[0, 3, 4], [5], [2195, 1992], Fct.mems [2206, 2207] 31 (fun (_ : Unit) => .int .i64 r2205.1) (fun (_ : Unit) own w => BlkO own 2206 w gc1 tc1 #[.slice Ac1_0 c1.1.1.length cc1_0, .int .i64 r2205.2.1.1.2, .int .i64 r2205.2.1.2.1, .int .i64 r2205.2.1.2.2] ∧ BlkO own 2207 w g1792 3 #[.int .i64 r2205.2.2]) (fun hk he h => ⟨BlkO.evo (not_hit hk (by decide)) he h.1, BlkO.evo (not_hit hk (by decide)) he h.2⟩)⟩, ⟨[], [], [], Fct.val 32 (.int .i64 0)⟩]) (by kernel_rfl) hz2203 hd2203 (by simp only [List.forall_mem_cons]; exact ⟨b2203_gc1, b2203_g1792, fun _ h => nomatch h⟩) ?_ ?_
      · refine sc (fun _ _ _ _ s _ => px (or_move (s.1.trans e2203_0))) ?_
        refine sc (fun own a wx hf hsl hE => ?_) ?_
        · obtain ⟨f_30, b_gc1, b_g1792, -⟩ := hf
          obtain ⟨s_5, -⟩ := hsl
          exact px (or_call cf44 (args2 f_30 (s_5.trans e2203_5)) (block_cursor_count_w _ (forth own (look0 [(1992, 2), (2195, 1)])) ((c1.1.1, r2194.2.1.2), r2194.2.2) gc1 tc1 Ac1_0 cc1_0 points1993 g1792 3 (look0_le rfl) (BlkO.forth_ (m := (look0 [(1992, 2), (2195, 1)])) b_gc1) (RdO.forth_ (m := (look0 [(1992, 2), (2195, 1)])) (RdO.evo rfl hE b2203_Ac1_0)) (BlkO.forth_ (m := (look0 [(1992, 2), (2195, 1)])) b_g1792) r2205 hr2205) (post_mems0 (m := (look0 [(1992, 2), (2195, 1)])) (m' := (look0 [(1, 2206), (2, 2207)])) (hm_of rfl) (fun own' w' a' h1 h => ⟨(), h1, ⟨BlkO.back_ h.1 (by decide), BlkO.back_ h.2 (by decide)⟩⟩)))
        refine sc (fun _ _ _ _ _ _ => px (or_move rfl)) ?_
        exact steps_nil
      intro own2210 a2210 w2210 hd2210 hz2210 hk2210 hf2210 hE2210
      have e2210_0 := (hk2210 0 rfl).trans e2203_0
      have e2210_2 := (hk2210 2 rfl).trans e2203_2
      have e2210_3 := (hk2210 3 rfl).trans e2203_3
      have e2210_5 := (hk2210 5 rfl).trans e2203_5
      have e2210_6 := (hk2210 6 rfl).trans e2203_6
      have e2210_7 := (hk2210 7 rfl).trans e2203_7
      have e2210_8 := (hk2210 8 rfl).trans e2203_8
      have e2210_9 := (hk2210 9 rfl).trans e2203_9
      have e2210_14 := (hk2210 14 rfl).trans e2203_14
      have e2210_15 := (hk2210 15 rfl).trans e2203_15
      obtain ⟨⟨_, (e2210_31 : a2210.eval (.tmp 31) = .int .i64 r2205.1), (b2210_gc1 : BlkO own2210 2206 w2210 gc1 tc1 #[.slice Ac1_0 c1.1.1.length cc1_0, .int .i64 r2205.2.1.1.2, .int .i64 r2205.2.1.2.1, .int .i64 r2205.2.1.2.2]), (b2210_g1792 : BlkO own2210 2207 w2210 g1792 3 #[.int .i64 r2205.2.2])⟩, (e2210_32 : a2210.eval (.tmp 32) = .int .i64 0), -⟩ := hf2210 [1, 2] rfl
      have hX2210 := Evo.step hX2203 hown hE2210 rfl
      have b2210_Ac1_0 := RdO.evo rfl hE2210 b2203_Ac1_0
      have b2210_g1784 := be_ hE2210 b2203_g1784
      have b2210_g1787 := be_ hE2210 b2203_g1787
      have b2210_A1987 := re_ hE2210 b2203_A1987
      have b2210_g1794 := be_ hE2210 b2203_g1794
      have b2210_g1796 := be_ hE2210 b2203_g1796
      have b2210_g1798 := be_ hE2210 b2203_g1798
      have b2210_g2172 := be_ hE2210 b2203_g2172
      refine fl_block (fun Q2211 hn2211 hx2211 hp2211 => ?_)
      refine fl_loop (body := (fun s => block_cursor_net_b2 c1 out1989 x1994 r2183 r2197 r2205 s.1 s.2.1 s.2.2.1 s.2.2.2.1 s.2.2.2.2)) (z := zz2165) (show loopO _ _ = _ from hs) (fun (s : Int × Int × Int × (List (Int × Int)) × Int) a wx => match s with | (c2246, c2247, c2248, x2253, x2255) => ∃ (ox : Own) (A2251 : Option Addr) (c2252 : Nat), a.defers = [] ∧ a.tmps.size = 104 ∧ a.eval (.tmp 0) = .pointer (some ⟨gc1, 0, none⟩) ∧ a.eval (.tmp 2) = .pointer (some ⟨g1784, 0, none⟩) ∧ a.eval (.tmp 3) = .pointer (some ⟨g1787, 0, none⟩) ∧ a.eval (.tmp 5) = .pointer (some ⟨g1792, 0, none⟩) ∧ a.eval (.tmp 6) = .pointer (some ⟨g1794, 0, none⟩) ∧ a.eval (.tmp 7) = .pointer (some ⟨g1796, 0, none⟩) ∧ a.eval (.tmp 8) = .pointer (some ⟨g1798, 0, none⟩) ∧ a.eval (.tmp 9) = .pointer (some ⟨g2172, 0, none⟩) ∧ a.eval (.tmp 14) = .int .i64 r1807.1 ∧ a.eval (.tmp 15) = .int .i64 x1994 ∧ a.eval (.tmp 31) = .int .i64 r2205.1 ∧ a.eval (.tmp 32) = .int .i64 x2255 ∧ Evo [1] own ox w wx ∧ BlkO ox 2245 wx gc1 tc1 #[.slice Ac1_0 c1.1.1.length cc1_0, .int .i64 c2246, .int .i64 c2247, .int .i64 c2248] ∧ RdO ox [0] wx R5 Ac1_0 cc1_0 c1.1.1 ∧ BlkO ox 1785 wx g1784 25 #[.slice none 0 0, .slice none 0 0] ∧ BlkO ox 1986 wx g1787 25 #[.slice A1987 out1989.length c1988, .slice none 0 0] ∧ RwO ox 1990 [2249] wx 59 R59 A1987 c1988 out1989 ∧ BlkO ox 2207 wx g1792 3 #[.int .i64 r2205.2.2] ∧ BlkO ox 1802 wx g1794 3 #[.int .i64 32] ∧ BlkO ox 1803 wx g1796 3 #[.int .i64 64] ∧ BlkO ox 1804 wx g1798 3 #[.int .i64 65536] ∧ BlkO ox 2250 wx g2172 59 #[.slice A2251 x2253.length c2252, .int .i64 r2183, .int .i64 r2197] ∧ RwO ox 2254 [] wx 56 R56 A2251 c2252 x2253) ?_ ?_
      · exact ⟨(rl [(1991, 2249), (2198, 2250), (2206, 2245)] own2210), none, 0, hd2210, hz2210, e2210_0, e2210_2, e2210_3, e2210_5, e2210_6, e2210_7, e2210_8, e2210_9, e2210_14, e2210_15, e2210_31, e2210_32, (Evo.rl_ hX2210 hown rfl), (BlkO.rl_ (mm := [(1991, 2249), (2198, 2250), (2206, 2245)]) b2210_gc1), (RdO.rl_ (mm := [(1991, 2249), (2198, 2250), (2206, 2245)]) b2210_Ac1_0), (BlkO.rl_ (mm := [(1991, 2249), (2198, 2250), (2206, 2245)]) b2210_g1784), (BlkO.rl_ (mm := [(1991, 2249), (2198, 2250), (2206, 2245)]) b2210_g1787), (RwO.rl_ (mm := [(1991, 2249), (2198, 2250), (2206, 2245)]) b2210_A1987), (BlkO.rl_ (mm := [(1991, 2249), (2198, 2250), (2206, 2245)]) b2210_g1792), (BlkO.rl_ (mm := [(1991, 2249), (2198, 2250), (2206, 2245)]) b2210_g1794), (BlkO.rl_ (mm := [(1991, 2249), (2198, 2250), (2206, 2245)]) b2210_g1796), (BlkO.rl_ (mm := [(1991, 2249), (2198, 2250), (2206, 2245)]) b2210_g1798), (BlkO.rl_ (mm := [(1991, 2249), (2198, 2250), (2206, 2245)]) b2210_g2172), RwO.nil_⟩
      · rintro ⟨c2246, c2247, c2248, x2253, x2255⟩ zz2288 a2288 w2288 ⟨own2288, A2251, c2252, hd2289, hz2289, e2289_0, e2289_2, e2289_3, e2289_5, e2289_6, e2289_7, e2289_8, e2289_9, e2289_14, e2289_15, e2289_31, e2289_32, hE2289, b2289_gc1, b2289_Ac1_0, b2289_g1784, b2289_g1787, b2289_A1987, b2289_g1792, b2289_g1794, b2289_g1796, b2289_g1798, b2289_g2172, b2289_A2251⟩ hs Q2288 hn2288 hp2288 hz2288
        have hs : block_cursor_net_b2 c1 out1989 x1994 r2183 r2197 r2205 c2246 c2247 c2248 x2253 x2255 = some zz2288 := hs
        refine rg0_seq 104 own2288 (bz 1) [⟨[], [32, 31], [], Fct.val 33 (.bool (decide (x2255 < r2205.1)))⟩] hz2289 hd2289 (by kernel_rfl) ?_ ?_
        · refine sc (fun _ _ _ _ s _ => px (or_lss (s.1.trans e2289_32) (s.2.1.trans e2289_31) rfl)) ?_
          exact steps_nil
        intro own2290 a2290 w2290 hd2290 hz2290 hk2290 hf2290 hE2290
        have e2290_0 := (hk2290 0 rfl).trans e2289_0
        have e2290_2 := (hk2290 2 rfl).trans e2289_2
        have e2290_3 := (hk2290 3 rfl).trans e2289_3
        have e2290_5 := (hk2290 5 rfl).trans e2289_5
        have e2290_6 := (hk2290 6 rfl).trans e2289_6
        have e2290_7 := (hk2290 7 rfl).trans e2289_7
        have e2290_8 := (hk2290 8 rfl).trans e2289_8
        have e2290_9 := (hk2290 9 rfl).trans e2289_9
        have e2290_14 := (hk2290 14 rfl).trans e2289_14
        have e2290_15 := (hk2290 15 rfl).trans e2289_15
        have e2290_31 := (hk2290 31 rfl).trans e2289_31
        have e2290_32 := (hk2290 32 rfl).trans e2289_32
        obtain ⟨(e2290_33 : a2290.eval (.tmp 33) = .bool (decide (x2255 < r2205.1))), -⟩ := hf2290 [0] rfl
        have hX2290 := Evo.step hE2289 hown hE2290 rfl
        have b2290_gc1 := be_ hE2290 b2289_gc1
        have b2290_Ac1_0 := RdO.evo rfl hE2290 b2289_Ac1_0
        have b2290_g1784 := be_ hE2290 b2289_g1784
        have b2290_g1787 := be_ hE2290 b2289_g1787
        have b2290_A1987 := re_ hE2290 b2289_A1987
        have b2290_g1792 := be_ hE2290 b2289_g1792
        have b2290_g1794 := be_ hE2290 b2289_g1794
        have b2290_g1796 := be_ hE2290 b2289_g1796
        have b2290_g1798 := be_ hE2290 b2289_g1798
        have b2290_g2172 := be_ hE2290 b2289_g2172
        have b2290_A2251 := re_ hE2290 b2289_A2251
        refine fl_seq (fun Q2291 hn2291 hp2291 => ?_)
        refine fl_cond e2290_33 hs (fun c2292 hs => ?_) (fun c2292 hs => ?_)
        · refine fl_skip ?_
          refine hn2291 _ _ ?_
          refine fl_seq (fun Q2293 hn2293 hp2293 => ?_)
          refine fl_block (fun Q2294 hn2294 hx2294 hp2294 => ?_)
          refine rngO_cases hs (fun e2297 he2297 hs => ?_) (fun r2295 hr2295 hs => ?_)
          · refine rg_pan_seq 6 (n := 104) (rs := [Fct.at_ 2245 gc1 tc1 #[.slice Ac1_0 c1.1.1.length cc1_0, .int .i64 c2246, .int .i64 c2247, .int .i64 c2248]]) (own0 := own2290) (K := [2245]) (bs := [0, 0, 2, 6, 14, 30, 63, 127]) (ds := [⟨[], [0], [], Fct.val 34 (.pointer (some ⟨gc1, 0, none⟩))⟩, ⟨[], [0], [], Fct.val 35 (.pointer (some ⟨gc1, 0, none⟩))⟩, ⟨[1], [], [], Fct.val 36 (.pointer (some ⟨gc1, 0, none⟩))⟩, ⟨[2], [], [], Fct.val 37 (.pointer (some ⟨gc1, 2, none⟩))⟩, ⟨[3], [], [], Fct.val 38 (.pointer (some ⟨gc1, 2, none⟩))⟩, ⟨[4, 8], [], [], Fct.val 39 (.int .i64 c2247)⟩, ⟨[0, 5, 8], [], [2245], Fct.any⟩, dN]) (by kernel_rfl) hz2290 hd2290 (by simp only [List.forall_mem_cons]; exact ⟨b2290_gc1, fun _ h => nomatch h⟩) rfl rfl rfl ?_ (ch := pE (.iface 69 (.agg #[.int .i64 e2297]))) ?_ ?_
            · refine sc (fun _ _ _ _ s _ => px (or_move (s.1.trans e2290_0))) ?_
              refine sc (fun _ _ _ _ s _ => px (or_move (s.1.trans e2290_0))) ?_
              refine sc (fun _ _ _ f _ _ => px (or_k [(35, .pointer (some ⟨gc1, 0, none⟩))] rfl rfl ⟨f.1, trivial⟩ (by kernel_rfl))) ?_
              refine sc (fun _ _ _ f _ _ => px (or_field fo67_1 f.1 (by rfl))) ?_
              refine sc (fun _ _ _ f _ _ => px (or_field fo56_0 f.1 (by rfl))) ?_
              refine sc (fun own a wx hf hsl hE => ?_) ?_
              · obtain ⟨f_38, (b_gc1 : BlkO own 2245 wx gc1 tc1 #[.slice Ac1_0 c1.1.1.length cc1_0, .int .i64 c2246, .int .i64 c2247, .int .i64 c2248]), -⟩ := hf
                exact px (or_load1 to3 f_38 (Blk.at_ b_gc1.2 2 rfl))
              exact steps_nil
            · intro own a wx hf hsl hE
              obtain ⟨f_34, f_39, b_gc1, -⟩ := hf
              exact or_callP cf48 (args2 f_34 f_39) (block_cursor_step_p _ (forth own (look0 [(2245, 1)])) ((c1.1.1, c2246), (c2247, c2248)) gc1 tc1 Ac1_0 cc1_0 c2247 (look0_le rfl) (BlkO.forth_ (m := (look0 [(2245, 1)])) b_gc1) (RdO.forth_ (m := (look0 [(2245, 1)])) (RdO.evo rfl hE b2290_Ac1_0)) e2297 he2297) (m' := look [(1, 2245)]) (hm_of rfl)
            intro own2298 a2298 w2298 hd2298 hz2298 hk2298 hE2298
            have hX2298 := Evo.step hX2290 hown hE2298 rfl
            refine hp2294 _ _ _ rfl ?_
            refine hp2293 _ _ _ rfl ?_
            replace hs := hz2288 _ hs
            refine hp2288 _ _ _ rfl ?_
            refine hp2211 _ _ _ rfl ?_
            refine hp2204 _ _ _ rfl ?_
            refine hp2171 _ _ _ rfl ?_
            refine hp2170 _ _ _ rfl ?_
            replace hs := hz2165 _ hs
            refine hp2165 _ _ _ rfl ?_
            refine hp1813 _ _ _ rfl ?_
            refine hp1806 _ _ _ rfl ?_
            obtain rfl := osome hs
            exact hpan _ _ _ hd2298 ⟨own2298, rfl, hX2298⟩
          refine rg_plain_seq (n := 104) (rs := [Fct.at_ 2245 gc1 tc1 #[.slice Ac1_0 c1.1.1.length cc1_0, .int .i64 c2246, .int .i64 c2247, .int .i64 c2248]]) (own0 := own2290) (K := [2245]) (bs := [0, 0, 2, 6, 14, 30, 63, 127]) (ds := [⟨[], [0], [], Fct.val 34 (.pointer (some ⟨gc1, 0, none⟩))⟩, ⟨[], [0], [], Fct.val 35 (.pointer (some ⟨gc1, 0, none⟩))⟩, ⟨[1], [], [], Fct.val 36 (.pointer (some ⟨gc1, 0, none⟩))⟩, ⟨[2], [], [], Fct.val 37 (.pointer (some ⟨gc1, 2, none⟩))⟩, ⟨[3], [], [], Fct.val 38 (.pointer (some ⟨gc1, 2, none⟩))⟩, ⟨[4, 8], [], [], Fct.val 39 (.int .i64 c2247)⟩, ⟨[0, 5, 8], [], [2245], Fct.mems [2296] 40 (fun (_ : Unit) => .int .i64 r2295.1) (fun (_ : Unit) own w => BlkO own 2296 w gc1 tc1 #[.slice Ac1_0 c1.1.1.length cc1_0, .int .i64 r2295.2.1.2, .int .i64 r2295.2.2.1, .int .i64 r2295.2.2.2]) (fun hk he h => BlkO.evo (not_hit hk (by decide)) he h)⟩, ⟨[6], [], [], Fct.val 10 (.int .i64 r2295.1)⟩]) (by kernel_rfl) hz2290 hd2290 (by simp only [List.forall_mem_cons]; exact ⟨b2290_gc1, fun _ h => nomatch h⟩) ?_ ?_
          · refine sc (fun _ _ _ _ s _ => px (or_move (s.1.trans e2290_0))) ?_
            refine sc (fun _ _ _ _ s _ => px (or_move (s.1.trans e2290_0))) ?_
            refine sc (fun _ _ _ f _ _ => px (or_k [(35, .pointer (some ⟨gc1, 0, none⟩))] rfl rfl ⟨f.1, trivial⟩ (by kernel_rfl))) ?_
            refine sc (fun _ _ _ f _ _ => px (or_field fo67_1 f.1 (by rfl))) ?_
            refine sc (fun _ _ _ f _ _ => px (or_field fo56_0 f.1 (by rfl))) ?_
            refine sc (fun own a wx hf hsl hE => ?_) ?_
            · obtain ⟨f_38, (b_gc1 : BlkO own 2245 wx gc1 tc1 #[.slice Ac1_0 c1.1.1.length cc1_0, .int .i64 c2246, .int .i64 c2247, .int .i64 c2248]), -⟩ := hf
              exact px (or_load1 to3 f_38 (Blk.at_ b_gc1.2 2 rfl))
            refine sc (fun own a wx hf hsl hE => ?_) ?_
            · obtain ⟨f_34, f_39, b_gc1, -⟩ := hf
              exact px (or_call cf48 (args2 f_34 f_39) (block_cursor_step_w _ (forth own (look0 [(2245, 1)])) ((c1.1.1, c2246), (c2247, c2248)) gc1 tc1 Ac1_0 cc1_0 c2247 (look0_le rfl) (BlkO.forth_ (m := (look0 [(2245, 1)])) b_gc1) (RdO.forth_ (m := (look0 [(2245, 1)])) (RdO.evo rfl hE b2290_Ac1_0)) r2295 hr2295) (post_mems0 (m := (look0 [(2245, 1)])) (m' := (look0 [(1, 2296)])) (hm_of rfl) (fun own' w' a' h1 h => ⟨(), h1, BlkO.back_ h (by decide)⟩)))
            refine sc (fun own a wx hf hsl hE => ?_) ?_
            · obtain ⟨⟨_, f_40, b_gc1⟩, -⟩ := hf
              exact px (or_assign f_40)
            exact steps_nil
          intro own2299 a2299 w2299 hd2299 hz2299 hk2299 hf2299 hE2299
          have e2299_0 := (hk2299 0 rfl).trans e2290_0
          have e2299_2 := (hk2299 2 rfl).trans e2290_2
          have e2299_3 := (hk2299 3 rfl).trans e2290_3
          have e2299_5 := (hk2299 5 rfl).trans e2290_5
          have e2299_6 := (hk2299 6 rfl).trans e2290_6
          have e2299_7 := (hk2299 7 rfl).trans e2290_7
          have e2299_8 := (hk2299 8 rfl).trans e2290_8
          have e2299_9 := (hk2299 9 rfl).trans e2290_9
          have e2299_14 := (hk2299 14 rfl).trans e2290_14
          have e2299_15 := (hk2299 15 rfl).trans e2290_15
          have e2299_31 := (hk2299 31 rfl).trans e2290_31
          have e2299_32 := (hk2299 32 rfl).trans e2290_32
          obtain ⟨(e2299_10 : a2299.eval (.tmp 10) = .int .i64 r2295.1), ⟨_, (f_40 : a2299.eval (.tmp 40) = .int .i64 r2295.1), (b2299_gc1 : BlkO own2299 2296 w2299 gc1 tc1 #[.slice Ac1_0 c1.1.1.length cc1_0, .int .i64 r2295.2.1.2, .int .i64 r2295.2.2.1, .int .i64 r2295.2.2.2])⟩, -⟩ := hf2299 [7, 6] rfl
          have hX2299 := Evo.step hX2290 hown hE2299 rfl
          have b2299_Ac1_0 := RdO.evo rfl hE2299 b2290_Ac1_0
          have b2299_g1784 := be_ hE2299 b2290_g1784
          have b2299_g1787 := be_ hE2299 b2290_g1787
          have b2299_A1987 := re_ hE2299 b2290_A1987
          have b2299_g1792 := be_ hE2299 b2290_g1792
          have b2299_g1794 := be_ hE2299 b2290_g1794
          have b2299_g1796 := be_ hE2299 b2290_g1796
          have b2299_g1798 := be_ hE2299 b2290_g1798
          have b2299_g2172 := be_ hE2299 b2290_g2172
          have b2299_A2251 := re_ hE2299 b2290_A2251
          refine rngO_cases hs (fun e2303 he2303 hs => ?_) (fun r2300 hr2300 hs => ?_)
          · refine rg_pan_seq 8 (n := 104) (rs := [Fct.at_ 2296 gc1 tc1 #[.slice Ac1_0 c1.1.1.length cc1_0, .int .i64 r2295.2.1.2, .int .i64 r2295.2.2.1, .int .i64 r2295.2.2.2]]) (own0 := own2299) (K := [2296]) (bs := [0, 0, 0, 0, 8, 24, 56, 120, 252, 510, 1023, 2047, 4095]) (ds := [⟨[], [0], [], Fct.val 41 (.pointer (some ⟨gc1, 0, none⟩))⟩, ⟨[], [10], [], Fct.val 42 (.int .i64 r2295.1)⟩, ⟨[], [0], [], Fct.val 43 (.pointer (some ⟨gc1, 0, none⟩))⟩, ⟨[], [0], [], Fct.val 44 (.pointer (some ⟨gc1, 0, none⟩))⟩, ⟨[3], [], [], Fct.val 45 (.pointer (some ⟨gc1, 0, none⟩))⟩, ⟨[4], [], [], Fct.val 46 (.pointer (some ⟨gc1, 2, none⟩))⟩, ⟨[5], [], [], Fct.val 47 (.pointer (some ⟨gc1, 3, none⟩))⟩, ⟨[6, 13], [], [], Fct.val 48 (.int .i64 r2295.2.2.2)⟩, ⟨[2, 7, 13], [], [2296], Fct.any⟩, dN, dN, dN, dN]) (by kernel_rfl) hz2299 hd2299 (by simp only [List.forall_mem_cons]; exact ⟨b2299_gc1, fun _ h => nomatch h⟩) rfl rfl rfl ?_ (ch := pE (.iface 69 (.agg #[.int .i64 e2303]))) ?_ ?_
            · refine sc (fun _ _ _ _ s _ => px (or_move (s.1.trans e2299_0))) ?_
              refine sc (fun _ _ _ _ s _ => px (or_move (s.1.trans e2299_10))) ?_
              refine sc (fun _ _ _ _ s _ => px (or_move (s.1.trans e2299_0))) ?_
              refine sc (fun _ _ _ _ s _ => px (or_move (s.1.trans e2299_0))) ?_
              refine sc (fun _ _ _ f _ _ => px (or_k [(44, .pointer (some ⟨gc1, 0, none⟩))] rfl rfl ⟨f.1, trivial⟩ (by kernel_rfl))) ?_
              refine sc (fun _ _ _ f _ _ => px (or_field fo67_1 f.1 (by rfl))) ?_
              refine sc (fun _ _ _ f _ _ => px (or_field fo56_1 f.1 (by rfl))) ?_
              refine sc (fun own a wx hf hsl hE => ?_) ?_
              · obtain ⟨f_47, (b_gc1 : BlkO own 2296 wx gc1 tc1 #[.slice Ac1_0 c1.1.1.length cc1_0, .int .i64 r2295.2.1.2, .int .i64 r2295.2.2.1, .int .i64 r2295.2.2.2]), -⟩ := hf
                exact px (or_load1 to3 f_47 (Blk.at_ b_gc1.2 3 rfl))
              exact steps_nil
            · intro own a wx hf hsl hE
              obtain ⟨f_43, f_48, b_gc1, -⟩ := hf
              exact or_callP cf48 (args2 f_43 f_48) (block_cursor_step_p _ (forth own (look0 [(2296, 1)])) ((c1.1.1, r2295.2.1.2), r2295.2.2) gc1 tc1 Ac1_0 cc1_0 r2295.2.2.2 (look0_le rfl) (BlkO.forth_ (m := (look0 [(2296, 1)])) b_gc1) (RdO.forth_ (m := (look0 [(2296, 1)])) (RdO.evo rfl hE b2299_Ac1_0)) e2303 he2303) (m' := look [(1, 2296)]) (hm_of rfl)
            intro own2304 a2304 w2304 hd2304 hz2304 hk2304 hE2304
            have hX2304 := Evo.step hX2299 hown hE2304 rfl
            refine hp2294 _ _ _ rfl ?_
            refine hp2293 _ _ _ rfl ?_
            replace hs := hz2288 _ hs
            refine hp2288 _ _ _ rfl ?_
            refine hp2211 _ _ _ rfl ?_
            refine hp2204 _ _ _ rfl ?_
            refine hp2171 _ _ _ rfl ?_
            refine hp2170 _ _ _ rfl ?_
            replace hs := hz2165 _ hs
            refine hp2165 _ _ _ rfl ?_
            refine hp1813 _ _ _ rfl ?_
            refine hp1806 _ _ _ rfl ?_
            obtain rfl := osome hs
            exact hpan _ _ _ hd2304 ⟨own2304, rfl, hX2304⟩
          refine rg_plain_seq (n := 104) (rs := [Fct.at_ 2296 gc1 tc1 #[.slice Ac1_0 c1.1.1.length cc1_0, .int .i64 r2295.2.1.2, .int .i64 r2295.2.2.1, .int .i64 r2295.2.2.2]]) (own0 := own2299) (K := [2296, 2301]) (bs := [0, 0, 0, 0, 8, 24, 56, 120, 252, 510, 1023, 2047, 4095]) (ds := [⟨[], [0], [], Fct.val 41 (.pointer (some ⟨gc1, 0, none⟩))⟩, ⟨[], [10], [], Fct.val 42 (.int .i64 r2295.1)⟩, ⟨[], [0], [], Fct.val 43 (.pointer (some ⟨gc1, 0, none⟩))⟩, ⟨[], [0], [], Fct.val 44 (.pointer (some ⟨gc1, 0, none⟩))⟩, ⟨[3], [], [], Fct.val 45 (.pointer (some ⟨gc1, 0, none⟩))⟩, ⟨[4], [], [], Fct.val 46 (.pointer (some ⟨gc1, 2, none⟩))⟩, ⟨[5], [], [], Fct.val 47 (.pointer (some ⟨gc1, 3, none⟩))⟩, ⟨[6, 13], [], [], Fct.val 48 (.int .i64 r2295.2.2.2)⟩, ⟨[2, 7, 13], [], [2296], Fct.mems [2301] 49 (fun (_ : Unit) => .int .i64 r2300.1) (fun (_ : Unit) own w => BlkO own 2301 w gc1 tc1 #[.slice Ac1_0 c1.1.1.length cc1_0, .int .i64 r2300.2.1.2, .int .i64 r2300.2.2.1, .int .i64 r2300.2.2.2]) (fun hk he h => BlkO.evo (not_hit hk (by decide)) he h)⟩, ⟨[1, 8], [], [], Fct.val 50 (.agg #[.int .i64 r2295.1, .int .i64 r2300.1])⟩, ⟨[0], [], [], Fct.val 51 (.pointer (some ⟨gc1, 0, none⟩))⟩, ⟨[10], [], [], Fct.val 52 (.pointer (some ⟨gc1, 2, none⟩))⟩, ⟨[11, 9, 8], [], [2301], Fct.at_ 2302 gc1 tc1 #[.slice Ac1_0 c1.1.1.length cc1_0, .int .i64 r2300.2.1.2, .int .i64 r2295.1, .int .i64 r2300.1]⟩]) (by kernel_rfl) hz2299 hd2299 (by simp only [List.forall_mem_cons]; exact ⟨b2299_gc1, fun _ h => nomatch h⟩) ?_ ?_
          · refine sc (fun _ _ _ _ s _ => px (or_move (s.1.trans e2299_0))) ?_
            refine sc (fun _ _ _ _ s _ => px (or_move (s.1.trans e2299_10))) ?_
            refine sc (fun _ _ _ _ s _ => px (or_move (s.1.trans e2299_0))) ?_
            refine sc (fun _ _ _ _ s _ => px (or_move (s.1.trans e2299_0))) ?_
            refine sc (fun _ _ _ f _ _ => px (or_k [(44, .pointer (some ⟨gc1, 0, none⟩))] rfl rfl ⟨f.1, trivial⟩ (by kernel_rfl))) ?_
            refine sc (fun _ _ _ f _ _ => px (or_field fo67_1 f.1 (by rfl))) ?_
            refine sc (fun _ _ _ f _ _ => px (or_field fo56_1 f.1 (by rfl))) ?_
            refine sc (fun own a wx hf hsl hE => ?_) ?_
            · obtain ⟨f_47, (b_gc1 : BlkO own 2296 wx gc1 tc1 #[.slice Ac1_0 c1.1.1.length cc1_0, .int .i64 r2295.2.1.2, .int .i64 r2295.2.2.1, .int .i64 r2295.2.2.2]), -⟩ := hf
              exact px (or_load1 to3 f_47 (Blk.at_ b_gc1.2 3 rfl))
            refine sc (fun own a wx hf hsl hE => ?_) ?_
            · obtain ⟨f_43, f_48, b_gc1, -⟩ := hf
              exact px (or_call cf48 (args2 f_43 f_48) (block_cursor_step_w _ (forth own (look0 [(2296, 1)])) ((c1.1.1, r2295.2.1.2), r2295.2.2) gc1 tc1 Ac1_0 cc1_0 r2295.2.2.2 (look0_le rfl) (BlkO.forth_ (m := (look0 [(2296, 1)])) b_gc1) (RdO.forth_ (m := (look0 [(2296, 1)])) (RdO.evo rfl hE b2299_Ac1_0)) r2300 hr2300) (post_mems0 (m := (look0 [(2296, 1)])) (m' := (look0 [(1, 2301)])) (hm_of rfl) (fun own' w' a' h1 h => ⟨(), h1, BlkO.back_ h (by decide)⟩)))
            refine sc (fun own a wx hf hsl hE => ?_) ?_
            · obtain ⟨f_42, ⟨_, f_49, b_gc1⟩, -⟩ := hf
              exact px (or_k [(42, .int .i64 r2295.1), (49, .int .i64 r2300.1)] rfl rfl ⟨f_42, f_49, trivial⟩ (by kernel_rfl))
            refine sc (fun _ _ _ f _ _ => px (or_k [(41, .pointer (some ⟨gc1, 0, none⟩))] rfl rfl ⟨f.1, trivial⟩ (by kernel_rfl))) ?_
            refine sc (fun _ _ _ f _ _ => px (or_field fo67_1 f.1 (by rfl))) ?_
            refine sc (fun own a wx hf hsl hE => ?_) ?_
            · obtain ⟨f_52, f_50, ⟨_, f_49, b_gc1⟩, -⟩ := hf
              exact px (or_store (l := #[.int .i64 r2295.1, .int .i64 r2300.1]) (lab := 2301) (lab2 := 2302) ts56 f_52 f_50 b_gc1 (by simp) (by kernel_rfl) (mem_of rfl) (by decide) (by kernel_rfl) (fun own' a' w' ha hb => hb))
            exact steps_nil
          intro own2305 a2305 w2305 hd2305 hz2305 hk2305 hf2305 hE2305
          have e2305_0 := (hk2305 0 rfl).trans e2299_0
          have e2305_2 := (hk2305 2 rfl).trans e2299_2
          have e2305_3 := (hk2305 3 rfl).trans e2299_3
          have e2305_5 := (hk2305 5 rfl).trans e2299_5
          have e2305_6 := (hk2305 6 rfl).trans e2299_6
          have e2305_7 := (hk2305 7 rfl).trans e2299_7
          have e2305_8 := (hk2305 8 rfl).trans e2299_8
          have e2305_9 := (hk2305 9 rfl).trans e2299_9
          have e2305_14 := (hk2305 14 rfl).trans e2299_14
          have e2305_15 := (hk2305 15 rfl).trans e2299_15
          have e2305_31 := (hk2305 31 rfl).trans e2299_31
          have e2305_32 := (hk2305 32 rfl).trans e2299_32
          obtain ⟨(b2305_gc1 : BlkO own2305 2302 w2305 gc1 tc1 #[.slice Ac1_0 c1.1.1.length cc1_0, .int .i64 r2300.2.1.2, .int .i64 r2295.1, .int .i64 r2300.1]), -⟩ := hf2305 [12] rfl
          have hX2305 := Evo.step hX2299 hown hE2305 rfl
          have b2305_Ac1_0 := RdO.evo rfl hE2305 b2299_Ac1_0
          have b2305_g1784 := be_ hE2305 b2299_g1784
          have b2305_g1787 := be_ hE2305 b2299_g1787
          have b2305_A1987 := re_ hE2305 b2299_A1987
          have b2305_g1792 := be_ hE2305 b2299_g1792
          have b2305_g1794 := be_ hE2305 b2299_g1794
          have b2305_g1796 := be_ hE2305 b2299_g1796
          have b2305_g1798 := be_ hE2305 b2299_g1798
          have b2305_g2172 := be_ hE2305 b2299_g2172
          have b2305_A2251 := re_ hE2305 b2299_A2251
          obtain ⟨x2315, hx2315, hs⟩ := obind hs
          refine rg_draw g_mixed (n := 104) (rs := [Fct.rowAt 2254 [] 56 R56 A2251 c2252 x2253, Fct.at_ 2250 g2172 59 #[.slice A2251 x2253.length c2252, .int .i64 r2183, .int .i64 r2197]]) (own0 := own2305) (K := [2254, 2250]) (bs := [0, 1, 0, 4, 12, 28, 60, 127, 255, 511]) (ds := [⟨[], [9], [], Fct.val 53 (.pointer (some ⟨g2172, 0, none⟩))⟩, ⟨[0, 11], [], [], Fct.val 54 (.slice A2251 x2253.length c2252)⟩, ⟨[], [0], [], Fct.val 55 (.pointer (some ⟨gc1, 0, none⟩))⟩, ⟨[2], [], [], Fct.val 56 (.pointer (some ⟨gc1, 0, none⟩))⟩, ⟨[3], [], [], Fct.val 57 (.pointer (some ⟨gc1, 2, none⟩))⟩, ⟨[4], [], [], Fct.val 58 (.agg #[.int .i64 r2295.1, .int .i64 r2300.1])⟩, ⟨[5], [], [], Fct.row 2314 [] 59 56 R56 [(r2295.1, r2300.1)]⟩, ⟨[1, 6, 10], [], [2254], Fct.row 2316 [] 60 56 R56 x2315⟩, ⟨[], [9], [], Fct.val 61 (.pointer (some ⟨g2172, 0, none⟩))⟩, ⟨[8, 7, 11], [], [2250], Fct.by_ [2318] [60] (fun l own w => ∀ (A2317 : Option Addr) (cA2317 : Nat), l.getD 0 undef = .slice A2317 x2315.length cA2317 → BlkO own 2318 w g2172 59 #[.slice A2317 x2315.length cA2317, .int .i64 r2183, .int .i64 r2197]) (fun hk he h _ _ h0' => BlkO.evo (not_hit hk (by decide)) he (h _ _ h0'))⟩]) (by kernel_rfl) hz2305 hd2305 (by simp only [List.forall_mem_cons]; exact ⟨b2305_A2251, b2305_g2172, fun _ h => nomatch h⟩) ?_ ?_
          · refine sc (fun _ _ _ _ s _ => px (or_field fo59_0 (s.1.trans e2305_9) (by rfl))) ?_
            refine sc (fun own a wx hf hsl hE => ?_) ?_
            · obtain ⟨f_53, (b_g2172 : BlkO own 2250 wx g2172 59 #[.slice A2251 x2253.length c2252, .int .i64 r2183, .int .i64 r2197]), -⟩ := hf
              exact px (or_load1 to57 f_53 (Blk.at_ b_g2172.2 0 rfl))
            refine sc (fun _ _ _ _ s _ => px (or_move (s.1.trans e2305_0))) ?_
            refine sc (fun _ _ _ f _ _ => px (or_k [(55, .pointer (some ⟨gc1, 0, none⟩))] rfl rfl ⟨f.1, trivial⟩ (by kernel_rfl))) ?_
            refine sc (fun _ _ _ f _ _ => px (or_field fo67_1 f.1 (by rfl))) ?_
            refine sc (fun _ _ _ f _ hE => px (or_load (l := [.int .i64 r2295.1, .int .i64 r2300.1]) ta56 f.1 (Blk.cellsFrom (be_ hE b2305_gc1).2 2 rfl) rfl)) ?_
            refine sc (fun _ _ _ f _ _ => px (or_lit (lab := 2314) (e := 56) (cs := #[.int .i64 r2295.1, .int .i64 r2300.1]) (F := E56) (or_new [(58, .agg #[.int .i64 r2295.1, .int .i64 r2300.1])] rfl rfl ⟨f.1, trivial⟩ (by kernel_rfl)) rfl rfl (show 1 ≤ maxLen by decide))) ?_
            refine sc (fun own a wx hf hsl hE => ?_) ?_
            · obtain ⟨f_54, ⟨⟨A2313, cA2313⟩, f_59, b_A2313⟩, b_A2251, -⟩ := hf
              exact px (or_append (R := R56) (lab := 2254) (lab2 := 2316) (L := []) (L3 := []) tp57 f_54 b_A2251 (by decide) f_59 (RwO.rd b_A2313) hx2315 (by decide) (by decide) (mem_of rfl) (.inl (Rep.fl_flat _)))
            refine sc (fun _ _ _ _ s _ => px (or_field fo59_0 (s.1.trans e2305_9) (by rfl))) ?_
            refine sc (fun own a wx hf hsl hE => ?_) ?_
            · obtain ⟨f_61, ⟨⟨A2317, cA2317⟩, (f_60 : a.eval (.tmp 60) = .slice A2317 x2315.length cA2317), b_A2317⟩, b_g2172, -⟩ := hf
              exact px (or_store1 (lab := 2250) (lab2 := 2318) ts57 f_61 f_60 b_g2172 (by simp) rfl (mem_of rfl) (by decide) rfl (fun own' a' w' ha hb => fun _ _ h0' => by cases (f_60.symm.trans ((ha 60).symm.trans h0')); exact hb))
            exact steps_nil
          intro own2319 a2319 w2319 hd2319 hz2319 hk2319 hf2319 hE2319
          have e2319_0 := (hk2319 0 rfl).trans e2305_0
          have e2319_2 := (hk2319 2 rfl).trans e2305_2
          have e2319_3 := (hk2319 3 rfl).trans e2305_3
          have e2319_5 := (hk2319 5 rfl).trans e2305_5
          have e2319_6 := (hk2319 6 rfl).trans e2305_6
          have e2319_7 := (hk2319 7 rfl).trans e2305_7
          have e2319_8 := (hk2319 8 rfl).trans e2305_8
          have e2319_9 := (hk2319 9 rfl).trans e2305_9
          have e2319_14 := (hk2319 14 rfl).trans e2305_14
          have e2319_15 := (hk2319 15 rfl).trans e2305_15
          have e2319_31 := (hk2319 31 rfl).trans e2305_31
          have e2319_32 := (hk2319 32 rfl).trans e2305_32
          obtain ⟨⟨⟨A2317, cA2317⟩, (f_60 : a2319.eval (.tmp 60) = .slice A2317 x2315.length cA2317), (b2319_A2317 : RwO own2319 2316 [] w2319 56 R56 A2317 cA2317 x2315)⟩, (bq_g2172 : ∀ (A2317 : Option Addr) (cA2317 : Nat), a2319.eval (.tmp 60) = .slice A2317 x2315.length cA2317 → BlkO own2319 2318 w2319 g2172 59 #[.slice A2317 x2315.length cA2317, .int .i64 r2183, .int .i64 r2197]), -⟩ := hf2319 [7, 9] rfl
          have b2319_g2172 := bq_g2172 _ _ f_60
          have hX2319 := Evo.step hX2305 hown hE2319 rfl
          have b2319_Ac1_0 := RdO.evo rfl hE2319 b2305_Ac1_0
          have b2319_g1784 := be_ hE2319 b2305_g1784
          have b2319_g1787 := be_ hE2319 b2305_g1787
          have b2319_A1987 := re_ hE2319 b2305_A1987
          have b2319_g1792 := be_ hE2319 b2305_g1792
          have b2319_g1794 := be_ hE2319 b2305_g1794
          have b2319_g1796 := be_ hE2319 b2305_g1796
          have b2319_g1798 := be_ hE2319 b2305_g1798
          have b2319_gc1 := be_ hE2319 b2305_gc1
          refine hn2294 _ _ ?_
          refine hn2293 _ _ ?_
          refine rg0 104 own2319 (bz 2) [⟨[], [32], [], Fct.val 62 (.int .i64 (ad x2255 1))⟩, ⟨[0], [], [], Fct.val 32 (.int .i64 (ad x2255 1))⟩] hz2319 hd2319 (by kernel_rfl) ?_ ?_
          · refine sc (fun _ _ _ _ s _ => px (or_add (s.1.trans e2319_32) rfl rfl)) ?_
            refine sc (fun _ _ _ f _ _ => px (or_move f.1)) ?_
            exact steps_nil
          intro own2320 a2320 w2320 hd2320 hz2320 hk2320 hf2320 hE2320
          have e2320_0 := (hk2320 0 rfl).trans e2319_0
          have e2320_2 := (hk2320 2 rfl).trans e2319_2
          have e2320_3 := (hk2320 3 rfl).trans e2319_3
          have e2320_5 := (hk2320 5 rfl).trans e2319_5
          have e2320_6 := (hk2320 6 rfl).trans e2319_6
          have e2320_7 := (hk2320 7 rfl).trans e2319_7
          have e2320_8 := (hk2320 8 rfl).trans e2319_8
          have e2320_9 := (hk2320 9 rfl).trans e2319_9
          have e2320_14 := (hk2320 14 rfl).trans e2319_14
          have e2320_15 := (hk2320 15 rfl).trans e2319_15
          have e2320_31 := (hk2320 31 rfl).trans e2319_31
          obtain ⟨(e2320_32 : a2320.eval (.tmp 32) = .int .i64 (ad x2255 1)), -⟩ := hf2320 [1] rfl
          have hX2320 := Evo.step hX2319 hown hE2320 rfl
          have b2320_Ac1_0 := RdO.evo rfl hE2320 b2319_Ac1_0
          have b2320_g1784 := be_ hE2320 b2319_g1784
          have b2320_g1787 := be_ hE2320 b2319_g1787
          have b2320_A1987 := re_ hE2320 b2319_A1987
          have b2320_g1792 := be_ hE2320 b2319_g1792
          have b2320_g1794 := be_ hE2320 b2319_g1794
          have b2320_g1796 := be_ hE2320 b2319_g1796
          have b2320_g1798 := be_ hE2320 b2319_g1798
          have b2320_gc1 := be_ hE2320 b2319_gc1
          have b2320_g2172 := be_ hE2320 b2319_g2172
          have b2320_A2317 := re_ hE2320 b2319_A2317
          exact hn2288 _ _ _ hs ⟨(rl [(2302, 2245), (2316, 2254), (2318, 2250)] own2320), A2317, cA2317, hd2320, hz2320, e2320_0, e2320_2, e2320_3, e2320_5, e2320_6, e2320_7, e2320_8, e2320_9, e2320_14, e2320_15, e2320_31, e2320_32, (Evo.rl_ hX2320 hown rfl), (BlkO.rl_ (mm := [(2302, 2245), (2316, 2254), (2318, 2250)]) b2320_gc1), (RdO.rl_ (mm := [(2302, 2245), (2316, 2254), (2318, 2250)]) b2320_Ac1_0), (BlkO.rl_ (mm := [(2302, 2245), (2316, 2254), (2318, 2250)]) b2320_g1784), (BlkO.rl_ (mm := [(2302, 2245), (2316, 2254), (2318, 2250)]) b2320_g1787), (RwO.rl_ (mm := [(2302, 2245), (2316, 2254), (2318, 2250)]) b2320_A1987), (BlkO.rl_ (mm := [(2302, 2245), (2316, 2254), (2318, 2250)]) b2320_g1792), (BlkO.rl_ (mm := [(2302, 2245), (2316, 2254), (2318, 2250)]) b2320_g1794), (BlkO.rl_ (mm := [(2302, 2245), (2316, 2254), (2318, 2250)]) b2320_g1796), (BlkO.rl_ (mm := [(2302, 2245), (2316, 2254), (2318, 2250)]) b2320_g1798), (BlkO.rl_ (mm := [(2302, 2245), (2316, 2254), (2318, 2250)]) b2320_g2172), (RwO.rl_ (mm := [(2302, 2245), (2316, 2254), (2318, 2250)]) b2320_A2317)⟩
        refine fl_exit ?_
        refine hp2291 _ _ _ rfl ?_
        replace hs := hz2288 _ hs
        refine hp2288 _ _ _ rfl ?_
        refine hx2211 _ _ ?_
        refine hn2204 _ _ ?_
        obtain ⟨x2330, hx2330, hs⟩ := obind hs
        refine rg_plain (n := 104) (rs := [Fct.rowAt 1990 [2249] 59 R59 A1987 c1988 out1989, Fct.at_ 1986 g1787 25 #[.slice A1987 out1989.length c1988, .slice none 0 0]]) (own0 := own2290) (K := [1990, 1986]) (bs := [0, 1, 0, 4, 15, 31, 63]) (ds := [⟨[], [3], [], Fct.val 63 (.pointer (some ⟨g1787, 0, none⟩))⟩, ⟨[0, 8], [], [], Fct.val 64 (.slice A1987 out1989.length c1988)⟩, ⟨[], [9], [], Fct.val 65 (.agg #[.slice A2251 x2253.length c2252, .int .i64 r2183, .int .i64 r2197])⟩, ⟨[2], [], [], Fct.row 2329 [2254] 66 59 R59 [(x2253, r2183, r2197)]⟩, ⟨[1, 3, 7], [], [1990], Fct.row 2331 [2249, 2254, 2329] 67 59 R59 x2330⟩, ⟨[], [3], [], Fct.val 68 (.pointer (some ⟨g1787, 0, none⟩))⟩, ⟨[5, 4, 8], [], [1986], Fct.by_ [2333] [67] (fun l own w => ∀ (A2332 : Option Addr) (cA2332 : Nat), l.getD 0 undef = .slice A2332 x2330.length cA2332 → BlkO own 2333 w g1787 25 #[.slice A2332 x2330.length cA2332, .slice none 0 0]) (fun hk he h _ _ h0' => BlkO.evo (not_hit hk (by decide)) he (h _ _ h0'))⟩]) (by kernel_rfl) hz2290 hd2290 (by simp only [List.forall_mem_cons]; exact ⟨b2290_A1987, b2290_g1787, fun _ h => nomatch h⟩) ?_ ?_
        · refine sc (fun _ _ _ _ s _ => px (or_field fo25_0 (s.1.trans e2290_3) (by rfl))) ?_
          refine sc (fun own a wx hf hsl hE => ?_) ?_
          · obtain ⟨f_63, (b_g1787 : BlkO own 1986 wx g1787 25 #[.slice A1987 out1989.length c1988, .slice none 0 0]), -⟩ := hf
            exact px (or_load1 to22 f_63 (Blk.at_ b_g1787.2 0 rfl))
          refine sc (fun _ _ _ _ s hE => px (or_load (l := [.slice A2251 x2253.length c2252, .int .i64 r2183, .int .i64 r2197]) ta59 (s.1.trans e2290_9) (Blk.cellsFrom (be_ hE b2290_g2172).2 0 rfl) rfl)) ?_
          refine sc (fun _ _ _ f _ hE => px (or_litN (R := R59) (lab := 2329) (L := [2254]) (e := 59) (cs := #[.slice A2251 x2253.length c2252, .int .i64 r2183, .int .i64 r2197]) (l := [(x2253, r2183, r2197)]) (n := 1) [(65, .agg #[.slice A2251 x2253.length c2252, .int .i64 r2183, .int .i64 r2197])] rfl rfl ⟨f.1, trivial⟩ (by kernel_rfl) rfl (by decide) ⟨(Ex.iff X59).2 ⟨((A2251, c2252), (), ()), rfl, ⟨(RwO.rd (re_ hE b2290_A2251)), trivial, trivial⟩⟩, rfl⟩ rfl)) ?_
          refine sc (fun own a wx hf hsl hE => ?_) ?_
          · obtain ⟨f_64, ⟨⟨A2328, cA2328⟩, f_66, b_A2328⟩, b_A1987, -⟩ := hf
            exact px (or_append (R := R59) (lab := 1990) (lab2 := 2331) (L := [2249]) (L3 := [2249, 2254, 2329]) tp22 f_64 b_A1987 (by decide) f_66 (RwO.rd b_A2328) hx2330 (by decide) (by decide) (mem_of rfl) (.inr ⟨rfl, rfl, by decide, by decide⟩))
          refine sc (fun _ _ _ _ s _ => px (or_field fo25_0 (s.1.trans e2290_3) (by rfl))) ?_
          refine sc (fun own a wx hf hsl hE => ?_) ?_
          · obtain ⟨f_68, ⟨⟨A2332, cA2332⟩, (f_67 : a.eval (.tmp 67) = .slice A2332 x2330.length cA2332), b_A2332⟩, b_g1787, -⟩ := hf
            exact px (or_store1 (lab := 1986) (lab2 := 2333) ts22 f_68 f_67 b_g1787 (by simp) rfl (mem_of rfl) (by decide) rfl (fun own' a' w' ha hb => fun _ _ h0' => by cases (f_67.symm.trans ((ha 67).symm.trans h0')); exact hb))
          exact steps_nil
        intro own2334 a2334 w2334 hd2334 hz2334 hk2334 hf2334 hE2334
        have e2334_0 := (hk2334 0 rfl).trans e2290_0
        have e2334_2 := (hk2334 2 rfl).trans e2290_2
        have e2334_3 := (hk2334 3 rfl).trans e2290_3
        have e2334_5 := (hk2334 5 rfl).trans e2290_5
        have e2334_6 := (hk2334 6 rfl).trans e2290_6
        have e2334_7 := (hk2334 7 rfl).trans e2290_7
        have e2334_8 := (hk2334 8 rfl).trans e2290_8
        have e2334_14 := (hk2334 14 rfl).trans e2290_14
        have e2334_15 := (hk2334 15 rfl).trans e2290_15
        obtain ⟨⟨⟨A2332, cA2332⟩, (f_67 : a2334.eval (.tmp 67) = .slice A2332 x2330.length cA2332), (b2334_A2332 : RwO own2334 2331 [2249, 2254, 2329] w2334 59 R59 A2332 cA2332 x2330)⟩, (bq_g1787 : ∀ (A2332 : Option Addr) (cA2332 : Nat), a2334.eval (.tmp 67) = .slice A2332 x2330.length cA2332 → BlkO own2334 2333 w2334 g1787 25 #[.slice A2332 x2330.length cA2332, .slice none 0 0]), -⟩ := hf2334 [4, 6] rfl
        have b2334_g1787 := bq_g1787 _ _ f_67
        have hX2334 := Evo.step hX2290 hown hE2334 rfl
        have b2334_gc1 := be_ hE2334 b2290_gc1
        have b2334_Ac1_0 := RdO.evo rfl hE2334 b2290_Ac1_0
        have b2334_g1784 := be_ hE2334 b2290_g1784
        have b2334_g1792 := be_ hE2334 b2290_g1792
        have b2334_g1794 := be_ hE2334 b2290_g1794
        have b2334_g1796 := be_ hE2334 b2290_g1796
        have b2334_g1798 := be_ hE2334 b2290_g1798
        refine hn2171 _ _ ?_
        refine hn2170 _ _ ?_
        refine rg0 104 own2334 (bz 2) [⟨[], [15], [], Fct.val 69 (.int .i64 (ad x1994 1))⟩, ⟨[0], [], [], Fct.val 15 (.int .i64 (ad x1994 1))⟩] hz2334 hd2334 (by kernel_rfl) ?_ ?_
        · refine sc (fun _ _ _ _ s _ => px (or_add (s.1.trans e2334_15) rfl rfl)) ?_
          refine sc (fun _ _ _ f _ _ => px (or_move f.1)) ?_
          exact steps_nil
        intro own2335 a2335 w2335 hd2335 hz2335 hk2335 hf2335 hE2335
        have e2335_0 := (hk2335 0 rfl).trans e2334_0
        have e2335_2 := (hk2335 2 rfl).trans e2334_2
        have e2335_3 := (hk2335 3 rfl).trans e2334_3
        have e2335_5 := (hk2335 5 rfl).trans e2334_5
        have e2335_6 := (hk2335 6 rfl).trans e2334_6
        have e2335_7 := (hk2335 7 rfl).trans e2334_7
        have e2335_8 := (hk2335 8 rfl).trans e2334_8
        have e2335_14 := (hk2335 14 rfl).trans e2334_14
        obtain ⟨(e2335_15 : a2335.eval (.tmp 15) = .int .i64 (ad x1994 1)), -⟩ := hf2335 [1] rfl
        have hX2335 := Evo.step hX2334 hown hE2335 rfl
        have b2335_gc1 := be_ hE2335 b2334_gc1
        have b2335_Ac1_0 := RdO.evo rfl hE2335 b2334_Ac1_0
        have b2335_g1784 := be_ hE2335 b2334_g1784
        have b2335_g1792 := be_ hE2335 b2334_g1792
        have b2335_g1794 := be_ hE2335 b2334_g1794
        have b2335_g1796 := be_ hE2335 b2334_g1796
        have b2335_g1798 := be_ hE2335 b2334_g1798
        have b2335_g1787 := be_ hE2335 b2334_g1787
        have b2335_A2332 := re_ hE2335 b2334_A2332
        exact hn2165 _ _ _ hs ⟨(rl [(2207, 1992), (2245, 1982), (2249, 1991), (2254, 1991), (2329, 1991), (2331, 1990), (2333, 1986)] own2335), A2332, cA2332, hd2335, hz2335, e2335_0, e2335_2, e2335_3, e2335_5, e2335_6, e2335_7, e2335_8, e2335_14, e2335_15, (Evo.rl_ hX2335 hown rfl), (BlkO.rl_ (mm := [(2207, 1992), (2245, 1982), (2249, 1991), (2254, 1991), (2329, 1991), (2331, 1990), (2333, 1986)]) b2335_gc1), (RdO.rl_ (mm := [(2207, 1992), (2245, 1982), (2249, 1991), (2254, 1991), (2329, 1991), (2331, 1990), (2333, 1986)]) b2335_Ac1_0), (BlkO.rl_ (mm := [(2207, 1992), (2245, 1982), (2249, 1991), (2254, 1991), (2329, 1991), (2331, 1990), (2333, 1986)]) b2335_g1784), (BlkO.rl_ (mm := [(2207, 1992), (2245, 1982), (2249, 1991), (2254, 1991), (2329, 1991), (2331, 1990), (2333, 1986)]) b2335_g1787), (RwO.more (RwO.rl_ (mm := [(2207, 1992), (2245, 1982), (2249, 1991), (2254, 1991), (2329, 1991), (2331, 1990), (2333, 1986)]) b2335_A2332) (by decide)), (BlkO.rl_ (mm := [(2207, 1992), (2245, 1982), (2249, 1991), (2254, 1991), (2329, 1991), (2331, 1990), (2333, 1986)]) b2335_g1792), (BlkO.rl_ (mm := [(2207, 1992), (2245, 1982), (2249, 1991), (2254, 1991), (2329, 1991), (2331, 1990), (2333, 1986)]) b2335_g1794), (BlkO.rl_ (mm := [(2207, 1992), (2245, 1982), (2249, 1991), (2254, 1991), (2329, 1991), (2331, 1990), (2333, 1986)]) b2335_g1796), (BlkO.rl_ (mm := [(2207, 1992), (2245, 1982), (2249, 1991), (2254, 1991), (2329, 1991), (2331, 1990), (2333, 1986)]) b2335_g1798)⟩
    refine fl_exit ?_
    refine hp2168 _ _ _ rfl ?_
    replace hs := hz2165 _ hs
    refine hp2165 _ _ _ rfl ?_
    refine hx1813 _ _ ?_
    refine hn1806 _ _ ?_
    refine fl_seq (fun Q2336 hn2336 hp2336 => ?_)
    refine rngO_cases hs (fun e2340 he2340 hs => ?_) (fun r2337 hr2337 hs => ?_)
    · refine rg_pan_seq 1 (n := 104) (rs := [Fct.at_ 1982 gc1 tc1 #[.slice Ac1_0 c1.1.1.length cc1_0, .int .i64 c1983, .int .i64 c1984, .int .i64 c1985], Fct.at_ 1802 g1794 3 #[.int .i64 32]]) (own0 := own2167) (K := [1982, 1802]) (bs := [0, 1, 0]) (ds := [⟨[], [0], [], Fct.val 70 (.pointer (some ⟨gc1, 0, none⟩))⟩, ⟨[0, 3, 4], [6], [1982, 1802], Fct.any⟩, dN]) (by kernel_rfl) hz2167 hd2167 (by simp only [List.forall_mem_cons]; exact ⟨b2167_gc1, b2167_g1794, fun _ h => nomatch h⟩) rfl rfl rfl ?_ (ch := pE (.iface 69 (.agg #[.int .i64 e2340]))) ?_ ?_
      · refine sc (fun _ _ _ _ s _ => px (or_move (s.1.trans e2167_0))) ?_
        exact steps_nil
      · intro own a wx hf hsl hE
        obtain ⟨f_70, b_gc1, b_g1794, -⟩ := hf
        obtain ⟨s_6, -⟩ := hsl
        exact or_callP cf44 (args2 f_70 (s_6.trans e2167_6)) (block_cursor_count_p _ (forth own (look0 [(1802, 2), (1982, 1)])) ((c1.1.1, c1983), (c1984, c1985)) gc1 tc1 Ac1_0 cc1_0 32 g1794 3 (look0_le rfl) (BlkO.forth_ (m := (look0 [(1802, 2), (1982, 1)])) b_gc1) (RdO.forth_ (m := (look0 [(1802, 2), (1982, 1)])) (RdO.evo rfl hE b2167_Ac1_0)) (BlkO.forth_ (m := (look0 [(1802, 2), (1982, 1)])) b_g1794) e2340 he2340) (m' := look [(2, 1802), (1, 1982)]) (hm_of rfl)
      intro own2341 a2341 w2341 hd2341 hz2341 hk2341 hE2341
      have hX2341 := Evo.step hX2167 hown hE2341 rfl
      refine hp2336 _ _ _ rfl ?_
      obtain rfl := osome hs
      exact hpan _ _ _ hd2341 ⟨own2341, rfl, hX2341⟩
    refine rg_plain_seq (n := 104) (rs := [Fct.at_ 1982 gc1 tc1 #[.slice Ac1_0 c1.1.1.length cc1_0, .int .i64 c1983, .int .i64 c1984, .int .i64 c1985], Fct.at_ 1802 g1794 3 #[.int .i64 32]]) (own0 := own2167) (K := [1982, 1802]) (bs := [0, 1, 0]) (ds := [⟨[], [0], [], Fct.val 70 (.pointer (some ⟨gc1, 0, none⟩))⟩, ⟨[0, 3, 4], [6], [1982, 1802], Fct.mems [2338, 2339] 71 (fun (_ : Unit) => .int .i64 r2337.1) (fun (_ : Unit) own w => BlkO own 2338 w gc1 tc1 #[.slice Ac1_0 c1.1.1.length cc1_0, .int .i64 r2337.2.1.1.2, .int .i64 r2337.2.1.2.1, .int .i64 r2337.2.1.2.2] ∧ BlkO own 2339 w g1794 3 #[.int .i64 r2337.2.2]) (fun hk he h => ⟨BlkO.evo (not_hit hk (by decide)) he h.1, BlkO.evo (not_hit hk (by decide)) he h.2⟩)⟩, ⟨[], [], [], Fct.val 72 (.int .i64 0)⟩]) (by kernel_rfl) hz2167 hd2167 (by simp only [List.forall_mem_cons]; exact ⟨b2167_gc1, b2167_g1794, fun _ h => nomatch h⟩) ?_ ?_
    · refine sc (fun _ _ _ _ s _ => px (or_move (s.1.trans e2167_0))) ?_
      refine sc (fun own a wx hf hsl hE => ?_) ?_
      · obtain ⟨f_70, b_gc1, b_g1794, -⟩ := hf
        obtain ⟨s_6, -⟩ := hsl
        exact px (or_call cf44 (args2 f_70 (s_6.trans e2167_6)) (block_cursor_count_w _ (forth own (look0 [(1802, 2), (1982, 1)])) ((c1.1.1, c1983), (c1984, c1985)) gc1 tc1 Ac1_0 cc1_0 32 g1794 3 (look0_le rfl) (BlkO.forth_ (m := (look0 [(1802, 2), (1982, 1)])) b_gc1) (RdO.forth_ (m := (look0 [(1802, 2), (1982, 1)])) (RdO.evo rfl hE b2167_Ac1_0)) (BlkO.forth_ (m := (look0 [(1802, 2), (1982, 1)])) b_g1794) r2337 hr2337) (post_mems0 (m := (look0 [(1802, 2), (1982, 1)])) (m' := (look0 [(1, 2338), (2, 2339)])) (hm_of rfl) (fun own' w' a' h1 h => ⟨(), h1, ⟨BlkO.back_ h.1 (by decide), BlkO.back_ h.2 (by decide)⟩⟩)))
      refine sc (fun _ _ _ _ _ _ => px (or_move rfl)) ?_
      exact steps_nil
    intro own2342 a2342 w2342 hd2342 hz2342 hk2342 hf2342 hE2342
    have e2342_0 := (hk2342 0 rfl).trans e2167_0
    have e2342_2 := (hk2342 2 rfl).trans e2167_2
    have e2342_3 := (hk2342 3 rfl).trans e2167_3
    have e2342_7 := (hk2342 7 rfl).trans e2167_7
    have e2342_8 := (hk2342 8 rfl).trans e2167_8
    obtain ⟨⟨_, (e2342_71 : a2342.eval (.tmp 71) = .int .i64 r2337.1), (b2342_gc1 : BlkO own2342 2338 w2342 gc1 tc1 #[.slice Ac1_0 c1.1.1.length cc1_0, .int .i64 r2337.2.1.1.2, .int .i64 r2337.2.1.2.1, .int .i64 r2337.2.1.2.2]), (b_g1794 : BlkO own2342 2339 w2342 g1794 3 #[.int .i64 r2337.2.2])⟩, (e2342_72 : a2342.eval (.tmp 72) = .int .i64 0), -⟩ := hf2342 [1, 2] rfl
    have hX2342 := Evo.step hX2167 hown hE2342 rfl
    have b2342_Ac1_0 := RdO.evo rfl hE2342 b2167_Ac1_0
    have b2342_g1784 := be_ hE2342 b2167_g1784
    have b2342_g1787 := be_ hE2342 b2167_g1787
    have b2342_A1987 := re_ hE2342 b2167_A1987
    have b2342_g1796 := be_ hE2342 b2167_g1796
    have b2342_g1798 := be_ hE2342 b2167_g1798
    refine fl_block (fun Q2343 hn2343 hx2343 hp2343 => ?_)
    refine fl_loop (body := (fun s => block_cursor_net_b3 c1 out1989 r2337 s.1 s.2.1 s.2.2.1 s.2.2.2.1 s.2.2.2.2.1 s.2.2.2.2.2.1 s.2.2.2.2.2.2)) (z := r) (show loopO _ _ = _ from hs) (fun (s : Int × Int × Int × (List (List (List Int))) × Int × Int × Int) a wx => match s with | (c2738, c2739, c2740, out2745, rings2749, refs2751, x2752) => ∃ (ox : Own) (A2743 : Option Addr) (c2744 : Nat), a.defers = [] ∧ a.tmps.size = 104 ∧ a.eval (.tmp 0) = .pointer (some ⟨gc1, 0, none⟩) ∧ a.eval (.tmp 2) = .pointer (some ⟨g1784, 0, none⟩) ∧ a.eval (.tmp 3) = .pointer (some ⟨g1787, 0, none⟩) ∧ a.eval (.tmp 7) = .pointer (some ⟨g1796, 0, none⟩) ∧ a.eval (.tmp 8) = .pointer (some ⟨g1798, 0, none⟩) ∧ a.eval (.tmp 71) = .int .i64 r2337.1 ∧ a.eval (.tmp 72) = .int .i64 x2752 ∧ Evo [1] own ox w wx ∧ BlkO ox 2737 wx gc1 tc1 #[.slice Ac1_0 c1.1.1.length cc1_0, .int .i64 c2738, .int .i64 c2739, .int .i64 c2740] ∧ RdO ox [0] wx R5 Ac1_0 cc1_0 c1.1.1 ∧ BlkO ox 1785 wx g1784 25 #[.slice none 0 0, .slice none 0 0] ∧ BlkO ox 2741 wx g1787 25 #[.slice A1987 out1989.length c1988, .slice A2743 out2745.length c2744] ∧ RwO ox 1990 [2742] wx 59 R59 A1987 c1988 out1989 ∧ RwO ox 2746 [2747] wx 27 R27 A2743 c2744 out2745 ∧ BlkO ox 2748 wx g1796 3 #[.int .i64 rings2749] ∧ BlkO ox 2750 wx g1798 3 #[.int .i64 refs2751]) ?_ ?_
    · exact ⟨(rl [(1803, 2748), (1804, 2750), (1986, 2741), (1991, 2742), (2338, 2737)] own2342), none, 0, hd2342, hz2342, e2342_0, e2342_2, e2342_3, e2342_7, e2342_8, e2342_71, e2342_72, (Evo.rl_ hX2342 hown rfl), (BlkO.rl_ (mm := [(1803, 2748), (1804, 2750), (1986, 2741), (1991, 2742), (2338, 2737)]) b2342_gc1), (RdO.rl_ (mm := [(1803, 2748), (1804, 2750), (1986, 2741), (1991, 2742), (2338, 2737)]) b2342_Ac1_0), (BlkO.rl_ (mm := [(1803, 2748), (1804, 2750), (1986, 2741), (1991, 2742), (2338, 2737)]) b2342_g1784), (BlkO.rl_ (mm := [(1803, 2748), (1804, 2750), (1986, 2741), (1991, 2742), (2338, 2737)]) b2342_g1787), (RwO.rl_ (mm := [(1803, 2748), (1804, 2750), (1986, 2741), (1991, 2742), (2338, 2737)]) b2342_A1987), RwO.nil_, (BlkO.rl_ (mm := [(1803, 2748), (1804, 2750), (1986, 2741), (1991, 2742), (2338, 2737)]) b2342_g1796), (BlkO.rl_ (mm := [(1803, 2748), (1804, 2750), (1986, 2741), (1991, 2742), (2338, 2737)]) b2342_g1798)⟩
    · rintro ⟨c2738, c2739, c2740, out2745, rings2749, refs2751, x2752⟩ zz3153 a3153 w3153 ⟨own3153, A2743, c2744, hd3154, hz3154, e3154_0, e3154_2, e3154_3, e3154_7, e3154_8, e3154_71, e3154_72, hE3154, b3154_gc1, b3154_Ac1_0, b3154_g1784, b3154_g1787, b3154_A1987, b3154_A2743, b3154_g1796, b3154_g1798⟩ hs Q3153 hn3153 hp3153 hz3153
      have hs : block_cursor_net_b3 c1 out1989 r2337 c2738 c2739 c2740 out2745 rings2749 refs2751 x2752 = some zz3153 := hs
      refine rg0_seq 104 own3153 (bz 1) [⟨[], [72, 71], [], Fct.val 73 (.bool (decide (x2752 < r2337.1)))⟩] hz3154 hd3154 (by kernel_rfl) ?_ ?_
      · refine sc (fun _ _ _ _ s _ => px (or_lss (s.1.trans e3154_72) (s.2.1.trans e3154_71) rfl)) ?_
        exact steps_nil
      intro own3155 a3155 w3155 hd3155 hz3155 hk3155 hf3155 hE3155
      have e3155_0 := (hk3155 0 rfl).trans e3154_0
      have e3155_2 := (hk3155 2 rfl).trans e3154_2
      have e3155_3 := (hk3155 3 rfl).trans e3154_3
      have e3155_7 := (hk3155 7 rfl).trans e3154_7
      have e3155_8 := (hk3155 8 rfl).trans e3154_8
      have e3155_71 := (hk3155 71 rfl).trans e3154_71
      have e3155_72 := (hk3155 72 rfl).trans e3154_72
      obtain ⟨(e3155_73 : a3155.eval (.tmp 73) = .bool (decide (x2752 < r2337.1))), -⟩ := hf3155 [0] rfl
      have hX3155 := Evo.step hE3154 hown hE3155 rfl
      have b3155_gc1 := be_ hE3155 b3154_gc1
      have b3155_Ac1_0 := RdO.evo rfl hE3155 b3154_Ac1_0
      have b3155_g1784 := be_ hE3155 b3154_g1784
      have b3155_g1787 := be_ hE3155 b3154_g1787
      have b3155_A1987 := re_ hE3155 b3154_A1987
      have b3155_A2743 := re_ hE3155 b3154_A2743
      have b3155_g1796 := be_ hE3155 b3154_g1796
      have b3155_g1798 := be_ hE3155 b3154_g1798
      refine fl_seq (fun Q3156 hn3156 hp3156 => ?_)
      refine fl_cond e3155_73 hs (fun c3157 hs => ?_) (fun c3157 hs => ?_)
      · refine fl_skip ?_
        refine hn3156 _ _ ?_
        refine fl_seq (fun Q3158 hn3158 hp3158 => ?_)
        refine fl_block (fun Q3159 hn3159 hx3159 hp3159 => ?_)
        refine rg0_seq 104 own3155 (bz 1) [⟨[], [], [], Fct.val 11 (.slice none 0 0)⟩] hz3155 hd3155 (by kernel_rfl) ?_ ?_
        · refine sc (fun _ _ _ _ _ _ => px (or_assign rfl)) ?_
          exact steps_nil
        intro own3160 a3160 w3160 hd3160 hz3160 hk3160 hf3160 hE3160
        have e3160_0 := (hk3160 0 rfl).trans e3155_0
        have e3160_2 := (hk3160 2 rfl).trans e3155_2
        have e3160_3 := (hk3160 3 rfl).trans e3155_3
        have e3160_7 := (hk3160 7 rfl).trans e3155_7
        have e3160_8 := (hk3160 8 rfl).trans e3155_8
        have e3160_71 := (hk3160 71 rfl).trans e3155_71
        have e3160_72 := (hk3160 72 rfl).trans e3155_72
        obtain ⟨(e3160_11 : a3160.eval (.tmp 11) = .slice none 0 0), -⟩ := hf3160 [0] rfl
        have hX3160 := Evo.step hX3155 hown hE3160 rfl
        have b3160_gc1 := be_ hE3160 b3155_gc1
        have b3160_Ac1_0 := RdO.evo rfl hE3160 b3155_Ac1_0
        have b3160_g1784 := be_ hE3160 b3155_g1784
        have b3160_g1787 := be_ hE3160 b3155_g1787
        have b3160_A1987 := re_ hE3160 b3155_A1987
        have b3160_A2743 := re_ hE3160 b3155_A2743
        have b3160_g1796 := be_ hE3160 b3155_g1796
        have b3160_g1798 := be_ hE3160 b3155_g1798
        refine fl_seq (fun Q3161 hn3161 hp3161 => ?_)
        refine rngO_cases hs (fun e3165 he3165 hs => ?_) (fun r3162 hr3162 hs => ?_)
        · refine rg_pan_seq 1 (n := 104) (rs := [Fct.at_ 2737 gc1 tc1 #[.slice Ac1_0 c1.1.1.length cc1_0, .int .i64 c2738, .int .i64 c2739, .int .i64 c2740], Fct.at_ 2748 g1796 3 #[.int .i64 rings2749]]) (own0 := own3160) (K := [2737, 2748]) (bs := [0, 1, 0]) (ds := [⟨[], [0], [], Fct.val 74 (.pointer (some ⟨gc1, 0, none⟩))⟩, ⟨[0, 3, 4], [7], [2737, 2748], Fct.any⟩, dN]) (by kernel_rfl) hz3160 hd3160 (by simp only [List.forall_mem_cons]; exact ⟨b3160_gc1, b3160_g1796, fun _ h => nomatch h⟩) rfl rfl rfl ?_ (ch := pE (.iface 69 (.agg #[.int .i64 e3165]))) ?_ ?_
          · refine sc (fun _ _ _ _ s _ => px (or_move (s.1.trans e3160_0))) ?_
            exact steps_nil
          · intro own a wx hf hsl hE
            obtain ⟨f_74, b_gc1, b_g1796, -⟩ := hf
            obtain ⟨s_7, -⟩ := hsl
            exact or_callP cf44 (args2 f_74 (s_7.trans e3160_7)) (block_cursor_count_p _ (forth own (look0 [(2737, 1), (2748, 2)])) ((c1.1.1, c2738), (c2739, c2740)) gc1 tc1 Ac1_0 cc1_0 rings2749 g1796 3 (look0_le rfl) (BlkO.forth_ (m := (look0 [(2737, 1), (2748, 2)])) b_gc1) (RdO.forth_ (m := (look0 [(2737, 1), (2748, 2)])) (RdO.evo rfl hE b3160_Ac1_0)) (BlkO.forth_ (m := (look0 [(2737, 1), (2748, 2)])) b_g1796) e3165 he3165) (m' := look [(1, 2737), (2, 2748)]) (hm_of rfl)
          intro own3166 a3166 w3166 hd3166 hz3166 hk3166 hE3166
          have hX3166 := Evo.step hX3160 hown hE3166 rfl
          refine hp3161 _ _ _ rfl ?_
          refine hp3159 _ _ _ rfl ?_
          refine hp3158 _ _ _ rfl ?_
          replace hs := hz3153 _ hs
          refine hp3153 _ _ _ rfl ?_
          refine hp2343 _ _ _ rfl ?_
          refine hp2336 _ _ _ rfl ?_
          obtain rfl := osome hs
          exact hpan _ _ _ hd3166 ⟨own3166, rfl, hX3166⟩
        refine rg_plain_seq (n := 104) (rs := [Fct.at_ 2737 gc1 tc1 #[.slice Ac1_0 c1.1.1.length cc1_0, .int .i64 c2738, .int .i64 c2739, .int .i64 c2740], Fct.at_ 2748 g1796 3 #[.int .i64 rings2749]]) (own0 := own3160) (K := [2737, 2748]) (bs := [0, 1, 0]) (ds := [⟨[], [0], [], Fct.val 74 (.pointer (some ⟨gc1, 0, none⟩))⟩, ⟨[0, 3, 4], [7], [2737, 2748], Fct.mems [3163, 3164] 75 (fun (_ : Unit) => .int .i64 r3162.1) (fun (_ : Unit) own w => BlkO own 3163 w gc1 tc1 #[.slice Ac1_0 c1.1.1.length cc1_0, .int .i64 r3162.2.1.1.2, .int .i64 r3162.2.1.2.1, .int .i64 r3162.2.1.2.2] ∧ BlkO own 3164 w g1796 3 #[.int .i64 r3162.2.2]) (fun hk he h => ⟨BlkO.evo (not_hit hk (by decide)) he h.1, BlkO.evo (not_hit hk (by decide)) he h.2⟩)⟩, ⟨[], [], [], Fct.val 76 (.int .i64 0)⟩]) (by kernel_rfl) hz3160 hd3160 (by simp only [List.forall_mem_cons]; exact ⟨b3160_gc1, b3160_g1796, fun _ h => nomatch h⟩) ?_ ?_
        · refine sc (fun _ _ _ _ s _ => px (or_move (s.1.trans e3160_0))) ?_
          refine sc (fun own a wx hf hsl hE => ?_) ?_
          · obtain ⟨f_74, b_gc1, b_g1796, -⟩ := hf
            obtain ⟨s_7, -⟩ := hsl
            exact px (or_call cf44 (args2 f_74 (s_7.trans e3160_7)) (block_cursor_count_w _ (forth own (look0 [(2737, 1), (2748, 2)])) ((c1.1.1, c2738), (c2739, c2740)) gc1 tc1 Ac1_0 cc1_0 rings2749 g1796 3 (look0_le rfl) (BlkO.forth_ (m := (look0 [(2737, 1), (2748, 2)])) b_gc1) (RdO.forth_ (m := (look0 [(2737, 1), (2748, 2)])) (RdO.evo rfl hE b3160_Ac1_0)) (BlkO.forth_ (m := (look0 [(2737, 1), (2748, 2)])) b_g1796) r3162 hr3162) (post_mems0 (m := (look0 [(2737, 1), (2748, 2)])) (m' := (look0 [(1, 3163), (2, 3164)])) (hm_of rfl) (fun own' w' a' h1 h => ⟨(), h1, ⟨BlkO.back_ h.1 (by decide), BlkO.back_ h.2 (by decide)⟩⟩)))
          refine sc (fun _ _ _ _ _ _ => px (or_move rfl)) ?_
          exact steps_nil
        intro own3167 a3167 w3167 hd3167 hz3167 hk3167 hf3167 hE3167
        have e3167_0 := (hk3167 0 rfl).trans e3160_0
        have e3167_2 := (hk3167 2 rfl).trans e3160_2
        have e3167_3 := (hk3167 3 rfl).trans e3160_3
        have e3167_7 := (hk3167 7 rfl).trans e3160_7
        have e3167_8 := (hk3167 8 rfl).trans e3160_8
        have e3167_11 := (hk3167 11 rfl).trans e3160_11
        have e3167_71 := (hk3167 71 rfl).trans e3160_71
        have e3167_72 := (hk3167 72 rfl).trans e3160_72
        obtain ⟨⟨_, (e3167_75 : a3167.eval (.tmp 75) = .int .i64 r3162.1), (b3167_gc1 : BlkO own3167 3163 w3167 gc1 tc1 #[.slice Ac1_0 c1.1.1.length cc1_0, .int .i64 r3162.2.1.1.2, .int .i64 r3162.2.1.2.1, .int .i64 r3162.2.1.2.2]), (b3167_g1796 : BlkO own3167 3164 w3167 g1796 3 #[.int .i64 r3162.2.2])⟩, (e3167_76 : a3167.eval (.tmp 76) = .int .i64 0), -⟩ := hf3167 [1, 2] rfl
        have hX3167 := Evo.step hX3160 hown hE3167 rfl
        have b3167_Ac1_0 := RdO.evo rfl hE3167 b3160_Ac1_0
        have b3167_g1784 := be_ hE3167 b3160_g1784
        have b3167_g1787 := be_ hE3167 b3160_g1787
        have b3167_A1987 := re_ hE3167 b3160_A1987
        have b3167_A2743 := re_ hE3167 b3160_A2743
        have b3167_g1798 := be_ hE3167 b3160_g1798
        refine fl_block (fun Q3168 hn3168 hx3168 hp3168 => ?_)
        refine fl_loop (body := (fun s => block_cursor_net_b4 c1 out2745 x2752 r3162 s.1 s.2.1 s.2.2.1 s.2.2.2.1 s.2.2.2.2.1 s.2.2.2.2.2)) (z := zz3153) (show loopO _ _ = _ from hs) (fun (s : Int × Int × Int × Int × (List (List Int)) × Int) a wx => match s with | (c3291, c3292, c3293, refs3297, l3300, x3303) => ∃ (ox : Own) (A3298 : Option Addr) (c3299 : Nat), a.defers = [] ∧ a.tmps.size = 104 ∧ a.eval (.tmp 0) = .pointer (some ⟨gc1, 0, none⟩) ∧ a.eval (.tmp 2) = .pointer (some ⟨g1784, 0, none⟩) ∧ a.eval (.tmp 3) = .pointer (some ⟨g1787, 0, none⟩) ∧ a.eval (.tmp 7) = .pointer (some ⟨g1796, 0, none⟩) ∧ a.eval (.tmp 8) = .pointer (some ⟨g1798, 0, none⟩) ∧ a.eval (.tmp 11) = .slice A3298 l3300.length c3299 ∧ a.eval (.tmp 71) = .int .i64 r2337.1 ∧ a.eval (.tmp 72) = .int .i64 x2752 ∧ a.eval (.tmp 75) = .int .i64 r3162.1 ∧ a.eval (.tmp 76) = .int .i64 x3303 ∧ Evo [1] own ox w wx ∧ BlkO ox 3290 wx gc1 tc1 #[.slice Ac1_0 c1.1.1.length cc1_0, .int .i64 c3291, .int .i64 c3292, .int .i64 c3293] ∧ RdO ox [0] wx R5 Ac1_0 cc1_0 c1.1.1 ∧ BlkO ox 1785 wx g1784 25 #[.slice none 0 0, .slice none 0 0] ∧ BlkO ox 2741 wx g1787 25 #[.slice A1987 out1989.length c1988, .slice A2743 out2745.length c2744] ∧ RwO ox 1990 [3294] wx 59 R59 A1987 c1988 out1989 ∧ RwO ox 2746 [3295] wx 27 R27 A2743 c2744 out2745 ∧ BlkO ox 3164 wx g1796 3 #[.int .i64 r3162.2.2] ∧ BlkO ox 3296 wx g1798 3 #[.int .i64 refs3297] ∧ RwN ox 3301 3302 [] wx 28 3 R3 A3298 c3299 l3300) ?_ ?_
        · exact ⟨(rl [(2742, 3294), (2747, 3295), (2750, 3296), (3163, 3290)] own3167), none, 0, hd3167, hz3167, e3167_0, e3167_2, e3167_3, e3167_7, e3167_8, e3167_11, e3167_71, e3167_72, e3167_75, e3167_76, (Evo.rl_ hX3167 hown rfl), (BlkO.rl_ (mm := [(2742, 3294), (2747, 3295), (2750, 3296), (3163, 3290)]) b3167_gc1), (RdO.rl_ (mm := [(2742, 3294), (2747, 3295), (2750, 3296), (3163, 3290)]) b3167_Ac1_0), (BlkO.rl_ (mm := [(2742, 3294), (2747, 3295), (2750, 3296), (3163, 3290)]) b3167_g1784), (BlkO.rl_ (mm := [(2742, 3294), (2747, 3295), (2750, 3296), (3163, 3290)]) b3167_g1787), (RwO.rl_ (mm := [(2742, 3294), (2747, 3295), (2750, 3296), (3163, 3290)]) b3167_A1987), (RwO.rl_ (mm := [(2742, 3294), (2747, 3295), (2750, 3296), (3163, 3290)]) b3167_A2743), (BlkO.rl_ (mm := [(2742, 3294), (2747, 3295), (2750, 3296), (3163, 3290)]) b3167_g1796), (BlkO.rl_ (mm := [(2742, 3294), (2747, 3295), (2750, 3296), (3163, 3290)]) b3167_g1798), RwN.nil_⟩
        · rintro ⟨c3291, c3292, c3293, refs3297, l3300, x3303⟩ zz3421 a3421 w3421 ⟨own3421, A3298, c3299, hd3422, hz3422, e3422_0, e3422_2, e3422_3, e3422_7, e3422_8, e3422_11, e3422_71, e3422_72, e3422_75, e3422_76, hE3422, b3422_gc1, b3422_Ac1_0, b3422_g1784, b3422_g1787, b3422_A1987, b3422_A2743, b3422_g1796, b3422_g1798, b3422_A3298⟩ hs Q3421 hn3421 hp3421 hz3421
          have hs : block_cursor_net_b4 c1 out2745 x2752 r3162 c3291 c3292 c3293 refs3297 l3300 x3303 = some zz3421 := hs
          refine rg0_seq 104 own3421 (bz 1) [⟨[], [76, 75], [], Fct.val 77 (.bool (decide (x3303 < r3162.1)))⟩] hz3422 hd3422 (by kernel_rfl) ?_ ?_
          · refine sc (fun _ _ _ _ s _ => px (or_lss (s.1.trans e3422_76) (s.2.1.trans e3422_75) rfl)) ?_
            exact steps_nil
          intro own3423 a3423 w3423 hd3423 hz3423 hk3423 hf3423 hE3423
          have e3423_0 := (hk3423 0 rfl).trans e3422_0
          have e3423_2 := (hk3423 2 rfl).trans e3422_2
          have e3423_3 := (hk3423 3 rfl).trans e3422_3
          have e3423_7 := (hk3423 7 rfl).trans e3422_7
          have e3423_8 := (hk3423 8 rfl).trans e3422_8
          have e3423_11 := (hk3423 11 rfl).trans e3422_11
          have e3423_71 := (hk3423 71 rfl).trans e3422_71
          have e3423_72 := (hk3423 72 rfl).trans e3422_72
          have e3423_75 := (hk3423 75 rfl).trans e3422_75
          have e3423_76 := (hk3423 76 rfl).trans e3422_76
          obtain ⟨(e3423_77 : a3423.eval (.tmp 77) = .bool (decide (x3303 < r3162.1))), -⟩ := hf3423 [0] rfl
          have hX3423 := Evo.step hE3422 hown hE3423 rfl
          have b3423_gc1 := be_ hE3423 b3422_gc1
          have b3423_Ac1_0 := RdO.evo rfl hE3423 b3422_Ac1_0
          have b3423_g1784 := be_ hE3423 b3422_g1784
          have b3423_g1787 := be_ hE3423 b3422_g1787
          have b3423_A1987 := re_ hE3423 b3422_A1987
          have b3423_A2743 := re_ hE3423 b3422_A2743
          have b3423_g1796 := be_ hE3423 b3422_g1796
          have b3423_g1798 := be_ hE3423 b3422_g1798
          have b3423_A3298 := RwN.evo rfl hE3423 b3422_A3298
          refine fl_seq (fun Q3424 hn3424 hp3424 => ?_)
          refine fl_cond e3423_77 hs (fun c3425 hs => ?_) (fun c3425 hs => ?_)
          · refine fl_skip ?_
            refine hn3424 _ _ ?_
            refine fl_seq (fun Q3426 hn3426 hp3426 => ?_)
            refine fl_block (fun Q3427 hn3427 hx3427 hp3427 => ?_)
            refine rg0_seq 104 own3423 (bz 1) [⟨[], [], [], Fct.val 12 (.slice none 0 0)⟩] hz3423 hd3423 (by kernel_rfl) ?_ ?_
            · refine sc (fun _ _ _ _ _ _ => px (or_assign rfl)) ?_
              exact steps_nil
            intro own3428 a3428 w3428 hd3428 hz3428 hk3428 hf3428 hE3428
            have e3428_0 := (hk3428 0 rfl).trans e3423_0
            have e3428_2 := (hk3428 2 rfl).trans e3423_2
            have e3428_3 := (hk3428 3 rfl).trans e3423_3
            have e3428_7 := (hk3428 7 rfl).trans e3423_7
            have e3428_8 := (hk3428 8 rfl).trans e3423_8
            have e3428_11 := (hk3428 11 rfl).trans e3423_11
            have e3428_71 := (hk3428 71 rfl).trans e3423_71
            have e3428_72 := (hk3428 72 rfl).trans e3423_72
            have e3428_75 := (hk3428 75 rfl).trans e3423_75
            have e3428_76 := (hk3428 76 rfl).trans e3423_76
            obtain ⟨(e3428_12 : a3428.eval (.tmp 12) = .slice none 0 0), -⟩ := hf3428 [0] rfl
            have hX3428 := Evo.step hX3423 hown hE3428 rfl
            have b3428_gc1 := be_ hE3428 b3423_gc1
            have b3428_Ac1_0 := RdO.evo rfl hE3428 b3423_Ac1_0
            have b3428_g1784 := be_ hE3428 b3423_g1784
            have b3428_g1787 := be_ hE3428 b3423_g1787
            have b3428_A1987 := re_ hE3428 b3423_A1987
            have b3428_A2743 := re_ hE3428 b3423_A2743
            have b3428_g1796 := be_ hE3428 b3423_g1796
            have b3428_g1798 := be_ hE3428 b3423_g1798
            have b3428_A3298 := RwN.evo rfl hE3428 b3423_A3298
            refine fl_seq (fun Q3429 hn3429 hp3429 => ?_)
            refine rngO_cases hs (fun e3433 he3433 hs => ?_) (fun r3430 hr3430 hs => ?_)
            · refine rg_pan_seq 1 (n := 104) (rs := [Fct.at_ 3290 gc1 tc1 #[.slice Ac1_0 c1.1.1.length cc1_0, .int .i64 c3291, .int .i64 c3292, .int .i64 c3293], Fct.at_ 3296 g1798 3 #[.int .i64 refs3297]]) (own0 := own3428) (K := [3290, 3296]) (bs := [0, 1, 0]) (ds := [⟨[], [0], [], Fct.val 78 (.pointer (some ⟨gc1, 0, none⟩))⟩, ⟨[0, 3, 4], [8], [3290, 3296], Fct.any⟩, dN]) (by kernel_rfl) hz3428 hd3428 (by simp only [List.forall_mem_cons]; exact ⟨b3428_gc1, b3428_g1798, fun _ h => nomatch h⟩) rfl rfl rfl ?_ (ch := pE (.iface 69 (.agg #[.int .i64 e3433]))) ?_ ?_
              · refine sc (fun _ _ _ _ s _ => px (or_move (s.1.trans e3428_0))) ?_
                exact steps_nil
              · intro own a wx hf hsl hE
                obtain ⟨f_78, b_gc1, b_g1798, -⟩ := hf
                obtain ⟨s_8, -⟩ := hsl
                exact or_callP cf44 (args2 f_78 (s_8.trans e3428_8)) (block_cursor_count_p _ (forth own (look0 [(3290, 1), (3296, 2)])) ((c1.1.1, c3291), (c3292, c3293)) gc1 tc1 Ac1_0 cc1_0 refs3297 g1798 3 (look0_le rfl) (BlkO.forth_ (m := (look0 [(3290, 1), (3296, 2)])) b_gc1) (RdO.forth_ (m := (look0 [(3290, 1), (3296, 2)])) (RdO.evo rfl hE b3428_Ac1_0)) (BlkO.forth_ (m := (look0 [(3290, 1), (3296, 2)])) b_g1798) e3433 he3433) (m' := look [(1, 3290), (2, 3296)]) (hm_of rfl)
              intro own3434 a3434 w3434 hd3434 hz3434 hk3434 hE3434
              have hX3434 := Evo.step hX3428 hown hE3434 rfl
              refine hp3429 _ _ _ rfl ?_
              refine hp3427 _ _ _ rfl ?_
              refine hp3426 _ _ _ rfl ?_
              replace hs := hz3421 _ hs
              refine hp3421 _ _ _ rfl ?_
              refine hp3168 _ _ _ rfl ?_
              refine hp3161 _ _ _ rfl ?_
              refine hp3159 _ _ _ rfl ?_
              refine hp3158 _ _ _ rfl ?_
              replace hs := hz3153 _ hs
              refine hp3153 _ _ _ rfl ?_
              refine hp2343 _ _ _ rfl ?_
              refine hp2336 _ _ _ rfl ?_
              obtain rfl := osome hs
              exact hpan _ _ _ hd3434 ⟨own3434, rfl, hX3434⟩
            refine rg_plain_seq (n := 104) (rs := [Fct.at_ 3290 gc1 tc1 #[.slice Ac1_0 c1.1.1.length cc1_0, .int .i64 c3291, .int .i64 c3292, .int .i64 c3293], Fct.at_ 3296 g1798 3 #[.int .i64 refs3297]]) (own0 := own3428) (K := [3290, 3296]) (bs := [0, 1, 0]) (ds := [⟨[], [0], [], Fct.val 78 (.pointer (some ⟨gc1, 0, none⟩))⟩, ⟨[0, 3, 4], [8], [3290, 3296], Fct.mems [3431, 3432] 79 (fun (_ : Unit) => .int .i64 r3430.1) (fun (_ : Unit) own w => BlkO own 3431 w gc1 tc1 #[.slice Ac1_0 c1.1.1.length cc1_0, .int .i64 r3430.2.1.1.2, .int .i64 r3430.2.1.2.1, .int .i64 r3430.2.1.2.2] ∧ BlkO own 3432 w g1798 3 #[.int .i64 r3430.2.2]) (fun hk he h => ⟨BlkO.evo (not_hit hk (by decide)) he h.1, BlkO.evo (not_hit hk (by decide)) he h.2⟩)⟩, ⟨[], [], [], Fct.val 80 (.int .i64 0)⟩]) (by kernel_rfl) hz3428 hd3428 (by simp only [List.forall_mem_cons]; exact ⟨b3428_gc1, b3428_g1798, fun _ h => nomatch h⟩) ?_ ?_
            · refine sc (fun _ _ _ _ s _ => px (or_move (s.1.trans e3428_0))) ?_
              refine sc (fun own a wx hf hsl hE => ?_) ?_
              · obtain ⟨f_78, b_gc1, b_g1798, -⟩ := hf
                obtain ⟨s_8, -⟩ := hsl
                exact px (or_call cf44 (args2 f_78 (s_8.trans e3428_8)) (block_cursor_count_w _ (forth own (look0 [(3290, 1), (3296, 2)])) ((c1.1.1, c3291), (c3292, c3293)) gc1 tc1 Ac1_0 cc1_0 refs3297 g1798 3 (look0_le rfl) (BlkO.forth_ (m := (look0 [(3290, 1), (3296, 2)])) b_gc1) (RdO.forth_ (m := (look0 [(3290, 1), (3296, 2)])) (RdO.evo rfl hE b3428_Ac1_0)) (BlkO.forth_ (m := (look0 [(3290, 1), (3296, 2)])) b_g1798) r3430 hr3430) (post_mems0 (m := (look0 [(3290, 1), (3296, 2)])) (m' := (look0 [(1, 3431), (2, 3432)])) (hm_of rfl) (fun own' w' a' h1 h => ⟨(), h1, ⟨BlkO.back_ h.1 (by decide), BlkO.back_ h.2 (by decide)⟩⟩)))
              refine sc (fun _ _ _ _ _ _ => px (or_move rfl)) ?_
              exact steps_nil
            intro own3435 a3435 w3435 hd3435 hz3435 hk3435 hf3435 hE3435
            have e3435_0 := (hk3435 0 rfl).trans e3428_0
            have e3435_2 := (hk3435 2 rfl).trans e3428_2
            have e3435_3 := (hk3435 3 rfl).trans e3428_3
            have e3435_7 := (hk3435 7 rfl).trans e3428_7
            have e3435_8 := (hk3435 8 rfl).trans e3428_8
            have e3435_11 := (hk3435 11 rfl).trans e3428_11
            have e3435_12 := (hk3435 12 rfl).trans e3428_12
            have e3435_71 := (hk3435 71 rfl).trans e3428_71
            have e3435_72 := (hk3435 72 rfl).trans e3428_72
            have e3435_75 := (hk3435 75 rfl).trans e3428_75
            have e3435_76 := (hk3435 76 rfl).trans e3428_76
            obtain ⟨⟨_, (e3435_79 : a3435.eval (.tmp 79) = .int .i64 r3430.1), (b3435_gc1 : BlkO own3435 3431 w3435 gc1 tc1 #[.slice Ac1_0 c1.1.1.length cc1_0, .int .i64 r3430.2.1.1.2, .int .i64 r3430.2.1.2.1, .int .i64 r3430.2.1.2.2]), (b3435_g1798 : BlkO own3435 3432 w3435 g1798 3 #[.int .i64 r3430.2.2])⟩, (e3435_80 : a3435.eval (.tmp 80) = .int .i64 0), -⟩ := hf3435 [1, 2] rfl
            have hX3435 := Evo.step hX3428 hown hE3435 rfl
            have b3435_Ac1_0 := RdO.evo rfl hE3435 b3428_Ac1_0
            have b3435_g1784 := be_ hE3435 b3428_g1784
            have b3435_g1787 := be_ hE3435 b3428_g1787
            have b3435_A1987 := re_ hE3435 b3428_A1987
            have b3435_A2743 := re_ hE3435 b3428_A2743
            have b3435_g1796 := be_ hE3435 b3428_g1796
            have b3435_A3298 := RwN.evo rfl hE3435 b3428_A3298
            refine fl_block (fun Q3436 hn3436 hx3436 hp3436 => ?_)
            refine fl_loop (body := (fun s => block_cursor_net_b5 c1 l3300 x3303 r3430 s.1 s.2.1 s.2.2.1 s.2.2.2.1 s.2.2.2.2)) (z := zz3421) (show loopO _ _ = _ from hs) (fun (s : Int × Int × Int × (List Int) × Int) a wx => match s with | (c3462, c3463, c3464, r3469, x3471) => ∃ (ox : Own) (A3467 : Option Addr) (c3468 : Nat), a.defers = [] ∧ a.tmps.size = 104 ∧ a.eval (.tmp 0) = .pointer (some ⟨gc1, 0, none⟩) ∧ a.eval (.tmp 2) = .pointer (some ⟨g1784, 0, none⟩) ∧ a.eval (.tmp 3) = .pointer (some ⟨g1787, 0, none⟩) ∧ a.eval (.tmp 7) = .pointer (some ⟨g1796, 0, none⟩) ∧ a.eval (.tmp 8) = .pointer (some ⟨g1798, 0, none⟩) ∧ a.eval (.tmp 11) = .slice A3298 l3300.length c3299 ∧ a.eval (.tmp 12) = .slice A3467 r3469.length c3468 ∧ a.eval (.tmp 71) = .int .i64 r2337.1 ∧ a.eval (.tmp 72) = .int .i64 x2752 ∧ a.eval (.tmp 75) = .int .i64 r3162.1 ∧ a.eval (.tmp 76) = .int .i64 x3303 ∧ a.eval (.tmp 79) = .int .i64 r3430.1 ∧ a.eval (.tmp 80) = .int .i64 x3471 ∧ Evo [1] own ox w wx ∧ BlkO ox 3461 wx gc1 tc1 #[.slice Ac1_0 c1.1.1.length cc1_0, .int .i64 c3462, .int .i64 c3463, .int .i64 c3464] ∧ RdO ox [0] wx R5 Ac1_0 cc1_0 c1.1.1 ∧ BlkO ox 1785 wx g1784 25 #[.slice none 0 0, .slice none 0 0] ∧ BlkO ox 2741 wx g1787 25 #[.slice A1987 out1989.length c1988, .slice A2743 out2745.length c2744] ∧ RwO ox 1990 [3465] wx 59 R59 A1987 c1988 out1989 ∧ RwO ox 2746 [3466] wx 27 R27 A2743 c2744 out2745 ∧ BlkO ox 3164 wx g1796 3 #[.int .i64 r3162.2.2] ∧ BlkO ox 3432 wx g1798 3 #[.int .i64 r3430.2.2] ∧ RwN ox 3301 3302 [] wx 28 3 R3 A3298 c3299 l3300 ∧ RwO ox 3470 [] wx 3 R3 A3467 c3468 r3469) ?_ ?_
            · exact ⟨(rl [(3294, 3465), (3295, 3466), (3431, 3461)] own3435), none, 0, hd3435, hz3435, e3435_0, e3435_2, e3435_3, e3435_7, e3435_8, e3435_11, e3435_12, e3435_71, e3435_72, e3435_75, e3435_76, e3435_79, e3435_80, (Evo.rl_ hX3435 hown rfl), (BlkO.rl_ (mm := [(3294, 3465), (3295, 3466), (3431, 3461)]) b3435_gc1), (RdO.rl_ (mm := [(3294, 3465), (3295, 3466), (3431, 3461)]) b3435_Ac1_0), (BlkO.rl_ (mm := [(3294, 3465), (3295, 3466), (3431, 3461)]) b3435_g1784), (BlkO.rl_ (mm := [(3294, 3465), (3295, 3466), (3431, 3461)]) b3435_g1787), (RwO.rl_ (mm := [(3294, 3465), (3295, 3466), (3431, 3461)]) b3435_A1987), (RwO.rl_ (mm := [(3294, 3465), (3295, 3466), (3431, 3461)]) b3435_A2743), (BlkO.rl_ (mm := [(3294, 3465), (3295, 3466), (3431, 3461)]) b3435_g1796), (BlkO.rl_ (mm := [(3294, 3465), (3295, 3466), (3431, 3461)]) b3435_g1798), (RwN.rl_ (mm := [(3294, 3465), (3295, 3466), (3431, 3461)]) b3435_A3298), RwO.nil_⟩
            · rintro ⟨c3462, c3463, c3464, r3469, x3471⟩ zz3499 a3499 w3499 ⟨own3499, A3467, c3468, hd3500, hz3500, e3500_0, e3500_2, e3500_3, e3500_7, e3500_8, e3500_11, e3500_12, e3500_71, e3500_72, e3500_75, e3500_76, e3500_79, e3500_80, hE3500, b3500_gc1, b3500_Ac1_0, b3500_g1784, b3500_g1787, b3500_A1987, b3500_A2743, b3500_g1796, b3500_g1798, b3500_A3298, b3500_A3467⟩ hs Q3499 hn3499 hp3499 hz3499
              have hs : block_cursor_net_b5 c1 l3300 x3303 r3430 c3462 c3463 c3464 r3469 x3471 = some zz3499 := hs
              refine rg0_seq 104 own3499 (bz 1) [⟨[], [80, 79], [], Fct.val 81 (.bool (decide (x3471 < r3430.1)))⟩] hz3500 hd3500 (by kernel_rfl) ?_ ?_
              · refine sc (fun _ _ _ _ s _ => px (or_lss (s.1.trans e3500_80) (s.2.1.trans e3500_79) rfl)) ?_
                exact steps_nil
              intro own3501 a3501 w3501 hd3501 hz3501 hk3501 hf3501 hE3501
              have e3501_0 := (hk3501 0 rfl).trans e3500_0
              have e3501_2 := (hk3501 2 rfl).trans e3500_2
              have e3501_3 := (hk3501 3 rfl).trans e3500_3
              have e3501_7 := (hk3501 7 rfl).trans e3500_7
              have e3501_8 := (hk3501 8 rfl).trans e3500_8
              have e3501_11 := (hk3501 11 rfl).trans e3500_11
              have e3501_12 := (hk3501 12 rfl).trans e3500_12
              have e3501_71 := (hk3501 71 rfl).trans e3500_71
              have e3501_72 := (hk3501 72 rfl).trans e3500_72
              have e3501_75 := (hk3501 75 rfl).trans e3500_75
              have e3501_76 := (hk3501 76 rfl).trans e3500_76
              have e3501_79 := (hk3501 79 rfl).trans e3500_79
              have e3501_80 := (hk3501 80 rfl).trans e3500_80
              obtain ⟨(e3501_81 : a3501.eval (.tmp 81) = .bool (decide (x3471 < r3430.1))), -⟩ := hf3501 [0] rfl
              have hX3501 := Evo.step hE3500 hown hE3501 rfl
              have b3501_gc1 := be_ hE3501 b3500_gc1
              have b3501_Ac1_0 := RdO.evo rfl hE3501 b3500_Ac1_0
              have b3501_g1784 := be_ hE3501 b3500_g1784
              have b3501_g1787 := be_ hE3501 b3500_g1787
              have b3501_A1987 := re_ hE3501 b3500_A1987
              have b3501_A2743 := re_ hE3501 b3500_A2743
              have b3501_g1796 := be_ hE3501 b3500_g1796
              have b3501_g1798 := be_ hE3501 b3500_g1798
              have b3501_A3298 := RwN.evo rfl hE3501 b3500_A3298
              have b3501_A3467 := re_ hE3501 b3500_A3467
              refine fl_seq (fun Q3502 hn3502 hp3502 => ?_)
              refine fl_cond e3501_81 hs (fun c3503 hs => ?_) (fun c3503 hs => ?_)
              · refine fl_skip ?_
                refine hn3502 _ _ ?_
                refine fl_seq (fun Q3504 hn3504 hp3504 => ?_)
                refine fl_block (fun Q3505 hn3505 hx3505 hp3505 => ?_)
                refine rngO_cases hs (fun e3521 he3521 hs => ?_) (fun r3512 hr3512 hs => ?_)
                · refine rg_pan 3 (n := 104) (rs := [Fct.at_ 3461 gc1 tc1 #[.slice Ac1_0 c1.1.1.length cc1_0, .int .i64 c3462, .int .i64 c3463, .int .i64 c3464], Fct.rowAt 3470 [] 3 R3 A3467 c3468 r3469]) (own0 := own3501) (K := [3461]) (bs := [0, 0, 0, 4, 12, 30, 62, 127, 255]) (ds := [⟨[], [12], [], Fct.val 82 (.slice A3467 r3469.length c3468)⟩, ⟨[], [0], [], Fct.val 83 (.pointer (some ⟨gc1, 0, none⟩))⟩, ⟨[], [0], [], Fct.val 84 (.pointer (some ⟨gc1, 0, none⟩))⟩, ⟨[2, 9], [], [3461], Fct.any⟩, dN, dN, dN, dN, dN]) (by kernel_rfl) hz3501 hd3501 (by simp only [List.forall_mem_cons]; exact ⟨b3501_gc1, b3501_A3467, fun _ h => nomatch h⟩) rfl rfl rfl ?_ (ch := pE (.iface 69 (.agg #[.int .i64 e3521]))) ?_ ?_
                  · refine sc (fun _ _ _ _ s _ => px (or_move (s.1.trans e3501_12))) ?_
                    refine sc (fun _ _ _ _ s _ => px (or_move (s.1.trans e3501_0))) ?_
                    refine sc (fun _ _ _ _ s _ => px (or_move (s.1.trans e3501_0))) ?_
                    exact steps_nil
                  · intro own a wx hf hsl hE
                    obtain ⟨f_84, b_gc1, -⟩ := hf
                    exact or_callP cf47 (args1 f_84) (block_cursor_number_p _ (forth own (look0 [(3461, 1)])) ((c1.1.1, c3462), (c3463, c3464)) gc1 tc1 Ac1_0 cc1_0 (look0_le rfl) (BlkO.forth_ (m := (look0 [(3461, 1)])) b_gc1) (RdO.forth_ (m := (look0 [(3461, 1)])) (RdO.evo rfl hE b3501_Ac1_0)) e3521 he3521) (m' := look [(1, 3461)]) (hm_of rfl)
                  intro own3522 a3522 w3522 hd3522 hz3522 hk3522 hE3522
                  have hX3522 := Evo.step hX3501 hown hE3522 rfl
                  refine hp3505 _ _ _ rfl ?_
                  refine hp3504 _ _ _ rfl ?_
                  replace hs := hz3499 _ hs
                  refine hp3499 _ _ _ rfl ?_
                  refine hp3436 _ _ _ rfl ?_
                  refine hp3429 _ _ _ rfl ?_
                  refine hp3427 _ _ _ rfl ?_
                  refine hp3426 _ _ _ rfl ?_
                  replace hs := hz3421 _ hs
                  refine hp3421 _ _ _ rfl ?_
                  refine hp3168 _ _ _ rfl ?_
                  refine hp3161 _ _ _ rfl ?_
                  refine hp3159 _ _ _ rfl ?_
                  refine hp3158 _ _ _ rfl ?_
                  replace hs := hz3153 _ hs
                  refine hp3153 _ _ _ rfl ?_
                  refine hp2343 _ _ _ rfl ?_
                  refine hp2336 _ _ _ rfl ?_
                  obtain rfl := osome hs
                  exact hpan _ _ _ hd3522 ⟨own3522, rfl, hX3522⟩
                obtain ⟨r3514, hr3514, hs⟩ := obind hs
                refine rngO_cases hs (fun e3523 he3523 hs => ?_) (fun r3515 hr3515 hs => ?_)
                · refine rg_pan 5 (n := 104) (rs := [Fct.at_ 3461 gc1 tc1 #[.slice Ac1_0 c1.1.1.length cc1_0, .int .i64 c3462, .int .i64 c3463, .int .i64 c3464], Fct.rowAt 3470 [] 3 R3 A3467 c3468 r3469]) (own0 := own3501) (K := [3461]) (bs := [0, 0, 0, 4, 12, 30, 62, 127, 255]) (ds := [⟨[], [12], [], Fct.val 82 (.slice A3467 r3469.length c3468)⟩, ⟨[], [0], [], Fct.val 83 (.pointer (some ⟨gc1, 0, none⟩))⟩, ⟨[], [0], [], Fct.val 84 (.pointer (some ⟨gc1, 0, none⟩))⟩, ⟨[2, 9], [], [3461], Fct.mems [3513] 85 (fun (_ : Unit) => .int .u64 r3512.1) (fun (_ : Unit) own w => BlkO own 3513 w gc1 tc1 #[.slice Ac1_0 c1.1.1.length cc1_0, .int .i64 r3512.2.1.2, .int .i64 r3512.2.2.1, .int .i64 r3512.2.2.2]) (fun hk he h => BlkO.evo (not_hit hk (by decide)) he h)⟩, ⟨[3], [], [], Fct.val 86 (.int .i64 r3514)⟩, ⟨[1, 4, 3], [], [], Fct.any⟩, dN, dN, dN]) (by kernel_rfl) hz3501 hd3501 (by simp only [List.forall_mem_cons]; exact ⟨b3501_gc1, b3501_A3467, fun _ h => nomatch h⟩) rfl rfl rfl ?_ (ch := pE (.iface 69 (.agg #[.int .i64 e3523]))) ?_ ?_
                  · refine sc (fun _ _ _ _ s _ => px (or_move (s.1.trans e3501_12))) ?_
                    refine sc (fun _ _ _ _ s _ => px (or_move (s.1.trans e3501_0))) ?_
                    refine sc (fun _ _ _ _ s _ => px (or_move (s.1.trans e3501_0))) ?_
                    refine sc (fun own a wx hf hsl hE => ?_) ?_
                    · obtain ⟨f_84, b_gc1, -⟩ := hf
                      exact px (or_call cf47 (args1 f_84) (block_cursor_number_w _ (forth own (look0 [(3461, 1)])) ((c1.1.1, c3462), (c3463, c3464)) gc1 tc1 Ac1_0 cc1_0 (look0_le rfl) (BlkO.forth_ (m := (look0 [(3461, 1)])) b_gc1) (RdO.forth_ (m := (look0 [(3461, 1)])) (RdO.evo rfl hE b3501_Ac1_0)) r3512 hr3512) (post_mems0 (m := (look0 [(3461, 1)])) (m' := (look0 [(1, 3513)])) (hm_of rfl) (fun own' w' a' h1 h => ⟨(), h1, BlkO.back_ h (by decide)⟩)))
                    refine sc (fun own a wx hf hsl hE => ?_) ?_
                    · obtain ⟨⟨_, f_85, b_gc1⟩, -⟩ := hf
                      exact px (or_call cf49 (args1 f_85) (varint_Zag_w _ r3512.1  r3514 hr3514) post_val)
                    exact steps_nil
                  · intro own a wx hf hsl hE
                    obtain ⟨f_83, f_86, ⟨_, f_85, b_gc1⟩, -⟩ := hf
                    exact or_callP0 cf45 (args3 f_83 f_86 rfl) (block_cursor_within_ref_p _ ((c1.1.1, r3512.2.1.2), r3512.2.2) gc1 tc1 Ac1_0 cc1_0 r3514 (BlkO.zero_ b_gc1) (RdO.zero (RdO.evo rfl hE b3501_Ac1_0)) e3523 he3523)
                  intro own3524 a3524 w3524 hd3524 hz3524 hk3524 hE3524
                  have hX3524 := Evo.step hX3501 hown hE3524 rfl
                  refine hp3505 _ _ _ rfl ?_
                  refine hp3504 _ _ _ rfl ?_
                  replace hs := hz3499 _ hs
                  refine hp3499 _ _ _ rfl ?_
                  refine hp3436 _ _ _ rfl ?_
                  refine hp3429 _ _ _ rfl ?_
                  refine hp3427 _ _ _ rfl ?_
                  refine hp3426 _ _ _ rfl ?_
                  replace hs := hz3421 _ hs
                  refine hp3421 _ _ _ rfl ?_
                  refine hp3168 _ _ _ rfl ?_
                  refine hp3161 _ _ _ rfl ?_
                  refine hp3159 _ _ _ rfl ?_
                  refine hp3158 _ _ _ rfl ?_
                  replace hs := hz3153 _ hs
                  refine hp3153 _ _ _ rfl ?_
                  refine hp2343 _ _ _ rfl ?_
                  refine hp2336 _ _ _ rfl ?_
                  obtain rfl := osome hs
                  exact hpan _ _ _ hd3524 ⟨own3524, rfl, hX3524⟩
                obtain ⟨x3518, hx3518, hs⟩ := obind hs
                refine rg_plain (n := 104) (rs := [Fct.at_ 3461 gc1 tc1 #[.slice Ac1_0 c1.1.1.length cc1_0, .int .i64 c3462, .int .i64 c3463, .int .i64 c3464], Fct.rowAt 3470 [] 3 R3 A3467 c3468 r3469]) (own0 := own3501) (K := [3461, 3470]) (bs := [0, 0, 0, 4, 12, 30, 62, 127, 255]) (ds := [⟨[], [12], [], Fct.val 82 (.slice A3467 r3469.length c3468)⟩, ⟨[], [0], [], Fct.val 83 (.pointer (some ⟨gc1, 0, none⟩))⟩, ⟨[], [0], [], Fct.val 84 (.pointer (some ⟨gc1, 0, none⟩))⟩, ⟨[2, 9], [], [3461], Fct.mems [3513] 85 (fun (_ : Unit) => .int .u64 r3512.1) (fun (_ : Unit) own w => BlkO own 3513 w gc1 tc1 #[.slice Ac1_0 c1.1.1.length cc1_0, .int .i64 r3512.2.1.2, .int .i64 r3512.2.2.1, .int .i64 r3512.2.2.2]) (fun hk he h => BlkO.evo (not_hit hk (by decide)) he h)⟩, ⟨[3], [], [], Fct.val 86 (.int .i64 r3514)⟩, ⟨[1, 4, 3], [], [], Fct.val 87 (.int .i64 r3515)⟩, ⟨[5], [], [], Fct.row 3517 [] 88 3 R3 [r3515]⟩, ⟨[0, 6, 10], [], [3470], Fct.row 3519 [] 89 3 R3 x3518⟩, ⟨[7], [], [], Fct.rel [12, 89] (fun l => ∀ (A3520 : Option Addr) (cA3520 : Nat), l.getD 1 undef = .slice A3520 x3518.length cA3520 → l.getD 0 undef = .slice A3520 x3518.length cA3520)⟩]) (by kernel_rfl) hz3501 hd3501 (by simp only [List.forall_mem_cons]; exact ⟨b3501_gc1, b3501_A3467, fun _ h => nomatch h⟩) ?_ ?_
                · refine sc (fun _ _ _ _ s _ => px (or_move (s.1.trans e3501_12))) ?_
                  refine sc (fun _ _ _ _ s _ => px (or_move (s.1.trans e3501_0))) ?_
                  refine sc (fun _ _ _ _ s _ => px (or_move (s.1.trans e3501_0))) ?_
                  refine sc (fun own a wx hf hsl hE => ?_) ?_
                  · obtain ⟨f_84, b_gc1, -⟩ := hf
                    exact px (or_call cf47 (args1 f_84) (block_cursor_number_w _ (forth own (look0 [(3461, 1)])) ((c1.1.1, c3462), (c3463, c3464)) gc1 tc1 Ac1_0 cc1_0 (look0_le rfl) (BlkO.forth_ (m := (look0 [(3461, 1)])) b_gc1) (RdO.forth_ (m := (look0 [(3461, 1)])) (RdO.evo rfl hE b3501_Ac1_0)) r3512 hr3512) (post_mems0 (m := (look0 [(3461, 1)])) (m' := (look0 [(1, 3513)])) (hm_of rfl) (fun own' w' a' h1 h => ⟨(), h1, BlkO.back_ h (by decide)⟩)))
                  refine sc (fun own a wx hf hsl hE => ?_) ?_
                  · obtain ⟨⟨_, f_85, b_gc1⟩, -⟩ := hf
                    exact px (or_call cf49 (args1 f_85) (varint_Zag_w _ r3512.1  r3514 hr3514) post_val)
                  refine sc (fun own a wx hf hsl hE => ?_) ?_
                  · obtain ⟨f_83, f_86, ⟨_, f_85, b_gc1⟩, -⟩ := hf
                    exact px (or_call cf45 (args3 f_83 f_86 rfl) (block_cursor_within_ref_w _ ((c1.1.1, r3512.2.1.2), r3512.2.2) gc1 tc1 Ac1_0 cc1_0 r3514 (BlkO.zero_ b_gc1) (RdO.zero (RdO.evo rfl hE b3501_Ac1_0)) r3515 hr3515) post_val)
                  refine sc (fun _ _ _ f _ _ => px (or_lit (lab := 3517) (e := 3) (cs := #[.int .i64 r3515]) (F := E3) (or_new [(87, .int .i64 r3515)] rfl rfl ⟨f.1, trivial⟩ (by kernel_rfl)) rfl rfl (show 1 ≤ maxLen by decide))) ?_
                  refine sc (fun own a wx hf hsl hE => ?_) ?_
                  · obtain ⟨f_82, ⟨⟨A3516, cA3516⟩, f_88, b_A3516⟩, b_A3467, -⟩ := hf
                    exact px (or_append (R := R3) (lab := 3470) (lab2 := 3519) (L := []) (L3 := []) tp28 f_82 b_A3467 (by decide) f_88 (RwO.rd b_A3516) hx3518 (by decide) (by decide) (mem_of rfl) (.inl (Rep.fl_flat _)))
                  refine sc (fun own a wx hf hsl hE => ?_) ?_
                  · obtain ⟨⟨⟨A3520, cA3520⟩, (f_89 : a.eval (.tmp 89) = .slice A3520 x3518.length cA3520), b_A3520⟩, -⟩ := hf
                    exact px (or_mono (f := Fct.val 12 (.slice A3520 x3518.length cA3520)) (or_assign f_89) (fun own' a' w' v' hp h => fun _ _ h0' => by cases (f_89.symm.trans ((hp.2 89 (by decide)).symm.trans h0')); exact h))
                  exact steps_nil
                intro own3525 a3525 w3525 hd3525 hz3525 hk3525 hf3525 hE3525
                have e3525_0 := (hk3525 0 rfl).trans e3501_0
                have e3525_2 := (hk3525 2 rfl).trans e3501_2
                have e3525_3 := (hk3525 3 rfl).trans e3501_3
                have e3525_7 := (hk3525 7 rfl).trans e3501_7
                have e3525_8 := (hk3525 8 rfl).trans e3501_8
                have e3525_11 := (hk3525 11 rfl).trans e3501_11
                have e3525_71 := (hk3525 71 rfl).trans e3501_71
                have e3525_72 := (hk3525 72 rfl).trans e3501_72
                have e3525_75 := (hk3525 75 rfl).trans e3501_75
                have e3525_76 := (hk3525 76 rfl).trans e3501_76
                have e3525_79 := (hk3525 79 rfl).trans e3501_79
                have e3525_80 := (hk3525 80 rfl).trans e3501_80
                obtain ⟨⟨⟨A3520, cA3520⟩, (f_89 : a3525.eval (.tmp 89) = .slice A3520 x3518.length cA3520), (b3525_A3520 : RwO own3525 3519 [] w3525 3 R3 A3520 cA3520 x3518)⟩, (q_12 : ∀ (A3520 : Option Addr) (cA3520 : Nat), a3525.eval (.tmp 89) = .slice A3520 x3518.length cA3520 → a3525.eval (.tmp 12) = .slice A3520 x3518.length cA3520), ⟨_, (f_85 : a3525.eval (.tmp 85) = .int .u64 r3512.1), (b3525_gc1 : BlkO own3525 3513 w3525 gc1 tc1 #[.slice Ac1_0 c1.1.1.length cc1_0, .int .i64 r3512.2.1.2, .int .i64 r3512.2.2.1, .int .i64 r3512.2.2.2])⟩, -⟩ := hf3525 [7, 8, 3] rfl
                have e3525_12 := q_12 _ _ f_89
                have hX3525 := Evo.step hX3501 hown hE3525 rfl
                have b3525_Ac1_0 := RdO.evo rfl hE3525 b3501_Ac1_0
                have b3525_g1784 := be_ hE3525 b3501_g1784
                have b3525_g1787 := be_ hE3525 b3501_g1787
                have b3525_A1987 := re_ hE3525 b3501_A1987
                have b3525_A2743 := re_ hE3525 b3501_A2743
                have b3525_g1796 := be_ hE3525 b3501_g1796
                have b3525_g1798 := be_ hE3525 b3501_g1798
                have b3525_A3298 := RwN.evo rfl hE3525 b3501_A3298
                refine hn3505 _ _ ?_
                refine hn3504 _ _ ?_
                refine rg0 104 own3525 (bz 2) [⟨[], [80], [], Fct.val 90 (.int .i64 (ad x3471 1))⟩, ⟨[0], [], [], Fct.val 80 (.int .i64 (ad x3471 1))⟩] hz3525 hd3525 (by kernel_rfl) ?_ ?_
                · refine sc (fun _ _ _ _ s _ => px (or_add (s.1.trans e3525_80) rfl rfl)) ?_
                  refine sc (fun _ _ _ f _ _ => px (or_move f.1)) ?_
                  exact steps_nil
                intro own3526 a3526 w3526 hd3526 hz3526 hk3526 hf3526 hE3526
                have e3526_0 := (hk3526 0 rfl).trans e3525_0
                have e3526_2 := (hk3526 2 rfl).trans e3525_2
                have e3526_3 := (hk3526 3 rfl).trans e3525_3
                have e3526_7 := (hk3526 7 rfl).trans e3525_7
                have e3526_8 := (hk3526 8 rfl).trans e3525_8
                have e3526_11 := (hk3526 11 rfl).trans e3525_11
                have e3526_12 := (hk3526 12 rfl).trans e3525_12
                have e3526_71 := (hk3526 71 rfl).trans e3525_71
                have e3526_72 := (hk3526 72 rfl).trans e3525_72
                have e3526_75 := (hk3526 75 rfl).trans e3525_75
                have e3526_76 := (hk3526 76 rfl).trans e3525_76
                have e3526_79 := (hk3526 79 rfl).trans e3525_79
                obtain ⟨(e3526_80 : a3526.eval (.tmp 80) = .int .i64 (ad x3471 1)), -⟩ := hf3526 [1] rfl
                have hX3526 := Evo.step hX3525 hown hE3526 rfl
                have b3526_Ac1_0 := RdO.evo rfl hE3526 b3525_Ac1_0
                have b3526_g1784 := be_ hE3526 b3525_g1784
                have b3526_g1787 := be_ hE3526 b3525_g1787
                have b3526_A1987 := re_ hE3526 b3525_A1987
                have b3526_A2743 := re_ hE3526 b3525_A2743
                have b3526_g1796 := be_ hE3526 b3525_g1796
                have b3526_g1798 := be_ hE3526 b3525_g1798
                have b3526_A3298 := RwN.evo rfl hE3526 b3525_A3298
                have b3526_gc1 := be_ hE3526 b3525_gc1
                have b3526_A3520 := re_ hE3526 b3525_A3520
                exact hn3499 _ _ _ hs ⟨(rl [(3513, 3461), (3519, 3470)] own3526), A3520, cA3520, hd3526, hz3526, e3526_0, e3526_2, e3526_3, e3526_7, e3526_8, e3526_11, e3526_12, e3526_71, e3526_72, e3526_75, e3526_76, e3526_79, e3526_80, (Evo.rl_ hX3526 hown rfl), (BlkO.rl_ (mm := [(3513, 3461), (3519, 3470)]) b3526_gc1), (RdO.rl_ (mm := [(3513, 3461), (3519, 3470)]) b3526_Ac1_0), (BlkO.rl_ (mm := [(3513, 3461), (3519, 3470)]) b3526_g1784), (BlkO.rl_ (mm := [(3513, 3461), (3519, 3470)]) b3526_g1787), (RwO.rl_ (mm := [(3513, 3461), (3519, 3470)]) b3526_A1987), (RwO.rl_ (mm := [(3513, 3461), (3519, 3470)]) b3526_A2743), (BlkO.rl_ (mm := [(3513, 3461), (3519, 3470)]) b3526_g1796), (BlkO.rl_ (mm := [(3513, 3461), (3519, 3470)]) b3526_g1798), (RwN.rl_ (mm := [(3513, 3461), (3519, 3470)]) b3526_A3298), (RwO.rl_ (mm := [(3513, 3461), (3519, 3470)]) b3526_A3520)⟩
              refine fl_exit ?_
              refine hp3502 _ _ _ rfl ?_
              replace hs := hz3499 _ hs
              refine hp3499 _ _ _ rfl ?_
              refine hx3436 _ _ ?_
              refine hn3429 _ _ ?_
              obtain ⟨x3533, hx3533, hs⟩ := obind hs
              refine rg_plain (n := 104) (rs := [Fct.rownAt 3301 3302 [] 28 3 R3 A3298 c3299 l3300, Fct.rowAt 3470 [] 3 R3 A3467 c3468 r3469]) (own0 := own3501) (K := [3301, 3302, 3470]) (bs := [0, 0, 2, 7, 15]) (ds := [⟨[], [11], [], Fct.val 91 (.slice A3298 l3300.length c3299)⟩, ⟨[], [12], [], Fct.val 92 (.slice A3467 r3469.length c3468)⟩, ⟨[1, 6], [], [], Fct.rown 3532 3470 [] 93 28 3 R3 [r3469]⟩, ⟨[0, 2, 5], [], [3301, 3302, 3470], Fct.rown 3534 3535 [] 94 28 3 R3 x3533⟩, ⟨[3], [], [], Fct.rel [11, 94] (fun l => ∀ (A3536 : Option Addr) (cA3536 : Nat), l.getD 1 undef = .slice A3536 x3533.length cA3536 → l.getD 0 undef = .slice A3536 x3533.length cA3536)⟩]) (by kernel_rfl) hz3501 hd3501 (by simp only [List.forall_mem_cons]; exact ⟨b3501_A3298, b3501_A3467, fun _ h => nomatch h⟩) ?_ ?_
              · refine sc (fun _ _ _ _ s _ => px (or_move (s.1.trans e3501_11))) ?_
                refine sc (fun _ _ _ _ s _ => px (or_move (s.1.trans e3501_12))) ?_
                refine sc (fun own a wx hf hsl hE => ?_) ?_
                · obtain ⟨f_92, b_A3467, -⟩ := hf
                  exact px (or_litO (R := R3) (lab := 3532) (labE := 3470) (L := []) (e := 28) (e2 := 3) (xl := r3469) [(92, .slice A3467 r3469.length c3468)] rfl rfl ⟨f_92, trivial⟩ (by kernel_rfl) rfl b_A3467 rfl)
                refine sc (fun own a wx hf hsl hE => ?_) ?_
                · obtain ⟨f_91, ⟨⟨A3531, cA3531⟩, f_93, b_A3531⟩, b_A3298, -⟩ := hf
                  exact px (or_appendO (R := R3) (lab := 3301) (labE := 3302) (lab2 := 3534) (lab3 := 3535) (L := []) (L3 := []) tp27 f_91 b_A3298 f_93 b_A3531 hx3533 (by decide) (by decide) (mem_of rfl) (mem_of rfl) (mem_of rfl) (by decide) (by decide) (by decide) (by decide) (by decide) (by decide) (by decide) rfl (by decide) (by decide))
                refine sc (fun own a wx hf hsl hE => ?_) ?_
                · obtain ⟨⟨⟨A3536, cA3536⟩, (f_94 : a.eval (.tmp 94) = .slice A3536 x3533.length cA3536), b_A3536⟩, -⟩ := hf
                  exact px (or_mono (f := Fct.val 11 (.slice A3536 x3533.length cA3536)) (or_assign f_94) (fun own' a' w' v' hp h => fun _ _ h0' => by cases (f_94.symm.trans ((hp.2 94 (by decide)).symm.trans h0')); exact h))
                exact steps_nil
              intro own3537 a3537 w3537 hd3537 hz3537 hk3537 hf3537 hE3537
              have e3537_0 := (hk3537 0 rfl).trans e3501_0
              have e3537_2 := (hk3537 2 rfl).trans e3501_2
              have e3537_3 := (hk3537 3 rfl).trans e3501_3
              have e3537_7 := (hk3537 7 rfl).trans e3501_7
              have e3537_8 := (hk3537 8 rfl).trans e3501_8
              have e3537_71 := (hk3537 71 rfl).trans e3501_71
              have e3537_72 := (hk3537 72 rfl).trans e3501_72
              have e3537_75 := (hk3537 75 rfl).trans e3501_75
              have e3537_76 := (hk3537 76 rfl).trans e3501_76
              obtain ⟨⟨⟨A3536, cA3536⟩, (f_94 : a3537.eval (.tmp 94) = .slice A3536 x3533.length cA3536), (b3537_A3536 : RwN own3537 3534 3535 [] w3537 28 3 R3 A3536 cA3536 x3533)⟩, (q_11 : ∀ (A3536 : Option Addr) (cA3536 : Nat), a3537.eval (.tmp 94) = .slice A3536 x3533.length cA3536 → a3537.eval (.tmp 11) = .slice A3536 x3533.length cA3536), -⟩ := hf3537 [3, 4] rfl
              have e3537_11 := q_11 _ _ f_94
              have hX3537 := Evo.step hX3501 hown hE3537 rfl
              have b3537_gc1 := be_ hE3537 b3501_gc1
              have b3537_Ac1_0 := RdO.evo rfl hE3537 b3501_Ac1_0
              have b3537_g1784 := be_ hE3537 b3501_g1784
              have b3537_g1787 := be_ hE3537 b3501_g1787
              have b3537_A1987 := re_ hE3537 b3501_A1987
              have b3537_A2743 := re_ hE3537 b3501_A2743
              have b3537_g1796 := be_ hE3537 b3501_g1796
              have b3537_g1798 := be_ hE3537 b3501_g1798
              refine hn3427 _ _ ?_
              refine hn3426 _ _ ?_
              refine rg0 104 own3537 (bz 2) [⟨[], [76], [], Fct.val 95 (.int .i64 (ad x3303 1))⟩, ⟨[0], [], [], Fct.val 76 (.int .i64 (ad x3303 1))⟩] hz3537 hd3537 (by kernel_rfl) ?_ ?_
              · refine sc (fun _ _ _ _ s _ => px (or_add (s.1.trans e3537_76) rfl rfl)) ?_
                refine sc (fun _ _ _ f _ _ => px (or_move f.1)) ?_
                exact steps_nil
              intro own3538 a3538 w3538 hd3538 hz3538 hk3538 hf3538 hE3538
              have e3538_0 := (hk3538 0 rfl).trans e3537_0
              have e3538_2 := (hk3538 2 rfl).trans e3537_2
              have e3538_3 := (hk3538 3 rfl).trans e3537_3
              have e3538_7 := (hk3538 7 rfl).trans e3537_7
              have e3538_8 := (hk3538 8 rfl).trans e3537_8
              have e3538_11 := (hk3538 11 rfl).trans e3537_11
              have e3538_71 := (hk3538 71 rfl).trans e3537_71
              have e3538_72 := (hk3538 72 rfl).trans e3537_72
              have e3538_75 := (hk3538 75 rfl).trans e3537_75
              obtain ⟨(e3538_76 : a3538.eval (.tmp 76) = .int .i64 (ad x3303 1)), -⟩ := hf3538 [1] rfl
              have hX3538 := Evo.step hX3537 hown hE3538 rfl
              have b3538_gc1 := be_ hE3538 b3537_gc1
              have b3538_Ac1_0 := RdO.evo rfl hE3538 b3537_Ac1_0
              have b3538_g1784 := be_ hE3538 b3537_g1784
              have b3538_g1787 := be_ hE3538 b3537_g1787
              have b3538_A1987 := re_ hE3538 b3537_A1987
              have b3538_A2743 := re_ hE3538 b3537_A2743
              have b3538_g1796 := be_ hE3538 b3537_g1796
              have b3538_g1798 := be_ hE3538 b3537_g1798
              have b3538_A3536 := RwN.evo rfl hE3538 b3537_A3536
              exact hn3421 _ _ _ hs ⟨(rl [(3432, 3296), (3461, 3290), (3465, 3294), (3466, 3295), (3534, 3301), (3535, 3302)] own3538), A3536, cA3536, hd3538, hz3538, e3538_0, e3538_2, e3538_3, e3538_7, e3538_8, e3538_11, e3538_71, e3538_72, e3538_75, e3538_76, (Evo.rl_ hX3538 hown rfl), (BlkO.rl_ (mm := [(3432, 3296), (3461, 3290), (3465, 3294), (3466, 3295), (3534, 3301), (3535, 3302)]) b3538_gc1), (RdO.rl_ (mm := [(3432, 3296), (3461, 3290), (3465, 3294), (3466, 3295), (3534, 3301), (3535, 3302)]) b3538_Ac1_0), (BlkO.rl_ (mm := [(3432, 3296), (3461, 3290), (3465, 3294), (3466, 3295), (3534, 3301), (3535, 3302)]) b3538_g1784), (BlkO.rl_ (mm := [(3432, 3296), (3461, 3290), (3465, 3294), (3466, 3295), (3534, 3301), (3535, 3302)]) b3538_g1787), (RwO.rl_ (mm := [(3432, 3296), (3461, 3290), (3465, 3294), (3466, 3295), (3534, 3301), (3535, 3302)]) b3538_A1987), (RwO.rl_ (mm := [(3432, 3296), (3461, 3290), (3465, 3294), (3466, 3295), (3534, 3301), (3535, 3302)]) b3538_A2743), (BlkO.rl_ (mm := [(3432, 3296), (3461, 3290), (3465, 3294), (3466, 3295), (3534, 3301), (3535, 3302)]) b3538_g1796), (BlkO.rl_ (mm := [(3432, 3296), (3461, 3290), (3465, 3294), (3466, 3295), (3534, 3301), (3535, 3302)]) b3538_g1798), (RwN.rl_ (mm := [(3432, 3296), (3461, 3290), (3465, 3294), (3466, 3295), (3534, 3301), (3535, 3302)]) b3538_A3536)⟩
          refine fl_exit ?_
          refine hp3424 _ _ _ rfl ?_
          replace hs := hz3421 _ hs
          refine hp3421 _ _ _ rfl ?_
          refine hx3168 _ _ ?_
          refine hn3161 _ _ ?_
          obtain ⟨x3548, hx3548, hs⟩ := obind hs
          refine rg_plain (n := 104) (rs := [Fct.rowAt 2746 [3295] 27 R27 A2743 c2744 out2745, Fct.at_ 2741 g1787 25 #[.slice A1987 out1989.length c1988, .slice A2743 out2745.length c2744]]) (own0 := own3423) (K := [2746, 2741]) (bs := [0, 1, 0, 4, 15, 31, 63]) (ds := [⟨[], [3], [], Fct.val 96 (.pointer (some ⟨g1787, 1, none⟩))⟩, ⟨[0, 8], [], [], Fct.val 97 (.slice A2743 out2745.length c2744)⟩, ⟨[], [11], [], Fct.val 98 (.slice A3298 l3300.length c3299)⟩, ⟨[2], [], [], Fct.row 3547 [3301, 3302] 99 27 R27 [l3300]⟩, ⟨[1, 3, 7], [], [2746], Fct.row 3549 [3295, 3301, 3302, 3547] 100 27 R27 x3548⟩, ⟨[], [3], [], Fct.val 101 (.pointer (some ⟨g1787, 1, none⟩))⟩, ⟨[5, 4, 8], [], [2741], Fct.by_ [3551] [100] (fun l own w => ∀ (A3550 : Option Addr) (cA3550 : Nat), l.getD 0 undef = .slice A3550 x3548.length cA3550 → BlkO own 3551 w g1787 25 #[.slice A1987 out1989.length c1988, .slice A3550 x3548.length cA3550]) (fun hk he h _ _ h0' => BlkO.evo (not_hit hk (by decide)) he (h _ _ h0'))⟩]) (by kernel_rfl) hz3423 hd3423 (by simp only [List.forall_mem_cons]; exact ⟨b3423_A2743, b3423_g1787, fun _ h => nomatch h⟩) ?_ ?_
          · refine sc (fun _ _ _ _ s _ => px (or_field fo25_1 (s.1.trans e3423_3) (by rfl))) ?_
            refine sc (fun own a wx hf hsl hE => ?_) ?_
            · obtain ⟨f_96, (b_g1787 : BlkO own 2741 wx g1787 25 #[.slice A1987 out1989.length c1988, .slice A2743 out2745.length c2744]), -⟩ := hf
              exact px (or_load1 to23 f_96 (Blk.at_ b_g1787.2 1 rfl))
            refine sc (fun _ _ _ _ s _ => px (or_move (s.1.trans e3423_11))) ?_
            refine sc (fun _ _ _ f _ hE => px (or_litN (R := R27) (lab := 3547) (L := [3301, 3302]) (e := 27) (cs := #[.slice A3298 l3300.length c3299]) (l := [l3300]) (n := 1) [(98, .slice A3298 l3300.length c3299)] rfl rfl ⟨f.1, trivial⟩ (by kernel_rfl) rfl (by decide) ⟨(Ex.iff X27).2 ⟨(A3298, c3299), rfl, (RwN.rd (RwN.evo rfl hE b3423_A3298))⟩, rfl⟩ rfl)) ?_
            refine sc (fun own a wx hf hsl hE => ?_) ?_
            · obtain ⟨f_97, ⟨⟨A3546, cA3546⟩, f_99, b_A3546⟩, b_A2743, -⟩ := hf
              exact px (or_append (R := R27) (lab := 2746) (lab2 := 3549) (L := [3295]) (L3 := [3295, 3301, 3302, 3547]) tp23 f_97 b_A2743 (by decide) f_99 (RwO.rd b_A3546) hx3548 (by decide) (by decide) (mem_of rfl) (.inr ⟨rfl, rfl, by decide, by decide⟩))
            refine sc (fun _ _ _ _ s _ => px (or_field fo25_1 (s.1.trans e3423_3) (by rfl))) ?_
            refine sc (fun own a wx hf hsl hE => ?_) ?_
            · obtain ⟨f_101, ⟨⟨A3550, cA3550⟩, (f_100 : a.eval (.tmp 100) = .slice A3550 x3548.length cA3550), b_A3550⟩, b_g1787, -⟩ := hf
              exact px (or_store1 (lab := 2741) (lab2 := 3551) ts23 f_101 f_100 b_g1787 (by simp) rfl (mem_of rfl) (by decide) rfl (fun own' a' w' ha hb => fun _ _ h0' => by cases (f_100.symm.trans ((ha 100).symm.trans h0')); exact hb))
            exact steps_nil
          intro own3552 a3552 w3552 hd3552 hz3552 hk3552 hf3552 hE3552
          have e3552_0 := (hk3552 0 rfl).trans e3423_0
          have e3552_2 := (hk3552 2 rfl).trans e3423_2
          have e3552_3 := (hk3552 3 rfl).trans e3423_3
          have e3552_7 := (hk3552 7 rfl).trans e3423_7
          have e3552_8 := (hk3552 8 rfl).trans e3423_8
          have e3552_71 := (hk3552 71 rfl).trans e3423_71
          have e3552_72 := (hk3552 72 rfl).trans e3423_72
          obtain ⟨⟨⟨A3550, cA3550⟩, (f_100 : a3552.eval (.tmp 100) = .slice A3550 x3548.length cA3550), (b3552_A3550 : RwO own3552 3549 [3295, 3301, 3302, 3547] w3552 27 R27 A3550 cA3550 x3548)⟩, (bq_g1787 : ∀ (A3550 : Option Addr) (cA3550 : Nat), a3552.eval (.tmp 100) = .slice A3550 x3548.length cA3550 → BlkO own3552 3551 w3552 g1787 25 #[.slice A1987 out1989.length c1988, .slice A3550 x3548.length cA3550]), -⟩ := hf3552 [4, 6] rfl
          have b3552_g1787 := bq_g1787 _ _ f_100
          have hX3552 := Evo.step hX3423 hown hE3552 rfl
          have b3552_gc1 := be_ hE3552 b3423_gc1
          have b3552_Ac1_0 := RdO.evo rfl hE3552 b3423_Ac1_0
          have b3552_g1784 := be_ hE3552 b3423_g1784
          have b3552_A1987 := re_ hE3552 b3423_A1987
          have b3552_g1796 := be_ hE3552 b3423_g1796
          have b3552_g1798 := be_ hE3552 b3423_g1798
          refine hn3159 _ _ ?_
          refine hn3158 _ _ ?_
          refine rg0 104 own3552 (bz 2) [⟨[], [72], [], Fct.val 102 (.int .i64 (ad x2752 1))⟩, ⟨[0], [], [], Fct.val 72 (.int .i64 (ad x2752 1))⟩] hz3552 hd3552 (by kernel_rfl) ?_ ?_
          · refine sc (fun _ _ _ _ s _ => px (or_add (s.1.trans e3552_72) rfl rfl)) ?_
            refine sc (fun _ _ _ f _ _ => px (or_move f.1)) ?_
            exact steps_nil
          intro own3553 a3553 w3553 hd3553 hz3553 hk3553 hf3553 hE3553
          have e3553_0 := (hk3553 0 rfl).trans e3552_0
          have e3553_2 := (hk3553 2 rfl).trans e3552_2
          have e3553_3 := (hk3553 3 rfl).trans e3552_3
          have e3553_7 := (hk3553 7 rfl).trans e3552_7
          have e3553_8 := (hk3553 8 rfl).trans e3552_8
          have e3553_71 := (hk3553 71 rfl).trans e3552_71
          obtain ⟨(e3553_72 : a3553.eval (.tmp 72) = .int .i64 (ad x2752 1)), -⟩ := hf3553 [1] rfl
          have hX3553 := Evo.step hX3552 hown hE3553 rfl
          have b3553_gc1 := be_ hE3553 b3552_gc1
          have b3553_Ac1_0 := RdO.evo rfl hE3553 b3552_Ac1_0
          have b3553_g1784 := be_ hE3553 b3552_g1784
          have b3553_A1987 := re_ hE3553 b3552_A1987
          have b3553_g1796 := be_ hE3553 b3552_g1796
          have b3553_g1798 := be_ hE3553 b3552_g1798
          have b3553_g1787 := be_ hE3553 b3552_g1787
          have b3553_A3550 := re_ hE3553 b3552_A3550
          exact hn3153 _ _ _ hs ⟨(rl [(3164, 2748), (3290, 2737), (3294, 2742), (3295, 2747), (3296, 2750), (3301, 2747), (3302, 2747), (3547, 2747), (3549, 2746), (3551, 2741)] own3553), A3550, cA3550, hd3553, hz3553, e3553_0, e3553_2, e3553_3, e3553_7, e3553_8, e3553_71, e3553_72, (Evo.rl_ hX3553 hown rfl), (BlkO.rl_ (mm := [(3164, 2748), (3290, 2737), (3294, 2742), (3295, 2747), (3296, 2750), (3301, 2747), (3302, 2747), (3547, 2747), (3549, 2746), (3551, 2741)]) b3553_gc1), (RdO.rl_ (mm := [(3164, 2748), (3290, 2737), (3294, 2742), (3295, 2747), (3296, 2750), (3301, 2747), (3302, 2747), (3547, 2747), (3549, 2746), (3551, 2741)]) b3553_Ac1_0), (BlkO.rl_ (mm := [(3164, 2748), (3290, 2737), (3294, 2742), (3295, 2747), (3296, 2750), (3301, 2747), (3302, 2747), (3547, 2747), (3549, 2746), (3551, 2741)]) b3553_g1784), (BlkO.rl_ (mm := [(3164, 2748), (3290, 2737), (3294, 2742), (3295, 2747), (3296, 2750), (3301, 2747), (3302, 2747), (3547, 2747), (3549, 2746), (3551, 2741)]) b3553_g1787), (RwO.rl_ (mm := [(3164, 2748), (3290, 2737), (3294, 2742), (3295, 2747), (3296, 2750), (3301, 2747), (3302, 2747), (3547, 2747), (3549, 2746), (3551, 2741)]) b3553_A1987), (RwO.more (RwO.rl_ (mm := [(3164, 2748), (3290, 2737), (3294, 2742), (3295, 2747), (3296, 2750), (3301, 2747), (3302, 2747), (3547, 2747), (3549, 2746), (3551, 2741)]) b3553_A3550) (by decide)), (BlkO.rl_ (mm := [(3164, 2748), (3290, 2737), (3294, 2742), (3295, 2747), (3296, 2750), (3301, 2747), (3302, 2747), (3547, 2747), (3549, 2746), (3551, 2741)]) b3553_g1796), (BlkO.rl_ (mm := [(3164, 2748), (3290, 2737), (3294, 2742), (3295, 2747), (3296, 2750), (3301, 2747), (3302, 2747), (3547, 2747), (3549, 2746), (3551, 2741)]) b3553_g1798)⟩
      refine fl_exit ?_
      refine hp3156 _ _ _ rfl ?_
      replace hs := hz3153 _ hs
      refine hp3153 _ _ _ rfl ?_
      refine hx2343 _ _ ?_
      refine hn2336 _ _ ?_
      refine rg_plain_seq (n := 104) (rs := [Fct.at_ 1785 g1784 25 #[.slice none 0 0, .slice none 0 0]]) (own0 := own3155) (K := [1785]) (bs := (bz 2)) (ds := [⟨[], [3], [], Fct.val 103 (.agg #[.slice A1987 out1989.length c1988, .slice A2743 out2745.length c2744])⟩, ⟨[0, 2], [2], [1785], Fct.at_ 3554 g1784 25 #[.slice A1987 out1989.length c1988, .slice A2743 out2745.length c2744]⟩]) (by kernel_rfl) hz3155 hd3155 (by simp only [List.forall_mem_cons]; exact ⟨b3155_g1784, fun _ h => nomatch h⟩) ?_ ?_
      · refine sc (fun _ _ _ _ s hE => px (or_load (l := [.slice A1987 out1989.length c1988, .slice A2743 out2745.length c2744]) ta25 (s.1.trans e3155_3) (Blk.cellsFrom (be_ hE b3155_g1787).2 0 rfl) rfl)) ?_
        refine sc (fun own a wx hf hsl hE => ?_) ?_
        · obtain ⟨f_103, b_g1784, -⟩ := hf
          obtain ⟨s_2, -⟩ := hsl
          exact px (or_store (l := #[.slice A1987 out1989.length c1988, .slice A2743 out2745.length c2744]) (lab := 1785) (lab2 := 3554) ts25 (s_2.trans e3155_2) f_103 b_g1784 (by simp) (by kernel_rfl) (mem_of rfl) (by decide) (by kernel_rfl) (fun own' a' w' ha hb => hb))
        exact steps_nil
      intro own3555 a3555 w3555 hd3555 hz3555 hk3555 hf3555 hE3555
      have e3555_0 := (hk3555 0 rfl).trans e3155_0
      have e3555_2 := (hk3555 2 rfl).trans e3155_2
      obtain ⟨(b3555_g1784 : BlkO own3555 3554 w3555 g1784 25 #[.slice A1987 out1989.length c1988, .slice A2743 out2745.length c2744]), -⟩ := hf3555 [1] rfl
      have hX3555 := Evo.step hX3155 hown hE3555 rfl
      have b3555_gc1 := be_ hE3555 b3155_gc1
      have b3555_Ac1_0 := RdO.evo rfl hE3555 b3155_Ac1_0
      have b3555_A1987 := re_ hE3555 b3155_A1987
      have b3555_A2743 := re_ hE3555 b3155_A2743
      refine fl_ret ?_
      obtain rfl := osome hs
      exact hret _ _ _ _ (.inl rfl) hd3555 (results1_ rfl (RVal.cell_ e3555_2 (run_loadVarAgg (l := [.slice A1987 out1989.length c1988, .slice A2743 out2745.length c2744]) ta25 (Blk.cellsFrom b3555_g1784.2 0 rfl) rfl))) ⟨(rl [(1990, 2), (2737, 1), (2742, 3), (2746, 4), (2747, 5)] own3555), ((A1987, c1988), (A2743, c2744)), rfl, (Evo.rl_ hX3555 hown rfl), (RwO.rl_ (mm := [(1990, 2), (2737, 1), (2742, 3), (2746, 4), (2747, 5)]) b3555_A1987), (RwO.rl_ (mm := [(1990, 2), (2737, 1), (2742, 3), (2746, 4), (2747, 5)]) b3555_A2743), (BlkO.rl_ (mm := [(1990, 2), (2737, 1), (2742, 3), (2746, 4), (2747, 5)]) b3555_gc1)⟩
theorem block_cursor_net_w (w : World) (own : Own) (c1 : ((List Int) × Int) × (Int × Int)) (gc1 : Nat) (tc1 : TypeId) (Ac1_0 : Option Addr) (cc1_0 : Nat) (hown : ∀ b, own b ≤ 1) (hgc1 : BlkO own 1 w gc1 tc1 #[.slice Ac1_0 c1.1.1.length cc1_0, .int .i64 c1.1.2, .int .i64 c1.2.1, .int .i64 c1.2.2]) (hAc1_0 : RdO own [0] w R5 Ac1_0 cc1_0 c1.1.1) (r : ((List ((List (Int × Int)) × Int × Int)) × (List (List (List Int)))) × (((List Int) × Int) × (Int × Int))) (hs : block_cursor_net c1 = some (.inl r)) :
    Calls Try.prog 25 #[.pointer (some ⟨gc1, 0, none⟩)] w fun e w' => ∃ (own' : Own) (x : (Option Addr × Nat) × (Option Addr × Nat)), e = .returned (.agg #[.slice x.1.1 r.1.1.length x.1.2, .slice x.2.1 r.1.2.length x.2.2]) ∧ Evo [1] own own' w w' ∧ RwO own' 2 [3] w' 59 R59 x.1.1 x.1.2 r.1.1 ∧ RwO own' 4 [5] w' 27 R27 x.2.1 x.2.2 r.1.2 ∧ BlkO own' 1 w' gc1 tc1 #[.slice Ac1_0 c1.1.1.length cc1_0, .int .i64 r.2.1.2, .int .i64 r.2.2.1, .int .i64 r.2.2.2] := block_cursor_net_z w own c1 gc1 tc1 Ac1_0 cc1_0 hown hgc1 hAc1_0 (.inl r) hs
theorem block_cursor_net_p (w : World) (own : Own) (c1 : ((List Int) × Int) × (Int × Int)) (gc1 : Nat) (tc1 : TypeId) (Ac1_0 : Option Addr) (cc1_0 : Nat) (hown : ∀ b, own b ≤ 1) (hgc1 : BlkO own 1 w gc1 tc1 #[.slice Ac1_0 c1.1.1.length cc1_0, .int .i64 c1.1.2, .int .i64 c1.2.1, .int .i64 c1.2.2]) (hAc1_0 : RdO own [0] w R5 Ac1_0 cc1_0 c1.1.1) (x : Int) (hs : block_cursor_net c1 = some (.inr x)) :
    Calls Try.prog 25 #[.pointer (some ⟨gc1, 0, none⟩)] w fun e w' => ∃ own' : Own, e = .panicked (pE (.iface 69 (.agg #[.int .i64 x]))) ∧ Evo [1] own own' w w' := block_cursor_net_z w own c1 gc1 tc1 Ac1_0 cc1_0 hown hgc1 hAc1_0 (.inr x) hs
end Go.Proofs.Ytaobbaohelpdgaa
