import Derived.Test.YtaobbaohelpdgaaWp3
import Derived.Test.YtaobbaohelpdgaaWp4
import Derived.Test.YtaobbaohelpdgaaSp10
namespace Go.Proofs.Ytaobbaohelpdgaa
open Go.RowKit
set_option linter.unusedVariables false
set_option maxRecDepth 10000
theorem law26_BlockCuts_w (w : World) (n1 : (List ((List (Int × Int)) × Int × Int)) × (List (List (List Int)))) (An1_0 : Option Addr) (cn1_0 : Nat) (An1_1 : Option Addr) (cn1_1 : Nat) (x2 : Int) (more3 : Int) (hAn1_0 : RdO (fun _ => 0) [0] w R59 An1_0 cn1_0 n1.1) (hAn1_1 : RdO (fun _ => 0) [0] w R27 An1_1 cn1_1 n1.2) (r : Bool) (hs : law26_BlockCuts n1 x2 more3 = some r) :
    Calls Try.prog 6 #[.agg #[.slice An1_0 n1.1.length cn1_0, .slice An1_1 n1.2.length cn1_1], .int .i64 x2, .int .u8 more3] w fun e w' => ∃ own' : Own, e = .returned (.bool r) ∧ Evo [] (fun _ => 0) own' w w' := by
  refine fl_enter (n := 76) rfl rfl rfl (Nat.le_of_ble_eq_true rfl) ?_
  intro a0 Q hd0 hz0 harg hret
  have ha0 := harg 0 _ rfl
  have ha1 := harg 1 _ rfl
  have ha2 := harg 2 _ rfl
  clear harg
  have hE0 : Evo [] (fun _ => 0) (fun _ => 0) w w := Evo.refl _ _ _
  refine rg0_seq 76 (fun _ => 0) [0, 0] [⟨[], [0], [], Fct.blk 89 3 (fun g => .pointer (some ⟨g, 0, none⟩)) 25 #[.slice An1_0 n1.1.length cn1_0, .slice An1_1 n1.2.length cn1_1]⟩, ⟨[], [], [], Fct.val 6 (.bool false)⟩] hz0 hd0 (by kernel_rfl) ?_ ?_
  · refine sc (fun _ _ _ _ s _ => px (or_new [(0, .agg #[.slice An1_0 n1.1.length cn1_0, .slice An1_1 n1.2.length cn1_1])] rfl rfl ⟨(s.1.trans ha0), trivial⟩ (by kernel_rfl))) ?_
    refine sc (fun _ _ _ _ _ _ => px (or_assign rfl)) ?_
    exact steps_nil
  intro own90 a90 w90 hd90 hz90 hk90 hf90 hE90
  have e90_1 := (hk90 1 rfl).trans ha1
  have e90_2 := (hk90 2 rfl).trans ha2
  obtain ⟨⟨g88, (e90_3 : a90.eval (.tmp 3) = .pointer (some ⟨g88, 0, none⟩)), (b90_g88 : BlkO own90 89 w90 g88 25 #[.slice An1_0 n1.1.length cn1_0, .slice An1_1 n1.2.length cn1_1])⟩, -⟩ := hf90 [0] rfl
  have hX90 := es_ hE0 hE90
  have b90_An1_0 := RdO.evo rfl hE90 hAn1_0
  have b90_An1_1 := RdO.evo rfl hE90 hAn1_1
  obtain ⟨r99, hr99, hs⟩ := obind hs
  refine rg_plain_seq (n := 76) (rs := [Fct.at_ 89 g88 25 #[.slice An1_0 n1.1.length cn1_0, .slice An1_1 n1.2.length cn1_1]]) (own0 := own90) (K := [89]) (bs := (bz 3)) (ds := [⟨[3], [3], [], Fct.val 15 (.agg #[.slice An1_0 n1.1.length cn1_0, .slice An1_1 n1.2.length cn1_1])⟩, ⟨[0], [], [], Fct.mems [102, 103, 104, 0, 105, 106] 16 (fun (x : (Option Addr × Nat) × (Option Addr × Nat)) => .agg #[.slice x.1.1 r99.1.length x.1.2, .slice x.2.1 r99.2.length x.2.2]) (fun (x : (Option Addr × Nat) × (Option Addr × Nat)) own w => RwO own 102 [103, 104, 0] w 59 R59 x.1.1 x.1.2 r99.1 ∧ RwO own 105 [103, 106, 0] w 27 R27 x.2.1 x.2.2 r99.2) (fun hk he h => ⟨RwO.evo (hits_sub hk (by decide)) he h.1, RwO.evo (hits_sub hk (by decide)) he h.2⟩)⟩, ⟨[1, 3], [3], [89], Fct.by_ [107] [16] (fun l own w => ∀ (A100 : Option Addr) (cA100 : Nat) (A101 : Option Addr) (cA101 : Nat), l.getD 0 undef = .agg #[.slice A100 r99.1.length cA100, .slice A101 r99.2.length cA101] → BlkO own 107 w g88 25 #[.slice A100 r99.1.length cA100, .slice A101 r99.2.length cA101]) (fun hk he h _ _ _ _ h0' => BlkO.evo (not_hit hk (by decide)) he (h _ _ _ _ h0'))⟩]) (by kernel_rfl) hz90 hd90 (by simp only [List.forall_mem_cons]; exact ⟨b90_g88, fun _ h => nomatch h⟩) ?_ ?_
  · refine sc (fun own a wx hf hsl hE => ?_) ?_
    · obtain ⟨(b_g88 : BlkO own 89 wx g88 25 #[.slice An1_0 n1.1.length cn1_0, .slice An1_1 n1.2.length cn1_1]), -⟩ := hf
      obtain ⟨s_3, -⟩ := hsl
      exact px (or_load (l := [.slice An1_0 n1.1.length cn1_0, .slice An1_1 n1.2.length cn1_1]) ta25 (s_3.trans e90_3) (Blk.cellsFrom b_g88.2 0 rfl) rfl)
    refine sc (fun own _ _ f _ hE => px (or_call cf15 (args1 f.1) (law15_Cut_w _ (forth own (inL [0])) n1 An1_0 cn1_0 An1_1 cn1_1 inL_le (RdO.alias_ (La := [0]) (RdO.evo rfl hE b90_An1_0) (by decide)) (RdO.alias_ (La := [0]) (RdO.evo rfl hE b90_An1_1) (by decide)) r99 hr99) (post_alias (La := [0]) (m' := (look0 [(1, 103), (2, 102), (3, 104), (4, 105), (5, 106)])) (fun own' w' a' x ho hsz h1 h => ⟨x, h1, ⟨RwO.backM_ ho h.1 (by decide) (by decide) (by decide) (by decide), RwO.backM_ ho h.2 (by decide) (by decide) (by decide) (by decide)⟩⟩)))) ?_
    refine sc (fun own a wx hf hsl hE => ?_) ?_
    · obtain ⟨⟨⟨⟨A100, cA100⟩, ⟨A101, cA101⟩⟩, (f_16 : a.eval (.tmp 16) = .agg #[.slice A100 r99.1.length cA100, .slice A101 r99.2.length cA101]), b_A100, b_A101⟩, b_g88, -⟩ := hf
      obtain ⟨s_3, -⟩ := hsl
      exact px (or_store (l := #[.slice A100 r99.1.length cA100, .slice A101 r99.2.length cA101]) (lab := 89) (lab2 := 107) ts25 (s_3.trans e90_3) f_16 b_g88 (by simp) (by kernel_rfl) (mem_of rfl) (by decide) (by kernel_rfl) (fun own' a' w' ha hb => fun _ _ _ _ h0' => by cases (f_16.symm.trans ((ha 16).symm.trans h0')); exact hb))
    exact steps_nil
  intro own108 a108 w108 hd108 hz108 hk108 hf108 hE108
  have e108_1 := (hk108 1 rfl).trans e90_1
  have e108_2 := (hk108 2 rfl).trans e90_2
  have e108_3 := (hk108 3 rfl).trans e90_3
  obtain ⟨⟨⟨⟨A100, cA100⟩, ⟨A101, cA101⟩⟩, (f_16 : a108.eval (.tmp 16) = .agg #[.slice A100 r99.1.length cA100, .slice A101 r99.2.length cA101]), (b108_A100 : RwO own108 102 [103, 104, 0] w108 59 R59 A100 cA100 r99.1), (b108_A101 : RwO own108 105 [103, 106, 0] w108 27 R27 A101 cA101 r99.2)⟩, (bq_g88 : ∀ (A100 : Option Addr) (cA100 : Nat) (A101 : Option Addr) (cA101 : Nat), a108.eval (.tmp 16) = .agg #[.slice A100 r99.1.length cA100, .slice A101 r99.2.length cA101] → BlkO own108 107 w108 g88 25 #[.slice A100 r99.1.length cA100, .slice A101 r99.2.length cA101]), -⟩ := hf108 [1, 2] rfl
  have b108_g88 := bq_g88 _ _ _ _ f_16
  have hX108 := es_ hX90 hE108
  obtain ⟨r109, hr109, hs⟩ := obind hs
  refine rg0_seq 76 own108 [0, 1, 3, 7, 7, 15, 63] [⟨[], [3], [], Fct.val 18 (.agg #[.slice A100 r99.1.length cA100, .slice A101 r99.2.length cA101])⟩, ⟨[0], [], [], Fct.mems [111] 19 (fun (x : Option Addr × Nat) => .tuple #[.slice x.1 r109.1.length x.2, .int .i64 r109.2]) (fun (x : Option Addr × Nat) own w => RwO own 111 [] w 5 R5 x.1 x.2 r109.1) (fun hk he h => RwO.evo (hits_sub hk (by decide)) he h)⟩, ⟨[1], [], [], Fct.rel [17, 19] (fun l => ∀ (A110 : Option Addr) (cA110 : Nat), l.getD 1 undef = .tuple #[.slice A110 r109.1.length cA110, .int .i64 r109.2] → l.getD 0 undef = .tuple #[.slice A110 r109.1.length cA110, .int .i64 r109.2])⟩, ⟨[2, 1], [], [], Fct.rel [20, 19] (fun l => ∀ (A110 : Option Addr) (cA110 : Nat), l.getD 1 undef = .tuple #[.slice A110 r109.1.length cA110, .int .i64 r109.2] → l.getD 0 undef = .slice A110 r109.1.length cA110)⟩, ⟨[2, 1], [], [], Fct.val 21 (.int .i64 r109.2)⟩, ⟨[3, 1], [], [], Fct.rel [7, 19] (fun l => ∀ (A110 : Option Addr) (cA110 : Nat), l.getD 1 undef = .tuple #[.slice A110 r109.1.length cA110, .int .i64 r109.2] → l.getD 0 undef = .slice A110 r109.1.length cA110)⟩, ⟨[4], [], [], Fct.val 8 (.int .i64 r109.2)⟩] hz108 hd108 (by kernel_rfl) ?_ ?_
  · refine sc (fun _ _ _ _ s hE => px (or_load (l := [.slice A100 r99.1.length cA100, .slice A101 r99.2.length cA101]) ta25 (s.1.trans e108_3) (Blk.cellsFrom (be_ hE b108_g88).2 0 rfl) rfl)) ?_
    refine sc (fun _ _ _ f _ hE => px (or_call cf13 (args1 f.1) (block_Bytes_w _ r99 A100 cA100 A101 cA101 (RdO.zero (RwO.rd (re_ hE b108_A100))) (RdO.zero (RwO.rd (re_ hE b108_A101))) r109 hr109) (post_mems (m := (fun _ => 0)) (m' := (look0 [(1, 111)])) (fun _ _ => .inl rfl) (fun own' w' a' x h1 h => ⟨x, h1, RwO.back_ h (by decide) (.inl (Rep.fl_flat _))⟩)))) ?_
    refine sc (fun own a wx hf hsl hE => ?_) ?_
    · obtain ⟨⟨⟨A110, cA110⟩, (f_19 : a.eval (.tmp 19) = .tuple #[.slice A110 r109.1.length cA110, .int .i64 r109.2]), b_A110⟩, -⟩ := hf
      exact px (or_mono (f := Fct.val 17 (.tuple #[.slice A110 r109.1.length cA110, .int .i64 r109.2])) (or_move f_19) (fun own' a' w' v' hp h => fun _ _ h0' => by cases (f_19.symm.trans ((hp.2 19 (by decide)).symm.trans h0')); exact h))
    refine sc (fun own a wx hf hsl hE => ?_) ?_
    · obtain ⟨(q_17 : ∀ (A110 : Option Addr) (cA110 : Nat), a.eval (.tmp 19) = .tuple #[.slice A110 r109.1.length cA110, .int .i64 r109.2] → a.eval (.tmp 17) = .tuple #[.slice A110 r109.1.length cA110, .int .i64 r109.2]), ⟨⟨A110, cA110⟩, (f_19 : a.eval (.tmp 19) = .tuple #[.slice A110 r109.1.length cA110, .int .i64 r109.2]), b_A110⟩, -⟩ := hf
      have f_17 := q_17 _ _ f_19
      exact px (or_mono (f := Fct.val 20 (.slice A110 r109.1.length cA110)) (or_k [(17, .tuple #[.slice A110 r109.1.length cA110, .int .i64 r109.2])] rfl rfl ⟨f_17, trivial⟩ (by kernel_rfl)) (fun own' a' w' v' hp h => fun _ _ h0' => by cases (f_19.symm.trans ((hp.2 19 (by decide)).symm.trans h0')); exact h))
    refine sc (fun own a wx hf hsl hE => ?_) ?_
    · obtain ⟨(q_17 : ∀ (A110 : Option Addr) (cA110 : Nat), a.eval (.tmp 19) = .tuple #[.slice A110 r109.1.length cA110, .int .i64 r109.2] → a.eval (.tmp 17) = .tuple #[.slice A110 r109.1.length cA110, .int .i64 r109.2]), ⟨⟨A110, cA110⟩, f_19, b_A110⟩, -⟩ := hf
      have f_17 := q_17 _ _ f_19
      exact px (or_k [(17, .tuple #[.slice A110 r109.1.length cA110, .int .i64 r109.2])] rfl rfl ⟨f_17, trivial⟩ (by kernel_rfl))
    refine sc (fun own a wx hf hsl hE => ?_) ?_
    · obtain ⟨(q_20 : ∀ (A110 : Option Addr) (cA110 : Nat), a.eval (.tmp 19) = .tuple #[.slice A110 r109.1.length cA110, .int .i64 r109.2] → a.eval (.tmp 20) = .slice A110 r109.1.length cA110), ⟨⟨A110, cA110⟩, (f_19 : a.eval (.tmp 19) = .tuple #[.slice A110 r109.1.length cA110, .int .i64 r109.2]), b_A110⟩, -⟩ := hf
      have f_20 := q_20 _ _ f_19
      exact px (or_mono (f := Fct.val 7 (.slice A110 r109.1.length cA110)) (or_assign f_20) (fun own' a' w' v' hp h => fun _ _ h0' => by cases (f_19.symm.trans ((hp.2 19 (by decide)).symm.trans h0')); exact h))
    refine sc (fun _ _ _ f _ _ => px (or_assign f.1)) ?_
    exact steps_nil
  intro own112 a112 w112 hd112 hz112 hk112 hf112 hE112
  have e112_1 := (hk112 1 rfl).trans e108_1
  have e112_2 := (hk112 2 rfl).trans e108_2
  obtain ⟨⟨⟨A110, cA110⟩, (f_19 : a112.eval (.tmp 19) = .tuple #[.slice A110 r109.1.length cA110, .int .i64 r109.2]), (b112_A110 : RwO own112 111 [] w112 5 R5 A110 cA110 r109.1)⟩, (q_7 : ∀ (A110 : Option Addr) (cA110 : Nat), a112.eval (.tmp 19) = .tuple #[.slice A110 r109.1.length cA110, .int .i64 r109.2] → a112.eval (.tmp 7) = .slice A110 r109.1.length cA110), (e112_8 : a112.eval (.tmp 8) = .int .i64 r109.2), -⟩ := hf112 [1, 5, 6] rfl
  have e112_7 := q_7 _ _ f_19
  have hX112 := es_ hX108 hE112
  refine fl_seq (fun Q113 hn113 hp113 => ?_)
  refine rg0_seq 76 own112 (bz 2) [⟨[], [8], [], Fct.val 22 (.int .i64 r109.2)⟩, ⟨[0], [], [], Fct.val 23 (.bool (!decide (r109.2 = 0)))⟩] hz112 hd112 (by kernel_rfl) ?_ ?_
  · refine sc (fun _ _ _ _ s _ => px (or_move (s.1.trans e112_8))) ?_
    refine sc (fun _ _ _ f _ _ => px (or_neq f.1 rfl rfl)) ?_
    exact steps_nil
  intro own114 a114 w114 hd114 hz114 hk114 hf114 hE114
  have e114_1 := (hk114 1 rfl).trans e112_1
  have e114_2 := (hk114 2 rfl).trans e112_2
  have e114_7 := (hk114 7 rfl).trans e112_7
  obtain ⟨(e114_23 : a114.eval (.tmp 23) = .bool (!decide (r109.2 = 0))), -⟩ := hf114 [1] rfl
  have hX114 := es_ hX112 hE114
  have b114_A110 := re_ hE114 b112_A110
  refine fl_cond e114_23 hs (fun c115 hs => ?_) (fun c115 hs => ?_)
  · obtain ⟨r116, hr116, hs⟩ := obind hs
    refine rg0_seq 76 own114 (bz 2) [⟨[], [], [], Fct.val 24 (.bool r116)⟩, ⟨[0], [], [], Fct.val 6 (.bool r116)⟩] hz114 hd114 (by kernel_rfl) ?_ ?_
    · refine sc (fun _ _ _ _ _ _ => px (or_call cf7 (args0) (law26_known_w _   r116 hr116) post_val)) ?_
      refine sc (fun _ _ _ f _ _ => px (or_assign f.1)) ?_
      exact steps_nil
    intro own117 a117 w117 hd117 hz117 hk117 hf117 hE117
    obtain ⟨(e117_6 : a117.eval (.tmp 6) = .bool r116), -⟩ := hf117 [1] rfl
    have hX117 := es_ hX114 hE117
    refine fl_ret ?_
    refine hp113 _ _ _ rfl ?_
    obtain rfl := (osome hs).symm
    exact hret _ _ _ _ (.inl rfl) hd117 (results1_ rfl (RVal.tmp_ e117_6)) ⟨own117, rfl, hX117⟩
  refine fl_skip ?_
  refine hn113 _ _ ?_
  refine fl_seq (fun Q118 hn118 hp118 => ?_)
  refine rg0_seq 76 own114 (bz 3) [⟨[], [7], [], Fct.val 25 (.slice A110 r109.1.length cA110)⟩, ⟨[0], [], [], Fct.val 26 (.int .i64 (r109.1.length : Int))⟩, ⟨[1], [], [], Fct.val 27 (.bool (decide ((r109.1.length : Int) = 0)))⟩] hz114 hd114 (by kernel_rfl) ?_ ?_
  · refine sc (fun _ _ _ _ s _ => px (or_move (s.1.trans e114_7))) ?_
    refine sc (fun _ _ _ f _ _ => px (or_len tu33 f.1 rfl)) ?_
    refine sc (fun _ _ _ f _ _ => px (or_eql f.1 rfl rfl)) ?_
    exact steps_nil
  intro own119 a119 w119 hd119 hz119 hk119 hf119 hE119
  have e119_1 := (hk119 1 rfl).trans e114_1
  have e119_2 := (hk119 2 rfl).trans e114_2
  have e119_7 := (hk119 7 rfl).trans e114_7
  obtain ⟨(e119_27 : a119.eval (.tmp 27) = .bool (decide ((r109.1.length : Int) = 0))), -⟩ := hf119 [2] rfl
  have hX119 := es_ hX114 hE119
  have b119_A110 := re_ hE119 b114_A110
  refine fl_cond e119_27 hs (fun c120 hs => ?_) (fun c120 hs => ?_)
  · refine rg0_seq 76 own119 (bz 1) [⟨[], [], [], Fct.val 6 (.bool false)⟩] hz119 hd119 (by kernel_rfl) ?_ ?_
    · refine sc (fun _ _ _ _ _ _ => px (or_assign rfl)) ?_
      exact steps_nil
    intro own121 a121 w121 hd121 hz121 hk121 hf121 hE121
    obtain ⟨(e121_6 : a121.eval (.tmp 6) = .bool false), -⟩ := hf121 [0] rfl
    have hX121 := es_ hX119 hE121
    refine fl_ret ?_
    refine hp118 _ _ _ rfl ?_
    obtain rfl := osome hs
    exact hret _ _ _ _ (.inl rfl) hd121 (results1_ rfl (RVal.tmp_ e121_6)) ⟨own121, rfl, hX121⟩
  refine fl_skip ?_
  refine hn118 _ _ ?_
  obtain ⟨x122, hx122, hs⟩ := obind hs
  obtain ⟨x123, hx123, hs⟩ := obind hs
  refine rg0_seq 76 own119 [0, 1, 0, 4, 12, 31, 63, 127] [⟨[], [1], [], Fct.val 28 (.int .i64 x2)⟩, ⟨[0], [], [], Fct.val 29 (.int .u64 (IntKind.u64.wrap x2))⟩, ⟨[], [7], [], Fct.val 30 (.slice A110 r109.1.length cA110)⟩, ⟨[2], [], [], Fct.val 31 (.int .i64 (r109.1.length : Int))⟩, ⟨[3], [], [], Fct.val 32 (.int .u64 x122)⟩, ⟨[1, 4], [], [], Fct.val 33 (.int .u64 x123)⟩, ⟨[5], [], [], Fct.val 34 (.int .i64 (IntKind.i64.wrap x123))⟩, ⟨[6], [], [], Fct.val 9 (.int .i64 (IntKind.i64.wrap x123))⟩] hz119 hd119 (by kernel_rfl) ?_ ?_
  · refine sc (fun _ _ _ _ s _ => px (or_move (s.1.trans e119_1))) ?_
    refine sc (fun _ _ _ f _ _ => px (or_conv f.1 tn3 tn26 rfl)) ?_
    refine sc (fun _ _ _ _ s _ => px (or_move (s.1.trans e119_7))) ?_
    refine sc (fun _ _ _ f _ _ => px (or_len tu33 f.1 rfl)) ?_
    refine sc (fun _ _ _ f _ _ => px (or_conv f.1 tn3 tn26 (osome hx122).symm)) ?_
    refine sc (fun _ _ _ f _ _ => px (or_rem f.1 f.2.1 hx123)) ?_
    refine sc (fun _ _ _ f _ _ => px (or_conv f.1 tn26 tn3 rfl)) ?_
    refine sc (fun _ _ _ f _ _ => px (or_assign f.1)) ?_
    exact steps_nil
  intro own124 a124 w124 hd124 hz124 hk124 hf124 hE124
  have e124_2 := (hk124 2 rfl).trans e119_2
  have e124_7 := (hk124 7 rfl).trans e119_7
  obtain ⟨(e124_9 : a124.eval (.tmp 9) = .int .i64 (IntKind.i64.wrap x123)), -⟩ := hf124 [7] rfl
  have hX124 := es_ hX119 hE124
  have b124_A110 := re_ hE124 b119_A110
  obtain ⟨x125, hx125, hs⟩ := obind hs
  obtain ⟨r127, hr127, hs⟩ := obind hs
  refine rg_plain_seq (n := 76) (rs := []) (own0 := own124) (K := [135]) (bs := [0, 0, 3, 7, 15, 31, 31, 31, 0, 319, 895, 2047]) (ds := [⟨[], [7], [], Fct.val 36 (.slice A110 r109.1.length cA110)⟩, ⟨[], [9], [], Fct.val 37 (.int .i64 (IntKind.i64.wrap x123))⟩, ⟨[0, 1], [], [], Fct.view [111] 38 R5 x125⟩, ⟨[2], [], [], Fct.mems [130, 131, 132, 133] 39 (fun (x : (Option Addr × Nat) × (Option Addr × Nat)) => .tuple #[.agg #[.slice x.1.1 r127.1.1.length x.1.2, .slice x.2.1 r127.1.2.length x.2.2], .int .i64 r127.2.1, .int .i64 r127.2.2]) (fun (x : (Option Addr × Nat) × (Option Addr × Nat)) own w => RwO own 130 [131] w 59 R59 x.1.1 x.1.2 r127.1.1 ∧ RwO own 132 [133] w 27 R27 x.2.1 x.2.2 r127.1.2) (fun hk he h => ⟨RwO.evo (hits_sub hk (by decide)) he h.1, RwO.evo (hits_sub hk (by decide)) he h.2⟩)⟩, ⟨[3], [], [], Fct.rel [35, 39] (fun l => ∀ (A128 : Option Addr) (cA128 : Nat) (A129 : Option Addr) (cA129 : Nat), l.getD 1 undef = .tuple #[.agg #[.slice A128 r127.1.1.length cA128, .slice A129 r127.1.2.length cA129], .int .i64 r127.2.1, .int .i64 r127.2.2] → l.getD 0 undef = .tuple #[.agg #[.slice A128 r127.1.1.length cA128, .slice A129 r127.1.2.length cA129], .int .i64 r127.2.1, .int .i64 r127.2.2])⟩, ⟨[4, 3], [], [], Fct.rel [40, 39] (fun l => ∀ (A128 : Option Addr) (cA128 : Nat) (A129 : Option Addr) (cA129 : Nat), l.getD 1 undef = .tuple #[.agg #[.slice A128 r127.1.1.length cA128, .slice A129 r127.1.2.length cA129], .int .i64 r127.2.1, .int .i64 r127.2.2] → l.getD 0 undef = .agg #[.slice A128 r127.1.1.length cA128, .slice A129 r127.1.2.length cA129])⟩, ⟨[4, 3], [], [], Fct.val 41 (.int .i64 r127.2.1)⟩, ⟨[4, 3], [], [], Fct.val 42 (.int .i64 r127.2.2)⟩, ⟨[], [], [], Fct.blk 135 10 (fun g => .pointer (some ⟨g, 0, none⟩)) 25 #[.slice none 0 0, .slice none 0 0]⟩, ⟨[8, 5, 3], [], [135], Fct.by_ [136] [10, 39] (fun l own w => ∃ g134 : Nat, l.getD 0 undef = .pointer (some ⟨g134, 0, none⟩) ∧ (∀ (A128 : Option Addr) (cA128 : Nat) (A129 : Option Addr) (cA129 : Nat), l.getD 1 undef = .tuple #[.agg #[.slice A128 r127.1.1.length cA128, .slice A129 r127.1.2.length cA129], .int .i64 r127.2.1, .int .i64 r127.2.2] → BlkO own 136 w g134 25 #[.slice A128 r127.1.1.length cA128, .slice A129 r127.1.2.length cA129])) (fun hk he h => by obtain ⟨g, e, h⟩ := h; exact ⟨g, e, fun _ _ _ _ h0' => BlkO.evo (not_hit hk (by decide)) he (h _ _ _ _ h0')⟩)⟩, ⟨[6], [], [], Fct.val 11 (.int .i64 r127.2.1)⟩, ⟨[7], [], [], Fct.val 12 (.int .i64 r127.2.2)⟩]) (by kernel_rfl) hz124 hd124 nm_ ?_ ?_
  · refine sc (fun _ _ _ _ s _ => px (or_move (s.1.trans e124_7))) ?_
    refine sc (fun _ _ _ _ s _ => px (or_move (s.1.trans e124_9))) ?_
    refine sc (fun _ _ _ f _ hE => px (or_view (R := R5) (l := r109.1) (L := [111]) tu33 ts5 f.1 Bnd.none_ (Bnd.some_ f.2.1) Bnd.none_ (RwO.rd (re_ hE b124_A110)) hx125 (.inl rfl) (by simp))) ?_
    refine sc (fun own a wx hf hsl hE => ?_) ?_
    · obtain ⟨⟨⟨A126, cA126⟩, f_38, b_A126⟩, -⟩ := hf
      exact px (or_call cf9 (args1 f_38) (block_Read_w _ x125 A126 cA126 (RdO.zero b_A126) r127 hr127) (post_mems (m := (fun _ => 0)) (m' := (look0 [(1, 130), (2, 131), (3, 132), (4, 133)])) (fun _ _ => .inl rfl) (fun own' w' a' x h1 h => ⟨x, h1, ⟨RwO.back_ h.1 (by decide) (.inr (by decide)), RwO.back_ h.2 (by decide) (.inr (by decide))⟩⟩)))
    refine sc (fun own a wx hf hsl hE => ?_) ?_
    · obtain ⟨⟨⟨⟨A128, cA128⟩, ⟨A129, cA129⟩⟩, (f_39 : a.eval (.tmp 39) = .tuple #[.agg #[.slice A128 r127.1.1.length cA128, .slice A129 r127.1.2.length cA129], .int .i64 r127.2.1, .int .i64 r127.2.2]), b_A128, b_A129⟩, -⟩ := hf
      exact px (or_mono (f := Fct.val 35 (.tuple #[.agg #[.slice A128 r127.1.1.length cA128, .slice A129 r127.1.2.length cA129], .int .i64 r127.2.1, .int .i64 r127.2.2])) (or_move f_39) (fun own' a' w' v' hp h => fun _ _ _ _ h0' => by cases (f_39.symm.trans ((hp.2 39 (by decide)).symm.trans h0')); exact h))
    refine sc (fun own a wx hf hsl hE => ?_) ?_
    · obtain ⟨(q_35 : ∀ (A128 : Option Addr) (cA128 : Nat) (A129 : Option Addr) (cA129 : Nat), a.eval (.tmp 39) = .tuple #[.agg #[.slice A128 r127.1.1.length cA128, .slice A129 r127.1.2.length cA129], .int .i64 r127.2.1, .int .i64 r127.2.2] → a.eval (.tmp 35) = .tuple #[.agg #[.slice A128 r127.1.1.length cA128, .slice A129 r127.1.2.length cA129], .int .i64 r127.2.1, .int .i64 r127.2.2]), ⟨⟨⟨A128, cA128⟩, ⟨A129, cA129⟩⟩, (f_39 : a.eval (.tmp 39) = .tuple #[.agg #[.slice A128 r127.1.1.length cA128, .slice A129 r127.1.2.length cA129], .int .i64 r127.2.1, .int .i64 r127.2.2]), b_A128, b_A129⟩, -⟩ := hf
      have f_35 := q_35 _ _ _ _ f_39
      exact px (or_mono (f := Fct.val 40 (.agg #[.slice A128 r127.1.1.length cA128, .slice A129 r127.1.2.length cA129])) (or_k [(35, .tuple #[.agg #[.slice A128 r127.1.1.length cA128, .slice A129 r127.1.2.length cA129], .int .i64 r127.2.1, .int .i64 r127.2.2])] rfl rfl ⟨f_35, trivial⟩ (by kernel_rfl)) (fun own' a' w' v' hp h => fun _ _ _ _ h0' => by cases (f_39.symm.trans ((hp.2 39 (by decide)).symm.trans h0')); exact h))
    refine sc (fun own a wx hf hsl hE => ?_) ?_
    · obtain ⟨(q_35 : ∀ (A128 : Option Addr) (cA128 : Nat) (A129 : Option Addr) (cA129 : Nat), a.eval (.tmp 39) = .tuple #[.agg #[.slice A128 r127.1.1.length cA128, .slice A129 r127.1.2.length cA129], .int .i64 r127.2.1, .int .i64 r127.2.2] → a.eval (.tmp 35) = .tuple #[.agg #[.slice A128 r127.1.1.length cA128, .slice A129 r127.1.2.length cA129], .int .i64 r127.2.1, .int .i64 r127.2.2]), ⟨⟨⟨A128, cA128⟩, ⟨A129, cA129⟩⟩, f_39, b_A128, b_A129⟩, -⟩ := hf
      have f_35 := q_35 _ _ _ _ f_39
      exact px (or_k [(35, .tuple #[.agg #[.slice A128 r127.1.1.length cA128, .slice A129 r127.1.2.length cA129], .int .i64 r127.2.1, .int .i64 r127.2.2])] rfl rfl ⟨f_35, trivial⟩ (by kernel_rfl))
    refine sc (fun own a wx hf hsl hE => ?_) ?_
    · obtain ⟨(q_35 : ∀ (A128 : Option Addr) (cA128 : Nat) (A129 : Option Addr) (cA129 : Nat), a.eval (.tmp 39) = .tuple #[.agg #[.slice A128 r127.1.1.length cA128, .slice A129 r127.1.2.length cA129], .int .i64 r127.2.1, .int .i64 r127.2.2] → a.eval (.tmp 35) = .tuple #[.agg #[.slice A128 r127.1.1.length cA128, .slice A129 r127.1.2.length cA129], .int .i64 r127.2.1, .int .i64 r127.2.2]), ⟨⟨⟨A128, cA128⟩, ⟨A129, cA129⟩⟩, f_39, b_A128, b_A129⟩, -⟩ := hf
      have f_35 := q_35 _ _ _ _ f_39
      exact px (or_k [(35, .tuple #[.agg #[.slice A128 r127.1.1.length cA128, .slice A129 r127.1.2.length cA129], .int .i64 r127.2.1, .int .i64 r127.2.2])] rfl rfl ⟨f_35, trivial⟩ (by kernel_rfl))
    refine sc (fun _ _ _ _ _ _ => px (or_new [] rfl rfl trivial (by kernel_rfl))) ?_
    refine sc (fun own a wx hf hsl hE => ?_) ?_
    · obtain ⟨⟨g134, f_10, b_g134⟩, (q_40 : ∀ (A128 : Option Addr) (cA128 : Nat) (A129 : Option Addr) (cA129 : Nat), a.eval (.tmp 39) = .tuple #[.agg #[.slice A128 r127.1.1.length cA128, .slice A129 r127.1.2.length cA129], .int .i64 r127.2.1, .int .i64 r127.2.2] → a.eval (.tmp 40) = .agg #[.slice A128 r127.1.1.length cA128, .slice A129 r127.1.2.length cA129]), ⟨⟨⟨A128, cA128⟩, ⟨A129, cA129⟩⟩, (f_39 : a.eval (.tmp 39) = .tuple #[.agg #[.slice A128 r127.1.1.length cA128, .slice A129 r127.1.2.length cA129], .int .i64 r127.2.1, .int .i64 r127.2.2]), b_A128, b_A129⟩, -⟩ := hf
      have f_40 := q_40 _ _ _ _ f_39
      exact px (or_store (l := #[.slice A128 r127.1.1.length cA128, .slice A129 r127.1.2.length cA129]) (lab := 135) (lab2 := 136) ts25 f_10 f_40 b_g134 (by simp) (by kernel_rfl) (mem_of rfl) (by decide) (by kernel_rfl) (fun own' a' w' ha hb => ⟨_, (ha 10).trans f_10, fun _ _ _ _ h0' => by cases (f_39.symm.trans ((ha 39).symm.trans h0')); exact hb⟩))
    refine sc (fun _ _ _ f _ _ => px (or_assign f.1)) ?_
    refine sc (fun _ _ _ f _ _ => px (or_assign f.1)) ?_
    exact steps_nil
  intro own137 a137 w137 hd137 hz137 hk137 hf137 hE137
  have e137_2 := (hk137 2 rfl).trans e124_2
  have e137_7 := (hk137 7 rfl).trans e124_7
  obtain ⟨⟨⟨⟨A128, cA128⟩, ⟨A129, cA129⟩⟩, (f_39 : a137.eval (.tmp 39) = .tuple #[.agg #[.slice A128 r127.1.1.length cA128, .slice A129 r127.1.2.length cA129], .int .i64 r127.2.1, .int .i64 r127.2.2]), (b137_A128 : RwO own137 130 [131] w137 59 R59 A128 cA128 r127.1.1), (b137_A129 : RwO own137 132 [133] w137 27 R27 A129 cA129 r127.1.2)⟩, ⟨g134, (e137_10 : a137.eval (.tmp 10) = .pointer (some ⟨g134, 0, none⟩)), (bq_g134 : ∀ (A128 : Option Addr) (cA128 : Nat) (A129 : Option Addr) (cA129 : Nat), a137.eval (.tmp 39) = .tuple #[.agg #[.slice A128 r127.1.1.length cA128, .slice A129 r127.1.2.length cA129], .int .i64 r127.2.1, .int .i64 r127.2.2] → BlkO own137 136 w137 g134 25 #[.slice A128 r127.1.1.length cA128, .slice A129 r127.1.2.length cA129])⟩, (e137_11 : a137.eval (.tmp 11) = .int .i64 r127.2.1), (e137_12 : a137.eval (.tmp 12) = .int .i64 r127.2.2), -⟩ := hf137 [3, 9, 10, 11] rfl
  have b137_g134 := bq_g134 _ _ _ _ f_39
  have hX137 := es_ hX124 hE137
  have b137_A110 := re_ hE137 b124_A110
  obtain ⟨x140, hx140, hs⟩ := obind hs
  obtain ⟨x145, hx145, hs⟩ := obind hs
  obtain ⟨r148, hr148, hs⟩ := obind hs
  refine rg_plain_seq (n := 76) (rs := []) (own0 := own137) (K := [139, 141, 156]) (bs := [0, 0, 3, 0, 8, 31, 63, 127, 255, 255, 0, 1535, 4095]) (ds := [⟨[], [], [], Fct.row 139 [] 44 5 R5 ([] : List Int)⟩, ⟨[], [7], [], Fct.val 45 (.slice A110 r109.1.length cA110)⟩, ⟨[0, 1], [], [139], Fct.row 141 [] 46 5 R5 x140⟩, ⟨[], [2], [], Fct.val 47 (.int .u8 more3)⟩, ⟨[3], [], [], Fct.row 144 [] 48 5 R5 [more3]⟩, ⟨[2, 4], [], [141], Fct.row 146 [] 49 5 R5 x145⟩, ⟨[5], [], [], Fct.mems [151, 152, 153, 154] 50 (fun (x : (Option Addr × Nat) × (Option Addr × Nat)) => .tuple #[.agg #[.slice x.1.1 r148.1.1.length x.1.2, .slice x.2.1 r148.1.2.length x.2.2], .int .i64 r148.2]) (fun (x : (Option Addr × Nat) × (Option Addr × Nat)) own w => RwO own 151 [152] w 59 R59 x.1.1 x.1.2 r148.1.1 ∧ RwO own 153 [154] w 27 R27 x.2.1 x.2.2 r148.1.2) (fun hk he h => ⟨RwO.evo (hits_sub hk (by decide)) he h.1, RwO.evo (hits_sub hk (by decide)) he h.2⟩)⟩, ⟨[6], [], [], Fct.rel [43, 50] (fun l => ∀ (A149 : Option Addr) (cA149 : Nat) (A150 : Option Addr) (cA150 : Nat), l.getD 1 undef = .tuple #[.agg #[.slice A149 r148.1.1.length cA149, .slice A150 r148.1.2.length cA150], .int .i64 r148.2] → l.getD 0 undef = .tuple #[.agg #[.slice A149 r148.1.1.length cA149, .slice A150 r148.1.2.length cA150], .int .i64 r148.2])⟩, ⟨[7, 6], [], [], Fct.rel [51, 50] (fun l => ∀ (A149 : Option Addr) (cA149 : Nat) (A150 : Option Addr) (cA150 : Nat), l.getD 1 undef = .tuple #[.agg #[.slice A149 r148.1.1.length cA149, .slice A150 r148.1.2.length cA150], .int .i64 r148.2] → l.getD 0 undef = .agg #[.slice A149 r148.1.1.length cA149, .slice A150 r148.1.2.length cA150])⟩, ⟨[7, 6], [], [], Fct.val 52 (.int .i64 r148.2)⟩, ⟨[], [], [], Fct.blk 156 13 (fun g => .pointer (some ⟨g, 0, none⟩)) 25 #[.slice none 0 0, .slice none 0 0]⟩, ⟨[10, 8, 6], [], [156], Fct.by_ [157] [13, 50] (fun l own w => ∃ g155 : Nat, l.getD 0 undef = .pointer (some ⟨g155, 0, none⟩) ∧ (∀ (A149 : Option Addr) (cA149 : Nat) (A150 : Option Addr) (cA150 : Nat), l.getD 1 undef = .tuple #[.agg #[.slice A149 r148.1.1.length cA149, .slice A150 r148.1.2.length cA150], .int .i64 r148.2] → BlkO own 157 w g155 25 #[.slice A149 r148.1.1.length cA149, .slice A150 r148.1.2.length cA150])) (fun hk he h => by obtain ⟨g, e, h⟩ := h; exact ⟨g, e, fun _ _ _ _ h0' => BlkO.evo (not_hit hk (by decide)) he (h _ _ _ _ h0')⟩)⟩, ⟨[9], [], [], Fct.val 14 (.int .i64 r148.2)⟩]) (by kernel_rfl) hz137 hd137 nm_ ?_ ?_
  · refine sc (fun _ _ _ _ _ _ => px (or_lit (lab := 139) (e := 5) (cs := #[]) (F := E5) (or_new [] rfl rfl trivial (by kernel_rfl)) rfl rfl (show 0 ≤ maxLen by decide))) ?_
    refine sc (fun _ _ _ _ s _ => px (or_move (s.1.trans e137_7))) ?_
    refine sc (fun own a wx hf hsl hE => ?_) ?_
    · obtain ⟨⟨⟨A138, cA138⟩, f_44, b_A138⟩, f_45, -⟩ := hf
      exact px (or_append (R := R5) (lab := 139) (lab2 := 141) (L := []) (L3 := []) tp33 f_44 b_A138 (by decide) f_45 (RwO.rd (re_ hE b137_A110)) hx140 (by decide) (by decide) (mem_of rfl) (.inl (Rep.fl_flat _)))
    refine sc (fun _ _ _ _ s _ => px (or_move (s.1.trans e137_2))) ?_
    refine sc (fun _ _ _ f _ _ => px (or_lit (lab := 144) (e := 5) (cs := #[.int .u8 more3]) (F := E5) (or_new [(47, .int .u8 more3)] rfl rfl ⟨f.1, trivial⟩ (by kernel_rfl)) rfl rfl (show 1 ≤ maxLen by decide))) ?_
    refine sc (fun own a wx hf hsl hE => ?_) ?_
    · obtain ⟨⟨⟨A142, cA142⟩, f_46, b_A142⟩, ⟨⟨A143, cA143⟩, f_48, b_A143⟩, -⟩ := hf
      exact px (or_append (R := R5) (lab := 141) (lab2 := 146) (L := []) (L3 := []) tp33 f_46 b_A142 (by decide) f_48 (RwO.rd b_A143) hx145 (by decide) (by decide) (mem_of rfl) (.inl (Rep.fl_flat _)))
    refine sc (fun own a wx hf hsl hE => ?_) ?_
    · obtain ⟨⟨⟨A147, cA147⟩, f_49, b_A147⟩, -⟩ := hf
      exact px (or_call cf12 (args1 f_49) (block_Parse_w _ x145 A147 cA147 (RdO.zero (RwO.rd b_A147)) r148 hr148) (post_mems (m := (fun _ => 0)) (m' := (look0 [(1, 151), (2, 152), (3, 153), (4, 154)])) (fun _ _ => .inl rfl) (fun own' w' a' x h1 h => ⟨x, h1, ⟨RwO.back_ h.1 (by decide) (.inr (by decide)), RwO.back_ h.2 (by decide) (.inr (by decide))⟩⟩)))
    refine sc (fun own a wx hf hsl hE => ?_) ?_
    · obtain ⟨⟨⟨⟨A149, cA149⟩, ⟨A150, cA150⟩⟩, (f_50 : a.eval (.tmp 50) = .tuple #[.agg #[.slice A149 r148.1.1.length cA149, .slice A150 r148.1.2.length cA150], .int .i64 r148.2]), b_A149, b_A150⟩, -⟩ := hf
      exact px (or_mono (f := Fct.val 43 (.tuple #[.agg #[.slice A149 r148.1.1.length cA149, .slice A150 r148.1.2.length cA150], .int .i64 r148.2])) (or_move f_50) (fun own' a' w' v' hp h => fun _ _ _ _ h0' => by cases (f_50.symm.trans ((hp.2 50 (by decide)).symm.trans h0')); exact h))
    refine sc (fun own a wx hf hsl hE => ?_) ?_
    · obtain ⟨(q_43 : ∀ (A149 : Option Addr) (cA149 : Nat) (A150 : Option Addr) (cA150 : Nat), a.eval (.tmp 50) = .tuple #[.agg #[.slice A149 r148.1.1.length cA149, .slice A150 r148.1.2.length cA150], .int .i64 r148.2] → a.eval (.tmp 43) = .tuple #[.agg #[.slice A149 r148.1.1.length cA149, .slice A150 r148.1.2.length cA150], .int .i64 r148.2]), ⟨⟨⟨A149, cA149⟩, ⟨A150, cA150⟩⟩, (f_50 : a.eval (.tmp 50) = .tuple #[.agg #[.slice A149 r148.1.1.length cA149, .slice A150 r148.1.2.length cA150], .int .i64 r148.2]), b_A149, b_A150⟩, -⟩ := hf
      have f_43 := q_43 _ _ _ _ f_50
      exact px (or_mono (f := Fct.val 51 (.agg #[.slice A149 r148.1.1.length cA149, .slice A150 r148.1.2.length cA150])) (or_k [(43, .tuple #[.agg #[.slice A149 r148.1.1.length cA149, .slice A150 r148.1.2.length cA150], .int .i64 r148.2])] rfl rfl ⟨f_43, trivial⟩ (by kernel_rfl)) (fun own' a' w' v' hp h => fun _ _ _ _ h0' => by cases (f_50.symm.trans ((hp.2 50 (by decide)).symm.trans h0')); exact h))
    refine sc (fun own a wx hf hsl hE => ?_) ?_
    · obtain ⟨(q_43 : ∀ (A149 : Option Addr) (cA149 : Nat) (A150 : Option Addr) (cA150 : Nat), a.eval (.tmp 50) = .tuple #[.agg #[.slice A149 r148.1.1.length cA149, .slice A150 r148.1.2.length cA150], .int .i64 r148.2] → a.eval (.tmp 43) = .tuple #[.agg #[.slice A149 r148.1.1.length cA149, .slice A150 r148.1.2.length cA150], .int .i64 r148.2]), ⟨⟨⟨A149, cA149⟩, ⟨A150, cA150⟩⟩, f_50, b_A149, b_A150⟩, -⟩ := hf
      have f_43 := q_43 _ _ _ _ f_50
      exact px (or_k [(43, .tuple #[.agg #[.slice A149 r148.1.1.length cA149, .slice A150 r148.1.2.length cA150], .int .i64 r148.2])] rfl rfl ⟨f_43, trivial⟩ (by kernel_rfl))
    refine sc (fun _ _ _ _ _ _ => px (or_new [] rfl rfl trivial (by kernel_rfl))) ?_
    refine sc (fun own a wx hf hsl hE => ?_) ?_
    · obtain ⟨⟨g155, f_13, b_g155⟩, (q_51 : ∀ (A149 : Option Addr) (cA149 : Nat) (A150 : Option Addr) (cA150 : Nat), a.eval (.tmp 50) = .tuple #[.agg #[.slice A149 r148.1.1.length cA149, .slice A150 r148.1.2.length cA150], .int .i64 r148.2] → a.eval (.tmp 51) = .agg #[.slice A149 r148.1.1.length cA149, .slice A150 r148.1.2.length cA150]), ⟨⟨⟨A149, cA149⟩, ⟨A150, cA150⟩⟩, (f_50 : a.eval (.tmp 50) = .tuple #[.agg #[.slice A149 r148.1.1.length cA149, .slice A150 r148.1.2.length cA150], .int .i64 r148.2]), b_A149, b_A150⟩, -⟩ := hf
      have f_51 := q_51 _ _ _ _ f_50
      exact px (or_store (l := #[.slice A149 r148.1.1.length cA149, .slice A150 r148.1.2.length cA150]) (lab := 156) (lab2 := 157) ts25 f_13 f_51 b_g155 (by simp) (by kernel_rfl) (mem_of rfl) (by decide) (by kernel_rfl) (fun own' a' w' ha hb => ⟨_, (ha 13).trans f_13, fun _ _ _ _ h0' => by cases (f_50.symm.trans ((ha 50).symm.trans h0')); exact hb⟩))
    refine sc (fun _ _ _ f _ _ => px (or_assign f.1)) ?_
    exact steps_nil
  intro own158 a158 w158 hd158 hz158 hk158 hf158 hE158
  have e158_10 := (hk158 10 rfl).trans e137_10
  have e158_11 := (hk158 11 rfl).trans e137_11
  have e158_12 := (hk158 12 rfl).trans e137_12
  obtain ⟨⟨⟨⟨A149, cA149⟩, ⟨A150, cA150⟩⟩, (f_50 : a158.eval (.tmp 50) = .tuple #[.agg #[.slice A149 r148.1.1.length cA149, .slice A150 r148.1.2.length cA150], .int .i64 r148.2]), (b158_A149 : RwO own158 151 [152] w158 59 R59 A149 cA149 r148.1.1), (b158_A150 : RwO own158 153 [154] w158 27 R27 A150 cA150 r148.1.2)⟩, ⟨g155, (e158_13 : a158.eval (.tmp 13) = .pointer (some ⟨g155, 0, none⟩)), (bq_g155 : ∀ (A149 : Option Addr) (cA149 : Nat) (A150 : Option Addr) (cA150 : Nat), a158.eval (.tmp 50) = .tuple #[.agg #[.slice A149 r148.1.1.length cA149, .slice A150 r148.1.2.length cA150], .int .i64 r148.2] → BlkO own158 157 w158 g155 25 #[.slice A149 r148.1.1.length cA149, .slice A150 r148.1.2.length cA150])⟩, (e158_14 : a158.eval (.tmp 14) = .int .i64 r148.2), -⟩ := hf158 [6, 11, 12] rfl
  have b158_g155 := bq_g155 _ _ _ _ f_50
  have hX158 := es_ hX137 hE158
  have b158_A128 := re_ hE158 b137_A128
  have b158_A129 := re_ hE158 b137_A129
  have b158_g134 := be_ hE158 b137_g134
  obtain ⟨r159, hr159, hs⟩ := obind hs
  obtain ⟨x160, hx160, hs⟩ := obind hs
  obtain ⟨r161, hr161, hs⟩ := obind hs
  obtain ⟨x162, hx162, hs⟩ := obind hs
  obtain ⟨r163, hr163, hs⟩ := obind hs
  refine rg0_seq 76 own158 [0, 1, 3, 7, 15, 31, 63, 127, 255, 511, 1023, 1023, 4095, 8191, 16383, 32767, 65535, 131071, 262143, 524287, 524287, 2097151, 4194303, 8388607] [⟨[], [], [], Fct.val 53 (.bool r159)⟩, ⟨[0], [], [], Fct.val 54 (.bool r159)⟩, ⟨[1], [12], [], Fct.cond r159 (some 55) (Fct.val 55 (.int .i64 r127.2.2))⟩, ⟨[1, 2], [], [], Fct.cond r159 (some 56) (Fct.val 56 (.bool (decide (r127.2.2 = 4))))⟩, ⟨[1, 3], [], [], Fct.val 57 (.bool (r159 && (decide (r127.2.2 = 4))))⟩, ⟨[4], [], [], Fct.val 58 (.bool (r159 && (decide (r127.2.2 = 4))))⟩, ⟨[5], [11], [], Fct.cond (r159 && (decide (r127.2.2 = 4))) (some 59) (Fct.val 59 (.int .i64 r127.2.1))⟩, ⟨[5, 6], [], [], Fct.cond (r159 && (decide (r127.2.2 = 4))) (some 60) (Fct.val 60 (.bool (decide (r127.2.1 = 0))))⟩, ⟨[5, 7], [], [], Fct.val 61 (.bool x160)⟩, ⟨[8], [], [], Fct.val 62 (.bool x160)⟩, ⟨[9], [10], [], Fct.cond x160 (some 63) (Fct.val 63 (.agg #[.slice A128 r127.1.1.length cA128, .slice A129 r127.1.2.length cA129]))⟩, ⟨[9], [], [], Fct.cond x160 (some 64) (Fct.val 64 (.agg #[.slice none 0 0, .slice none 0 0]))⟩, ⟨[9, 10, 11], [], [], Fct.cond x160 (some 65) (Fct.val 65 (.bool r161))⟩, ⟨[9, 12], [], [], Fct.val 66 (.bool (x160 && r161))⟩, ⟨[13], [], [], Fct.val 67 (.bool (x160 && r161))⟩, ⟨[14], [14], [], Fct.cond (x160 && r161) (some 68) (Fct.val 68 (.int .i64 r148.2))⟩, ⟨[14, 15], [], [], Fct.cond (x160 && r161) (some 69) (Fct.val 69 (.bool (decide (r148.2 = 3))))⟩, ⟨[14, 16], [], [], Fct.val 70 (.bool x162)⟩, ⟨[17], [], [], Fct.val 71 (.bool x162)⟩, ⟨[18], [13], [], Fct.cond x162 (some 72) (Fct.val 72 (.agg #[.slice A149 r148.1.1.length cA149, .slice A150 r148.1.2.length cA150]))⟩, ⟨[18], [], [], Fct.cond x162 (some 73) (Fct.val 73 (.agg #[.slice none 0 0, .slice none 0 0]))⟩, ⟨[18, 19, 20], [], [], Fct.cond x162 (some 74) (Fct.val 74 (.bool r163))⟩, ⟨[18, 21], [], [], Fct.val 75 (.bool (x162 && r163))⟩, ⟨[22], [], [], Fct.val 6 (.bool (x162 && r163))⟩] hz158 hd158 (by kernel_rfl) ?_ ?_
  · refine sc (fun _ _ _ _ _ _ => px (or_call cf7 (args0) (law26_known_w _   r159 hr159) post_val)) ?_
    refine sc (fun _ _ _ f _ _ => px (or_move f.1)) ?_
    refine sc (fun _ _ _ f s _ => sg_t rfl rfl rfl f.1 (fun hg => or_move (s.1.trans e158_12))) ?_
    refine sc (fun _ _ _ f _ _ => sg_t rfl rfl rfl f.1 (fun hg => or_eql (f.2.1.1 hg) rfl rfl)) ?_
    refine sc (fun _ _ _ f _ _ => px (or_and f.1 (fun hx => f.2.1.1 hx) rfl rfl)) ?_
    refine sc (fun _ _ _ f _ _ => px (or_move f.1)) ?_
    refine sc (fun _ _ _ f s _ => sg_t rfl rfl rfl f.1 (fun hg => or_move (s.1.trans e158_11))) ?_
    refine sc (fun _ _ _ f _ _ => sg_t rfl rfl rfl f.1 (fun hg => or_eql (f.2.1.1 hg) rfl rfl)) ?_
    refine sc (fun _ _ _ f _ _ => px (or_and f.1 (fun hx => f.2.1.1 hx) rfl (osome hx160).symm)) ?_
    refine sc (fun _ _ _ f _ _ => px (or_move f.1)) ?_
    refine sc (fun _ _ _ f s hE => sg_t rfl rfl rfl f.1 (fun hg => or_load (l := [.slice A128 r127.1.1.length cA128, .slice A129 r127.1.2.length cA129]) ta25 (s.1.trans e158_10) (Blk.cellsFrom (be_ hE b158_g134).2 0 rfl) rfl)) ?_
    refine sc (fun _ _ _ f _ _ => sg_t rfl rfl rfl f.1 (fun hg => or_k [] rfl rfl trivial (by kernel_rfl))) ?_
    refine sc (fun _ _ _ f _ hE => sg_t rfl rfl rfl f.1 (fun hg => or_call cf19 (args2 (f.2.1.1 hg) (f.2.2.1.1 hg)) (net_Same_w _ r127.1 A128 cA128 A129 cA129 (([] : List ((List (Int × Int)) × Int × Int)), ([] : List (List (List Int)))) none 0 none 0 (RdO.zero (RwO.rd (re_ hE b158_A128))) (RdO.zero (RwO.rd (re_ hE b158_A129))) RdO.nil_ RdO.nil_ r161 (gd_t hr161 hg)) post_val)) ?_
    refine sc (fun _ _ _ f _ _ => px (or_and f.1 (fun hx => f.2.1.1 hx) rfl rfl)) ?_
    refine sc (fun _ _ _ f _ _ => px (or_move f.1)) ?_
    refine sc (fun _ _ _ f s _ => sg_t rfl rfl rfl f.1 (fun hg => or_move (s.1.trans e158_14))) ?_
    refine sc (fun _ _ _ f _ _ => sg_t rfl rfl rfl f.1 (fun hg => or_eql (f.2.1.1 hg) rfl rfl)) ?_
    refine sc (fun _ _ _ f _ _ => px (or_and f.1 (fun hx => f.2.1.1 hx) rfl (osome hx162).symm)) ?_
    refine sc (fun _ _ _ f _ _ => px (or_move f.1)) ?_
    refine sc (fun _ _ _ f s hE => sg_t rfl rfl rfl f.1 (fun hg => or_load (l := [.slice A149 r148.1.1.length cA149, .slice A150 r148.1.2.length cA150]) ta25 (s.1.trans e158_13) (Blk.cellsFrom (be_ hE b158_g155).2 0 rfl) rfl)) ?_
    refine sc (fun _ _ _ f _ _ => sg_t rfl rfl rfl f.1 (fun hg => or_k [] rfl rfl trivial (by kernel_rfl))) ?_
    refine sc (fun _ _ _ f _ hE => sg_t rfl rfl rfl f.1 (fun hg => or_call cf19 (args2 (f.2.1.1 hg) (f.2.2.1.1 hg)) (net_Same_w _ r148.1 A149 cA149 A150 cA150 (([] : List ((List (Int × Int)) × Int × Int)), ([] : List (List (List Int)))) none 0 none 0 (RdO.zero (RwO.rd (re_ hE b158_A149))) (RdO.zero (RwO.rd (re_ hE b158_A150))) RdO.nil_ RdO.nil_ r163 (gd_t hr163 hg)) post_val)) ?_
    refine sc (fun _ _ _ f _ _ => px (or_and f.1 (fun hx => f.2.1.1 hx) rfl rfl)) ?_
    refine sc (fun _ _ _ f _ _ => px (or_assign f.1)) ?_
    exact steps_nil
  intro own164 a164 w164 hd164 hz164 hk164 hf164 hE164
  obtain ⟨(e164_6 : a164.eval (.tmp 6) = .bool (x162 && r163)), -⟩ := hf164 [23] rfl
  have hX164 := es_ hX158 hE164
  refine fl_ret ?_
  obtain rfl := osome hs
  exact hret _ _ _ _ (.inl rfl) hd164 (results1_ rfl (RVal.tmp_ e164_6)) ⟨own164, rfl, hX164⟩
end Go.Proofs.Ytaobbaohelpdgaa
