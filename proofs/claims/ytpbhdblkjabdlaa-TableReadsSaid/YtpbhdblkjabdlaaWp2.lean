import Derived.Test.YtpbhdblkjabdlaaWp1
import Derived.Test.YtpbhdblkjabdlaaSp2
namespace Go.Proofs.Ytpbhdblkjabdlaa
open Go.RowKit
set_option linter.unusedVariables false
set_option maxRecDepth 10000
theorem table_place_string_w (w : World) (own : Own) (l1 : List ByteArray) (Al1 : Option Addr) (cl1 : Nat) (x2 : ByteArray) (hown : ∀ b, own b ≤ 1) (hl1 : RwO own 1 [] w 9 R9 Al1 cl1 l1) (r : (List ByteArray) × Int) (hs : table_place_string l1 x2 = some r) :
    Calls Try.prog 27 #[.slice Al1 l1.length cl1, .string x2] w fun e w' => ∃ (own' : Own) (x : Option Addr × Nat), e = .returned (.tuple #[.slice x.1 r.1.length x.2, .int .i64 r.2]) ∧ Evo [1] own own' w w' ∧ RwO own' 2 [] w' 9 R9 x.1 x.2 r.1 := by
  refine fl_enter (n := 21) rfl rfl rfl (Nat.le_of_ble_eq_true rfl) ?_
  intro a0 Q hd0 hz0 harg hret
  have ha0 := harg 0 _ rfl
  have ha1 := harg 1 _ rfl
  clear harg
  have hE0 : Evo [1] own own w w := Evo.refl _ _ _
  refine rg0_seq 21 own (bz 2) [⟨[], [], [], Fct.val 4 (.slice none 0 0)⟩, ⟨[], [], [], Fct.val 5 (.int .i64 0)⟩] hz0 hd0 (by kernel_rfl) ?_ ?_
  · refine sc (fun _ _ _ _ _ _ => px (or_assign rfl)) ?_
    refine sc (fun _ _ _ _ _ _ => px (or_assign rfl)) ?_
    exact steps_nil
  intro own30 a30 w30 hd30 hz30 hk30 hf30 hE30
  have e30_0 := (hk30 0 rfl).trans ha0
  have e30_1 := (hk30 1 rfl).trans ha1
  have hX30 := Evo.step hE0 hown hE30 rfl
  have b30_Al1 := re_ hE30 hl1
  refine fl_seq (fun Q31 hn31 hp31 => ?_)
  obtain ⟨r32, hr32, hs⟩ := obind hs
  refine rg0_seq 21 own30 [0, 0, 3, 7] [⟨[], [0], [], Fct.val 7 (.slice Al1 l1.length cl1)⟩, ⟨[], [1], [], Fct.val 8 (.string x2)⟩, ⟨[0, 1], [], [], Fct.val 9 (.int .i64 r32)⟩, ⟨[2], [], [], Fct.val 6 (.int .i64 r32)⟩] hz30 hd30 (by kernel_rfl) ?_ ?_
  · refine sc (fun _ _ _ _ s _ => px (or_move (s.1.trans e30_0))) ?_
    refine sc (fun _ _ _ _ s _ => px (or_move (s.1.trans e30_1))) ?_
    refine sc (fun _ _ _ f _ hE => px (or_call cf44 (args2 f.1 f.2.1) (slices_Index_string_string_w _ l1 Al1 cl1 x2 (RdO.zero (RwO.rd (re_ hE b30_Al1))) r32 hr32) post_val)) ?_
    refine sc (fun _ _ _ f _ _ => px (or_assign f.1)) ?_
    exact steps_nil
  intro own33 a33 w33 hd33 hz33 hk33 hf33 hE33
  have e33_0 := (hk33 0 rfl).trans e30_0
  have e33_1 := (hk33 1 rfl).trans e30_1
  obtain ⟨(e33_6 : a33.eval (.tmp 6) = .int .i64 r32), -⟩ := hf33 [3] rfl
  have hX33 := Evo.step hX30 hown hE33 rfl
  have b33_Al1 := re_ hE33 b30_Al1
  refine rg0_seq 21 own33 (bz 2) [⟨[], [6], [], Fct.val 10 (.int .i64 r32)⟩, ⟨[0], [], [], Fct.val 11 (.bool (decide (0 ≤ r32)))⟩] hz33 hd33 (by kernel_rfl) ?_ ?_
  · refine sc (fun _ _ _ _ s _ => px (or_move (s.1.trans e33_6))) ?_
    refine sc (fun _ _ _ f _ _ => px (or_geq f.1 rfl rfl)) ?_
    exact steps_nil
  intro own34 a34 w34 hd34 hz34 hk34 hf34 hE34
  have e34_0 := (hk34 0 rfl).trans e33_0
  have e34_1 := (hk34 1 rfl).trans e33_1
  have e34_6 := (hk34 6 rfl).trans e33_6
  obtain ⟨(e34_11 : a34.eval (.tmp 11) = .bool (decide (0 ≤ r32))), -⟩ := hf34 [1] rfl
  have hX34 := Evo.step hX33 hown hE34 rfl
  have b34_Al1 := re_ hE34 b33_Al1
  refine fl_cond e34_11 hs (fun c35 hs => ?_) (fun c35 hs => ?_)
  · refine rg0_seq 21 own34 [0, 0, 1, 7] [⟨[], [0], [], Fct.val 12 (.slice Al1 l1.length cl1)⟩, ⟨[], [6], [], Fct.val 13 (.int .i64 r32)⟩, ⟨[0], [], [], Fct.val 4 (.slice Al1 l1.length cl1)⟩, ⟨[1], [], [], Fct.val 5 (.int .i64 r32)⟩] hz34 hd34 (by kernel_rfl) ?_ ?_
    · refine sc (fun _ _ _ _ s _ => px (or_move (s.1.trans e34_0))) ?_
      refine sc (fun _ _ _ _ s _ => px (or_move (s.1.trans e34_6))) ?_
      refine sc (fun _ _ _ f _ _ => px (or_assign f.1)) ?_
      refine sc (fun _ _ _ f _ _ => px (or_assign f.1)) ?_
      exact steps_nil
    intro own36 a36 w36 hd36 hz36 hk36 hf36 hE36
    obtain ⟨(e36_4 : a36.eval (.tmp 4) = .slice Al1 l1.length cl1), (e36_5 : a36.eval (.tmp 5) = .int .i64 r32), -⟩ := hf36 [2, 3] rfl
    have hX36 := Evo.step hX34 hown hE36 rfl
    have b36_Al1 := re_ hE36 b34_Al1
    refine fl_ret ?_
    refine hp31 _ _ _ rfl ?_
    obtain rfl := osome hs
    exact hret _ _ _ _ (.inl rfl) hd36 (results2_ rfl (RVal.tmp_ e36_4) (RVal.tmp_ e36_5)) ⟨(rl [(1, 2)] own36), (Al1, cl1), rfl, (Evo.rl_ hX36 hown rfl), (RwO.rl_ (mm := [(1, 2)]) b36_Al1)⟩
  refine fl_skip ?_
  refine hn31 _ _ ?_
  obtain ⟨r37, hr37, hs⟩ := obind hs
  obtain ⟨x43, hx43, hs⟩ := obind hs
  refine rg_plain_seq (n := 21) (rs := []) (own0 := own34) (K := [44]) (bs := [0, 1, 0, 4, 15, 0, 32, 31, 255]) (ds := [⟨[], [0], [], Fct.val 14 (.slice Al1 l1.length cl1)⟩, ⟨[0], [], [], Fct.mems [39, 40, 1] 15 (fun (x : Option Addr × Nat) => .slice x.1 r37.length r37.length) (fun (x : Option Addr × Nat) own w => RdO own [39, 40, 1] w R9 x.1 r37.length r37) (fun hk he h => RdO.evo (hits_sub hk (by decide)) he h)⟩, ⟨[], [1], [], Fct.val 16 (.string x2)⟩, ⟨[2], [], [], Fct.row 42 [] 17 9 R9 [x2]⟩, ⟨[1, 3], [], [44], Fct.row 45 [] 18 9 R9 x43⟩, ⟨[], [0], [], Fct.val 19 (.slice Al1 l1.length cl1)⟩, ⟨[5], [], [], Fct.val 20 (.int .i64 (l1.length : Int))⟩, ⟨[4], [], [], Fct.rel [4, 18] (fun l => ∀ (A46 : Option Addr) (cA46 : Nat), l.getD 1 undef = .slice A46 x43.length cA46 → l.getD 0 undef = .slice A46 x43.length cA46)⟩, ⟨[6], [], [], Fct.val 5 (.int .i64 (l1.length : Int))⟩]) (by kernel_rfl) hz34 hd34 nm_ ?_ ?_
  · refine sc (fun _ _ _ _ s _ => px (or_move (s.1.trans e34_0))) ?_
    refine sc (fun own _ _ f _ hE => px (or_call cf45 (args1 f.1) (slices_Clip_string_string_w _ (forth own (inL [1])) l1 Al1 cl1 inL_le (RdO.alias_ (La := [1]) (RwO.rd (re_ hE b34_Al1)) (by decide)) r37 hr37) (post_alias (La := [1]) (m' := (look0 [(1, 39), (2, 40)])) (fun own' w' a' x ho hsz h1 h => ⟨x, h1, RdO.backN_ ho hsz h (by decide) (by decide) (by decide)⟩)))) ?_
    refine sc (fun _ _ _ _ s _ => px (or_move (s.1.trans e34_1))) ?_
    refine sc (fun _ _ _ f _ _ => px (or_lit (lab := 42) (e := 9) (cs := #[.string x2]) (F := E9) (or_new [(16, .string x2)] rfl rfl ⟨f.1, trivial⟩ (by kernel_rfl)) rfl rfl (show 1 ≤ maxLen by decide))) ?_
    refine sc (fun own a wx hf hsl hE => ?_) ?_
    · obtain ⟨⟨⟨A38, cA38⟩, f_15, b_A38⟩, ⟨⟨A41, cA41⟩, f_17, b_A41⟩, -⟩ := hf
      exact px (or_appendF (R := R9) (lab := 44) (lab2 := 45) tp34 f_15 b_A38 f_17 (RwO.rd b_A41) (by simp) hx43 (by decide) (by decide) (Rep.fl_flat _) (mem_of rfl) (by decide))
    refine sc (fun _ _ _ _ s _ => px (or_move (s.1.trans e34_0))) ?_
    refine sc (fun _ _ _ f _ _ => px (or_len tu34 f.1 rfl)) ?_
    refine sc (fun own a wx hf hsl hE => ?_) ?_
    · obtain ⟨⟨⟨A46, cA46⟩, (f_18 : a.eval (.tmp 18) = .slice A46 x43.length cA46), b_A46⟩, -⟩ := hf
      exact px (or_mono (f := Fct.val 4 (.slice A46 x43.length cA46)) (or_assign f_18) (fun own' a' w' v' hp h => fun _ _ h0' => by cases (f_18.symm.trans ((hp.2 18 (by decide)).symm.trans h0')); exact h))
    refine sc (fun _ _ _ f _ _ => px (or_assign f.1)) ?_
    exact steps_nil
  intro own47 a47 w47 hd47 hz47 hk47 hf47 hE47
  obtain ⟨⟨⟨A46, cA46⟩, (f_18 : a47.eval (.tmp 18) = .slice A46 x43.length cA46), (b47_A46 : RwO own47 45 [] w47 9 R9 A46 cA46 x43)⟩, (q_4 : ∀ (A46 : Option Addr) (cA46 : Nat), a47.eval (.tmp 18) = .slice A46 x43.length cA46 → a47.eval (.tmp 4) = .slice A46 x43.length cA46), (e47_5 : a47.eval (.tmp 5) = .int .i64 (l1.length : Int)), -⟩ := hf47 [4, 7, 8] rfl
  have e47_4 := q_4 _ _ f_18
  have hX47 := Evo.step hX34 hown hE47 rfl
  refine fl_ret ?_
  obtain rfl := osome hs
  exact hret _ _ _ _ (.inl rfl) hd47 (results2_ rfl (RVal.tmp_ e47_4) (RVal.tmp_ e47_5)) ⟨(rl [(45, 2)] own47), (A46, cA46), rfl, (Evo.rl_ hX47 hown rfl), (RwO.rl_ (mm := [(45, 2)]) b47_A46)⟩
theorem slices_Index_value_Value_value_Value_w (w : World) (s1 : List (Int × ByteArray × Int)) (As1 : Option Addr) (cs1 : Nat) (v2 : Int × ByteArray × Int) (hs1 : RdO (fun _ => 0) [0] w R60 As1 cs1 s1) (r : Int) (hs : slices_Index_value_Value_value_Value s1 v2 = some r) :
    Calls Try.prog 46 #[.slice As1 s1.length cs1, .agg #[.int .i64 v2.1, .string v2.2.1, .int .i64 v2.2.2]] w fun e w' => ∃ own' : Own, e = .returned (.int .i64 r) ∧ Evo [] (fun _ => 0) own' w w' := by
  refine fl_enter (n := 19) rfl rfl rfl (Nat.le_of_ble_eq_true rfl) ?_
  intro a0 Q hd0 hz0 harg hret
  have ha0 := harg 0 _ rfl
  have ha1 := harg 1 _ rfl
  clear harg
  have hE0 : Evo [] (fun _ => 0) (fun _ => 0) w w := Evo.refl _ _ _
  refine rg0_seq 19 (fun _ => 0) [0, 0] [⟨[], [1], [], Fct.blk 57 3 (fun g => .pointer (some ⟨g, 0, none⟩)) 60 #[.int .i64 v2.1, .string v2.2.1, .int .i64 v2.2.2]⟩, ⟨[], [], [], Fct.val 4 (.int .i64 0)⟩] hz0 hd0 (by kernel_rfl) ?_ ?_
  · refine sc (fun _ _ _ _ s _ => px (or_new [(1, .agg #[.int .i64 v2.1, .string v2.2.1, .int .i64 v2.2.2])] rfl rfl ⟨(s.1.trans ha1), trivial⟩ (by kernel_rfl))) ?_
    refine sc (fun _ _ _ _ _ _ => px (or_assign rfl)) ?_
    exact steps_nil
  intro own58 a58 w58 hd58 hz58 hk58 hf58 hE58
  have e58_0 := (hk58 0 rfl).trans ha0
  obtain ⟨⟨g56, (e58_3 : a58.eval (.tmp 3) = .pointer (some ⟨g56, 0, none⟩)), (b58_g56 : BlkO own58 57 w58 g56 60 #[.int .i64 v2.1, .string v2.2.1, .int .i64 v2.2.2])⟩, -⟩ := hf58 [0] rfl
  have hX58 := es_ hE0 hE58
  have b58_As1 := RdO.evo rfl hE58 hs1
  refine fl_seq (fun Q59 hn59 hp59 => ?_)
  refine rg0_seq 19 own58 [0, 1, 0] [⟨[], [0], [], Fct.val 6 (.slice As1 s1.length cs1)⟩, ⟨[0], [], [], Fct.val 7 (.int .i64 (s1.length : Int))⟩, ⟨[], [], [], Fct.val 8 (.int .i64 0)⟩] hz58 hd58 (by kernel_rfl) ?_ ?_
  · refine sc (fun _ _ _ _ s _ => px (or_move (s.1.trans e58_0))) ?_
    refine sc (fun _ _ _ f _ _ => px (or_len tu41 f.1 rfl)) ?_
    refine sc (fun _ _ _ _ _ _ => px (or_move rfl)) ?_
    exact steps_nil
  intro own60 a60 w60 hd60 hz60 hk60 hf60 hE60
  have e60_0 := (hk60 0 rfl).trans e58_0
  have e60_3 := (hk60 3 rfl).trans e58_3
  obtain ⟨(e60_7 : a60.eval (.tmp 7) = .int .i64 (s1.length : Int)), (e60_8 : a60.eval (.tmp 8) = .int .i64 0), -⟩ := hf60 [1, 2] rfl
  have hX60 := es_ hX58 hE60
  have b60_As1 := RdO.evo rfl hE60 b58_As1
  have b60_g56 := be_ hE60 b58_g56
  refine fl_block (fun Q61 hn61 hx61 hp61 => ?_)
  refine fl_loop (body := (fun s => slices_Index_value_Value_value_Value_b1 s1 v2 s)) (z := r) (show loopO _ _ = _ from hs) (fun (x74 : Int) a wx => ∃ (ox : Own), a.defers = [] ∧ a.tmps.size = 19 ∧ a.eval (.tmp 0) = .slice As1 s1.length cs1 ∧ a.eval (.tmp 3) = .pointer (some ⟨g56, 0, none⟩) ∧ a.eval (.tmp 7) = .int .i64 (s1.length : Int) ∧ a.eval (.tmp 8) = .int .i64 x74 ∧ Evo [] (fun _ => 0) ox w wx ∧ RdO ox [0] wx R60 As1 cs1 s1 ∧ BlkO ox 57 wx g56 60 #[.int .i64 v2.1, .string v2.2.1, .int .i64 v2.2.2]) ?_ ?_
  · exact ⟨own60, hd60, hz60, e60_0, e60_3, e60_7, e60_8, hX60, b60_As1, b60_g56⟩
  · rintro x74 zz87 a87 w87 ⟨own87, hd88, hz88, e88_0, e88_3, e88_7, e88_8, hE88, b88_As1, b88_g56⟩ hs Q87 hn87 hp87 hz87
    have hs : slices_Index_value_Value_value_Value_b1 s1 v2 x74 = some zz87 := hs
    refine rg0_seq 19 own87 (bz 1) [⟨[], [8, 7], [], Fct.val 9 (.bool (decide (x74 < (s1.length : Int))))⟩] hz88 hd88 (by kernel_rfl) ?_ ?_
    · refine sc (fun _ _ _ _ s _ => px (or_lss (s.1.trans e88_8) (s.2.1.trans e88_7) rfl)) ?_
      exact steps_nil
    intro own89 a89 w89 hd89 hz89 hk89 hf89 hE89
    have e89_0 := (hk89 0 rfl).trans e88_0
    have e89_3 := (hk89 3 rfl).trans e88_3
    have e89_7 := (hk89 7 rfl).trans e88_7
    have e89_8 := (hk89 8 rfl).trans e88_8
    obtain ⟨(e89_9 : a89.eval (.tmp 9) = .bool (decide (x74 < (s1.length : Int)))), -⟩ := hf89 [0] rfl
    have hX89 := es_ hE88 hE89
    have b89_As1 := RdO.evo rfl hE89 b88_As1
    have b89_g56 := be_ hE89 b88_g56
    refine fl_seq (fun Q90 hn90 hp90 => ?_)
    refine fl_cond e89_9 hs (fun c91 hs => ?_) (fun c91 hs => ?_)
    · refine fl_skip ?_
      refine hn90 _ _ ?_
      refine fl_seq (fun Q92 hn92 hp92 => ?_)
      refine fl_block (fun Q93 hn93 hx93 hp93 => ?_)
      refine rg0_seq 19 own89 (bz 2) [⟨[], [8], [], Fct.val 10 (.int .i64 x74)⟩, ⟨[0], [], [], Fct.val 5 (.int .i64 x74)⟩] hz89 hd89 (by kernel_rfl) ?_ ?_
      · refine sc (fun _ _ _ _ s _ => px (or_move (s.1.trans e89_8))) ?_
        refine sc (fun _ _ _ f _ _ => px (or_assign f.1)) ?_
        exact steps_nil
      intro own94 a94 w94 hd94 hz94 hk94 hf94 hE94
      have e94_0 := (hk94 0 rfl).trans e89_0
      have e94_3 := (hk94 3 rfl).trans e89_3
      have e94_7 := (hk94 7 rfl).trans e89_7
      have e94_8 := (hk94 8 rfl).trans e89_8
      obtain ⟨(e94_5 : a94.eval (.tmp 5) = .int .i64 x74), -⟩ := hf94 [1] rfl
      have hX94 := es_ hX89 hE94
      have b94_As1 := RdO.evo rfl hE94 b89_As1
      have b94_g56 := be_ hE94 b89_g56
      obtain ⟨x95, hx95, hs⟩ := obind hs
      refine rg_draw_seq g_mixed (n := 19) (rs := []) (own0 := own94) (K := []) (bs := [0, 0, 0, 6, 14, 31]) (ds := [⟨[], [3], [], Fct.val 11 (.agg #[.int .i64 v2.1, .string v2.2.1, .int .i64 v2.2.2])⟩, ⟨[], [0], [], Fct.val 12 (.slice As1 s1.length cs1)⟩, ⟨[], [5], [], Fct.val 13 (.int .i64 x74)⟩, ⟨[1, 2], [], [], Fct.val 14 (.pointer (some ((adr As1).add ((x74 : Int).toNat * R60.s))))⟩, ⟨[3], [], [], Fct.val 15 (.agg #[.int .i64 x95.1, .string x95.2.1, .int .i64 x95.2.2])⟩, ⟨[0, 4], [], [], Fct.val 16 (.bool (decide (v2 = x95)))⟩]) (by kernel_rfl) hz94 hd94 nm_ ?_ ?_
      · refine sc (fun _ _ _ _ s hE => px (or_load (l := [.int .i64 v2.1, .string v2.2.1, .int .i64 v2.2.2]) ta60 (s.1.trans e94_3) (Blk.cellsFrom (be_ hE b94_g56).2 0 rfl) rfl)) ?_
        refine sc (fun _ _ _ _ s _ => px (or_move (s.1.trans e94_0))) ?_
        refine sc (fun _ _ _ _ s _ => px (or_move (s.1.trans e94_5))) ?_
        refine sc (fun _ _ _ f _ _ => px (or_index (R := R60) (l := s1) tl41 f.1 f.2.1 (RdO.some_ b94_As1 hx95) hx95)) ?_
        refine sc (fun _ _ _ f _ hE => px (or_load (l := E60.f x95) ta60 f.1 (RdO.cells (F := E60) (RdO.evo rfl hE b94_As1) hx95) rfl)) ?_
        refine sc (fun _ _ _ f _ _ => px (or_eqlA sg60 f.1 f.2.1 (se60 v2.1 v2.2.1 v2.2.2 x95.1 x95.2.1 x95.2.2 _) rfl)) ?_
        exact steps_nil
      intro own96 a96 w96 hd96 hz96 hk96 hf96 hE96
      have e96_0 := (hk96 0 rfl).trans e94_0
      have e96_3 := (hk96 3 rfl).trans e94_3
      have e96_5 := (hk96 5 rfl).trans e94_5
      have e96_7 := (hk96 7 rfl).trans e94_7
      have e96_8 := (hk96 8 rfl).trans e94_8
      obtain ⟨(e96_16 : a96.eval (.tmp 16) = .bool (decide (v2 = x95))), -⟩ := hf96 [5] rfl
      have hX96 := es_ hX94 hE96
      have b96_As1 := RdO.evo rfl hE96 b94_As1
      have b96_g56 := be_ hE96 b94_g56
      refine fl_cond e96_16 hs (fun c97 hs => ?_) (fun c97 hs => ?_)
      · refine rg0_seq 19 own96 (bz 2) [⟨[], [5], [], Fct.val 17 (.int .i64 x74)⟩, ⟨[0], [], [], Fct.val 4 (.int .i64 x74)⟩] hz96 hd96 (by kernel_rfl) ?_ ?_
        · refine sc (fun _ _ _ _ s _ => px (or_move (s.1.trans e96_5))) ?_
          refine sc (fun _ _ _ f _ _ => px (or_assign f.1)) ?_
          exact steps_nil
        intro own98 a98 w98 hd98 hz98 hk98 hf98 hE98
        obtain ⟨(e98_4 : a98.eval (.tmp 4) = .int .i64 x74), -⟩ := hf98 [1] rfl
        have hX98 := es_ hX96 hE98
        refine fl_ret ?_
        refine hp93 _ _ _ rfl ?_
        refine hp92 _ _ _ rfl ?_
        replace hs := hz87 _ hs
        refine hp87 _ _ _ rfl ?_
        refine hp61 _ _ _ rfl ?_
        refine hp59 _ _ _ rfl ?_
        obtain rfl := (osome hs).symm
        exact hret _ _ _ _ (.inl rfl) hd98 (results1_ rfl (RVal.tmp_ e98_4)) ⟨own98, rfl, hX98⟩
      refine fl_skip ?_
      refine hn93 _ _ ?_
      refine hn92 _ _ ?_
      refine rg0 19 own96 (bz 2) [⟨[], [8], [], Fct.val 18 (.int .i64 (ad x74 1))⟩, ⟨[0], [], [], Fct.val 8 (.int .i64 (ad x74 1))⟩] hz96 hd96 (by kernel_rfl) ?_ ?_
      · refine sc (fun _ _ _ _ s _ => px (or_add (s.1.trans e96_8) rfl rfl)) ?_
        refine sc (fun _ _ _ f _ _ => px (or_move f.1)) ?_
        exact steps_nil
      intro own99 a99 w99 hd99 hz99 hk99 hf99 hE99
      have e99_0 := (hk99 0 rfl).trans e96_0
      have e99_3 := (hk99 3 rfl).trans e96_3
      have e99_7 := (hk99 7 rfl).trans e96_7
      obtain ⟨(e99_8 : a99.eval (.tmp 8) = .int .i64 (ad x74 1)), -⟩ := hf99 [1] rfl
      have hX99 := es_ hX96 hE99
      have b99_As1 := RdO.evo rfl hE99 b96_As1
      have b99_g56 := be_ hE99 b96_g56
      exact hn87 _ _ _ hs ⟨own99, hd99, hz99, e99_0, e99_3, e99_7, e99_8, hX99, b99_As1, b99_g56⟩
    refine fl_exit ?_
    refine hp90 _ _ _ rfl ?_
    replace hs := hz87 _ hs
    refine hp87 _ _ _ rfl ?_
    refine hx61 _ _ ?_
    refine hn59 _ _ ?_
    refine rg0_seq 19 own89 (bz 1) [⟨[], [], [], Fct.val 4 (.int .i64 (-1))⟩] hz89 hd89 (by kernel_rfl) ?_ ?_
    · refine sc (fun _ _ _ _ _ _ => px (or_assign rfl)) ?_
      exact steps_nil
    intro own100 a100 w100 hd100 hz100 hk100 hf100 hE100
    obtain ⟨(e100_4 : a100.eval (.tmp 4) = .int .i64 (-1)), -⟩ := hf100 [0] rfl
    have hX100 := es_ hX89 hE100
    refine fl_ret ?_
    obtain rfl := osome hs
    exact hret _ _ _ _ (.inl rfl) hd100 (results1_ rfl (RVal.tmp_ e100_4)) ⟨own100, rfl, hX100⟩
theorem slices_Clip_value_Value_value_Value_w (w : World) (own : Own) (s1 : List (Int × ByteArray × Int)) (As1 : Option Addr) (cs1 : Nat) (hown : ∀ b, own b ≤ 1) (hs1 : RdO own [1] w R60 As1 cs1 s1) (r : List (Int × ByteArray × Int)) (hs : slices_Clip_value_Value_value_Value s1 = some r) :
    Calls Try.prog 47 #[.slice As1 s1.length cs1] w fun e w' => ∃ (own' : Own) (x : Option Addr × Nat), e = .returned (.slice x.1 r.length r.length) ∧ Evo [] own own' w w' ∧ RdO own' [1, 2] w' R60 x.1 r.length r := by
  refine fl_enter (n := 9) rfl rfl rfl (Nat.le_of_ble_eq_true rfl) ?_
  intro a0 Q hd0 hz0 harg hret
  have ha0 := harg 0 _ rfl
  clear harg
  have hE0 : Evo [] own own w w := Evo.refl _ _ _
  refine rg0_seq 9 own (bz 1) [⟨[], [], [], Fct.val 2 (.slice none 0 0)⟩] hz0 hd0 (by kernel_rfl) ?_ ?_
  · refine sc (fun _ _ _ _ _ _ => px (or_assign rfl)) ?_
    exact steps_nil
  intro own16 a16 w16 hd16 hz16 hk16 hf16 hE16
  have e16_0 := (hk16 0 rfl).trans ha0
  have hX16 := Evo.step hE0 hown hE16 rfl
  have b16_As1 := RdO.evo rfl hE16 hs1
  obtain ⟨x17, hx17, hs⟩ := obind hs
  refine rg0_seq 9 own16 [0, 0, 2, 0, 8, 31, 63] [⟨[], [0], [], Fct.val 3 (.slice As1 s1.length cs1)⟩, ⟨[], [0], [], Fct.val 4 (.slice As1 s1.length cs1)⟩, ⟨[1], [], [], Fct.val 5 (.int .i64 (s1.length : Int))⟩, ⟨[], [0], [], Fct.val 6 (.slice As1 s1.length cs1)⟩, ⟨[3], [], [], Fct.val 7 (.int .i64 (s1.length : Int))⟩, ⟨[0, 2, 4], [], [], Fct.viewF [1] 8 R60 x17⟩, ⟨[5], [], [], Fct.rel [2, 8] (fun l => ∀ (A18 : Option Addr), l.getD 1 undef = .slice A18 x17.length x17.length → l.getD 0 undef = .slice A18 x17.length x17.length)⟩] hz16 hd16 (by kernel_rfl) ?_ ?_
  · refine sc (fun _ _ _ _ s _ => px (or_move (s.1.trans e16_0))) ?_
    refine sc (fun _ _ _ _ s _ => px (or_move (s.1.trans e16_0))) ?_
    refine sc (fun _ _ _ f _ _ => px (or_len tu41 f.1 rfl)) ?_
    refine sc (fun _ _ _ _ s _ => px (or_move (s.1.trans e16_0))) ?_
    refine sc (fun _ _ _ f _ _ => px (or_len tu41 f.1 rfl)) ?_
    refine sc (fun _ _ _ f _ hE => px (or_viewF (R := R60) (l := s1) (L := [1]) tu41 ts60 f.1 Bnd.none_ (Bnd.some_ f.2.1) (Bnd.some_ f.2.2.1) (RdO.evo rfl hE b16_As1) hx17 rfl (fun _ B h1 h2 => ⟨B, h1, h2⟩))) ?_
    refine sc (fun own a wx hf hsl hE => ?_) ?_
    · obtain ⟨⟨A18, (f_8 : a.eval (.tmp 8) = .slice A18 x17.length x17.length), b_A18⟩, -⟩ := hf
      exact px (or_mono (f := Fct.val 2 (.slice A18 x17.length x17.length)) (or_assign f_8) (fun own' a' w' v' hp h => fun _ h0' => by cases (f_8.symm.trans ((hp.2 8 (by decide)).symm.trans h0')); exact h))
    exact steps_nil
  intro own19 a19 w19 hd19 hz19 hk19 hf19 hE19
  obtain ⟨⟨A18, (f_8 : a19.eval (.tmp 8) = .slice A18 x17.length x17.length), (b19_A18 : RdO own19 [1] w19 R60 A18 x17.length x17)⟩, (q_2 : ∀ (A18 : Option Addr), a19.eval (.tmp 8) = .slice A18 x17.length x17.length → a19.eval (.tmp 2) = .slice A18 x17.length x17.length), -⟩ := hf19 [5, 6] rfl
  have e19_2 := q_2 _ f_8
  have hX19 := Evo.step hX16 hown hE19 rfl
  refine fl_ret ?_
  obtain rfl := (osome hs).symm
  exact hret _ _ _ _ (.inl rfl) hd19 (results1_ rfl (RVal.tmp_ e19_2)) ⟨own19, (A18, x17.length), rfl, hX19, (RdO.more b19_A18 (by decide))⟩
theorem table_place_value_Value_w (w : World) (own : Own) (l1 : List (Int × ByteArray × Int)) (Al1 : Option Addr) (cl1 : Nat) (x2 : Int × ByteArray × Int) (hown : ∀ b, own b ≤ 1) (hl1 : RwO own 1 [] w 60 R60 Al1 cl1 l1) (r : (List (Int × ByteArray × Int)) × Int) (hs : table_place_value_Value l1 x2 = some r) :
    Calls Try.prog 28 #[.slice Al1 l1.length cl1, .agg #[.int .i64 x2.1, .string x2.2.1, .int .i64 x2.2.2]] w fun e w' => ∃ (own' : Own) (x : Option Addr × Nat), e = .returned (.tuple #[.slice x.1 r.1.length x.2, .int .i64 r.2]) ∧ Evo [1] own own' w w' ∧ RwO own' 2 [] w' 60 R60 x.1 x.2 r.1 := by
  refine fl_enter (n := 21) rfl rfl rfl (Nat.le_of_ble_eq_true rfl) ?_
  intro a0 Q hd0 hz0 harg hret
  have ha0 := harg 0 _ rfl
  have ha1 := harg 1 _ rfl
  clear harg
  have hE0 : Evo [1] own own w w := Evo.refl _ _ _
  refine rg0_seq 21 own [0, 0, 2] [⟨[], [1], [], Fct.blk 33 3 (fun g => .pointer (some ⟨g, 0, none⟩)) 60 #[.int .i64 x2.1, .string x2.2.1, .int .i64 x2.2.2]⟩, ⟨[], [], [], Fct.val 4 (.slice none 0 0)⟩, ⟨[], [], [], Fct.val 5 (.int .i64 0)⟩] hz0 hd0 (by kernel_rfl) ?_ ?_
  · refine sc (fun _ _ _ _ s _ => px (or_new [(1, .agg #[.int .i64 x2.1, .string x2.2.1, .int .i64 x2.2.2])] rfl rfl ⟨(s.1.trans ha1), trivial⟩ (by kernel_rfl))) ?_
    refine sc (fun _ _ _ _ _ _ => px (or_assign rfl)) ?_
    refine sc (fun _ _ _ _ _ _ => px (or_assign rfl)) ?_
    exact steps_nil
  intro own34 a34 w34 hd34 hz34 hk34 hf34 hE34
  have e34_0 := (hk34 0 rfl).trans ha0
  obtain ⟨⟨g32, (e34_3 : a34.eval (.tmp 3) = .pointer (some ⟨g32, 0, none⟩)), (b34_g32 : BlkO own34 33 w34 g32 60 #[.int .i64 x2.1, .string x2.2.1, .int .i64 x2.2.2])⟩, -⟩ := hf34 [0] rfl
  have hX34 := Evo.step hE0 hown hE34 rfl
  have b34_Al1 := re_ hE34 hl1
  refine fl_seq (fun Q35 hn35 hp35 => ?_)
  obtain ⟨r36, hr36, hs⟩ := obind hs
  refine rg0_seq 21 own34 [0, 0, 3, 7] [⟨[], [0], [], Fct.val 7 (.slice Al1 l1.length cl1)⟩, ⟨[], [3], [], Fct.val 8 (.agg #[.int .i64 x2.1, .string x2.2.1, .int .i64 x2.2.2])⟩, ⟨[0, 1], [], [], Fct.val 9 (.int .i64 r36)⟩, ⟨[2], [], [], Fct.val 6 (.int .i64 r36)⟩] hz34 hd34 (by kernel_rfl) ?_ ?_
  · refine sc (fun _ _ _ _ s _ => px (or_move (s.1.trans e34_0))) ?_
    refine sc (fun _ _ _ _ s hE => px (or_load (l := [.int .i64 x2.1, .string x2.2.1, .int .i64 x2.2.2]) ta60 (s.1.trans e34_3) (Blk.cellsFrom (be_ hE b34_g32).2 0 rfl) rfl)) ?_
    refine sc (fun _ _ _ f _ hE => px (or_call cf46 (args2 f.1 f.2.1) (slices_Index_value_Value_value_Value_w _ l1 Al1 cl1 x2 (RdO.zero (RwO.rd (re_ hE b34_Al1))) r36 hr36) post_val)) ?_
    refine sc (fun _ _ _ f _ _ => px (or_assign f.1)) ?_
    exact steps_nil
  intro own37 a37 w37 hd37 hz37 hk37 hf37 hE37
  have e37_0 := (hk37 0 rfl).trans e34_0
  have e37_3 := (hk37 3 rfl).trans e34_3
  obtain ⟨(e37_6 : a37.eval (.tmp 6) = .int .i64 r36), -⟩ := hf37 [3] rfl
  have hX37 := Evo.step hX34 hown hE37 rfl
  have b37_Al1 := re_ hE37 b34_Al1
  have b37_g32 := be_ hE37 b34_g32
  refine rg0_seq 21 own37 (bz 2) [⟨[], [6], [], Fct.val 10 (.int .i64 r36)⟩, ⟨[0], [], [], Fct.val 11 (.bool (decide (0 ≤ r36)))⟩] hz37 hd37 (by kernel_rfl) ?_ ?_
  · refine sc (fun _ _ _ _ s _ => px (or_move (s.1.trans e37_6))) ?_
    refine sc (fun _ _ _ f _ _ => px (or_geq f.1 rfl rfl)) ?_
    exact steps_nil
  intro own38 a38 w38 hd38 hz38 hk38 hf38 hE38
  have e38_0 := (hk38 0 rfl).trans e37_0
  have e38_3 := (hk38 3 rfl).trans e37_3
  have e38_6 := (hk38 6 rfl).trans e37_6
  obtain ⟨(e38_11 : a38.eval (.tmp 11) = .bool (decide (0 ≤ r36))), -⟩ := hf38 [1] rfl
  have hX38 := Evo.step hX37 hown hE38 rfl
  have b38_Al1 := re_ hE38 b37_Al1
  have b38_g32 := be_ hE38 b37_g32
  refine fl_cond e38_11 hs (fun c39 hs => ?_) (fun c39 hs => ?_)
  · refine rg0_seq 21 own38 [0, 0, 1, 7] [⟨[], [0], [], Fct.val 12 (.slice Al1 l1.length cl1)⟩, ⟨[], [6], [], Fct.val 13 (.int .i64 r36)⟩, ⟨[0], [], [], Fct.val 4 (.slice Al1 l1.length cl1)⟩, ⟨[1], [], [], Fct.val 5 (.int .i64 r36)⟩] hz38 hd38 (by kernel_rfl) ?_ ?_
    · refine sc (fun _ _ _ _ s _ => px (or_move (s.1.trans e38_0))) ?_
      refine sc (fun _ _ _ _ s _ => px (or_move (s.1.trans e38_6))) ?_
      refine sc (fun _ _ _ f _ _ => px (or_assign f.1)) ?_
      refine sc (fun _ _ _ f _ _ => px (or_assign f.1)) ?_
      exact steps_nil
    intro own40 a40 w40 hd40 hz40 hk40 hf40 hE40
    obtain ⟨(e40_4 : a40.eval (.tmp 4) = .slice Al1 l1.length cl1), (e40_5 : a40.eval (.tmp 5) = .int .i64 r36), -⟩ := hf40 [2, 3] rfl
    have hX40 := Evo.step hX38 hown hE40 rfl
    have b40_Al1 := re_ hE40 b38_Al1
    refine fl_ret ?_
    refine hp35 _ _ _ rfl ?_
    obtain rfl := osome hs
    exact hret _ _ _ _ (.inl rfl) hd40 (results2_ rfl (RVal.tmp_ e40_4) (RVal.tmp_ e40_5)) ⟨(rl [(1, 2)] own40), (Al1, cl1), rfl, (Evo.rl_ hX40 hown rfl), (RwO.rl_ (mm := [(1, 2)]) b40_Al1)⟩
  refine fl_skip ?_
  refine hn35 _ _ ?_
  obtain ⟨r41, hr41, hs⟩ := obind hs
  obtain ⟨x47, hx47, hs⟩ := obind hs
  refine rg_draw_seq g_mixed (n := 21) (rs := []) (own0 := own38) (K := [48]) (bs := [0, 1, 0, 4, 15, 0, 32, 31, 255]) (ds := [⟨[], [0], [], Fct.val 14 (.slice Al1 l1.length cl1)⟩, ⟨[0], [], [], Fct.mems [43, 44, 1] 15 (fun (x : Option Addr × Nat) => .slice x.1 r41.length r41.length) (fun (x : Option Addr × Nat) own w => RdO own [43, 44, 1] w R60 x.1 r41.length r41) (fun hk he h => RdO.evo (hits_sub hk (by decide)) he h)⟩, ⟨[], [3], [], Fct.val 16 (.agg #[.int .i64 x2.1, .string x2.2.1, .int .i64 x2.2.2])⟩, ⟨[2], [], [], Fct.row 46 [] 17 60 R60 [x2]⟩, ⟨[1, 3], [], [48], Fct.row 49 [] 18 60 R60 x47⟩, ⟨[], [0], [], Fct.val 19 (.slice Al1 l1.length cl1)⟩, ⟨[5], [], [], Fct.val 20 (.int .i64 (l1.length : Int))⟩, ⟨[4], [], [], Fct.rel [4, 18] (fun l => ∀ (A50 : Option Addr) (cA50 : Nat), l.getD 1 undef = .slice A50 x47.length cA50 → l.getD 0 undef = .slice A50 x47.length cA50)⟩, ⟨[6], [], [], Fct.val 5 (.int .i64 (l1.length : Int))⟩]) (by kernel_rfl) hz38 hd38 nm_ ?_ ?_
  · refine sc (fun _ _ _ _ s _ => px (or_move (s.1.trans e38_0))) ?_
    refine sc (fun own _ _ f _ hE => px (or_call cf47 (args1 f.1) (slices_Clip_value_Value_value_Value_w _ (forth own (inL [1])) l1 Al1 cl1 inL_le (RdO.alias_ (La := [1]) (RwO.rd (re_ hE b38_Al1)) (by decide)) r41 hr41) (post_alias (La := [1]) (m' := (look0 [(1, 43), (2, 44)])) (fun own' w' a' x ho hsz h1 h => ⟨x, h1, RdO.backN_ ho hsz h (by decide) (by decide) (by decide)⟩)))) ?_
    refine sc (fun _ _ _ _ s hE => px (or_load (l := [.int .i64 x2.1, .string x2.2.1, .int .i64 x2.2.2]) ta60 (s.1.trans e38_3) (Blk.cellsFrom (be_ hE b38_g32).2 0 rfl) rfl)) ?_
    refine sc (fun _ _ _ f _ _ => px (or_lit (lab := 46) (e := 60) (cs := #[.int .i64 x2.1, .string x2.2.1, .int .i64 x2.2.2]) (F := E60) (or_new [(16, .agg #[.int .i64 x2.1, .string x2.2.1, .int .i64 x2.2.2])] rfl rfl ⟨f.1, trivial⟩ (by kernel_rfl)) rfl rfl (show 1 ≤ maxLen by decide))) ?_
    refine sc (fun own a wx hf hsl hE => ?_) ?_
    · obtain ⟨⟨⟨A42, cA42⟩, f_15, b_A42⟩, ⟨⟨A45, cA45⟩, f_17, b_A45⟩, -⟩ := hf
      exact px (or_appendF (R := R60) (lab := 48) (lab2 := 49) tp41 f_15 b_A42 f_17 (RwO.rd b_A45) (by simp) hx47 (by decide) (by decide) (Rep.fl_flat _) (mem_of rfl) (by decide))
    refine sc (fun _ _ _ _ s _ => px (or_move (s.1.trans e38_0))) ?_
    refine sc (fun _ _ _ f _ _ => px (or_len tu41 f.1 rfl)) ?_
    refine sc (fun own a wx hf hsl hE => ?_) ?_
    · obtain ⟨⟨⟨A50, cA50⟩, (f_18 : a.eval (.tmp 18) = .slice A50 x47.length cA50), b_A50⟩, -⟩ := hf
      exact px (or_mono (f := Fct.val 4 (.slice A50 x47.length cA50)) (or_assign f_18) (fun own' a' w' v' hp h => fun _ _ h0' => by cases (f_18.symm.trans ((hp.2 18 (by decide)).symm.trans h0')); exact h))
    refine sc (fun _ _ _ f _ _ => px (or_assign f.1)) ?_
    exact steps_nil
  intro own51 a51 w51 hd51 hz51 hk51 hf51 hE51
  obtain ⟨⟨⟨A50, cA50⟩, (f_18 : a51.eval (.tmp 18) = .slice A50 x47.length cA50), (b51_A50 : RwO own51 49 [] w51 60 R60 A50 cA50 x47)⟩, (q_4 : ∀ (A50 : Option Addr) (cA50 : Nat), a51.eval (.tmp 18) = .slice A50 x47.length cA50 → a51.eval (.tmp 4) = .slice A50 x47.length cA50), (e51_5 : a51.eval (.tmp 5) = .int .i64 (l1.length : Int)), -⟩ := hf51 [4, 7, 8] rfl
  have e51_4 := q_4 _ _ f_18
  have hX51 := Evo.step hX38 hown hE51 rfl
  refine fl_ret ?_
  obtain rfl := osome hs
  exact hret _ _ _ _ (.inl rfl) hd51 (results2_ rfl (RVal.tmp_ e51_4) (RVal.tmp_ e51_5)) ⟨(rl [(49, 2)] own51), (A50, cA50), rfl, (Evo.rl_ hX51 hown rfl), (RwO.rl_ (mm := [(49, 2)]) b51_A50)⟩
theorem table_Table_Add_w (w : World) (own : Own) (t1 : (List ByteArray) × (List (Int × ByteArray × Int))) (gt1 : Nat) (tt1 : TypeId) (At1_0 : Option Addr) (ct1_0 : Nat) (At1_1 : Option Addr) (ct1_1 : Nat) (l2 : List (ByteArray × (Int × ByteArray × Int))) (Al2 : Option Addr) (cl2 : Nat) (hown : ∀ b, own b ≤ 3) (hgt1 : BlkO own 1 w gt1 tt1 #[.slice At1_0 t1.1.length ct1_0, .slice At1_1 t1.2.length ct1_1]) (hAt1_0 : RwO own 2 [] w 9 R9 At1_0 ct1_0 t1.1) (hAt1_1 : RwO own 3 [] w 60 R60 At1_1 ct1_1 t1.2) (hl2 : RdO own [0] w R64 Al2 cl2 l2) (r : (List Int) × Int × ((List ByteArray) × (List (Int × ByteArray × Int)))) (hs : table_Table_Add t1 l2 = some r) :
    Calls Try.prog 8 #[.pointer (some ⟨gt1, 0, none⟩), .slice Al2 l2.length cl2] w fun e w' => ∃ (own' : Own) (x : (Option Addr × Nat) × (Option Addr × Nat) × (Option Addr × Nat)), e = .returned (.tuple #[.slice x.1.1 r.1.length x.1.2, .int .i64 r.2.1]) ∧ Evo [1, 2, 3] own own' w w' ∧ RwO own' 4 [] w' 3 R3 x.1.1 x.1.2 r.1 ∧ RwO own' 2 [] w' 9 R9 x.2.1.1 x.2.1.2 r.2.2.1 ∧ RwO own' 3 [] w' 60 R60 x.2.2.1 x.2.2.2 r.2.2.2 ∧ BlkO own' 1 w' gt1 tt1 #[.slice x.2.1.1 r.2.2.1.length x.2.1.2, .slice x.2.2.1 r.2.2.2.length x.2.2.2] := by
  refine fl_enter (n := 58) rfl rfl rfl (Nat.le_of_ble_eq_true rfl) ?_
  intro a0 Q hd0 hz0 harg hret
  have ha0 := harg 0 _ rfl
  have ha1 := harg 1 _ rfl
  clear harg
  have hE0 : Evo [1, 2, 3] own own w w := Evo.refl _ _ _
  refine rg0_seq 58 own (bz 2) [⟨[], [], [], Fct.val 4 (.slice none 0 0)⟩, ⟨[], [], [], Fct.val 5 (.int .i64 0)⟩] hz0 hd0 (by kernel_rfl) ?_ ?_
  · refine sc (fun _ _ _ _ _ _ => px (or_assign rfl)) ?_
    refine sc (fun _ _ _ _ _ _ => px (or_assign rfl)) ?_
    exact steps_nil
  intro own153 a153 w153 hd153 hz153 hk153 hf153 hE153
  have e153_0 := (hk153 0 rfl).trans ha0
  have e153_1 := (hk153 1 rfl).trans ha1
  have hX153 := Evo.step hE0 hown hE153 rfl
  have b153_At1_0 := re_ hE153 hAt1_0
  have b153_At1_1 := re_ hE153 hAt1_1
  have b153_gt1 := be_ hE153 hgt1
  have b153_Al2 := RdO.evo rfl hE153 hl2
  refine fl_seq (fun Q154 hn154 hp154 => ?_)
  refine rg0_seq 58 own153 (bz 2) [⟨[], [0], [], Fct.val 12 (.pointer (some ⟨gt1, 0, none⟩))⟩, ⟨[0], [], [], Fct.val 13 (.bool false)⟩] hz153 hd153 (by kernel_rfl) ?_ ?_
  · refine sc (fun _ _ _ _ s _ => px (or_move (s.1.trans e153_0))) ?_
    refine sc (fun _ _ _ f _ _ => px (or_k [(12, .pointer (some ⟨gt1, 0, none⟩))] rfl rfl ⟨f.1, trivial⟩ (by kernel_rfl))) ?_
    exact steps_nil
  intro own155 a155 w155 hd155 hz155 hk155 hf155 hE155
  have e155_0 := (hk155 0 rfl).trans e153_0
  have e155_1 := (hk155 1 rfl).trans e153_1
  obtain ⟨(e155_13 : a155.eval (.tmp 13) = .bool false), -⟩ := hf155 [1] rfl
  have hX155 := Evo.step hX153 hown hE155 rfl
  have b155_At1_0 := re_ hE155 b153_At1_0
  have b155_At1_1 := re_ hE155 b153_At1_1
  have b155_gt1 := be_ hE155 b153_gt1
  have b155_Al2 := RdO.evo rfl hE155 b153_Al2
  refine fl_f e155_13 ?_
  refine fl_skip ?_
  refine hn154 _ _ ?_
  refine fl_seq (fun Q156 hn156 hp156 => ?_)
  obtain ⟨r157, hr157, hs⟩ := obind hs
  refine rg0_seq 58 own155 (bz 3) [⟨[], [1], [], Fct.val 14 (.slice Al2 l2.length cl2)⟩, ⟨[0], [], [], Fct.val 15 (.int .i64 r157)⟩, ⟨[1], [], [], Fct.val 6 (.int .i64 r157)⟩] hz155 hd155 (by kernel_rfl) ?_ ?_
  · refine sc (fun _ _ _ _ s _ => px (or_move (s.1.trans e155_1))) ?_
    refine sc (fun _ _ _ f _ hE => px (or_call cf17 (args1 f.1) (table_Check_w _ l2 Al2 cl2 (RdO.zero (RdO.evo rfl hE b155_Al2)) r157 hr157) post_val)) ?_
    refine sc (fun _ _ _ f _ _ => px (or_assign f.1)) ?_
    exact steps_nil
  intro own158 a158 w158 hd158 hz158 hk158 hf158 hE158
  have e158_0 := (hk158 0 rfl).trans e155_0
  have e158_1 := (hk158 1 rfl).trans e155_1
  obtain ⟨(e158_6 : a158.eval (.tmp 6) = .int .i64 r157), -⟩ := hf158 [2] rfl
  have hX158 := Evo.step hX155 hown hE158 rfl
  have b158_At1_0 := re_ hE158 b155_At1_0
  have b158_At1_1 := re_ hE158 b155_At1_1
  have b158_gt1 := be_ hE158 b155_gt1
  have b158_Al2 := RdO.evo rfl hE158 b155_Al2
  refine rg0_seq 58 own158 (bz 2) [⟨[], [6], [], Fct.val 16 (.int .i64 r157)⟩, ⟨[0], [], [], Fct.val 17 (.bool (!decide (r157 = 0)))⟩] hz158 hd158 (by kernel_rfl) ?_ ?_
  · refine sc (fun _ _ _ _ s _ => px (or_move (s.1.trans e158_6))) ?_
    refine sc (fun _ _ _ f _ _ => px (or_neq f.1 rfl rfl)) ?_
    exact steps_nil
  intro own159 a159 w159 hd159 hz159 hk159 hf159 hE159
  have e159_0 := (hk159 0 rfl).trans e158_0
  have e159_1 := (hk159 1 rfl).trans e158_1
  have e159_6 := (hk159 6 rfl).trans e158_6
  obtain ⟨(e159_17 : a159.eval (.tmp 17) = .bool (!decide (r157 = 0))), -⟩ := hf159 [1] rfl
  have hX159 := Evo.step hX158 hown hE159 rfl
  have b159_At1_0 := re_ hE159 b158_At1_0
  have b159_At1_1 := re_ hE159 b158_At1_1
  have b159_gt1 := be_ hE159 b158_gt1
  have b159_Al2 := RdO.evo rfl hE159 b158_Al2
  refine fl_cond e159_17 hs (fun c160 hs => ?_) (fun c160 hs => ?_)
  · refine rg0_seq 58 own159 [0, 0, 3] [⟨[], [6], [], Fct.val 18 (.int .i64 r157)⟩, ⟨[], [], [], Fct.val 4 (.slice none 0 0)⟩, ⟨[0], [], [], Fct.val 5 (.int .i64 r157)⟩] hz159 hd159 (by kernel_rfl) ?_ ?_
    · refine sc (fun _ _ _ _ s _ => px (or_move (s.1.trans e159_6))) ?_
      refine sc (fun _ _ _ _ _ _ => px (or_assign rfl)) ?_
      refine sc (fun _ _ _ f _ _ => px (or_assign f.1)) ?_
      exact steps_nil
    intro own161 a161 w161 hd161 hz161 hk161 hf161 hE161
    have e161_0 := (hk161 0 rfl).trans e159_0
    obtain ⟨(e161_4 : a161.eval (.tmp 4) = .slice none 0 0), (e161_5 : a161.eval (.tmp 5) = .int .i64 r157), -⟩ := hf161 [1, 2] rfl
    have hX161 := Evo.step hX159 hown hE161 rfl
    have b161_At1_0 := re_ hE161 b159_At1_0
    have b161_At1_1 := re_ hE161 b159_At1_1
    have b161_gt1 := be_ hE161 b159_gt1
    refine fl_ret ?_
    refine hp156 _ _ _ rfl ?_
    obtain rfl := osome hs
    exact hret _ _ _ _ (.inl rfl) hd161 (results2_ rfl (RVal.tmp_ e161_4) (RVal.tmp_ e161_5)) ⟨own161, ((none, 0), (At1_0, ct1_0), (At1_1, ct1_1)), rfl, hX161, RwO.nil_, b161_At1_0, b161_At1_1, b161_gt1⟩
  refine fl_skip ?_
  refine hn156 _ _ ?_
  refine rg0_seq 58 own159 (bz 1) [⟨[], [], [], Fct.val 7 (.slice none 0 0)⟩] hz159 hd159 (by kernel_rfl) ?_ ?_
  · refine sc (fun _ _ _ _ _ _ => px (or_assign rfl)) ?_
    exact steps_nil
  intro own162 a162 w162 hd162 hz162 hk162 hf162 hE162
  have e162_0 := (hk162 0 rfl).trans e159_0
  have e162_1 := (hk162 1 rfl).trans e159_1
  obtain ⟨(e162_7 : a162.eval (.tmp 7) = .slice none 0 0), -⟩ := hf162 [0] rfl
  have hX162 := Evo.step hX159 hown hE162 rfl
  have b162_At1_0 := re_ hE162 b159_At1_0
  have b162_At1_1 := re_ hE162 b159_At1_1
  have b162_gt1 := be_ hE162 b159_gt1
  have b162_Al2 := RdO.evo rfl hE162 b159_Al2
  refine fl_seq (fun Q163 hn163 hp163 => ?_)
  refine rg0_seq 58 own162 [0, 1, 0] [⟨[], [1], [], Fct.val 19 (.slice Al2 l2.length cl2)⟩, ⟨[0], [], [], Fct.val 20 (.int .i64 (l2.length : Int))⟩, ⟨[], [], [], Fct.val 21 (.int .i64 0)⟩] hz162 hd162 (by kernel_rfl) ?_ ?_
  · refine sc (fun _ _ _ _ s _ => px (or_move (s.1.trans e162_1))) ?_
    refine sc (fun _ _ _ f _ _ => px (or_len tu22 f.1 rfl)) ?_
    refine sc (fun _ _ _ _ _ _ => px (or_move rfl)) ?_
    exact steps_nil
  intro own164 a164 w164 hd164 hz164 hk164 hf164 hE164
  have e164_0 := (hk164 0 rfl).trans e162_0
  have e164_7 := (hk164 7 rfl).trans e162_7
  obtain ⟨(e164_19 : a164.eval (.tmp 19) = .slice Al2 l2.length cl2), (e164_20 : a164.eval (.tmp 20) = .int .i64 (l2.length : Int)), (e164_21 : a164.eval (.tmp 21) = .int .i64 0), -⟩ := hf164 [0, 1, 2] rfl
  have hX164 := Evo.step hX162 hown hE164 rfl
  have b164_At1_0 := re_ hE164 b162_At1_0
  have b164_At1_1 := re_ hE164 b162_At1_1
  have b164_gt1 := be_ hE164 b162_gt1
  have b164_Al2 := RdO.evo rfl hE164 b162_Al2
  refine fl_block (fun Q165 hn165 hx165 hp165 => ?_)
  refine fl_loop (body := (fun s => table_Table_Add_b1 l2 s.1 s.2.1 s.2.2.1 s.2.2.2)) (z := r) (show loopO _ _ = _ from hs) (fun (s : (List ByteArray) × (List (Int × ByteArray × Int)) × (List Int) × Int) a wx => match s with | (t205, t209, out213, x215) => ∃ (ox : Own) (A203 : Option Addr) (c204 : Nat) (A207 : Option Addr) (c208 : Nat) (A211 : Option Addr) (c212 : Nat), a.defers = [] ∧ a.tmps.size = 58 ∧ a.eval (.tmp 0) = .pointer (some ⟨gt1, 0, none⟩) ∧ a.eval (.tmp 7) = .slice A211 out213.length c212 ∧ a.eval (.tmp 19) = .slice Al2 l2.length cl2 ∧ a.eval (.tmp 20) = .int .i64 (l2.length : Int) ∧ a.eval (.tmp 21) = .int .i64 x215 ∧ Evo [1, 2, 3] own ox w wx ∧ BlkO ox 202 wx gt1 tt1 #[.slice A203 t205.length c204, .slice A207 t209.length c208] ∧ RwO ox 206 [] wx 9 R9 A203 c204 t205 ∧ RwO ox 210 [] wx 60 R60 A207 c208 t209 ∧ RwO ox 214 [] wx 3 R3 A211 c212 out213 ∧ RdO ox [0] wx R64 Al2 cl2 l2) ?_ ?_
  · exact ⟨(rl [(1, 202), (2, 206), (3, 210)] own164), At1_0, ct1_0, At1_1, ct1_1, none, 0, hd164, hz164, e164_0, e164_7, e164_19, e164_20, e164_21, (Evo.rl_ hX164 hown rfl), (BlkO.rl_ (mm := [(1, 202), (2, 206), (3, 210)]) b164_gt1), (RwO.rl_ (mm := [(1, 202), (2, 206), (3, 210)]) b164_At1_0), (RwO.rl_ (mm := [(1, 202), (2, 206), (3, 210)]) b164_At1_1), RwO.nil_, (RdO.rl_ (mm := [(1, 202), (2, 206), (3, 210)]) b164_Al2)⟩
  · rintro ⟨t205, t209, out213, x215⟩ zz253 a253 w253 ⟨own253, A203, c204, A207, c208, A211, c212, hd254, hz254, e254_0, e254_7, e254_19, e254_20, e254_21, hE254, b254_gt1, b254_A203, b254_A207, b254_A211, b254_Al2⟩ hs Q253 hn253 hp253 hz253
    have hs : table_Table_Add_b1 l2 t205 t209 out213 x215 = some zz253 := hs
    refine rg0_seq 58 own253 (bz 1) [⟨[], [21, 20], [], Fct.val 22 (.bool (decide (x215 < (l2.length : Int))))⟩] hz254 hd254 (by kernel_rfl) ?_ ?_
    · refine sc (fun _ _ _ _ s _ => px (or_lss (s.1.trans e254_21) (s.2.1.trans e254_20) rfl)) ?_
      exact steps_nil
    intro own255 a255 w255 hd255 hz255 hk255 hf255 hE255
    have e255_0 := (hk255 0 rfl).trans e254_0
    have e255_7 := (hk255 7 rfl).trans e254_7
    have e255_19 := (hk255 19 rfl).trans e254_19
    have e255_20 := (hk255 20 rfl).trans e254_20
    have e255_21 := (hk255 21 rfl).trans e254_21
    obtain ⟨(e255_22 : a255.eval (.tmp 22) = .bool (decide (x215 < (l2.length : Int)))), -⟩ := hf255 [0] rfl
    have hX255 := Evo.step hE254 hown hE255 rfl
    have b255_gt1 := be_ hE255 b254_gt1
    have b255_A203 := re_ hE255 b254_A203
    have b255_A207 := re_ hE255 b254_A207
    have b255_A211 := re_ hE255 b254_A211
    have b255_Al2 := RdO.evo rfl hE255 b254_Al2
    refine fl_seq (fun Q256 hn256 hp256 => ?_)
    refine fl_cond e255_22 hs (fun c257 hs => ?_) (fun c257 hs => ?_)
    · refine fl_skip ?_
      refine hn256 _ _ ?_
      refine fl_seq (fun Q258 hn258 hp258 => ?_)
      refine fl_block (fun Q259 hn259 hx259 hp259 => ?_)
      obtain ⟨x260, hx260, hs⟩ := obind hs
      refine rg_plain_seq (n := 58) (rs := []) (own0 := own255) (K := [262]) (bs := [0, 1, 0, 7]) (ds := [⟨[], [19, 21], [], Fct.val 23 (.pointer (some ((adr Al2).add ((x215 : Int).toNat * R64.s))))⟩, ⟨[0], [], [], Fct.val 24 (.agg #[.string x260.1, .int .i64 x260.2.1, .string x260.2.2.1, .int .i64 x260.2.2.2])⟩, ⟨[], [], [], Fct.blk 262 9 (fun g => .pointer (some ⟨g, 0, none⟩)) 64 #[.string ByteArray.empty, .int .i64 0, .string ByteArray.empty, .int .i64 0]⟩, ⟨[2, 1], [], [262], Fct.blk 263 9 (fun g => .pointer (some ⟨g, 0, none⟩)) 64 #[.string x260.1, .int .i64 x260.2.1, .string x260.2.2.1, .int .i64 x260.2.2.2]⟩]) (by kernel_rfl) hz255 hd255 nm_ ?_ ?_
      · refine sc (fun _ _ _ _ s _ => px (or_index (R := R64) (l := l2) tl22 (s.1.trans e255_19) (s.2.1.trans e255_21) (RdO.some_ b255_Al2 hx260) hx260)) ?_
        refine sc (fun _ _ _ f _ hE => px (or_load (l := E64.f x260) ta64 f.1 (RdO.cells (F := E64) (RdO.evo rfl hE b255_Al2) hx260) rfl)) ?_
        refine sc (fun _ _ _ _ _ _ => px (or_new [] rfl rfl trivial (by kernel_rfl))) ?_
        refine sc (fun own a wx hf hsl hE => ?_) ?_
        · obtain ⟨⟨g261, f_9, b_g261⟩, f_24, -⟩ := hf
          exact px (or_store (l := #[.string x260.1, .int .i64 x260.2.1, .string x260.2.2.1, .int .i64 x260.2.2.2]) (lab := 262) (lab2 := 263) ts64 f_9 f_24 b_g261 (by simp) (by kernel_rfl) (mem_of rfl) (by decide) (by kernel_rfl) (fun own' a' w' ha hb => ⟨_, (ha 9).trans f_9, hb⟩))
        exact steps_nil
      intro own264 a264 w264 hd264 hz264 hk264 hf264 hE264
      have e264_0 := (hk264 0 rfl).trans e255_0
      have e264_7 := (hk264 7 rfl).trans e255_7
      have e264_19 := (hk264 19 rfl).trans e255_19
      have e264_20 := (hk264 20 rfl).trans e255_20
      have e264_21 := (hk264 21 rfl).trans e255_21
      obtain ⟨⟨g261, (e264_9 : a264.eval (.tmp 9) = .pointer (some ⟨g261, 0, none⟩)), (b264_g261 : BlkO own264 263 w264 g261 64 #[.string x260.1, .int .i64 x260.2.1, .string x260.2.2.1, .int .i64 x260.2.2.2])⟩, -⟩ := hf264 [3] rfl
      have hX264 := Evo.step hX255 hown hE264 rfl
      have b264_gt1 := be_ hE264 b255_gt1
      have b264_A203 := re_ hE264 b255_A203
      have b264_A207 := re_ hE264 b255_A207
      have b264_A211 := re_ hE264 b255_A211
      have b264_Al2 := RdO.evo rfl hE264 b255_Al2
      refine rg0_seq 58 own264 (bz 2) [⟨[], [], [], Fct.val 10 (.int .i64 0)⟩, ⟨[], [], [], Fct.val 11 (.int .i64 0)⟩] hz264 hd264 (by kernel_rfl) ?_ ?_
      · refine sc (fun _ _ _ _ _ _ => px (or_assign rfl)) ?_
        refine sc (fun _ _ _ _ _ _ => px (or_assign rfl)) ?_
        exact steps_nil
      intro own265 a265 w265 hd265 hz265 hk265 hf265 hE265
      have e265_0 := (hk265 0 rfl).trans e264_0
      have e265_7 := (hk265 7 rfl).trans e264_7
      have e265_9 := (hk265 9 rfl).trans e264_9
      have e265_19 := (hk265 19 rfl).trans e264_19
      have e265_20 := (hk265 20 rfl).trans e264_20
      have e265_21 := (hk265 21 rfl).trans e264_21
      have hX265 := Evo.step hX264 hown hE265 rfl
      have b265_gt1 := be_ hE265 b264_gt1
      have b265_A203 := re_ hE265 b264_A203
      have b265_A207 := re_ hE265 b264_A207
      have b265_A211 := re_ hE265 b264_A211
      have b265_Al2 := RdO.evo rfl hE265 b264_Al2
      have b265_g261 := be_ hE265 b264_g261
      obtain ⟨r269, hr269, hs⟩ := obind hs
      refine rg_draw_seq g_mixed (n := 58) (rs := [Fct.rowAt 206 [] 9 R9 A203 c204 t205, Fct.at_ 202 gt1 tt1 #[.slice A203 t205.length c204, .slice A207 t209.length c208]]) (own0 := own265) (K := [206, 202]) (bs := [0, 0, 2, 6, 14, 0, 32, 126, 254, 510, 510, 1023, 3071, 7167, 16383]) (ds := [⟨[], [0], [], Fct.val 26 (.pointer (some ⟨gt1, 0, none⟩))⟩, ⟨[], [0], [], Fct.val 27 (.pointer (some ⟨gt1, 0, none⟩))⟩, ⟨[1], [], [], Fct.val 28 (.pointer (some ⟨gt1, 0, none⟩))⟩, ⟨[2], [], [], Fct.val 29 (.pointer (some ⟨gt1, 0, none⟩))⟩, ⟨[3, 16], [], [], Fct.val 30 (.slice A203 t205.length c204)⟩, ⟨[], [9], [], Fct.val 31 (.pointer (some ⟨g261, 0, none⟩))⟩, ⟨[5], [], [], Fct.val 32 (.string x260.1)⟩, ⟨[4, 6, 15], [], [206], Fct.mems [271] 33 (fun (x : Option Addr × Nat) => .tuple #[.slice x.1 r269.1.length x.2, .int .i64 r269.2]) (fun (x : Option Addr × Nat) own w => RwO own 271 [] w 9 R9 x.1 x.2 r269.1) (fun hk he h => RwO.evo (hits_sub hk (by decide)) he h)⟩, ⟨[7], [], [], Fct.rel [25, 33] (fun l => ∀ (A270 : Option Addr) (cA270 : Nat), l.getD 1 undef = .tuple #[.slice A270 r269.1.length cA270, .int .i64 r269.2] → l.getD 0 undef = .tuple #[.slice A270 r269.1.length cA270, .int .i64 r269.2])⟩, ⟨[8, 7], [], [], Fct.rel [34, 33] (fun l => ∀ (A270 : Option Addr) (cA270 : Nat), l.getD 1 undef = .tuple #[.slice A270 r269.1.length cA270, .int .i64 r269.2] → l.getD 0 undef = .slice A270 r269.1.length cA270)⟩, ⟨[8, 7], [], [], Fct.val 35 (.int .i64 r269.2)⟩, ⟨[0], [], [], Fct.val 36 (.pointer (some ⟨gt1, 0, none⟩))⟩, ⟨[11], [], [], Fct.val 37 (.pointer (some ⟨gt1, 0, none⟩))⟩, ⟨[12, 9, 7, 16], [], [202], Fct.by_ [272] [33] (fun l own w => ∀ (A270 : Option Addr) (cA270 : Nat), l.getD 0 undef = .tuple #[.slice A270 r269.1.length cA270, .int .i64 r269.2] → BlkO own 272 w gt1 tt1 #[.slice A270 r269.1.length cA270, .slice A207 t209.length c208]) (fun hk he h _ _ h0' => BlkO.evo (not_hit hk (by decide)) he (h _ _ h0'))⟩, ⟨[10], [], [], Fct.val 10 (.int .i64 r269.2)⟩]) (by kernel_rfl) hz265 hd265 (by simp only [List.forall_mem_cons]; exact ⟨b265_A203, b265_gt1, fun _ h => nomatch h⟩) ?_ ?_
      · refine sc (fun _ _ _ _ s _ => px (or_move (s.1.trans e265_0))) ?_
        refine sc (fun _ _ _ _ s _ => px (or_move (s.1.trans e265_0))) ?_
        refine sc (fun _ _ _ f _ _ => px (or_k [(27, .pointer (some ⟨gt1, 0, none⟩))] rfl rfl ⟨f.1, trivial⟩ (by kernel_rfl))) ?_
        refine sc (fun _ _ _ f _ _ => px (or_field fo43_0 f.1 (by rfl))) ?_
        refine sc (fun own a wx hf hsl hE => ?_) ?_
        · obtain ⟨f_29, (b_gt1 : BlkO own 202 wx gt1 tt1 #[.slice A203 t205.length c204, .slice A207 t209.length c208]), -⟩ := hf
          exact px (or_load1 to34 f_29 (Blk.at_ b_gt1.2 0 rfl))
        refine sc (fun _ _ _ _ s _ => px (or_field fo64_0 (s.1.trans e265_9) (by rfl))) ?_
        refine sc (fun _ _ _ f _ hE => px (or_load1 to9 f.1 (Blk.at_ (be_ hE b265_g261).2 0 rfl))) ?_
        refine sc (fun own a wx hf hsl hE => ?_) ?_
        · obtain ⟨f_30, f_32, b_A203, -⟩ := hf
          exact px (or_call cf27 (args2 f_30 f_32) (table_place_string_w _ (forth own (look0 [(206, 1)])) t205 A203 c204 x260.1 (look0_le rfl) (RwO.forth_ (m := (look0 [(206, 1)])) b_A203) r269 hr269) (post_mems (m := (look0 [(206, 1)])) (m' := (look0 [(2, 271)])) (hm_of rfl) (fun own' w' a' x h1 h => ⟨x, h1, RwO.back_ h (by decide) (.inl (Rep.fl_flat _))⟩)))
        refine sc (fun own a wx hf hsl hE => ?_) ?_
        · obtain ⟨⟨⟨A270, cA270⟩, (f_33 : a.eval (.tmp 33) = .tuple #[.slice A270 r269.1.length cA270, .int .i64 r269.2]), b_A270⟩, -⟩ := hf
          exact px (or_mono (f := Fct.val 25 (.tuple #[.slice A270 r269.1.length cA270, .int .i64 r269.2])) (or_move f_33) (fun own' a' w' v' hp h => fun _ _ h0' => by cases (f_33.symm.trans ((hp.2 33 (by decide)).symm.trans h0')); exact h))
        refine sc (fun own a wx hf hsl hE => ?_) ?_
        · obtain ⟨(q_25 : ∀ (A270 : Option Addr) (cA270 : Nat), a.eval (.tmp 33) = .tuple #[.slice A270 r269.1.length cA270, .int .i64 r269.2] → a.eval (.tmp 25) = .tuple #[.slice A270 r269.1.length cA270, .int .i64 r269.2]), ⟨⟨A270, cA270⟩, (f_33 : a.eval (.tmp 33) = .tuple #[.slice A270 r269.1.length cA270, .int .i64 r269.2]), b_A270⟩, -⟩ := hf
          have f_25 := q_25 _ _ f_33
          exact px (or_mono (f := Fct.val 34 (.slice A270 r269.1.length cA270)) (or_k [(25, .tuple #[.slice A270 r269.1.length cA270, .int .i64 r269.2])] rfl rfl ⟨f_25, trivial⟩ (by kernel_rfl)) (fun own' a' w' v' hp h => fun _ _ h0' => by cases (f_33.symm.trans ((hp.2 33 (by decide)).symm.trans h0')); exact h))
        refine sc (fun own a wx hf hsl hE => ?_) ?_
        · obtain ⟨(q_25 : ∀ (A270 : Option Addr) (cA270 : Nat), a.eval (.tmp 33) = .tuple #[.slice A270 r269.1.length cA270, .int .i64 r269.2] → a.eval (.tmp 25) = .tuple #[.slice A270 r269.1.length cA270, .int .i64 r269.2]), ⟨⟨A270, cA270⟩, f_33, b_A270⟩, -⟩ := hf
          have f_25 := q_25 _ _ f_33
          exact px (or_k [(25, .tuple #[.slice A270 r269.1.length cA270, .int .i64 r269.2])] rfl rfl ⟨f_25, trivial⟩ (by kernel_rfl))
        refine sc (fun _ _ _ f _ _ => px (or_k [(26, .pointer (some ⟨gt1, 0, none⟩))] rfl rfl ⟨f.1, trivial⟩ (by kernel_rfl))) ?_
        refine sc (fun _ _ _ f _ _ => px (or_field fo43_0 f.1 (by rfl))) ?_
        refine sc (fun own a wx hf hsl hE => ?_) ?_
        · obtain ⟨f_37, (q_34 : ∀ (A270 : Option Addr) (cA270 : Nat), a.eval (.tmp 33) = .tuple #[.slice A270 r269.1.length cA270, .int .i64 r269.2] → a.eval (.tmp 34) = .slice A270 r269.1.length cA270), ⟨⟨A270, cA270⟩, (f_33 : a.eval (.tmp 33) = .tuple #[.slice A270 r269.1.length cA270, .int .i64 r269.2]), b_A270⟩, b_gt1, -⟩ := hf
          have f_34 := q_34 _ _ f_33
          exact px (or_store1 (lab := 202) (lab2 := 272) ts34 f_37 f_34 b_gt1 (by simp) rfl (mem_of rfl) (by decide) rfl (fun own' a' w' ha hb => fun _ _ h0' => by cases (f_33.symm.trans ((ha 33).symm.trans h0')); exact hb))
        refine sc (fun _ _ _ f _ _ => px (or_assign f.1)) ?_
        exact steps_nil
      intro own273 a273 w273 hd273 hz273 hk273 hf273 hE273
      have e273_0 := (hk273 0 rfl).trans e265_0
      have e273_7 := (hk273 7 rfl).trans e265_7
      have e273_9 := (hk273 9 rfl).trans e265_9
      have e273_19 := (hk273 19 rfl).trans e265_19
      have e273_20 := (hk273 20 rfl).trans e265_20
      have e273_21 := (hk273 21 rfl).trans e265_21
      obtain ⟨(e273_10 : a273.eval (.tmp 10) = .int .i64 r269.2), ⟨⟨A270, cA270⟩, (f_33 : a273.eval (.tmp 33) = .tuple #[.slice A270 r269.1.length cA270, .int .i64 r269.2]), (b273_A270 : RwO own273 271 [] w273 9 R9 A270 cA270 r269.1)⟩, (bq_gt1 : ∀ (A270 : Option Addr) (cA270 : Nat), a273.eval (.tmp 33) = .tuple #[.slice A270 r269.1.length cA270, .int .i64 r269.2] → BlkO own273 272 w273 gt1 tt1 #[.slice A270 r269.1.length cA270, .slice A207 t209.length c208]), -⟩ := hf273 [14, 7, 13] rfl
      have b273_gt1 := bq_gt1 _ _ f_33
      have hX273 := Evo.step hX265 hown hE273 rfl
      have b273_A207 := re_ hE273 b265_A207
      have b273_A211 := re_ hE273 b265_A211
      have b273_Al2 := RdO.evo rfl hE273 b265_Al2
      have b273_g261 := be_ hE273 b265_g261
      obtain ⟨r277, hr277, hs⟩ := obind hs
      refine rg_draw_seq g_mixed (n := 58) (rs := [Fct.rowAt 210 [] 60 R60 A207 c208 t209, Fct.at_ 272 gt1 tt1 #[.slice A270 r269.1.length cA270, .slice A207 t209.length c208]]) (own0 := own273) (K := [210, 272]) (bs := [0, 0, 2, 6, 14, 0, 32, 126, 254, 510, 510, 1023, 3071, 7167, 16383]) (ds := [⟨[], [0], [], Fct.val 39 (.pointer (some ⟨gt1, 0, none⟩))⟩, ⟨[], [0], [], Fct.val 40 (.pointer (some ⟨gt1, 0, none⟩))⟩, ⟨[1], [], [], Fct.val 41 (.pointer (some ⟨gt1, 0, none⟩))⟩, ⟨[2], [], [], Fct.val 42 (.pointer (some ⟨gt1, 1, none⟩))⟩, ⟨[3, 16], [], [], Fct.val 43 (.slice A207 t209.length c208)⟩, ⟨[], [9], [], Fct.val 44 (.pointer (some ⟨g261, 1, none⟩))⟩, ⟨[5], [], [], Fct.val 45 (.agg #[.int .i64 x260.2.1, .string x260.2.2.1, .int .i64 x260.2.2.2])⟩, ⟨[4, 6, 15], [], [210], Fct.mems [279] 46 (fun (x : Option Addr × Nat) => .tuple #[.slice x.1 r277.1.length x.2, .int .i64 r277.2]) (fun (x : Option Addr × Nat) own w => RwO own 279 [] w 60 R60 x.1 x.2 r277.1) (fun hk he h => RwO.evo (hits_sub hk (by decide)) he h)⟩, ⟨[7], [], [], Fct.rel [38, 46] (fun l => ∀ (A278 : Option Addr) (cA278 : Nat), l.getD 1 undef = .tuple #[.slice A278 r277.1.length cA278, .int .i64 r277.2] → l.getD 0 undef = .tuple #[.slice A278 r277.1.length cA278, .int .i64 r277.2])⟩, ⟨[8, 7], [], [], Fct.rel [47, 46] (fun l => ∀ (A278 : Option Addr) (cA278 : Nat), l.getD 1 undef = .tuple #[.slice A278 r277.1.length cA278, .int .i64 r277.2] → l.getD 0 undef = .slice A278 r277.1.length cA278)⟩, ⟨[8, 7], [], [], Fct.val 48 (.int .i64 r277.2)⟩, ⟨[0], [], [], Fct.val 49 (.pointer (some ⟨gt1, 0, none⟩))⟩, ⟨[11], [], [], Fct.val 50 (.pointer (some ⟨gt1, 1, none⟩))⟩, ⟨[12, 9, 7, 16], [], [272], Fct.by_ [280] [46] (fun l own w => ∀ (A278 : Option Addr) (cA278 : Nat), l.getD 0 undef = .tuple #[.slice A278 r277.1.length cA278, .int .i64 r277.2] → BlkO own 280 w gt1 tt1 #[.slice A270 r269.1.length cA270, .slice A278 r277.1.length cA278]) (fun hk he h _ _ h0' => BlkO.evo (not_hit hk (by decide)) he (h _ _ h0'))⟩, ⟨[10], [], [], Fct.val 11 (.int .i64 r277.2)⟩]) (by kernel_rfl) hz273 hd273 (by simp only [List.forall_mem_cons]; exact ⟨b273_A207, b273_gt1, fun _ h => nomatch h⟩) ?_ ?_
      · refine sc (fun _ _ _ _ s _ => px (or_move (s.1.trans e273_0))) ?_
        refine sc (fun _ _ _ _ s _ => px (or_move (s.1.trans e273_0))) ?_
        refine sc (fun _ _ _ f _ _ => px (or_k [(40, .pointer (some ⟨gt1, 0, none⟩))] rfl rfl ⟨f.1, trivial⟩ (by kernel_rfl))) ?_
        refine sc (fun _ _ _ f _ _ => px (or_field fo43_1 f.1 (by rfl))) ?_
        refine sc (fun own a wx hf hsl hE => ?_) ?_
        · obtain ⟨f_42, (b_gt1 : BlkO own 272 wx gt1 tt1 #[.slice A270 r269.1.length cA270, .slice A207 t209.length c208]), -⟩ := hf
          exact px (or_load1 to41 f_42 (Blk.at_ b_gt1.2 1 rfl))
        refine sc (fun _ _ _ _ s _ => px (or_field fo64_1 (s.1.trans e273_9) (by rfl))) ?_
        refine sc (fun _ _ _ f _ hE => px (or_load (l := [.int .i64 x260.2.1, .string x260.2.2.1, .int .i64 x260.2.2.2]) ta60 f.1 (Blk.cellsFrom (be_ hE b273_g261).2 1 rfl) rfl)) ?_
        refine sc (fun own a wx hf hsl hE => ?_) ?_
        · obtain ⟨f_43, f_45, b_A207, -⟩ := hf
          exact px (or_call cf28 (args2 f_43 f_45) (table_place_value_Value_w _ (forth own (look0 [(210, 1)])) t209 A207 c208 x260.2 (look0_le rfl) (RwO.forth_ (m := (look0 [(210, 1)])) b_A207) r277 hr277) (post_mems (m := (look0 [(210, 1)])) (m' := (look0 [(2, 279)])) (hm_of rfl) (fun own' w' a' x h1 h => ⟨x, h1, RwO.back_ h (by decide) (.inl (Rep.fl_flat _))⟩)))
        refine sc (fun own a wx hf hsl hE => ?_) ?_
        · obtain ⟨⟨⟨A278, cA278⟩, (f_46 : a.eval (.tmp 46) = .tuple #[.slice A278 r277.1.length cA278, .int .i64 r277.2]), b_A278⟩, -⟩ := hf
          exact px (or_mono (f := Fct.val 38 (.tuple #[.slice A278 r277.1.length cA278, .int .i64 r277.2])) (or_move f_46) (fun own' a' w' v' hp h => fun _ _ h0' => by cases (f_46.symm.trans ((hp.2 46 (by decide)).symm.trans h0')); exact h))
        refine sc (fun own a wx hf hsl hE => ?_) ?_
        · obtain ⟨(q_38 : ∀ (A278 : Option Addr) (cA278 : Nat), a.eval (.tmp 46) = .tuple #[.slice A278 r277.1.length cA278, .int .i64 r277.2] → a.eval (.tmp 38) = .tuple #[.slice A278 r277.1.length cA278, .int .i64 r277.2]), ⟨⟨A278, cA278⟩, (f_46 : a.eval (.tmp 46) = .tuple #[.slice A278 r277.1.length cA278, .int .i64 r277.2]), b_A278⟩, -⟩ := hf
          have f_38 := q_38 _ _ f_46
          exact px (or_mono (f := Fct.val 47 (.slice A278 r277.1.length cA278)) (or_k [(38, .tuple #[.slice A278 r277.1.length cA278, .int .i64 r277.2])] rfl rfl ⟨f_38, trivial⟩ (by kernel_rfl)) (fun own' a' w' v' hp h => fun _ _ h0' => by cases (f_46.symm.trans ((hp.2 46 (by decide)).symm.trans h0')); exact h))
        refine sc (fun own a wx hf hsl hE => ?_) ?_
        · obtain ⟨(q_38 : ∀ (A278 : Option Addr) (cA278 : Nat), a.eval (.tmp 46) = .tuple #[.slice A278 r277.1.length cA278, .int .i64 r277.2] → a.eval (.tmp 38) = .tuple #[.slice A278 r277.1.length cA278, .int .i64 r277.2]), ⟨⟨A278, cA278⟩, f_46, b_A278⟩, -⟩ := hf
          have f_38 := q_38 _ _ f_46
          exact px (or_k [(38, .tuple #[.slice A278 r277.1.length cA278, .int .i64 r277.2])] rfl rfl ⟨f_38, trivial⟩ (by kernel_rfl))
        refine sc (fun _ _ _ f _ _ => px (or_k [(39, .pointer (some ⟨gt1, 0, none⟩))] rfl rfl ⟨f.1, trivial⟩ (by kernel_rfl))) ?_
        refine sc (fun _ _ _ f _ _ => px (or_field fo43_1 f.1 (by rfl))) ?_
        refine sc (fun own a wx hf hsl hE => ?_) ?_
        · obtain ⟨f_50, (q_47 : ∀ (A278 : Option Addr) (cA278 : Nat), a.eval (.tmp 46) = .tuple #[.slice A278 r277.1.length cA278, .int .i64 r277.2] → a.eval (.tmp 47) = .slice A278 r277.1.length cA278), ⟨⟨A278, cA278⟩, (f_46 : a.eval (.tmp 46) = .tuple #[.slice A278 r277.1.length cA278, .int .i64 r277.2]), b_A278⟩, b_gt1, -⟩ := hf
          have f_47 := q_47 _ _ f_46
          exact px (or_store1 (lab := 272) (lab2 := 280) ts41 f_50 f_47 b_gt1 (by simp) rfl (mem_of rfl) (by decide) rfl (fun own' a' w' ha hb => fun _ _ h0' => by cases (f_46.symm.trans ((ha 46).symm.trans h0')); exact hb))
        refine sc (fun _ _ _ f _ _ => px (or_assign f.1)) ?_
        exact steps_nil
      intro own281 a281 w281 hd281 hz281 hk281 hf281 hE281
      have e281_0 := (hk281 0 rfl).trans e273_0
      have e281_7 := (hk281 7 rfl).trans e273_7
      have e281_10 := (hk281 10 rfl).trans e273_10
      have e281_19 := (hk281 19 rfl).trans e273_19
      have e281_20 := (hk281 20 rfl).trans e273_20
      have e281_21 := (hk281 21 rfl).trans e273_21
      obtain ⟨(e281_11 : a281.eval (.tmp 11) = .int .i64 r277.2), ⟨⟨A278, cA278⟩, (f_46 : a281.eval (.tmp 46) = .tuple #[.slice A278 r277.1.length cA278, .int .i64 r277.2]), (b281_A278 : RwO own281 279 [] w281 60 R60 A278 cA278 r277.1)⟩, (bq_gt1 : ∀ (A278 : Option Addr) (cA278 : Nat), a281.eval (.tmp 46) = .tuple #[.slice A278 r277.1.length cA278, .int .i64 r277.2] → BlkO own281 280 w281 gt1 tt1 #[.slice A270 r269.1.length cA270, .slice A278 r277.1.length cA278]), -⟩ := hf281 [14, 7, 13] rfl
      have b281_gt1 := bq_gt1 _ _ f_46
      have hX281 := Evo.step hX273 hown hE281 rfl
      have b281_A211 := re_ hE281 b273_A211
      have b281_Al2 := RdO.evo rfl hE281 b273_Al2
      have b281_A270 := re_ hE281 b273_A270
      obtain ⟨x286, hx286, hs⟩ := obind hs
      refine rg_plain (n := 58) (rs := [Fct.rowAt 214 [] 3 R3 A211 c212 out213]) (own0 := own281) (K := [214]) (bs := [0, 0, 0, 6, 15, 31]) (ds := [⟨[], [7], [], Fct.val 51 (.slice A211 out213.length c212)⟩, ⟨[], [10], [], Fct.val 52 (.int .i64 r269.2)⟩, ⟨[], [11], [], Fct.val 53 (.int .i64 r277.2)⟩, ⟨[1, 2], [], [], Fct.row 285 [] 54 3 R3 [r269.2, r277.2]⟩, ⟨[0, 3, 6], [], [214], Fct.row 287 [] 55 3 R3 x286⟩, ⟨[4], [], [], Fct.rel [7, 55] (fun l => ∀ (A288 : Option Addr) (cA288 : Nat), l.getD 1 undef = .slice A288 x286.length cA288 → l.getD 0 undef = .slice A288 x286.length cA288)⟩]) (by kernel_rfl) hz281 hd281 (by simp only [List.forall_mem_cons]; exact ⟨b281_A211, fun _ h => nomatch h⟩) ?_ ?_
      · refine sc (fun _ _ _ _ s _ => px (or_move (s.1.trans e281_7))) ?_
        refine sc (fun _ _ _ _ s _ => px (or_move (s.1.trans e281_10))) ?_
        refine sc (fun _ _ _ _ s _ => px (or_move (s.1.trans e281_11))) ?_
        refine sc (fun _ _ _ f _ _ => px (or_lit (lab := 285) (e := 3) (cs := #[.int .i64 r269.2, .int .i64 r277.2]) (F := E3) (or_new [(52, .int .i64 r269.2), (53, .int .i64 r277.2)] rfl rfl ⟨f.1, f.2.1, trivial⟩ (by kernel_rfl)) rfl rfl (show 2 ≤ maxLen by decide))) ?_
        refine sc (fun own a wx hf hsl hE => ?_) ?_
        · obtain ⟨f_51, ⟨⟨A284, cA284⟩, f_54, b_A284⟩, b_A211, -⟩ := hf
          exact px (or_append (R := R3) (lab := 214) (lab2 := 287) (L := []) (L3 := []) tp23 f_51 b_A211 (by decide) f_54 (RwO.rd b_A284) hx286 (by decide) (by decide) (mem_of rfl) (.inl (Rep.fl_flat _)))
        refine sc (fun own a wx hf hsl hE => ?_) ?_
        · obtain ⟨⟨⟨A288, cA288⟩, (f_55 : a.eval (.tmp 55) = .slice A288 x286.length cA288), b_A288⟩, -⟩ := hf
          exact px (or_mono (f := Fct.val 7 (.slice A288 x286.length cA288)) (or_assign f_55) (fun own' a' w' v' hp h => fun _ _ h0' => by cases (f_55.symm.trans ((hp.2 55 (by decide)).symm.trans h0')); exact h))
        exact steps_nil
      intro own289 a289 w289 hd289 hz289 hk289 hf289 hE289
      have e289_0 := (hk289 0 rfl).trans e281_0
      have e289_19 := (hk289 19 rfl).trans e281_19
      have e289_20 := (hk289 20 rfl).trans e281_20
      have e289_21 := (hk289 21 rfl).trans e281_21
      obtain ⟨⟨⟨A288, cA288⟩, (f_55 : a289.eval (.tmp 55) = .slice A288 x286.length cA288), (b289_A288 : RwO own289 287 [] w289 3 R3 A288 cA288 x286)⟩, (q_7 : ∀ (A288 : Option Addr) (cA288 : Nat), a289.eval (.tmp 55) = .slice A288 x286.length cA288 → a289.eval (.tmp 7) = .slice A288 x286.length cA288), -⟩ := hf289 [4, 5] rfl
      have e289_7 := q_7 _ _ f_55
      have hX289 := Evo.step hX281 hown hE289 rfl
      have b289_Al2 := RdO.evo rfl hE289 b281_Al2
      have b289_A270 := re_ hE289 b281_A270
      have b289_gt1 := be_ hE289 b281_gt1
      have b289_A278 := re_ hE289 b281_A278
      refine hn259 _ _ ?_
      refine hn258 _ _ ?_
      refine rg0 58 own289 (bz 2) [⟨[], [21], [], Fct.val 56 (.int .i64 (ad x215 1))⟩, ⟨[0], [], [], Fct.val 21 (.int .i64 (ad x215 1))⟩] hz289 hd289 (by kernel_rfl) ?_ ?_
      · refine sc (fun _ _ _ _ s _ => px (or_add (s.1.trans e289_21) rfl rfl)) ?_
        refine sc (fun _ _ _ f _ _ => px (or_move f.1)) ?_
        exact steps_nil
      intro own290 a290 w290 hd290 hz290 hk290 hf290 hE290
      have e290_0 := (hk290 0 rfl).trans e289_0
      have e290_7 := (hk290 7 rfl).trans e289_7
      have e290_19 := (hk290 19 rfl).trans e289_19
      have e290_20 := (hk290 20 rfl).trans e289_20
      obtain ⟨(e290_21 : a290.eval (.tmp 21) = .int .i64 (ad x215 1)), -⟩ := hf290 [1] rfl
      have hX290 := Evo.step hX289 hown hE290 rfl
      have b290_Al2 := RdO.evo rfl hE290 b289_Al2
      have b290_A270 := re_ hE290 b289_A270
      have b290_gt1 := be_ hE290 b289_gt1
      have b290_A278 := re_ hE290 b289_A278
      have b290_A288 := re_ hE290 b289_A288
      exact hn253 _ _ _ hs ⟨(rl [(271, 206), (279, 210), (280, 202), (287, 214)] own290), A270, cA270, A278, cA278, A288, cA288, hd290, hz290, e290_0, e290_7, e290_19, e290_20, e290_21, (Evo.rl_ hX290 hown rfl), (BlkO.rl_ (mm := [(271, 206), (279, 210), (280, 202), (287, 214)]) b290_gt1), (RwO.rl_ (mm := [(271, 206), (279, 210), (280, 202), (287, 214)]) b290_A270), (RwO.rl_ (mm := [(271, 206), (279, 210), (280, 202), (287, 214)]) b290_A278), (RwO.rl_ (mm := [(271, 206), (279, 210), (280, 202), (287, 214)]) b290_A288), (RdO.rl_ (mm := [(271, 206), (279, 210), (280, 202), (287, 214)]) b290_Al2)⟩
    refine fl_exit ?_
    refine hp256 _ _ _ rfl ?_
    replace hs := hz253 _ hs
    refine hp253 _ _ _ rfl ?_
    refine hx165 _ _ ?_
    refine hn163 _ _ ?_
    refine rg0_seq 58 own255 (bz 3) [⟨[], [7], [], Fct.val 57 (.slice A211 out213.length c212)⟩, ⟨[0], [], [], Fct.val 4 (.slice A211 out213.length c212)⟩, ⟨[], [], [], Fct.val 5 (.int .i64 0)⟩] hz255 hd255 (by kernel_rfl) ?_ ?_
    · refine sc (fun _ _ _ _ s _ => px (or_move (s.1.trans e255_7))) ?_
      refine sc (fun _ _ _ f _ _ => px (or_assign f.1)) ?_
      refine sc (fun _ _ _ _ _ _ => px (or_assign rfl)) ?_
      exact steps_nil
    intro own291 a291 w291 hd291 hz291 hk291 hf291 hE291
    have e291_0 := (hk291 0 rfl).trans e255_0
    obtain ⟨(e291_4 : a291.eval (.tmp 4) = .slice A211 out213.length c212), (e291_5 : a291.eval (.tmp 5) = .int .i64 0), -⟩ := hf291 [1, 2] rfl
    have hX291 := Evo.step hX255 hown hE291 rfl
    have b291_gt1 := be_ hE291 b255_gt1
    have b291_A203 := re_ hE291 b255_A203
    have b291_A207 := re_ hE291 b255_A207
    have b291_A211 := re_ hE291 b255_A211
    refine fl_ret ?_
    obtain rfl := osome hs
    exact hret _ _ _ _ (.inl rfl) hd291 (results2_ rfl (RVal.tmp_ e291_4) (RVal.tmp_ e291_5)) ⟨(rl [(202, 1), (206, 2), (210, 3), (214, 4)] own291), ((A211, c212), (A203, c204), (A207, c208)), rfl, (Evo.rl_ hX291 hown rfl), (RwO.rl_ (mm := [(202, 1), (206, 2), (210, 3), (214, 4)]) b291_A211), (RwO.rl_ (mm := [(202, 1), (206, 2), (210, 3), (214, 4)]) b291_A203), (RwO.rl_ (mm := [(202, 1), (206, 2), (210, 3), (214, 4)]) b291_A207), (BlkO.rl_ (mm := [(202, 1), (206, 2), (210, 3), (214, 4)]) b291_gt1)⟩
theorem table_Table_Attrs_w (w : World) (t1 : (List ByteArray) × (List (Int × ByteArray × Int))) (gt1 : Nat) (tt1 : TypeId) (At1_0 : Option Addr) (ct1_0 : Nat) (At1_1 : Option Addr) (ct1_1 : Nat) (tags2 : List Int) (Atags2 : Option Addr) (ctags2 : Nat) (hgt1 : BlkO (fun _ => 0) 0 w gt1 tt1 #[.slice At1_0 t1.1.length ct1_0, .slice At1_1 t1.2.length ct1_1]) (hAt1_0 : RdO (fun _ => 0) [0] w R9 At1_0 ct1_0 t1.1) (hAt1_1 : RdO (fun _ => 0) [0] w R60 At1_1 ct1_1 t1.2) (htags2 : RdO (fun _ => 0) [0] w R3 Atags2 ctags2 tags2) (r : (List (ByteArray × (Int × ByteArray × Int))) × Int) (hs : table_Table_Attrs t1 tags2 = some r) :
    Calls Try.prog 9 #[.pointer (some ⟨gt1, 0, none⟩), .slice Atags2 tags2.length ctags2] w fun e w' => ∃ (own' : Own) (x : Option Addr × Nat), e = .returned (.tuple #[.slice x.1 r.1.length x.2, .int .i64 r.2]) ∧ Evo [] (fun _ => 0) own' w w' ∧ RwO own' 1 [] w' 64 R64 x.1 x.2 r.1 := by
  refine fl_enter (n := 101) rfl rfl rfl (Nat.le_of_ble_eq_true rfl) ?_
  intro a0 Q hd0 hz0 harg hret
  have ha0 := harg 0 _ rfl
  have ha1 := harg 1 _ rfl
  clear harg
  have hE0 : Evo [] (fun _ => 0) (fun _ => 0) w w := Evo.refl _ _ _
  refine rg0_seq 101 (fun _ => 0) (bz 2) [⟨[], [], [], Fct.val 4 (.slice none 0 0)⟩, ⟨[], [], [], Fct.val 5 (.int .i64 0)⟩] hz0 hd0 (by kernel_rfl) ?_ ?_
  · refine sc (fun _ _ _ _ _ _ => px (or_assign rfl)) ?_
    refine sc (fun _ _ _ _ _ _ => px (or_assign rfl)) ?_
    exact steps_nil
  intro own175 a175 w175 hd175 hz175 hk175 hf175 hE175
  have e175_0 := (hk175 0 rfl).trans ha0
  have e175_1 := (hk175 1 rfl).trans ha1
  have hX175 := es_ hE0 hE175
  have b175_At1_0 := RdO.evo rfl hE175 hAt1_0
  have b175_At1_1 := RdO.evo rfl hE175 hAt1_1
  have b175_gt1 := be_ hE175 hgt1
  have b175_Atags2 := RdO.evo rfl hE175 htags2
  refine fl_seq (fun Q176 hn176 hp176 => ?_)
  refine fl_block (fun Q194 hn194 hx194 hp194 => ?_)
  obtain ⟨x203, hx203, hs⟩ := obind hs
  refine rg0_seq 101 own175 (bz 5) [⟨[], [1], [], Fct.val 12 (.slice Atags2 tags2.length ctags2)⟩, ⟨[0], [], [], Fct.val 13 (.int .i64 (tags2.length : Int))⟩, ⟨[1], [], [], Fct.val 14 (.int .i64 x203)⟩, ⟨[2], [], [], Fct.val 15 (.bool (!decide (x203 = 0)))⟩, ⟨[3], [], [], Fct.val 11 (.bool (!decide (x203 = 0)))⟩] hz175 hd175 (by kernel_rfl) ?_ ?_
  · refine sc (fun _ _ _ _ s _ => px (or_move (s.1.trans e175_1))) ?_
    refine sc (fun _ _ _ f _ _ => px (or_len tu23 f.1 rfl)) ?_
    refine sc (fun _ _ _ f _ _ => px (or_rem f.1 rfl hx203)) ?_
    refine sc (fun _ _ _ f _ _ => px (or_neq f.1 rfl rfl)) ?_
    refine sc (fun _ _ _ f _ _ => px (or_assign f.1)) ?_
    exact steps_nil
  intro own204 a204 w204 hd204 hz204 hk204 hf204 hE204
  have e204_0 := (hk204 0 rfl).trans e175_0
  have e204_1 := (hk204 1 rfl).trans e175_1
  obtain ⟨(e204_11 : a204.eval (.tmp 11) = .bool (!decide (x203 = 0))), -⟩ := hf204 [4] rfl
  have hX204 := es_ hX175 hE204
  have b204_At1_0 := RdO.evo rfl hE204 b175_At1_0
  have b204_At1_1 := RdO.evo rfl hE204 b175_At1_1
  have b204_gt1 := be_ hE204 b175_gt1
  have b204_Atags2 := RdO.evo rfl hE204 b175_Atags2
  refine fl_cond e204_11 hs (fun c205 hs => ?_) (fun c205 hs => ?_)
  · refine rg0_seq 101 own204 (bz 2) [⟨[], [], [], Fct.val 4 (.slice none 0 0)⟩, ⟨[], [], [], Fct.val 5 (.int .i64 3)⟩] hz204 hd204 (by kernel_rfl) ?_ ?_
    · refine sc (fun _ _ _ _ _ _ => px (or_assign rfl)) ?_
      refine sc (fun _ _ _ _ _ _ => px (or_assign rfl)) ?_
      exact steps_nil
    intro own206 a206 w206 hd206 hz206 hk206 hf206 hE206
    obtain ⟨(e206_4 : a206.eval (.tmp 4) = .slice none 0 0), (e206_5 : a206.eval (.tmp 5) = .int .i64 3), -⟩ := hf206 [0, 1] rfl
    have hX206 := es_ hX204 hE206
    refine fl_ret ?_
    refine hp194 _ _ _ rfl ?_
    refine hp176 _ _ _ rfl ?_
    obtain rfl := osome hs
    exact hret _ _ _ _ (.inl rfl) hd206 (results2_ rfl (RVal.tmp_ e206_4) (RVal.tmp_ e206_5)) ⟨own206, (none, 0), rfl, hX206, RwO.nil_⟩
  refine rg0_seq 101 own204 (bz 4) [⟨[], [1], [], Fct.val 17 (.slice Atags2 tags2.length ctags2)⟩, ⟨[0], [], [], Fct.val 18 (.int .i64 (tags2.length : Int))⟩, ⟨[1], [], [], Fct.val 19 (.bool (decide (16 < (tags2.length : Int))))⟩, ⟨[2], [], [], Fct.val 16 (.bool (decide (16 < (tags2.length : Int))))⟩] hz204 hd204 (by kernel_rfl) ?_ ?_
  · refine sc (fun _ _ _ _ s _ => px (or_move (s.1.trans e204_1))) ?_
    refine sc (fun _ _ _ f _ _ => px (or_len tu23 f.1 rfl)) ?_
    refine sc (fun _ _ _ f _ _ => px (or_gtr f.1 rfl rfl)) ?_
    refine sc (fun _ _ _ f _ _ => px (or_assign f.1)) ?_
    exact steps_nil
  intro own207 a207 w207 hd207 hz207 hk207 hf207 hE207
  have e207_0 := (hk207 0 rfl).trans e204_0
  have e207_1 := (hk207 1 rfl).trans e204_1
  obtain ⟨(e207_16 : a207.eval (.tmp 16) = .bool (decide (16 < (tags2.length : Int)))), -⟩ := hf207 [3] rfl
  have hX207 := es_ hX204 hE207
  have b207_At1_0 := RdO.evo rfl hE207 b204_At1_0
  have b207_At1_1 := RdO.evo rfl hE207 b204_At1_1
  have b207_gt1 := be_ hE207 b204_gt1
  have b207_Atags2 := RdO.evo rfl hE207 b204_Atags2
  refine fl_cond e207_16 hs (fun c208 hs => ?_) (fun c208 hs => ?_)
  · refine rg0_seq 101 own207 (bz 2) [⟨[], [], [], Fct.val 4 (.slice none 0 0)⟩, ⟨[], [], [], Fct.val 5 (.int .i64 6)⟩] hz207 hd207 (by kernel_rfl) ?_ ?_
    · refine sc (fun _ _ _ _ _ _ => px (or_assign rfl)) ?_
      refine sc (fun _ _ _ _ _ _ => px (or_assign rfl)) ?_
      exact steps_nil
    intro own209 a209 w209 hd209 hz209 hk209 hf209 hE209
    obtain ⟨(e209_4 : a209.eval (.tmp 4) = .slice none 0 0), (e209_5 : a209.eval (.tmp 5) = .int .i64 6), -⟩ := hf209 [0, 1] rfl
    have hX209 := es_ hX207 hE209
    refine fl_ret ?_
    refine hp194 _ _ _ rfl ?_
    refine hp176 _ _ _ rfl ?_
    obtain rfl := osome hs
    exact hret _ _ _ _ (.inl rfl) hd209 (results2_ rfl (RVal.tmp_ e209_4) (RVal.tmp_ e209_5)) ⟨own209, (none, 0), rfl, hX209, RwO.nil_⟩
  refine rg0_seq 101 own207 (bz 3) [⟨[], [0], [], Fct.val 21 (.pointer (some ⟨gt1, 0, none⟩))⟩, ⟨[0], [], [], Fct.val 22 (.bool false)⟩, ⟨[1], [], [], Fct.val 20 (.bool false)⟩] hz207 hd207 (by kernel_rfl) ?_ ?_
  · refine sc (fun _ _ _ _ s _ => px (or_move (s.1.trans e207_0))) ?_
    refine sc (fun _ _ _ f _ _ => px (or_k [(21, .pointer (some ⟨gt1, 0, none⟩))] rfl rfl ⟨f.1, trivial⟩ (by kernel_rfl))) ?_
    refine sc (fun _ _ _ f _ _ => px (or_assign f.1)) ?_
    exact steps_nil
  intro own210 a210 w210 hd210 hz210 hk210 hf210 hE210
  have e210_0 := (hk210 0 rfl).trans e207_0
  have e210_1 := (hk210 1 rfl).trans e207_1
  obtain ⟨(e210_20 : a210.eval (.tmp 20) = .bool false), -⟩ := hf210 [2] rfl
  have hX210 := es_ hX207 hE210
  have b210_At1_0 := RdO.evo rfl hE210 b207_At1_0
  have b210_At1_1 := RdO.evo rfl hE210 b207_At1_1
  have b210_gt1 := be_ hE210 b207_gt1
  have b210_Atags2 := RdO.evo rfl hE210 b207_Atags2
  refine fl_f e210_20 ?_
  refine fl_skip ?_
  refine hn194 _ _ ?_
  refine hn176 _ _ ?_
  refine rg0_seq 101 own210 (bz 2) [⟨[], [], [], Fct.map_ 212 25 vv9 vv4 ([] : List (ByteArray × Bool))⟩, ⟨[0], [], [], Fct.rel [6, 25] (fun l => ∀ (g211 : Nat), l.getD 1 undef = .map (some g211) → l.getD 0 undef = .map (some g211))⟩] hz210 hd210 (by kernel_rfl) ?_ ?_
  · refine sc (fun _ _ _ _ _ _ => px (or_makeMap)) ?_
    refine sc (fun own a wx hf hsl hE => ?_) ?_
    · obtain ⟨⟨g211, (f_25 : a.eval (.tmp 25) = .map (some g211)), b_g211⟩, -⟩ := hf
      exact px (or_mono (f := Fct.val 6 (.map (some g211))) (or_assign f_25) (fun own' a' w' v' hp h => fun _ h0' => by cases (f_25.symm.trans ((hp.2 25 (by decide)).symm.trans h0')); exact h))
    exact steps_nil
  intro own213 a213 w213 hd213 hz213 hk213 hf213 hE213
  have e213_0 := (hk213 0 rfl).trans e210_0
  have e213_1 := (hk213 1 rfl).trans e210_1
  obtain ⟨⟨g211, (f_25 : a213.eval (.tmp 25) = .map (some g211)), (b213_g211 : MpO own213 212 w213 g211 vv9 vv4 ([] : List (ByteArray × Bool)))⟩, (q_6 : ∀ (g211 : Nat), a213.eval (.tmp 25) = .map (some g211) → a213.eval (.tmp 6) = .map (some g211)), -⟩ := hf213 [0, 1] rfl
  have e213_6 := q_6 _ f_25
  have hX213 := es_ hX210 hE213
  have b213_At1_0 := RdO.evo rfl hE213 b210_At1_0
  have b213_At1_1 := RdO.evo rfl hE213 b210_At1_1
  have b213_gt1 := be_ hE213 b210_gt1
  have b213_Atags2 := RdO.evo rfl hE213 b210_Atags2
  refine rg0_seq 101 own213 (bz 1) [⟨[], [], [], Fct.val 7 (.slice none 0 0)⟩] hz213 hd213 (by kernel_rfl) ?_ ?_
  · refine sc (fun _ _ _ _ _ _ => px (or_assign rfl)) ?_
    exact steps_nil
  intro own214 a214 w214 hd214 hz214 hk214 hf214 hE214
  have e214_0 := (hk214 0 rfl).trans e213_0
  have e214_1 := (hk214 1 rfl).trans e213_1
  have e214_6 := (hk214 6 rfl).trans e213_6
  obtain ⟨(e214_7 : a214.eval (.tmp 7) = .slice none 0 0), -⟩ := hf214 [0] rfl
  have hX214 := es_ hX213 hE214
  have b214_At1_0 := RdO.evo rfl hE214 b213_At1_0
  have b214_At1_1 := RdO.evo rfl hE214 b213_At1_1
  have b214_gt1 := be_ hE214 b213_gt1
  have b214_Atags2 := RdO.evo rfl hE214 b213_Atags2
  have b214_g211 := MpO.evo (by decide) hE214 b213_g211
  refine fl_seq (fun Q215 hn215 hp215 => ?_)
  refine rg0_seq 101 own214 (bz 1) [⟨[], [], [], Fct.val 8 (.int .i64 0)⟩] hz214 hd214 (by kernel_rfl) ?_ ?_
  · refine sc (fun _ _ _ _ _ _ => px (or_assign rfl)) ?_
    exact steps_nil
  intro own216 a216 w216 hd216 hz216 hk216 hf216 hE216
  have e216_0 := (hk216 0 rfl).trans e214_0
  have e216_1 := (hk216 1 rfl).trans e214_1
  have e216_6 := (hk216 6 rfl).trans e214_6
  have e216_7 := (hk216 7 rfl).trans e214_7
  obtain ⟨(e216_8 : a216.eval (.tmp 8) = .int .i64 0), -⟩ := hf216 [0] rfl
  have hX216 := es_ hX214 hE216
  have b216_At1_0 := RdO.evo rfl hE216 b214_At1_0
  have b216_At1_1 := RdO.evo rfl hE216 b214_At1_1
  have b216_gt1 := be_ hE216 b214_gt1
  have b216_Atags2 := RdO.evo rfl hE216 b214_Atags2
  have b216_g211 := MpO.evo (by decide) hE216 b214_g211
  refine fl_block (fun Q217 hn217 hx217 hp217 => ?_)
  refine fl_loop (body := (fun s => table_Table_Attrs_b1 t1 tags2 s.1 s.2.1 s.2.2)) (z := r) (show loopO _ _ = _ from hs) (fun (s : (List (ByteArray × Bool)) × (List (ByteArray × (Int × ByteArray × Int))) × Int) a wx => match s with | (met255, out258, i260) => ∃ (ox : Own) (A256 : Option Addr) (c257 : Nat), a.defers = [] ∧ a.tmps.size = 101 ∧ a.eval (.tmp 0) = .pointer (some ⟨gt1, 0, none⟩) ∧ a.eval (.tmp 1) = .slice Atags2 tags2.length ctags2 ∧ a.eval (.tmp 6) = .map (some g211) ∧ a.eval (.tmp 7) = .slice A256 out258.length c257 ∧ a.eval (.tmp 8) = .int .i64 i260 ∧ Evo [] (fun _ => 0) ox w wx ∧ BlkO ox 0 wx gt1 tt1 #[.slice At1_0 t1.1.length ct1_0, .slice At1_1 t1.2.length ct1_1] ∧ RdO ox [0] wx R9 At1_0 ct1_0 t1.1 ∧ RdO ox [0] wx R60 At1_1 ct1_1 t1.2 ∧ RdO ox [0] wx R3 Atags2 ctags2 tags2 ∧ MpO ox 254 wx g211 vv9 vv4 met255 ∧ RwO ox 259 [] wx 64 R64 A256 c257 out258) ?_ ?_
  · exact ⟨(rl [(212, 254)] own216), none, 0, hd216, hz216, e216_0, e216_1, e216_6, e216_7, e216_8, (Evo.rl_ hX216 (fun _ => Nat.le_refl 0) rfl), (BlkO.rl_ (mm := [(212, 254)]) b216_gt1), (RdO.rl_ (mm := [(212, 254)]) b216_At1_0), (RdO.rl_ (mm := [(212, 254)]) b216_At1_1), (RdO.rl_ (mm := [(212, 254)]) b216_Atags2), (MpO.rl_ (mm := [(212, 254)]) b216_g211), RwO.nil_⟩
  · rintro ⟨met255, out258, i260⟩ zz299 a299 w299 ⟨own299, A256, c257, hd300, hz300, e300_0, e300_1, e300_6, e300_7, e300_8, hE300, b300_gt1, b300_At1_0, b300_At1_1, b300_Atags2, b300_g211, b300_A256⟩ hs Q299 hn299 hp299 hz299
    have hs : table_Table_Attrs_b1 t1 tags2 met255 out258 i260 = some zz299 := hs
    refine fl_seq (fun Q301 hn301 hp301 => ?_)
    refine rg0_seq 101 own299 [0, 0, 2, 7] [⟨[], [8], [], Fct.val 26 (.int .i64 i260)⟩, ⟨[], [1], [], Fct.val 27 (.slice Atags2 tags2.length ctags2)⟩, ⟨[1], [], [], Fct.val 28 (.int .i64 (tags2.length : Int))⟩, ⟨[0, 2], [], [], Fct.val 29 (.bool (decide (i260 < (tags2.length : Int))))⟩] hz300 hd300 (by kernel_rfl) ?_ ?_
    · refine sc (fun _ _ _ _ s _ => px (or_move (s.1.trans e300_8))) ?_
      refine sc (fun _ _ _ _ s _ => px (or_move (s.1.trans e300_1))) ?_
      refine sc (fun _ _ _ f _ _ => px (or_len tu23 f.1 rfl)) ?_
      refine sc (fun _ _ _ f _ _ => px (or_lss f.1 f.2.1 rfl)) ?_
      exact steps_nil
    intro own302 a302 w302 hd302 hz302 hk302 hf302 hE302
    have e302_0 := (hk302 0 rfl).trans e300_0
    have e302_1 := (hk302 1 rfl).trans e300_1
    have e302_6 := (hk302 6 rfl).trans e300_6
    have e302_7 := (hk302 7 rfl).trans e300_7
    have e302_8 := (hk302 8 rfl).trans e300_8
    obtain ⟨(e302_29 : a302.eval (.tmp 29) = .bool (decide (i260 < (tags2.length : Int)))), -⟩ := hf302 [3] rfl
    have hX302 := es_ hE300 hE302
    have b302_gt1 := be_ hE302 b300_gt1
    have b302_At1_0 := RdO.evo rfl hE302 b300_At1_0
    have b302_At1_1 := RdO.evo rfl hE302 b300_At1_1
    have b302_Atags2 := RdO.evo rfl hE302 b300_Atags2
    have b302_g211 := MpO.evo (by decide) hE302 b300_g211
    have b302_A256 := re_ hE302 b300_A256
    refine fl_cond e302_29 hs (fun c303 hs => ?_) (fun c303 hs => ?_)
    · refine fl_skip ?_
      refine hn301 _ _ ?_
      refine fl_seq (fun Q304 hn304 hp304 => ?_)
      refine fl_block (fun Q305 hn305 hx305 hp305 => ?_)
      obtain ⟨x306, hx306, hs⟩ := obind hs
      obtain ⟨x307, hx307, hs⟩ := obind hs
      refine rg_draw_seq g_mixed (n := 101) (rs := []) (own0 := own302) (K := []) (bs := [0, 0, 3, 7, 0, 0, 32, 112, 240, 15, 1023]) (ds := [⟨[], [1], [], Fct.val 32 (.slice Atags2 tags2.length ctags2)⟩, ⟨[], [8], [], Fct.val 33 (.int .i64 i260)⟩, ⟨[0, 1], [], [], Fct.val 34 (.pointer (some ((adr Atags2).add ((i260 : Int).toNat * R3.s))))⟩, ⟨[2], [], [], Fct.val 35 (.int .i64 x306)⟩, ⟨[], [1], [], Fct.val 36 (.slice Atags2 tags2.length ctags2)⟩, ⟨[], [8], [], Fct.val 37 (.int .i64 i260)⟩, ⟨[5], [], [], Fct.val 38 (.int .i64 (ad i260 1))⟩, ⟨[4, 6], [], [], Fct.val 39 (.pointer (some ((adr Atags2).add ((ad i260 1 : Int).toNat * R3.s))))⟩, ⟨[7], [], [], Fct.val 40 (.int .i64 x307)⟩, ⟨[3], [], [], Fct.val 9 (.int .i64 x306)⟩, ⟨[8], [], [], Fct.val 10 (.int .i64 x307)⟩]) (by kernel_rfl) hz302 hd302 nm_ ?_ ?_
      · refine sc (fun _ _ _ _ s _ => px (or_move (s.1.trans e302_1))) ?_
        refine sc (fun _ _ _ _ s _ => px (or_move (s.1.trans e302_8))) ?_
        refine sc (fun _ _ _ f _ _ => px (or_index (R := R3) (l := tags2) tl23 f.1 f.2.1 (RdO.some_ b302_Atags2 hx306) hx306)) ?_
        refine sc (fun _ _ _ f _ hE => px (or_load1 to3 f.1 (CellsAt.zero (RdO.cells (F := E3) (RdO.evo rfl hE b302_Atags2) hx306) rfl))) ?_
        refine sc (fun _ _ _ _ s _ => px (or_move (s.1.trans e302_1))) ?_
        refine sc (fun _ _ _ _ s _ => px (or_move (s.1.trans e302_8))) ?_
        refine sc (fun _ _ _ f _ _ => px (or_add f.1 rfl rfl)) ?_
        refine sc (fun _ _ _ f _ _ => px (or_index (R := R3) (l := tags2) tl23 f.1 f.2.1 (RdO.some_ b302_Atags2 hx307) hx307)) ?_
        refine sc (fun _ _ _ f _ hE => px (or_load1 to3 f.1 (CellsAt.zero (RdO.cells (F := E3) (RdO.evo rfl hE b302_Atags2) hx307) rfl))) ?_
        refine sc (fun _ _ _ f _ _ => px (or_assign f.1)) ?_
        refine sc (fun _ _ _ f _ _ => px (or_assign f.1)) ?_
        exact steps_nil
      intro own308 a308 w308 hd308 hz308 hk308 hf308 hE308
      have e308_0 := (hk308 0 rfl).trans e302_0
      have e308_1 := (hk308 1 rfl).trans e302_1
      have e308_6 := (hk308 6 rfl).trans e302_6
      have e308_7 := (hk308 7 rfl).trans e302_7
      have e308_8 := (hk308 8 rfl).trans e302_8
      obtain ⟨(e308_9 : a308.eval (.tmp 9) = .int .i64 x306), (e308_10 : a308.eval (.tmp 10) = .int .i64 x307), -⟩ := hf308 [9, 10] rfl
      have hX308 := es_ hX302 hE308
      have b308_gt1 := be_ hE308 b302_gt1
      have b308_At1_0 := RdO.evo rfl hE308 b302_At1_0
      have b308_At1_1 := RdO.evo rfl hE308 b302_At1_1
      have b308_Atags2 := RdO.evo rfl hE308 b302_Atags2
      have b308_g211 := MpO.evo (by decide) hE308 b302_g211
      have b308_A256 := re_ hE308 b302_A256
      refine fl_seq (fun Q309 hn309 hp309 => ?_)
      obtain ⟨x310, hx310, hs⟩ := obind hs
      obtain ⟨x311, hx311, hs⟩ := obind hs
      refine rg0_seq 101 own308 [0, 1, 3, 7, 7, 23, 55, 119, 247, 511, 1023, 2047, 4095, 8191, 16383, 32767, 65535, 65535, 196607, 458751, 983039, 2031615, 4194303, 8388607] [⟨[], [9], [], Fct.val 41 (.int .i64 x306)⟩, ⟨[0], [], [], Fct.val 42 (.bool (decide (x306 < 0)))⟩, ⟨[1], [], [], Fct.val 43 (.bool (decide (x306 < 0)))⟩, ⟨[2], [9], [], Fct.cond (!(decide (x306 < 0))) (some 44) (Fct.val 44 (.int .i64 x306))⟩, ⟨[2], [0], [], Fct.cond (!(decide (x306 < 0))) (some 45) (Fct.val 45 (.pointer (some ⟨gt1, 0, none⟩)))⟩, ⟨[2, 4], [], [], Fct.cond (!(decide (x306 < 0))) (some 46) (Fct.val 46 (.pointer (some ⟨gt1, 0, none⟩)))⟩, ⟨[2, 5], [], [], Fct.cond (!(decide (x306 < 0))) (some 47) (Fct.val 47 (.pointer (some ⟨gt1, 0, none⟩)))⟩, ⟨[2, 6], [], [], Fct.cond (!(decide (x306 < 0))) (some 48) (Fct.val 48 (.slice At1_0 t1.1.length ct1_0))⟩, ⟨[2, 7], [], [], Fct.cond (!(decide (x306 < 0))) (some 49) (Fct.val 49 (.int .i64 (t1.1.length : Int)))⟩, ⟨[2, 3, 8], [], [], Fct.cond (!(decide (x306 < 0))) (some 50) (Fct.val 50 (.bool (decide ((t1.1.length : Int) ≤ x306))))⟩, ⟨[2, 9], [], [], Fct.val 51 (.bool x310)⟩, ⟨[10], [], [], Fct.val 52 (.bool x310)⟩, ⟨[11], [10], [], Fct.cond (!x310) (some 53) (Fct.val 53 (.int .i64 x307))⟩, ⟨[11, 12], [], [], Fct.cond (!x310) (some 54) (Fct.val 54 (.bool (decide (x307 < 0))))⟩, ⟨[11, 13], [], [], Fct.val 55 (.bool (x310 || (decide (x307 < 0))))⟩, ⟨[14], [], [], Fct.val 56 (.bool (x310 || (decide (x307 < 0))))⟩, ⟨[15], [10], [], Fct.cond (!(x310 || (decide (x307 < 0)))) (some 57) (Fct.val 57 (.int .i64 x307))⟩, ⟨[15], [0], [], Fct.cond (!(x310 || (decide (x307 < 0)))) (some 58) (Fct.val 58 (.pointer (some ⟨gt1, 0, none⟩)))⟩, ⟨[15, 17], [], [], Fct.cond (!(x310 || (decide (x307 < 0)))) (some 59) (Fct.val 59 (.pointer (some ⟨gt1, 0, none⟩)))⟩, ⟨[15, 18], [], [], Fct.cond (!(x310 || (decide (x307 < 0)))) (some 60) (Fct.val 60 (.pointer (some ⟨gt1, 1, none⟩)))⟩, ⟨[15, 19], [], [], Fct.cond (!(x310 || (decide (x307 < 0)))) (some 61) (Fct.val 61 (.slice At1_1 t1.2.length ct1_1))⟩, ⟨[15, 20], [], [], Fct.cond (!(x310 || (decide (x307 < 0)))) (some 62) (Fct.val 62 (.int .i64 (t1.2.length : Int)))⟩, ⟨[15, 16, 21], [], [], Fct.cond (!(x310 || (decide (x307 < 0)))) (some 63) (Fct.val 63 (.bool (decide ((t1.2.length : Int) ≤ x307))))⟩, ⟨[15, 22], [], [], Fct.val 64 (.bool x311)⟩] hz308 hd308 (by kernel_rfl) ?_ ?_
      · refine sc (fun _ _ _ _ s _ => px (or_move (s.1.trans e308_9))) ?_
        refine sc (fun _ _ _ f _ _ => px (or_lss f.1 rfl rfl)) ?_
        refine sc (fun _ _ _ f _ _ => px (or_move f.1)) ?_
        refine sc (fun _ _ _ f s _ => sg_f rfl rfl rfl f.1 (fun hg => or_move (s.1.trans e308_9))) ?_
        refine sc (fun _ _ _ f s _ => sg_f rfl rfl rfl f.1 (fun hg => or_move (s.1.trans e308_0))) ?_
        refine sc (fun _ _ _ f _ _ => sg_f rfl rfl rfl f.1 (fun hg => or_k [(45, .pointer (some ⟨gt1, 0, none⟩))] rfl rfl ⟨(f.2.1.1 hg), trivial⟩ (by kernel_rfl))) ?_
        refine sc (fun _ _ _ f _ _ => sg_f rfl rfl rfl f.1 (fun hg => or_field fo43_0 (f.2.1.1 hg) (by rfl))) ?_
        refine sc (fun _ _ _ f _ hE => sg_f rfl rfl rfl f.1 (fun hg => or_load1 to34 (f.2.1.1 hg) (Blk.at_ (be_ hE b308_gt1).2 0 rfl))) ?_
        refine sc (fun _ _ _ f _ _ => sg_f rfl rfl rfl f.1 (fun hg => or_len tu34 (f.2.1.1 hg) rfl)) ?_
        refine sc (fun _ _ _ f _ _ => sg_f rfl rfl rfl f.1 (fun hg => or_geq (f.2.1.1 hg) (f.2.2.1.1 hg) rfl)) ?_
        refine sc (fun _ _ _ f _ _ => px (or_or f.1 rfl (fun hx => f.2.1.1 hx) (osome hx310).symm)) ?_
        refine sc (fun _ _ _ f _ _ => px (or_move f.1)) ?_
        refine sc (fun _ _ _ f s _ => sg_f rfl rfl rfl f.1 (fun hg => or_move (s.1.trans e308_10))) ?_
        refine sc (fun _ _ _ f _ _ => sg_f rfl rfl rfl f.1 (fun hg => or_lss (f.2.1.1 hg) rfl rfl)) ?_
        refine sc (fun _ _ _ f _ _ => px (or_or f.1 rfl (fun hx => f.2.1.1 hx) rfl)) ?_
        refine sc (fun _ _ _ f _ _ => px (or_move f.1)) ?_
        refine sc (fun _ _ _ f s _ => sg_f rfl rfl rfl f.1 (fun hg => or_move (s.1.trans e308_10))) ?_
        refine sc (fun _ _ _ f s _ => sg_f rfl rfl rfl f.1 (fun hg => or_move (s.1.trans e308_0))) ?_
        refine sc (fun _ _ _ f _ _ => sg_f rfl rfl rfl f.1 (fun hg => or_k [(58, .pointer (some ⟨gt1, 0, none⟩))] rfl rfl ⟨(f.2.1.1 hg), trivial⟩ (by kernel_rfl))) ?_
        refine sc (fun _ _ _ f _ _ => sg_f rfl rfl rfl f.1 (fun hg => or_field fo43_1 (f.2.1.1 hg) (by rfl))) ?_
        refine sc (fun _ _ _ f _ hE => sg_f rfl rfl rfl f.1 (fun hg => or_load1 to41 (f.2.1.1 hg) (Blk.at_ (be_ hE b308_gt1).2 1 rfl))) ?_
        refine sc (fun _ _ _ f _ _ => sg_f rfl rfl rfl f.1 (fun hg => or_len tu41 (f.2.1.1 hg) rfl)) ?_
        refine sc (fun _ _ _ f _ _ => sg_f rfl rfl rfl f.1 (fun hg => or_geq (f.2.1.1 hg) (f.2.2.1.1 hg) rfl)) ?_
        refine sc (fun _ _ _ f _ _ => px (or_or f.1 rfl (fun hx => f.2.1.1 hx) (osome hx311).symm)) ?_
        exact steps_nil
      intro own312 a312 w312 hd312 hz312 hk312 hf312 hE312
      have e312_0 := (hk312 0 rfl).trans e308_0
      have e312_1 := (hk312 1 rfl).trans e308_1
      have e312_6 := (hk312 6 rfl).trans e308_6
      have e312_7 := (hk312 7 rfl).trans e308_7
      have e312_8 := (hk312 8 rfl).trans e308_8
      have e312_9 := (hk312 9 rfl).trans e308_9
      have e312_10 := (hk312 10 rfl).trans e308_10
      obtain ⟨(e312_64 : a312.eval (.tmp 64) = .bool x311), -⟩ := hf312 [23] rfl
      have hX312 := es_ hX308 hE312
      have b312_gt1 := be_ hE312 b308_gt1
      have b312_At1_0 := RdO.evo rfl hE312 b308_At1_0
      have b312_At1_1 := RdO.evo rfl hE312 b308_At1_1
      have b312_Atags2 := RdO.evo rfl hE312 b308_Atags2
      have b312_g211 := MpO.evo (by decide) hE312 b308_g211
      have b312_A256 := re_ hE312 b308_A256
      refine fl_cond e312_64 hs (fun c313 hs => ?_) (fun c313 hs => ?_)
      · refine rg0_seq 101 own312 (bz 2) [⟨[], [], [], Fct.val 4 (.slice none 0 0)⟩, ⟨[], [], [], Fct.val 5 (.int .i64 5)⟩] hz312 hd312 (by kernel_rfl) ?_ ?_
        · refine sc (fun _ _ _ _ _ _ => px (or_assign rfl)) ?_
          refine sc (fun _ _ _ _ _ _ => px (or_assign rfl)) ?_
          exact steps_nil
        intro own314 a314 w314 hd314 hz314 hk314 hf314 hE314
        obtain ⟨(e314_4 : a314.eval (.tmp 4) = .slice none 0 0), (e314_5 : a314.eval (.tmp 5) = .int .i64 5), -⟩ := hf314 [0, 1] rfl
        have hX314 := es_ hX312 hE314
        refine fl_ret ?_
        refine hp309 _ _ _ rfl ?_
        refine hp305 _ _ _ rfl ?_
        refine hp304 _ _ _ rfl ?_
        replace hs := hz299 _ hs
        refine hp299 _ _ _ rfl ?_
        refine hp217 _ _ _ rfl ?_
        refine hp215 _ _ _ rfl ?_
        obtain rfl := osome hs
        exact hret _ _ _ _ (.inl rfl) hd314 (results2_ rfl (RVal.tmp_ e314_4) (RVal.tmp_ e314_5)) ⟨own314, (none, 0), rfl, hX314, RwO.nil_⟩
      refine fl_skip ?_
      refine hn309 _ _ ?_
      refine fl_seq (fun Q315 hn315 hp315 => ?_)
      obtain ⟨x316, hx316, hs⟩ := obind hs
      refine rg0_seq 101 own312 [0, 0, 2, 6, 14, 0, 62, 126, 255] [⟨[], [6], [], Fct.val 65 (.map (some g211))⟩, ⟨[], [0], [], Fct.val 66 (.pointer (some ⟨gt1, 0, none⟩))⟩, ⟨[1], [], [], Fct.val 67 (.pointer (some ⟨gt1, 0, none⟩))⟩, ⟨[2], [], [], Fct.val 68 (.pointer (some ⟨gt1, 0, none⟩))⟩, ⟨[3], [], [], Fct.val 69 (.slice At1_0 t1.1.length ct1_0)⟩, ⟨[], [9], [], Fct.val 70 (.int .i64 x306)⟩, ⟨[4, 5], [], [], Fct.val 71 (.pointer (some ((adr At1_0).add ((x306 : Int).toNat * R9.s))))⟩, ⟨[6], [], [], Fct.val 72 (.string x316)⟩, ⟨[0, 7], [], [], Fct.val 73 (.bool ((lkM met255 x316).getD false))⟩] hz312 hd312 (by kernel_rfl) ?_ ?_
      · refine sc (fun _ _ _ _ s _ => px (or_move (s.1.trans e312_6))) ?_
        refine sc (fun _ _ _ _ s _ => px (or_move (s.1.trans e312_0))) ?_
        refine sc (fun _ _ _ f _ _ => px (or_k [(66, .pointer (some ⟨gt1, 0, none⟩))] rfl rfl ⟨f.1, trivial⟩ (by kernel_rfl))) ?_
        refine sc (fun _ _ _ f _ _ => px (or_field fo43_0 f.1 (by rfl))) ?_
        refine sc (fun _ _ _ f _ hE => px (or_load1 to34 f.1 (Blk.at_ (be_ hE b312_gt1).2 0 rfl))) ?_
        refine sc (fun _ _ _ _ s _ => px (or_move (s.1.trans e312_9))) ?_
        refine sc (fun _ _ _ f _ _ => px (or_index (R := R9) (l := t1.1) tl34 f.1 f.2.1 (RdO.some_ b312_At1_0 hx316) hx316)) ?_
        refine sc (fun _ _ _ f _ hE => px (or_load1 to9 f.1 (CellsAt.zero (RdO.cells (F := E9) (RdO.evo rfl hE b312_At1_0) hx316) rfl))) ?_
        refine sc (fun _ _ _ f _ hE => px (or_lookupE (kf := vv9) (vf := vv4) (k := x316) (dv := false) ko9 tm74 tzv74 f.1 f.2.1 (MpO.evo (by decide) hE b312_g211) rfl)) ?_
        exact steps_nil
      intro own317 a317 w317 hd317 hz317 hk317 hf317 hE317
      have e317_0 := (hk317 0 rfl).trans e312_0
      have e317_1 := (hk317 1 rfl).trans e312_1
      have e317_6 := (hk317 6 rfl).trans e312_6
      have e317_7 := (hk317 7 rfl).trans e312_7
      have e317_8 := (hk317 8 rfl).trans e312_8
      have e317_9 := (hk317 9 rfl).trans e312_9
      have e317_10 := (hk317 10 rfl).trans e312_10
      obtain ⟨(e317_73 : a317.eval (.tmp 73) = .bool ((lkM met255 x316).getD false)), -⟩ := hf317 [8] rfl
      have hX317 := es_ hX312 hE317
      have b317_gt1 := be_ hE317 b312_gt1
      have b317_At1_0 := RdO.evo rfl hE317 b312_At1_0
      have b317_At1_1 := RdO.evo rfl hE317 b312_At1_1
      have b317_Atags2 := RdO.evo rfl hE317 b312_Atags2
      have b317_g211 := MpO.evo (by decide) hE317 b312_g211
      have b317_A256 := re_ hE317 b312_A256
      refine fl_cond e317_73 hs (fun c318 hs => ?_) (fun c318 hs => ?_)
      · refine rg0_seq 101 own317 (bz 2) [⟨[], [], [], Fct.val 4 (.slice none 0 0)⟩, ⟨[], [], [], Fct.val 5 (.int .i64 8)⟩] hz317 hd317 (by kernel_rfl) ?_ ?_
        · refine sc (fun _ _ _ _ _ _ => px (or_assign rfl)) ?_
          refine sc (fun _ _ _ _ _ _ => px (or_assign rfl)) ?_
          exact steps_nil
        intro own319 a319 w319 hd319 hz319 hk319 hf319 hE319
        obtain ⟨(e319_4 : a319.eval (.tmp 4) = .slice none 0 0), (e319_5 : a319.eval (.tmp 5) = .int .i64 8), -⟩ := hf319 [0, 1] rfl
        have hX319 := es_ hX317 hE319
        refine fl_ret ?_
        refine hp315 _ _ _ rfl ?_
        refine hp305 _ _ _ rfl ?_
        refine hp304 _ _ _ rfl ?_
        replace hs := hz299 _ hs
        refine hp299 _ _ _ rfl ?_
        refine hp217 _ _ _ rfl ?_
        refine hp215 _ _ _ rfl ?_
        obtain rfl := osome hs
        exact hret _ _ _ _ (.inl rfl) hd319 (results2_ rfl (RVal.tmp_ e319_4) (RVal.tmp_ e319_5)) ⟨own319, (none, 0), rfl, hX319, RwO.nil_⟩
      refine fl_skip ?_
      refine hn315 _ _ ?_
      obtain ⟨x321, hx321, hs⟩ := obind hs
      obtain ⟨D322, hD322, hs⟩ := obind hs
      refine rg_plain_seq (n := 101) (rs := [Fct.mapAt 254 g211 vv9 vv4 met255]) (own0 := own317) (K := [254]) (bs := [0, 0, 2, 6, 14, 0, 62, 126, 255]) (ds := [⟨[], [6], [], Fct.val 74 (.map (some g211))⟩, ⟨[], [0], [], Fct.val 75 (.pointer (some ⟨gt1, 0, none⟩))⟩, ⟨[1], [], [], Fct.val 76 (.pointer (some ⟨gt1, 0, none⟩))⟩, ⟨[2], [], [], Fct.val 77 (.pointer (some ⟨gt1, 0, none⟩))⟩, ⟨[3], [], [], Fct.val 78 (.slice At1_0 t1.1.length ct1_0)⟩, ⟨[], [9], [], Fct.val 79 (.int .i64 x306)⟩, ⟨[4, 5], [], [], Fct.val 80 (.pointer (some ((adr At1_0).add ((x306 : Int).toNat * R9.s))))⟩, ⟨[6], [], [], Fct.val 81 (.string x321)⟩, ⟨[0, 7, 9], [], [254], Fct.mapAt 323 g211 vv9 vv4 D322⟩]) (by kernel_rfl) hz317 hd317 (by simp only [List.forall_mem_cons]; exact ⟨b317_g211, fun _ h => nomatch h⟩) ?_ ?_
      · refine sc (fun _ _ _ _ s _ => px (or_move (s.1.trans e317_6))) ?_
        refine sc (fun _ _ _ _ s _ => px (or_move (s.1.trans e317_0))) ?_
        refine sc (fun _ _ _ f _ _ => px (or_k [(75, .pointer (some ⟨gt1, 0, none⟩))] rfl rfl ⟨f.1, trivial⟩ (by kernel_rfl))) ?_
        refine sc (fun _ _ _ f _ _ => px (or_field fo43_0 f.1 (by rfl))) ?_
        refine sc (fun _ _ _ f _ hE => px (or_load1 to34 f.1 (Blk.at_ (be_ hE b317_gt1).2 0 rfl))) ?_
        refine sc (fun _ _ _ _ s _ => px (or_move (s.1.trans e317_9))) ?_
        refine sc (fun _ _ _ f _ _ => px (or_index (R := R9) (l := t1.1) tl34 f.1 f.2.1 (RdO.some_ b317_At1_0 hx321) hx321)) ?_
        refine sc (fun _ _ _ f _ hE => px (or_load1 to9 f.1 (CellsAt.zero (RdO.cells (F := E9) (RdO.evo rfl hE b317_At1_0) hx321) rfl))) ?_
        refine sc (fun own a wx hf hsl hE => ?_) ?_
        · obtain ⟨f_74, f_81, b_g211, -⟩ := hf
          exact px (or_mapUpdate (kf := vv9) (vf := vv4) (k := x321) (v := true) (lab := 254) (lab2 := 323) ko9 tm74 f_74 f_81 rfl b_g211 (osome hD322).symm (mem_of rfl) (by decide) (fun own' a' w' hb => hb))
        exact steps_nil
      intro own324 a324 w324 hd324 hz324 hk324 hf324 hE324
      have e324_0 := (hk324 0 rfl).trans e317_0
      have e324_1 := (hk324 1 rfl).trans e317_1
      have e324_6 := (hk324 6 rfl).trans e317_6
      have e324_7 := (hk324 7 rfl).trans e317_7
      have e324_8 := (hk324 8 rfl).trans e317_8
      have e324_9 := (hk324 9 rfl).trans e317_9
      have e324_10 := (hk324 10 rfl).trans e317_10
      obtain ⟨(b324_g211 : MpO own324 323 w324 g211 vv9 vv4 D322), -⟩ := hf324 [8] rfl
      have hX324 := es_ hX317 hE324
      have b324_gt1 := be_ hE324 b317_gt1
      have b324_At1_0 := RdO.evo rfl hE324 b317_At1_0
      have b324_At1_1 := RdO.evo rfl hE324 b317_At1_1
      have b324_Atags2 := RdO.evo rfl hE324 b317_Atags2
      have b324_A256 := re_ hE324 b317_A256
      obtain ⟨x329, hx329, hs⟩ := obind hs
      obtain ⟨x330, hx330, hs⟩ := obind hs
      obtain ⟨x333, hx333, hs⟩ := obind hs
      refine rg_draw g_mixed (n := 101) (rs := [Fct.rowAt 259 [] 64 R64 A256 c257 out258]) (own0 := own324) (K := [259]) (bs := [0, 0, 2, 6, 14, 0, 62, 126, 0, 256, 768, 1792, 0, 7936, 16128, 32766, 65534, 131071, 262143]) (ds := [⟨[], [7], [], Fct.val 82 (.slice A256 out258.length c257)⟩, ⟨[], [0], [], Fct.val 83 (.pointer (some ⟨gt1, 0, none⟩))⟩, ⟨[1], [], [], Fct.val 84 (.pointer (some ⟨gt1, 0, none⟩))⟩, ⟨[2], [], [], Fct.val 85 (.pointer (some ⟨gt1, 0, none⟩))⟩, ⟨[3], [], [], Fct.val 86 (.slice At1_0 t1.1.length ct1_0)⟩, ⟨[], [9], [], Fct.val 87 (.int .i64 x306)⟩, ⟨[4, 5], [], [], Fct.val 88 (.pointer (some ((adr At1_0).add ((x306 : Int).toNat * R9.s))))⟩, ⟨[6], [], [], Fct.val 89 (.string x329)⟩, ⟨[], [0], [], Fct.val 90 (.pointer (some ⟨gt1, 0, none⟩))⟩, ⟨[8], [], [], Fct.val 91 (.pointer (some ⟨gt1, 0, none⟩))⟩, ⟨[9], [], [], Fct.val 92 (.pointer (some ⟨gt1, 1, none⟩))⟩, ⟨[10], [], [], Fct.val 93 (.slice At1_1 t1.2.length ct1_1)⟩, ⟨[], [10], [], Fct.val 94 (.int .i64 x307)⟩, ⟨[11, 12], [], [], Fct.val 95 (.pointer (some ((adr At1_1).add ((x307 : Int).toNat * R60.s))))⟩, ⟨[13], [], [], Fct.val 96 (.agg #[.int .i64 x330.1, .string x330.2.1, .int .i64 x330.2.2])⟩, ⟨[7, 14], [], [], Fct.val 97 (.agg #[.string x329, .int .i64 x330.1, .string x330.2.1, .int .i64 x330.2.2])⟩, ⟨[15], [], [], Fct.row 332 [] 98 64 R64 [(x329, x330)]⟩, ⟨[0, 16, 19], [], [259], Fct.row 334 [] 99 64 R64 x333⟩, ⟨[17], [], [], Fct.rel [7, 99] (fun l => ∀ (A335 : Option Addr) (cA335 : Nat), l.getD 1 undef = .slice A335 x333.length cA335 → l.getD 0 undef = .slice A335 x333.length cA335)⟩]) (by kernel_rfl) hz324 hd324 (by simp only [List.forall_mem_cons]; exact ⟨b324_A256, fun _ h => nomatch h⟩) ?_ ?_
      · refine sc (fun _ _ _ _ s _ => px (or_move (s.1.trans e324_7))) ?_
        refine sc (fun _ _ _ _ s _ => px (or_move (s.1.trans e324_0))) ?_
        refine sc (fun _ _ _ f _ _ => px (or_k [(83, .pointer (some ⟨gt1, 0, none⟩))] rfl rfl ⟨f.1, trivial⟩ (by kernel_rfl))) ?_
        refine sc (fun _ _ _ f _ _ => px (or_field fo43_0 f.1 (by rfl))) ?_
        refine sc (fun _ _ _ f _ hE => px (or_load1 to34 f.1 (Blk.at_ (be_ hE b324_gt1).2 0 rfl))) ?_
        refine sc (fun _ _ _ _ s _ => px (or_move (s.1.trans e324_9))) ?_
        refine sc (fun _ _ _ f _ _ => px (or_index (R := R9) (l := t1.1) tl34 f.1 f.2.1 (RdO.some_ b324_At1_0 hx329) hx329)) ?_
        refine sc (fun _ _ _ f _ hE => px (or_load1 to9 f.1 (CellsAt.zero (RdO.cells (F := E9) (RdO.evo rfl hE b324_At1_0) hx329) rfl))) ?_
        refine sc (fun _ _ _ _ s _ => px (or_move (s.1.trans e324_0))) ?_
        refine sc (fun _ _ _ f _ _ => px (or_k [(90, .pointer (some ⟨gt1, 0, none⟩))] rfl rfl ⟨f.1, trivial⟩ (by kernel_rfl))) ?_
        refine sc (fun _ _ _ f _ _ => px (or_field fo43_1 f.1 (by rfl))) ?_
        refine sc (fun _ _ _ f _ hE => px (or_load1 to41 f.1 (Blk.at_ (be_ hE b324_gt1).2 1 rfl))) ?_
        refine sc (fun _ _ _ _ s _ => px (or_move (s.1.trans e324_10))) ?_
        refine sc (fun _ _ _ f _ _ => px (or_index (R := R60) (l := t1.2) tl41 f.1 f.2.1 (RdO.some_ b324_At1_1 hx330) hx330)) ?_
        refine sc (fun _ _ _ f _ hE => px (or_load (l := E60.f x330) ta60 f.1 (RdO.cells (F := E60) (RdO.evo rfl hE b324_At1_1) hx330) rfl)) ?_
        refine sc (fun _ _ _ f _ _ => px (or_k [(89, .string x329), (96, .agg #[.int .i64 x330.1, .string x330.2.1, .int .i64 x330.2.2])] rfl rfl ⟨f.1, f.2.1, trivial⟩ (by kernel_rfl))) ?_
        refine sc (fun _ _ _ f _ _ => px (or_lit (lab := 332) (e := 64) (cs := #[.string x329, .int .i64 x330.1, .string x330.2.1, .int .i64 x330.2.2]) (F := E64) (or_new [(97, .agg #[.string x329, .int .i64 x330.1, .string x330.2.1, .int .i64 x330.2.2])] rfl rfl ⟨f.1, trivial⟩ (by kernel_rfl)) rfl rfl (show 1 ≤ maxLen by decide))) ?_
        refine sc (fun own a wx hf hsl hE => ?_) ?_
        · obtain ⟨f_82, ⟨⟨A331, cA331⟩, f_98, b_A331⟩, b_A256, -⟩ := hf
          exact px (or_append (R := R64) (lab := 259) (lab2 := 334) (L := []) (L3 := []) tp22 f_82 b_A256 (by decide) f_98 (RwO.rd b_A331) hx333 (by decide) (by decide) (mem_of rfl) (.inl (Rep.fl_flat _)))
        refine sc (fun own a wx hf hsl hE => ?_) ?_
        · obtain ⟨⟨⟨A335, cA335⟩, (f_99 : a.eval (.tmp 99) = .slice A335 x333.length cA335), b_A335⟩, -⟩ := hf
          exact px (or_mono (f := Fct.val 7 (.slice A335 x333.length cA335)) (or_assign f_99) (fun own' a' w' v' hp h => fun _ _ h0' => by cases (f_99.symm.trans ((hp.2 99 (by decide)).symm.trans h0')); exact h))
        exact steps_nil
      intro own336 a336 w336 hd336 hz336 hk336 hf336 hE336
      have e336_0 := (hk336 0 rfl).trans e324_0
      have e336_1 := (hk336 1 rfl).trans e324_1
      have e336_6 := (hk336 6 rfl).trans e324_6
      have e336_8 := (hk336 8 rfl).trans e324_8
      obtain ⟨⟨⟨A335, cA335⟩, (f_99 : a336.eval (.tmp 99) = .slice A335 x333.length cA335), (b336_A335 : RwO own336 334 [] w336 64 R64 A335 cA335 x333)⟩, (q_7 : ∀ (A335 : Option Addr) (cA335 : Nat), a336.eval (.tmp 99) = .slice A335 x333.length cA335 → a336.eval (.tmp 7) = .slice A335 x333.length cA335), -⟩ := hf336 [17, 18] rfl
      have e336_7 := q_7 _ _ f_99
      have hX336 := es_ hX324 hE336
      have b336_gt1 := be_ hE336 b324_gt1
      have b336_At1_0 := RdO.evo rfl hE336 b324_At1_0
      have b336_At1_1 := RdO.evo rfl hE336 b324_At1_1
      have b336_Atags2 := RdO.evo rfl hE336 b324_Atags2
      have b336_g211 := MpO.evo (by decide) hE336 b324_g211
      refine hn305 _ _ ?_
      refine hn304 _ _ ?_
      refine rg0 101 own336 (bz 3) [⟨[], [8], [], Fct.val 30 (.int .i64 i260)⟩, ⟨[0], [], [], Fct.val 31 (.int .i64 (ad i260 2))⟩, ⟨[1], [], [], Fct.val 8 (.int .i64 (ad i260 2))⟩] hz336 hd336 (by kernel_rfl) ?_ ?_
      · refine sc (fun _ _ _ _ s _ => px (or_move (s.1.trans e336_8))) ?_
        refine sc (fun _ _ _ f _ _ => px (or_add f.1 rfl rfl)) ?_
        refine sc (fun _ _ _ f _ _ => px (or_assign f.1)) ?_
        exact steps_nil
      intro own337 a337 w337 hd337 hz337 hk337 hf337 hE337
      have e337_0 := (hk337 0 rfl).trans e336_0
      have e337_1 := (hk337 1 rfl).trans e336_1
      have e337_6 := (hk337 6 rfl).trans e336_6
      have e337_7 := (hk337 7 rfl).trans e336_7
      obtain ⟨(e337_8 : a337.eval (.tmp 8) = .int .i64 (ad i260 2)), -⟩ := hf337 [2] rfl
      have hX337 := es_ hX336 hE337
      have b337_gt1 := be_ hE337 b336_gt1
      have b337_At1_0 := RdO.evo rfl hE337 b336_At1_0
      have b337_At1_1 := RdO.evo rfl hE337 b336_At1_1
      have b337_Atags2 := RdO.evo rfl hE337 b336_Atags2
      have b337_g211 := MpO.evo (by decide) hE337 b336_g211
      have b337_A335 := re_ hE337 b336_A335
      exact hn299 _ _ _ hs ⟨(rl [(323, 254), (334, 259)] own337), A335, cA335, hd337, hz337, e337_0, e337_1, e337_6, e337_7, e337_8, (Evo.rl_ hX337 (fun _ => Nat.le_refl 0) rfl), (BlkO.rl_ (mm := [(323, 254), (334, 259)]) b337_gt1), (RdO.rl_ (mm := [(323, 254), (334, 259)]) b337_At1_0), (RdO.rl_ (mm := [(323, 254), (334, 259)]) b337_At1_1), (RdO.rl_ (mm := [(323, 254), (334, 259)]) b337_Atags2), (MpO.rl_ (mm := [(323, 254), (334, 259)]) b337_g211), (RwO.rl_ (mm := [(323, 254), (334, 259)]) b337_A335)⟩
    refine fl_exit ?_
    refine hp301 _ _ _ rfl ?_
    replace hs := hz299 _ hs
    refine hp299 _ _ _ rfl ?_
    refine hx217 _ _ ?_
    refine hn215 _ _ ?_
    refine rg0_seq 101 own302 (bz 3) [⟨[], [7], [], Fct.val 100 (.slice A256 out258.length c257)⟩, ⟨[0], [], [], Fct.val 4 (.slice A256 out258.length c257)⟩, ⟨[], [], [], Fct.val 5 (.int .i64 0)⟩] hz302 hd302 (by kernel_rfl) ?_ ?_
    · refine sc (fun _ _ _ _ s _ => px (or_move (s.1.trans e302_7))) ?_
      refine sc (fun _ _ _ f _ _ => px (or_assign f.1)) ?_
      refine sc (fun _ _ _ _ _ _ => px (or_assign rfl)) ?_
      exact steps_nil
    intro own338 a338 w338 hd338 hz338 hk338 hf338 hE338
    obtain ⟨(e338_4 : a338.eval (.tmp 4) = .slice A256 out258.length c257), (e338_5 : a338.eval (.tmp 5) = .int .i64 0), -⟩ := hf338 [1, 2] rfl
    have hX338 := es_ hX302 hE338
    have b338_A256 := re_ hE338 b302_A256
    refine fl_ret ?_
    obtain rfl := osome hs
    exact hret _ _ _ _ (.inl rfl) hd338 (results2_ rfl (RVal.tmp_ e338_4) (RVal.tmp_ e338_5)) ⟨(rl [(259, 1)] own338), (A256, c257), rfl, (Evo.rl_ hX338 (fun _ => Nat.le_refl 0) rfl), (RwO.rl_ (mm := [(259, 1)]) b338_A256)⟩
theorem ref01_Sign_w (w : World) (n1 : Int) (r : Int) (hs : ref01_Sign n1 = some r) :
    Calls Try.prog 52 #[.int .i64 n1] w fun e w' => ∃ own' : Own, e = .returned (.int .i64 r) ∧ Evo [] (fun _ => 0) own' w w' := by
  refine fl_enter (n := 7) rfl rfl rfl (Nat.le_of_ble_eq_true rfl) ?_
  intro a0 Q hd0 hz0 harg hret
  have ha0 := harg 0 _ rfl
  clear harg
  have hE0 : Evo [] (fun _ => 0) (fun _ => 0) w w := Evo.refl _ _ _
  refine rg0_seq 7 (fun _ => 0) (bz 1) [⟨[], [], [], Fct.val 2 (.int .i64 0)⟩] hz0 hd0 (by kernel_rfl) ?_ ?_
  · refine sc (fun _ _ _ _ _ _ => px (or_assign rfl)) ?_
    exact steps_nil
  intro own21 a21 w21 hd21 hz21 hk21 hf21 hE21
  have e21_0 := (hk21 0 rfl).trans ha0
  have hX21 := es_ hE0 hE21
  refine fl_seq (fun Q22 hn22 hp22 => ?_)
  refine rg0_seq 7 own21 (bz 2) [⟨[], [0], [], Fct.val 3 (.int .i64 n1)⟩, ⟨[0], [], [], Fct.val 4 (.bool (decide (0 < n1)))⟩] hz21 hd21 (by kernel_rfl) ?_ ?_
  · refine sc (fun _ _ _ _ s _ => px (or_move (s.1.trans e21_0))) ?_
    refine sc (fun _ _ _ f _ _ => px (or_gtr f.1 rfl rfl)) ?_
    exact steps_nil
  intro own23 a23 w23 hd23 hz23 hk23 hf23 hE23
  have e23_0 := (hk23 0 rfl).trans e21_0
  obtain ⟨(e23_4 : a23.eval (.tmp 4) = .bool (decide (0 < n1))), -⟩ := hf23 [1] rfl
  have hX23 := es_ hX21 hE23
  refine fl_cond e23_4 hs (fun c24 hs => ?_) (fun c24 hs => ?_)
  · refine rg0_seq 7 own23 (bz 1) [⟨[], [], [], Fct.val 2 (.int .i64 1)⟩] hz23 hd23 (by kernel_rfl) ?_ ?_
    · refine sc (fun _ _ _ _ _ _ => px (or_assign rfl)) ?_
      exact steps_nil
    intro own25 a25 w25 hd25 hz25 hk25 hf25 hE25
    obtain ⟨(e25_2 : a25.eval (.tmp 2) = .int .i64 1), -⟩ := hf25 [0] rfl
    have hX25 := es_ hX23 hE25
    refine fl_ret ?_
    refine hp22 _ _ _ rfl ?_
    obtain rfl := osome hs
    exact hret _ _ _ _ (.inl rfl) hd25 (results1_ rfl (RVal.tmp_ e25_2)) ⟨own25, rfl, hX25⟩
  refine fl_skip ?_
  refine hn22 _ _ ?_
  refine fl_seq (fun Q26 hn26 hp26 => ?_)
  refine rg0_seq 7 own23 (bz 2) [⟨[], [0], [], Fct.val 5 (.int .i64 n1)⟩, ⟨[0], [], [], Fct.val 6 (.bool (decide (n1 < 0)))⟩] hz23 hd23 (by kernel_rfl) ?_ ?_
  · refine sc (fun _ _ _ _ s _ => px (or_move (s.1.trans e23_0))) ?_
    refine sc (fun _ _ _ f _ _ => px (or_lss f.1 rfl rfl)) ?_
    exact steps_nil
  intro own27 a27 w27 hd27 hz27 hk27 hf27 hE27
  obtain ⟨(e27_6 : a27.eval (.tmp 6) = .bool (decide (n1 < 0))), -⟩ := hf27 [1] rfl
  have hX27 := es_ hX23 hE27
  refine fl_cond e27_6 hs (fun c28 hs => ?_) (fun c28 hs => ?_)
  · refine rg0_seq 7 own27 (bz 1) [⟨[], [], [], Fct.val 2 (.int .i64 (-1))⟩] hz27 hd27 (by kernel_rfl) ?_ ?_
    · refine sc (fun _ _ _ _ _ _ => px (or_assign rfl)) ?_
      exact steps_nil
    intro own29 a29 w29 hd29 hz29 hk29 hf29 hE29
    obtain ⟨(e29_2 : a29.eval (.tmp 2) = .int .i64 (-1)), -⟩ := hf29 [0] rfl
    have hX29 := es_ hX27 hE29
    refine fl_ret ?_
    refine hp26 _ _ _ rfl ?_
    obtain rfl := osome hs
    exact hret _ _ _ _ (.inl rfl) hd29 (results1_ rfl (RVal.tmp_ e29_2)) ⟨own29, rfl, hX29⟩
  refine fl_skip ?_
  refine hn26 _ _ ?_
  refine rg0_seq 7 own27 (bz 1) [⟨[], [], [], Fct.val 2 (.int .i64 0)⟩] hz27 hd27 (by kernel_rfl) ?_ ?_
  · refine sc (fun _ _ _ _ _ _ => px (or_assign rfl)) ?_
    exact steps_nil
  intro own30 a30 w30 hd30 hz30 hk30 hf30 hE30
  obtain ⟨(e30_2 : a30.eval (.tmp 2) = .int .i64 0), -⟩ := hf30 [0] rfl
  have hX30 := es_ hX27 hE30
  refine fl_ret ?_
  obtain rfl := osome hs
  exact hret _ _ _ _ (.inl rfl) hd30 (results1_ rfl (RVal.tmp_ e30_2)) ⟨own30, rfl, hX30⟩
theorem ref04_Compare_w (w : World) (x1 : List Int) (Ax1 : Option Addr) (cx1 : Nat) (b2 : List Int) (Ab2 : Option Addr) (cb2 : Nat) (hx1 : RdO (fun _ => 0) [0] w R3 Ax1 cx1 x1) (hb2 : RdO (fun _ => 0) [0] w R3 Ab2 cb2 b2) (r : Int) (hs : ref04_Compare x1 b2 = some r) :
    Calls Try.prog 38 #[.slice Ax1 x1.length cx1, .slice Ab2 b2.length cb2] w fun e w' => ∃ own' : Own, e = .returned (.int .i64 r) ∧ Evo [] (fun _ => 0) own' w w' := by
  refine fl_enter (n := 42) rfl rfl rfl (Nat.le_of_ble_eq_true rfl) ?_
  intro a0 Q hd0 hz0 harg hret
  have ha0 := harg 0 _ rfl
  have ha1 := harg 1 _ rfl
  clear harg
  have hE0 : Evo [] (fun _ => 0) (fun _ => 0) w w := Evo.refl _ _ _
  refine rg0_seq 42 (fun _ => 0) (bz 1) [⟨[], [], [], Fct.val 4 (.int .i64 0)⟩] hz0 hd0 (by kernel_rfl) ?_ ?_
  · refine sc (fun _ _ _ _ _ _ => px (or_assign rfl)) ?_
    exact steps_nil
  intro own77 a77 w77 hd77 hz77 hk77 hf77 hE77
  have e77_0 := (hk77 0 rfl).trans ha0
  have e77_1 := (hk77 1 rfl).trans ha1
  have hX77 := es_ hE0 hE77
  have b77_Ax1 := RdO.evo rfl hE77 hx1
  have b77_Ab2 := RdO.evo rfl hE77 hb2
  refine fl_seq (fun Q78 hn78 hp78 => ?_)
  refine rg0_seq 42 own77 (bz 1) [⟨[], [], [], Fct.val 5 (.int .i64 0)⟩] hz77 hd77 (by kernel_rfl) ?_ ?_
  · refine sc (fun _ _ _ _ _ _ => px (or_assign rfl)) ?_
    exact steps_nil
  intro own79 a79 w79 hd79 hz79 hk79 hf79 hE79
  have e79_0 := (hk79 0 rfl).trans e77_0
  have e79_1 := (hk79 1 rfl).trans e77_1
  obtain ⟨(e79_5 : a79.eval (.tmp 5) = .int .i64 0), -⟩ := hf79 [0] rfl
  have hX79 := es_ hX77 hE79
  have b79_Ax1 := RdO.evo rfl hE79 b77_Ax1
  have b79_Ab2 := RdO.evo rfl hE79 b77_Ab2
  refine fl_block (fun Q80 hn80 hx80 hp80 => ?_)
  refine fl_loop (body := (fun s => ref04_Compare_b1 x1 b2 s)) (z := r) (show loopO _ _ = _ from hs) (fun (i100 : Int) a wx => ∃ (ox : Own), a.defers = [] ∧ a.tmps.size = 42 ∧ a.eval (.tmp 0) = .slice Ax1 x1.length cx1 ∧ a.eval (.tmp 1) = .slice Ab2 b2.length cb2 ∧ a.eval (.tmp 5) = .int .i64 i100 ∧ Evo [] (fun _ => 0) ox w wx ∧ RdO ox [0] wx R3 Ax1 cx1 x1 ∧ RdO ox [0] wx R3 Ab2 cb2 b2) ?_ ?_
  · exact ⟨own79, hd79, hz79, e79_0, e79_1, e79_5, hX79, b79_Ax1, b79_Ab2⟩
  · rintro i100 zz120 a120 w120 ⟨own120, hd121, hz121, e121_0, e121_1, e121_5, hE121, b121_Ax1, b121_Ab2⟩ hs Q120 hn120 hp120 hz120
    have hs : ref04_Compare_b1 x1 b2 i100 = some zz120 := hs
    refine fl_seq (fun Q122 hn122 hp122 => ?_)
    obtain ⟨x123, hx123, hs⟩ := obind hs
    refine rg0_seq 42 own120 [0, 0, 2, 7, 15, 31, 31, 95, 255, 511] [⟨[], [5], [], Fct.val 6 (.int .i64 i100)⟩, ⟨[], [0], [], Fct.val 7 (.slice Ax1 x1.length cx1)⟩, ⟨[1], [], [], Fct.val 8 (.int .i64 (x1.length : Int))⟩, ⟨[0, 2], [], [], Fct.val 9 (.bool (decide (i100 < (x1.length : Int))))⟩, ⟨[3], [], [], Fct.val 10 (.bool (decide (i100 < (x1.length : Int))))⟩, ⟨[4], [5], [], Fct.cond (decide (i100 < (x1.length : Int))) (some 11) (Fct.val 11 (.int .i64 i100))⟩, ⟨[4], [1], [], Fct.cond (decide (i100 < (x1.length : Int))) (some 12) (Fct.val 12 (.slice Ab2 b2.length cb2))⟩, ⟨[4, 6], [], [], Fct.cond (decide (i100 < (x1.length : Int))) (some 13) (Fct.val 13 (.int .i64 (b2.length : Int)))⟩, ⟨[4, 5, 7], [], [], Fct.cond (decide (i100 < (x1.length : Int))) (some 14) (Fct.val 14 (.bool (decide (i100 < (b2.length : Int)))))⟩, ⟨[4, 8], [], [], Fct.val 15 (.bool x123)⟩] hz121 hd121 (by kernel_rfl) ?_ ?_
    · refine sc (fun _ _ _ _ s _ => px (or_move (s.1.trans e121_5))) ?_
      refine sc (fun _ _ _ _ s _ => px (or_move (s.1.trans e121_0))) ?_
      refine sc (fun _ _ _ f _ _ => px (or_len tu23 f.1 rfl)) ?_
      refine sc (fun _ _ _ f _ _ => px (or_lss f.1 f.2.1 rfl)) ?_
      refine sc (fun _ _ _ f _ _ => px (or_move f.1)) ?_
      refine sc (fun _ _ _ f s _ => sg_t rfl rfl rfl f.1 (fun hg => or_move (s.1.trans e121_5))) ?_
      refine sc (fun _ _ _ f s _ => sg_t rfl rfl rfl f.1 (fun hg => or_move (s.1.trans e121_1))) ?_
      refine sc (fun _ _ _ f _ _ => sg_t rfl rfl rfl f.1 (fun hg => or_len tu23 (f.2.1.1 hg) rfl)) ?_
      refine sc (fun _ _ _ f _ _ => sg_t rfl rfl rfl f.1 (fun hg => or_lss (f.2.1.1 hg) (f.2.2.1.1 hg) rfl)) ?_
      refine sc (fun _ _ _ f _ _ => px (or_and f.1 (fun hx => f.2.1.1 hx) rfl (osome hx123).symm)) ?_
      exact steps_nil
    intro own124 a124 w124 hd124 hz124 hk124 hf124 hE124
    have e124_0 := (hk124 0 rfl).trans e121_0
    have e124_1 := (hk124 1 rfl).trans e121_1
    have e124_5 := (hk124 5 rfl).trans e121_5
    obtain ⟨(e124_15 : a124.eval (.tmp 15) = .bool x123), -⟩ := hf124 [9] rfl
    have hX124 := es_ hE121 hE124
    have b124_Ax1 := RdO.evo rfl hE124 b121_Ax1
    have b124_Ab2 := RdO.evo rfl hE124 b121_Ab2
    refine fl_cond e124_15 hs (fun c125 hs => ?_) (fun c125 hs => ?_)
    · refine fl_skip ?_
      refine hn122 _ _ ?_
      refine fl_seq (fun Q126 hn126 hp126 => ?_)
      refine fl_block (fun Q127 hn127 hx127 hp127 => ?_)
      refine fl_seq (fun Q128 hn128 hp128 => ?_)
      obtain ⟨x129, hx129, hs⟩ := obind hs
      obtain ⟨x130, hx130, hs⟩ := obind hs
      refine rg_draw_seq g_mixed (n := 42) (rs := []) (own0 := own124) (K := []) (bs := [0, 0, 3, 7, 0, 0, 48, 112, 255]) (ds := [⟨[], [0], [], Fct.val 18 (.slice Ax1 x1.length cx1)⟩, ⟨[], [5], [], Fct.val 19 (.int .i64 i100)⟩, ⟨[0, 1], [], [], Fct.val 20 (.pointer (some ((adr Ax1).add ((i100 : Int).toNat * R3.s))))⟩, ⟨[2], [], [], Fct.val 21 (.int .i64 x129)⟩, ⟨[], [1], [], Fct.val 22 (.slice Ab2 b2.length cb2)⟩, ⟨[], [5], [], Fct.val 23 (.int .i64 i100)⟩, ⟨[4, 5], [], [], Fct.val 24 (.pointer (some ((adr Ab2).add ((i100 : Int).toNat * R3.s))))⟩, ⟨[6], [], [], Fct.val 25 (.int .i64 x130)⟩, ⟨[3, 7], [], [], Fct.val 26 (.bool (decide (x129 < x130)))⟩]) (by kernel_rfl) hz124 hd124 nm_ ?_ ?_
      · refine sc (fun _ _ _ _ s _ => px (or_move (s.1.trans e124_0))) ?_
        refine sc (fun _ _ _ _ s _ => px (or_move (s.1.trans e124_5))) ?_
        refine sc (fun _ _ _ f _ _ => px (or_index (R := R3) (l := x1) tl23 f.1 f.2.1 (RdO.some_ b124_Ax1 hx129) hx129)) ?_
        refine sc (fun _ _ _ f _ hE => px (or_load1 to3 f.1 (CellsAt.zero (RdO.cells (F := E3) (RdO.evo rfl hE b124_Ax1) hx129) rfl))) ?_
        refine sc (fun _ _ _ _ s _ => px (or_move (s.1.trans e124_1))) ?_
        refine sc (fun _ _ _ _ s _ => px (or_move (s.1.trans e124_5))) ?_
        refine sc (fun _ _ _ f _ _ => px (or_index (R := R3) (l := b2) tl23 f.1 f.2.1 (RdO.some_ b124_Ab2 hx130) hx130)) ?_
        refine sc (fun _ _ _ f _ hE => px (or_load1 to3 f.1 (CellsAt.zero (RdO.cells (F := E3) (RdO.evo rfl hE b124_Ab2) hx130) rfl))) ?_
        refine sc (fun _ _ _ f _ _ => px (or_lss f.1 f.2.1 rfl)) ?_
        exact steps_nil
      intro own131 a131 w131 hd131 hz131 hk131 hf131 hE131
      have e131_0 := (hk131 0 rfl).trans e124_0
      have e131_1 := (hk131 1 rfl).trans e124_1
      have e131_5 := (hk131 5 rfl).trans e124_5
      obtain ⟨(e131_26 : a131.eval (.tmp 26) = .bool (decide (x129 < x130))), -⟩ := hf131 [8] rfl
      have hX131 := es_ hX124 hE131
      have b131_Ax1 := RdO.evo rfl hE131 b124_Ax1
      have b131_Ab2 := RdO.evo rfl hE131 b124_Ab2
      refine fl_cond e131_26 hs (fun c132 hs => ?_) (fun c132 hs => ?_)
      · refine rg0_seq 42 own131 (bz 1) [⟨[], [], [], Fct.val 4 (.int .i64 (-1))⟩] hz131 hd131 (by kernel_rfl) ?_ ?_
        · refine sc (fun _ _ _ _ _ _ => px (or_assign rfl)) ?_
          exact steps_nil
        intro own133 a133 w133 hd133 hz133 hk133 hf133 hE133
        obtain ⟨(e133_4 : a133.eval (.tmp 4) = .int .i64 (-1)), -⟩ := hf133 [0] rfl
        have hX133 := es_ hX131 hE133
        refine fl_ret ?_
        refine hp128 _ _ _ rfl ?_
        refine hp127 _ _ _ rfl ?_
        refine hp126 _ _ _ rfl ?_
        replace hs := hz120 _ hs
        refine hp120 _ _ _ rfl ?_
        refine hp80 _ _ _ rfl ?_
        refine hp78 _ _ _ rfl ?_
        obtain rfl := osome hs
        exact hret _ _ _ _ (.inl rfl) hd133 (results1_ rfl (RVal.tmp_ e133_4)) ⟨own133, rfl, hX133⟩
      refine fl_skip ?_
      refine hn128 _ _ ?_
      obtain ⟨x134, hx134, hs⟩ := obind hs
      obtain ⟨x135, hx135, hs⟩ := obind hs
      refine rg_draw_seq g_mixed (n := 42) (rs := []) (own0 := own131) (K := []) (bs := [0, 0, 3, 7, 0, 0, 48, 112, 255]) (ds := [⟨[], [0], [], Fct.val 27 (.slice Ax1 x1.length cx1)⟩, ⟨[], [5], [], Fct.val 28 (.int .i64 i100)⟩, ⟨[0, 1], [], [], Fct.val 29 (.pointer (some ((adr Ax1).add ((i100 : Int).toNat * R3.s))))⟩, ⟨[2], [], [], Fct.val 30 (.int .i64 x134)⟩, ⟨[], [1], [], Fct.val 31 (.slice Ab2 b2.length cb2)⟩, ⟨[], [5], [], Fct.val 32 (.int .i64 i100)⟩, ⟨[4, 5], [], [], Fct.val 33 (.pointer (some ((adr Ab2).add ((i100 : Int).toNat * R3.s))))⟩, ⟨[6], [], [], Fct.val 34 (.int .i64 x135)⟩, ⟨[3, 7], [], [], Fct.val 35 (.bool (decide (x135 < x134)))⟩]) (by kernel_rfl) hz131 hd131 nm_ ?_ ?_
      · refine sc (fun _ _ _ _ s _ => px (or_move (s.1.trans e131_0))) ?_
        refine sc (fun _ _ _ _ s _ => px (or_move (s.1.trans e131_5))) ?_
        refine sc (fun _ _ _ f _ _ => px (or_index (R := R3) (l := x1) tl23 f.1 f.2.1 (RdO.some_ b131_Ax1 hx134) hx134)) ?_
        refine sc (fun _ _ _ f _ hE => px (or_load1 to3 f.1 (CellsAt.zero (RdO.cells (F := E3) (RdO.evo rfl hE b131_Ax1) hx134) rfl))) ?_
        refine sc (fun _ _ _ _ s _ => px (or_move (s.1.trans e131_1))) ?_
        refine sc (fun _ _ _ _ s _ => px (or_move (s.1.trans e131_5))) ?_
        refine sc (fun _ _ _ f _ _ => px (or_index (R := R3) (l := b2) tl23 f.1 f.2.1 (RdO.some_ b131_Ab2 hx135) hx135)) ?_
        refine sc (fun _ _ _ f _ hE => px (or_load1 to3 f.1 (CellsAt.zero (RdO.cells (F := E3) (RdO.evo rfl hE b131_Ab2) hx135) rfl))) ?_
        refine sc (fun _ _ _ f _ _ => px (or_gtr f.1 f.2.1 rfl)) ?_
        exact steps_nil
      intro own136 a136 w136 hd136 hz136 hk136 hf136 hE136
      have e136_0 := (hk136 0 rfl).trans e131_0
      have e136_1 := (hk136 1 rfl).trans e131_1
      have e136_5 := (hk136 5 rfl).trans e131_5
      obtain ⟨(e136_35 : a136.eval (.tmp 35) = .bool (decide (x135 < x134))), -⟩ := hf136 [8] rfl
      have hX136 := es_ hX131 hE136
      have b136_Ax1 := RdO.evo rfl hE136 b131_Ax1
      have b136_Ab2 := RdO.evo rfl hE136 b131_Ab2
      refine fl_cond e136_35 hs (fun c137 hs => ?_) (fun c137 hs => ?_)
      · refine rg0_seq 42 own136 (bz 1) [⟨[], [], [], Fct.val 4 (.int .i64 1)⟩] hz136 hd136 (by kernel_rfl) ?_ ?_
        · refine sc (fun _ _ _ _ _ _ => px (or_assign rfl)) ?_
          exact steps_nil
        intro own138 a138 w138 hd138 hz138 hk138 hf138 hE138
        obtain ⟨(e138_4 : a138.eval (.tmp 4) = .int .i64 1), -⟩ := hf138 [0] rfl
        have hX138 := es_ hX136 hE138
        refine fl_ret ?_
        refine hp127 _ _ _ rfl ?_
        refine hp126 _ _ _ rfl ?_
        replace hs := hz120 _ hs
        refine hp120 _ _ _ rfl ?_
        refine hp80 _ _ _ rfl ?_
        refine hp78 _ _ _ rfl ?_
        obtain rfl := osome hs
        exact hret _ _ _ _ (.inl rfl) hd138 (results1_ rfl (RVal.tmp_ e138_4)) ⟨own138, rfl, hX138⟩
      refine fl_skip ?_
      refine hn127 _ _ ?_
      refine hn126 _ _ ?_
      refine rg0 42 own136 (bz 3) [⟨[], [5], [], Fct.val 16 (.int .i64 i100)⟩, ⟨[0], [], [], Fct.val 17 (.int .i64 (ad i100 1))⟩, ⟨[1], [], [], Fct.val 5 (.int .i64 (ad i100 1))⟩] hz136 hd136 (by kernel_rfl) ?_ ?_
      · refine sc (fun _ _ _ _ s _ => px (or_move (s.1.trans e136_5))) ?_
        refine sc (fun _ _ _ f _ _ => px (or_add f.1 rfl rfl)) ?_
        refine sc (fun _ _ _ f _ _ => px (or_assign f.1)) ?_
        exact steps_nil
      intro own139 a139 w139 hd139 hz139 hk139 hf139 hE139
      have e139_0 := (hk139 0 rfl).trans e136_0
      have e139_1 := (hk139 1 rfl).trans e136_1
      obtain ⟨(e139_5 : a139.eval (.tmp 5) = .int .i64 (ad i100 1)), -⟩ := hf139 [2] rfl
      have hX139 := es_ hX136 hE139
      have b139_Ax1 := RdO.evo rfl hE139 b136_Ax1
      have b139_Ab2 := RdO.evo rfl hE139 b136_Ab2
      exact hn120 _ _ _ hs ⟨own139, hd139, hz139, e139_0, e139_1, e139_5, hX139, b139_Ax1, b139_Ab2⟩
    refine fl_exit ?_
    refine hp122 _ _ _ rfl ?_
    replace hs := hz120 _ hs
    refine hp120 _ _ _ rfl ?_
    refine hx80 _ _ ?_
    refine hn78 _ _ ?_
    obtain ⟨x140, hx140, hs⟩ := obind hs
    obtain ⟨r141, hr141, hs⟩ := obind hs
    refine rg0_seq 42 own124 [0, 1, 0, 4, 15, 31, 63] [⟨[], [0], [], Fct.val 36 (.slice Ax1 x1.length cx1)⟩, ⟨[0], [], [], Fct.val 37 (.int .i64 (x1.length : Int))⟩, ⟨[], [1], [], Fct.val 38 (.slice Ab2 b2.length cb2)⟩, ⟨[2], [], [], Fct.val 39 (.int .i64 (b2.length : Int))⟩, ⟨[1, 3], [], [], Fct.val 40 (.int .i64 x140)⟩, ⟨[4], [], [], Fct.val 41 (.int .i64 r141)⟩, ⟨[5], [], [], Fct.val 4 (.int .i64 r141)⟩] hz124 hd124 (by kernel_rfl) ?_ ?_
    · refine sc (fun _ _ _ _ s _ => px (or_move (s.1.trans e124_0))) ?_
      refine sc (fun _ _ _ f _ _ => px (or_len tu23 f.1 rfl)) ?_
      refine sc (fun _ _ _ _ s _ => px (or_move (s.1.trans e124_1))) ?_
      refine sc (fun _ _ _ f _ _ => px (or_len tu23 f.1 rfl)) ?_
      refine sc (fun _ _ _ f _ _ => px (or_sub f.1 f.2.1 (osome hx140).symm)) ?_
      refine sc (fun _ _ _ f _ _ => px (or_call cf52 (args1 f.1) (ref01_Sign_w _ x140  r141 hr141) post_val)) ?_
      refine sc (fun _ _ _ f _ _ => px (or_assign f.1)) ?_
      exact steps_nil
    intro own142 a142 w142 hd142 hz142 hk142 hf142 hE142
    obtain ⟨(e142_4 : a142.eval (.tmp 4) = .int .i64 r141), -⟩ := hf142 [6] rfl
    have hX142 := es_ hX124 hE142
    refine fl_ret ?_
    obtain rfl := (osome hs).symm
    exact hret _ _ _ _ (.inl rfl) hd142 (results1_ rfl (RVal.tmp_ e142_4)) ⟨own142, rfl, hX142⟩
theorem law04_Ints_w (w : World) (x1 : List Int) (Ax1 : Option Addr) (cx1 : Nat) (b2 : List Int) (Ab2 : Option Addr) (cb2 : Nat) (hx1 : RdO (fun _ => 0) [0] w R3 Ax1 cx1 x1) (hb2 : RdO (fun _ => 0) [0] w R3 Ab2 cb2 b2) (r : Bool) (hs : law04_Ints x1 b2 = some r) :
    Calls Try.prog 20 #[.slice Ax1 x1.length cx1, .slice Ab2 b2.length cb2] w fun e w' => ∃ own' : Own, e = .returned (.bool r) ∧ Evo [] (fun _ => 0) own' w w' := by
  refine fl_enter (n := 9) rfl rfl rfl (Nat.le_of_ble_eq_true rfl) ?_
  intro a0 Q hd0 hz0 harg hret
  have ha0 := harg 0 _ rfl
  have ha1 := harg 1 _ rfl
  clear harg
  have hE0 : Evo [] (fun _ => 0) (fun _ => 0) w w := Evo.refl _ _ _
  refine rg0_seq 9 (fun _ => 0) (bz 1) [⟨[], [], [], Fct.val 4 (.bool false)⟩] hz0 hd0 (by kernel_rfl) ?_ ?_
  · refine sc (fun _ _ _ _ _ _ => px (or_assign rfl)) ?_
    exact steps_nil
  intro own14 a14 w14 hd14 hz14 hk14 hf14 hE14
  have e14_0 := (hk14 0 rfl).trans ha0
  have e14_1 := (hk14 1 rfl).trans ha1
  have hX14 := es_ hE0 hE14
  have b14_Ax1 := RdO.evo rfl hE14 hx1
  have b14_Ab2 := RdO.evo rfl hE14 hb2
  obtain ⟨r15, hr15, hs⟩ := obind hs
  refine rg0_seq 9 own14 [0, 0, 3, 7, 15] [⟨[], [0], [], Fct.val 5 (.slice Ax1 x1.length cx1)⟩, ⟨[], [1], [], Fct.val 6 (.slice Ab2 b2.length cb2)⟩, ⟨[0, 1], [], [], Fct.val 7 (.int .i64 r15)⟩, ⟨[2], [], [], Fct.val 8 (.bool (decide (r15 = 0)))⟩, ⟨[3], [], [], Fct.val 4 (.bool (decide (r15 = 0)))⟩] hz14 hd14 (by kernel_rfl) ?_ ?_
  · refine sc (fun _ _ _ _ s _ => px (or_move (s.1.trans e14_0))) ?_
    refine sc (fun _ _ _ _ s _ => px (or_move (s.1.trans e14_1))) ?_
    refine sc (fun _ _ _ f _ hE => px (or_call cf38 (args2 f.1 f.2.1) (ref04_Compare_w _ x1 Ax1 cx1 b2 Ab2 cb2 (RdO.zero (RdO.evo rfl hE b14_Ax1)) (RdO.zero (RdO.evo rfl hE b14_Ab2)) r15 hr15) post_val)) ?_
    refine sc (fun _ _ _ f _ _ => px (or_eql f.1 rfl rfl)) ?_
    refine sc (fun _ _ _ f _ _ => px (or_assign f.1)) ?_
    exact steps_nil
  intro own16 a16 w16 hd16 hz16 hk16 hf16 hE16
  obtain ⟨(e16_4 : a16.eval (.tmp 4) = .bool (decide (r15 = 0))), -⟩ := hf16 [4] rfl
  have hX16 := es_ hX14 hE16
  refine fl_ret ?_
  obtain rfl := osome hs
  exact hret _ _ _ _ (.inl rfl) hd16 (results1_ rfl (RVal.tmp_ e16_4)) ⟨own16, rfl, hX16⟩
theorem law11_known_w (w : World) (r : Bool) (hs : law11_known = some r) :
    Calls Try.prog 11 #[] w fun e w' => ∃ own' : Own, e = .returned (.bool r) ∧ Evo [] (fun _ => 0) own' w w' := by
  refine fl_enter (n := 50) rfl rfl rfl (Nat.le_of_ble_eq_true rfl) ?_
  intro a0 Q hd0 hz0 harg hret
  clear harg
  have hE0 : Evo [] (fun _ => 0) (fun _ => 0) w w := Evo.refl _ _ _
  refine rg0_seq 50 (fun _ => 0) (bz 1) [⟨[], [], [], Fct.val 0 (.bool false)⟩] hz0 hd0 (by kernel_rfl) ?_ ?_
  · refine sc (fun _ _ _ _ _ _ => px (or_assign rfl)) ?_
    exact steps_nil
  intro own61 a61 w61 hd61 hz61 hk61 hf61 hE61
  have hX61 := es_ hE0 hE61
  refine rg_plain_seq (n := 50) (rs := []) (own0 := own61) (K := [63, 65]) (bs := [0, 0, 0, 0, 13, 31]) (ds := [⟨[], [], [], Fct.val 8 (.agg #[.int .i64 3, .string ByteArray.empty, .int .i64 1])⟩, ⟨[], [], [], Fct.val 9 (.agg #[.int .i64 3, .string ByteArray.empty, .int .i64 2])⟩, ⟨[], [], [], Fct.blk 63 1 (fun g => .pointer (some ⟨g, 0, none⟩)) 60 #[.int .i64 0, .string ByteArray.empty, .int .i64 0]⟩, ⟨[], [], [], Fct.blk 65 2 (fun g => .pointer (some ⟨g, 0, none⟩)) 60 #[.int .i64 0, .string ByteArray.empty, .int .i64 0]⟩, ⟨[2, 0], [], [63], Fct.blk 66 1 (fun g => .pointer (some ⟨g, 0, none⟩)) 60 #[.int .i64 3, .string ByteArray.empty, .int .i64 1]⟩, ⟨[3, 1], [], [65], Fct.blk 67 2 (fun g => .pointer (some ⟨g, 0, none⟩)) 60 #[.int .i64 3, .string ByteArray.empty, .int .i64 2]⟩]) (by kernel_rfl) hz61 hd61 nm_ ?_ ?_
  · refine sc (fun _ _ _ _ _ _ => px (or_k [] rfl rfl trivial (by kernel_rfl))) ?_
    refine sc (fun _ _ _ _ _ _ => px (or_k [] rfl rfl trivial (by kernel_rfl))) ?_
    refine sc (fun _ _ _ _ _ _ => px (or_new [] rfl rfl trivial (by kernel_rfl))) ?_
    refine sc (fun _ _ _ _ _ _ => px (or_new [] rfl rfl trivial (by kernel_rfl))) ?_
    refine sc (fun own a wx hf hsl hE => ?_) ?_
    · obtain ⟨⟨g62, f_1, b_g62⟩, f_8, -⟩ := hf
      exact px (or_store (l := #[.int .i64 3, .string ByteArray.empty, .int .i64 1]) (lab := 63) (lab2 := 66) ts60 f_1 f_8 b_g62 (by simp) (by kernel_rfl) (mem_of rfl) (by decide) (by kernel_rfl) (fun own' a' w' ha hb => ⟨_, (ha 1).trans f_1, hb⟩))
    refine sc (fun own a wx hf hsl hE => ?_) ?_
    · obtain ⟨⟨g64, f_2, b_g64⟩, f_9, -⟩ := hf
      exact px (or_store (l := #[.int .i64 3, .string ByteArray.empty, .int .i64 2]) (lab := 65) (lab2 := 67) ts60 f_2 f_9 b_g64 (by simp) (by kernel_rfl) (mem_of rfl) (by decide) (by kernel_rfl) (fun own' a' w' ha hb => ⟨_, (ha 2).trans f_2, hb⟩))
    exact steps_nil
  intro own68 a68 w68 hd68 hz68 hk68 hf68 hE68
  obtain ⟨⟨g62, (e68_1 : a68.eval (.tmp 1) = .pointer (some ⟨g62, 0, none⟩)), (b68_g62 : BlkO own68 66 w68 g62 60 #[.int .i64 3, .string ByteArray.empty, .int .i64 1])⟩, ⟨g64, (e68_2 : a68.eval (.tmp 2) = .pointer (some ⟨g64, 0, none⟩)), (b68_g64 : BlkO own68 67 w68 g64 60 #[.int .i64 3, .string ByteArray.empty, .int .i64 2])⟩, -⟩ := hf68 [4, 5] rfl
  have hX68 := es_ hX61 hE68
  refine rg0_seq 50 own68 (bz 1) [⟨[], [], [], Fct.blk 70 3 (fun g => .pointer (some ⟨g, 0, none⟩)) 43 #[.slice none 0 0, .slice none 0 0]⟩] hz68 hd68 (by kernel_rfl) ?_ ?_
  · refine sc (fun _ _ _ _ _ _ => px (or_new [] rfl rfl trivial (by kernel_rfl))) ?_
    exact steps_nil
  intro own71 a71 w71 hd71 hz71 hk71 hf71 hE71
  have e71_1 := (hk71 1 rfl).trans e68_1
  have e71_2 := (hk71 2 rfl).trans e68_2
  obtain ⟨⟨g69, (e71_3 : a71.eval (.tmp 3) = .pointer (some ⟨g69, 0, none⟩)), (b71_g69 : BlkO own71 70 w71 g69 43 #[.slice none 0 0, .slice none 0 0])⟩, -⟩ := hf71 [0] rfl
  have hX71 := es_ hX68 hE71
  have b71_g62 := be_ hE71 b68_g62
  have b71_g64 := be_ hE71 b68_g64
  obtain ⟨r76, hr76, hs⟩ := obind hs
  refine rg_plain_seq (n := 50) (rs := [Fct.at_ 70 g69 43 #[.slice none 0 0, .slice none 0 0]]) (own0 := own71) (K := [70]) (bs := [0, 1, 0, 4, 15, 31, 63, 127, 127, 255, 1023]) (ds := [⟨[], [1], [], Fct.val 11 (.agg #[.int .i64 3, .string ByteArray.empty, .int .i64 1])⟩, ⟨[0], [], [], Fct.val 12 (.agg #[.string (⟨#[97]⟩ : ByteArray), .int .i64 3, .string ByteArray.empty, .int .i64 1])⟩, ⟨[], [1], [], Fct.val 13 (.agg #[.int .i64 3, .string ByteArray.empty, .int .i64 1])⟩, ⟨[2], [], [], Fct.val 14 (.agg #[.string (⟨#[98]⟩ : ByteArray), .int .i64 3, .string ByteArray.empty, .int .i64 1])⟩, ⟨[1, 3], [], [], Fct.row 75 [] 15 64 R64 [((⟨#[97]⟩ : ByteArray), (3, ByteArray.empty, 1)), ((⟨#[98]⟩ : ByteArray), (3, ByteArray.empty, 1))]⟩, ⟨[4, 11], [3], [70], Fct.mems [80, 81, 82, 83] 16 (fun (x : (Option Addr × Nat) × (Option Addr × Nat) × (Option Addr × Nat)) => .tuple #[.slice x.1.1 r76.1.length x.1.2, .int .i64 r76.2.1]) (fun (x : (Option Addr × Nat) × (Option Addr × Nat) × (Option Addr × Nat)) own w => RwO own 80 [] w 3 R3 x.1.1 x.1.2 r76.1 ∧ RwO own 81 [] w 9 R9 x.2.1.1 x.2.1.2 r76.2.2.1 ∧ RwO own 82 [] w 60 R60 x.2.2.1 x.2.2.2 r76.2.2.2 ∧ BlkO own 83 w g69 43 #[.slice x.2.1.1 r76.2.2.1.length x.2.1.2, .slice x.2.2.1 r76.2.2.2.length x.2.2.2]) (fun hk he h => ⟨RwO.evo (hits_sub hk (by decide)) he h.1, RwO.evo (hits_sub hk (by decide)) he h.2.1, RwO.evo (hits_sub hk (by decide)) he h.2.2.1, BlkO.evo (not_hit hk (by decide)) he h.2.2.2⟩)⟩, ⟨[5], [], [], Fct.rel [10, 16] (fun l => ∀ (A77 : Option Addr) (cA77 : Nat), l.getD 1 undef = .tuple #[.slice A77 r76.1.length cA77, .int .i64 r76.2.1] → l.getD 0 undef = .tuple #[.slice A77 r76.1.length cA77, .int .i64 r76.2.1])⟩, ⟨[6, 5], [], [], Fct.rel [17, 16] (fun l => ∀ (A77 : Option Addr) (cA77 : Nat), l.getD 1 undef = .tuple #[.slice A77 r76.1.length cA77, .int .i64 r76.2.1] → l.getD 0 undef = .slice A77 r76.1.length cA77)⟩, ⟨[6, 5], [], [], Fct.val 18 (.int .i64 r76.2.1)⟩, ⟨[7, 5], [], [], Fct.rel [4, 16] (fun l => ∀ (A77 : Option Addr) (cA77 : Nat), l.getD 1 undef = .tuple #[.slice A77 r76.1.length cA77, .int .i64 r76.2.1] → l.getD 0 undef = .slice A77 r76.1.length cA77)⟩, ⟨[8], [], [], Fct.val 5 (.int .i64 r76.2.1)⟩]) (by kernel_rfl) hz71 hd71 (by simp only [List.forall_mem_cons]; exact ⟨b71_g69, fun _ h => nomatch h⟩) ?_ ?_
  · refine sc (fun _ _ _ _ s hE => px (or_load (l := [.int .i64 3, .string ByteArray.empty, .int .i64 1]) ta60 (s.1.trans e71_1) (Blk.cellsFrom (be_ hE b71_g62).2 0 rfl) rfl)) ?_
    refine sc (fun _ _ _ f _ _ => px (or_k [(11, .agg #[.int .i64 3, .string ByteArray.empty, .int .i64 1])] rfl rfl ⟨f.1, trivial⟩ (by kernel_rfl))) ?_
    refine sc (fun _ _ _ _ s hE => px (or_load (l := [.int .i64 3, .string ByteArray.empty, .int .i64 1]) ta60 (s.1.trans e71_1) (Blk.cellsFrom (be_ hE b71_g62).2 0 rfl) rfl)) ?_
    refine sc (fun _ _ _ f _ _ => px (or_k [(13, .agg #[.int .i64 3, .string ByteArray.empty, .int .i64 1])] rfl rfl ⟨f.1, trivial⟩ (by kernel_rfl))) ?_
    refine sc (fun _ _ _ f _ _ => px (or_lit (lab := 75) (e := 64) (cs := #[.string (⟨#[97]⟩ : ByteArray), .int .i64 3, .string ByteArray.empty, .int .i64 1, .string (⟨#[98]⟩ : ByteArray), .int .i64 3, .string ByteArray.empty, .int .i64 1]) (F := E64) (or_new [(12, .agg #[.string (⟨#[97]⟩ : ByteArray), .int .i64 3, .string ByteArray.empty, .int .i64 1]), (14, .agg #[.string (⟨#[98]⟩ : ByteArray), .int .i64 3, .string ByteArray.empty, .int .i64 1])] rfl rfl ⟨f.1, f.2.1, trivial⟩ (by kernel_rfl)) rfl rfl (show 2 ≤ maxLen by decide))) ?_
    refine sc (fun own a wx hf hsl hE => ?_) ?_
    · obtain ⟨⟨⟨A74, cA74⟩, f_15, b_A74⟩, b_g69, -⟩ := hf
      obtain ⟨s_3, -⟩ := hsl
      exact px (or_call cf8 (args2 (s_3.trans e71_3) f_15) (table_Table_Add_w _ (forth own (look0 [(70, 1)])) (([] : List ByteArray), ([] : List (Int × ByteArray × Int))) g69 43 none 0 none 0 [((⟨#[97]⟩ : ByteArray), (3, ByteArray.empty, 1)), ((⟨#[98]⟩ : ByteArray), (3, ByteArray.empty, 1))] A74 cA74 (look0_le rfl) (BlkO.forth_ (m := (look0 [(70, 1)])) b_g69) RwO.nil_ RwO.nil_ (RdO.forth_ (m := (look0 [(70, 1)])) (RwO.rd b_A74)) r76 hr76) (post_mems (m := (look0 [(70, 1)])) (m' := (look0 [(1, 83), (2, 81), (3, 82), (4, 80)])) (hm_of rfl) (fun own' w' a' x h1 h => ⟨x, h1, ⟨RwO.back_ h.1 (by decide) (.inl (Rep.fl_flat _)), RwO.back_ h.2.1 (by decide) (.inl (Rep.fl_flat _)), RwO.back_ h.2.2.1 (by decide) (.inl (Rep.fl_flat _)), BlkO.back_ h.2.2.2 (by decide)⟩⟩)))
    refine sc (fun own a wx hf hsl hE => ?_) ?_
    · obtain ⟨⟨⟨⟨A77, cA77⟩, ⟨A78, cA78⟩, ⟨A79, cA79⟩⟩, (f_16 : a.eval (.tmp 16) = .tuple #[.slice A77 r76.1.length cA77, .int .i64 r76.2.1]), b_A77, b_A78, b_A79, b_g69⟩, -⟩ := hf
      exact px (or_mono (f := Fct.val 10 (.tuple #[.slice A77 r76.1.length cA77, .int .i64 r76.2.1])) (or_move f_16) (fun own' a' w' v' hp h => fun _ _ h0' => by cases (f_16.symm.trans ((hp.2 16 (by decide)).symm.trans h0')); exact h))
    refine sc (fun own a wx hf hsl hE => ?_) ?_
    · obtain ⟨(q_10 : ∀ (A77 : Option Addr) (cA77 : Nat), a.eval (.tmp 16) = .tuple #[.slice A77 r76.1.length cA77, .int .i64 r76.2.1] → a.eval (.tmp 10) = .tuple #[.slice A77 r76.1.length cA77, .int .i64 r76.2.1]), ⟨⟨⟨A77, cA77⟩, ⟨A78, cA78⟩, ⟨A79, cA79⟩⟩, (f_16 : a.eval (.tmp 16) = .tuple #[.slice A77 r76.1.length cA77, .int .i64 r76.2.1]), b_A77, b_A78, b_A79, b_g69⟩, -⟩ := hf
      have f_10 := q_10 _ _ f_16
      exact px (or_mono (f := Fct.val 17 (.slice A77 r76.1.length cA77)) (or_k [(10, .tuple #[.slice A77 r76.1.length cA77, .int .i64 r76.2.1])] rfl rfl ⟨f_10, trivial⟩ (by kernel_rfl)) (fun own' a' w' v' hp h => fun _ _ h0' => by cases (f_16.symm.trans ((hp.2 16 (by decide)).symm.trans h0')); exact h))
    refine sc (fun own a wx hf hsl hE => ?_) ?_
    · obtain ⟨(q_10 : ∀ (A77 : Option Addr) (cA77 : Nat), a.eval (.tmp 16) = .tuple #[.slice A77 r76.1.length cA77, .int .i64 r76.2.1] → a.eval (.tmp 10) = .tuple #[.slice A77 r76.1.length cA77, .int .i64 r76.2.1]), ⟨⟨⟨A77, cA77⟩, ⟨A78, cA78⟩, ⟨A79, cA79⟩⟩, f_16, b_A77, b_A78, b_A79, b_g69⟩, -⟩ := hf
      have f_10 := q_10 _ _ f_16
      exact px (or_k [(10, .tuple #[.slice A77 r76.1.length cA77, .int .i64 r76.2.1])] rfl rfl ⟨f_10, trivial⟩ (by kernel_rfl))
    refine sc (fun own a wx hf hsl hE => ?_) ?_
    · obtain ⟨(q_17 : ∀ (A77 : Option Addr) (cA77 : Nat), a.eval (.tmp 16) = .tuple #[.slice A77 r76.1.length cA77, .int .i64 r76.2.1] → a.eval (.tmp 17) = .slice A77 r76.1.length cA77), ⟨⟨⟨A77, cA77⟩, ⟨A78, cA78⟩, ⟨A79, cA79⟩⟩, (f_16 : a.eval (.tmp 16) = .tuple #[.slice A77 r76.1.length cA77, .int .i64 r76.2.1]), b_A77, b_A78, b_A79, b_g69⟩, -⟩ := hf
      have f_17 := q_17 _ _ f_16
      exact px (or_mono (f := Fct.val 4 (.slice A77 r76.1.length cA77)) (or_assign f_17) (fun own' a' w' v' hp h => fun _ _ h0' => by cases (f_16.symm.trans ((hp.2 16 (by decide)).symm.trans h0')); exact h))
    refine sc (fun _ _ _ f _ _ => px (or_assign f.1)) ?_
    exact steps_nil
  intro own84 a84 w84 hd84 hz84 hk84 hf84 hE84
  have e84_1 := (hk84 1 rfl).trans e71_1
  have e84_2 := (hk84 2 rfl).trans e71_2
  have e84_3 := (hk84 3 rfl).trans e71_3
  obtain ⟨⟨⟨⟨A77, cA77⟩, ⟨A78, cA78⟩, ⟨A79, cA79⟩⟩, (f_16 : a84.eval (.tmp 16) = .tuple #[.slice A77 r76.1.length cA77, .int .i64 r76.2.1]), (b84_A77 : RwO own84 80 [] w84 3 R3 A77 cA77 r76.1), (b84_A78 : RwO own84 81 [] w84 9 R9 A78 cA78 r76.2.2.1), (b84_A79 : RwO own84 82 [] w84 60 R60 A79 cA79 r76.2.2.2), (b84_g69 : BlkO own84 83 w84 g69 43 #[.slice A78 r76.2.2.1.length cA78, .slice A79 r76.2.2.2.length cA79])⟩, (q_4 : ∀ (A77 : Option Addr) (cA77 : Nat), a84.eval (.tmp 16) = .tuple #[.slice A77 r76.1.length cA77, .int .i64 r76.2.1] → a84.eval (.tmp 4) = .slice A77 r76.1.length cA77), (e84_5 : a84.eval (.tmp 5) = .int .i64 r76.2.1), -⟩ := hf84 [5, 9, 10] rfl
  have e84_4 := q_4 _ _ f_16
  have hX84 := es_ hX71 hE84
  have b84_g62 := be_ hE84 b71_g62
  have b84_g64 := be_ hE84 b71_g64
  obtain ⟨r93, hr93, hs⟩ := obind hs
  refine rg_plain_seq (n := 50) (rs := [Fct.at_ 83 g69 43 #[.slice A78 r76.2.2.1.length cA78, .slice A79 r76.2.2.2.length cA79], Fct.rowAt 81 [] 9 R9 A78 cA78 r76.2.2.1, Fct.rowAt 82 [] 60 R60 A79 cA79 r76.2.2.2]) (own0 := own84) (K := [83, 81, 82]) (bs := [0, 1, 0, 4, 15, 31, 63, 127, 127, 255, 1023]) (ds := [⟨[], [2], [], Fct.val 20 (.agg #[.int .i64 3, .string ByteArray.empty, .int .i64 2])⟩, ⟨[0], [], [], Fct.val 21 (.agg #[.string (⟨#[98]⟩ : ByteArray), .int .i64 3, .string ByteArray.empty, .int .i64 2])⟩, ⟨[], [1], [], Fct.val 22 (.agg #[.int .i64 3, .string ByteArray.empty, .int .i64 1])⟩, ⟨[2], [], [], Fct.val 23 (.agg #[.string (⟨#[97]⟩ : ByteArray), .int .i64 3, .string ByteArray.empty, .int .i64 1])⟩, ⟨[1, 3], [], [], Fct.row 92 [] 24 64 R64 [((⟨#[98]⟩ : ByteArray), (3, ByteArray.empty, 2)), ((⟨#[97]⟩ : ByteArray), (3, ByteArray.empty, 1))]⟩, ⟨[4, 11, 12, 13], [3], [83, 81, 82], Fct.mems [97, 98, 99, 100] 25 (fun (x : (Option Addr × Nat) × (Option Addr × Nat) × (Option Addr × Nat)) => .tuple #[.slice x.1.1 r93.1.length x.1.2, .int .i64 r93.2.1]) (fun (x : (Option Addr × Nat) × (Option Addr × Nat) × (Option Addr × Nat)) own w => RwO own 97 [] w 3 R3 x.1.1 x.1.2 r93.1 ∧ RwO own 98 [] w 9 R9 x.2.1.1 x.2.1.2 r93.2.2.1 ∧ RwO own 99 [] w 60 R60 x.2.2.1 x.2.2.2 r93.2.2.2 ∧ BlkO own 100 w g69 43 #[.slice x.2.1.1 r93.2.2.1.length x.2.1.2, .slice x.2.2.1 r93.2.2.2.length x.2.2.2]) (fun hk he h => ⟨RwO.evo (hits_sub hk (by decide)) he h.1, RwO.evo (hits_sub hk (by decide)) he h.2.1, RwO.evo (hits_sub hk (by decide)) he h.2.2.1, BlkO.evo (not_hit hk (by decide)) he h.2.2.2⟩)⟩, ⟨[5], [], [], Fct.rel [19, 25] (fun l => ∀ (A94 : Option Addr) (cA94 : Nat), l.getD 1 undef = .tuple #[.slice A94 r93.1.length cA94, .int .i64 r93.2.1] → l.getD 0 undef = .tuple #[.slice A94 r93.1.length cA94, .int .i64 r93.2.1])⟩, ⟨[6, 5], [], [], Fct.rel [26, 25] (fun l => ∀ (A94 : Option Addr) (cA94 : Nat), l.getD 1 undef = .tuple #[.slice A94 r93.1.length cA94, .int .i64 r93.2.1] → l.getD 0 undef = .slice A94 r93.1.length cA94)⟩, ⟨[6, 5], [], [], Fct.val 27 (.int .i64 r93.2.1)⟩, ⟨[7, 5], [], [], Fct.rel [6, 25] (fun l => ∀ (A94 : Option Addr) (cA94 : Nat), l.getD 1 undef = .tuple #[.slice A94 r93.1.length cA94, .int .i64 r93.2.1] → l.getD 0 undef = .slice A94 r93.1.length cA94)⟩, ⟨[8], [], [], Fct.val 7 (.int .i64 r93.2.1)⟩]) (by kernel_rfl) hz84 hd84 (by simp only [List.forall_mem_cons]; exact ⟨b84_g69, b84_A78, b84_A79, fun _ h => nomatch h⟩) ?_ ?_
  · refine sc (fun _ _ _ _ s hE => px (or_load (l := [.int .i64 3, .string ByteArray.empty, .int .i64 2]) ta60 (s.1.trans e84_2) (Blk.cellsFrom (be_ hE b84_g64).2 0 rfl) rfl)) ?_
    refine sc (fun _ _ _ f _ _ => px (or_k [(20, .agg #[.int .i64 3, .string ByteArray.empty, .int .i64 2])] rfl rfl ⟨f.1, trivial⟩ (by kernel_rfl))) ?_
    refine sc (fun _ _ _ _ s hE => px (or_load (l := [.int .i64 3, .string ByteArray.empty, .int .i64 1]) ta60 (s.1.trans e84_1) (Blk.cellsFrom (be_ hE b84_g62).2 0 rfl) rfl)) ?_
    refine sc (fun _ _ _ f _ _ => px (or_k [(22, .agg #[.int .i64 3, .string ByteArray.empty, .int .i64 1])] rfl rfl ⟨f.1, trivial⟩ (by kernel_rfl))) ?_
    refine sc (fun _ _ _ f _ _ => px (or_lit (lab := 92) (e := 64) (cs := #[.string (⟨#[98]⟩ : ByteArray), .int .i64 3, .string ByteArray.empty, .int .i64 2, .string (⟨#[97]⟩ : ByteArray), .int .i64 3, .string ByteArray.empty, .int .i64 1]) (F := E64) (or_new [(21, .agg #[.string (⟨#[98]⟩ : ByteArray), .int .i64 3, .string ByteArray.empty, .int .i64 2]), (23, .agg #[.string (⟨#[97]⟩ : ByteArray), .int .i64 3, .string ByteArray.empty, .int .i64 1])] rfl rfl ⟨f.1, f.2.1, trivial⟩ (by kernel_rfl)) rfl rfl (show 2 ≤ maxLen by decide))) ?_
    refine sc (fun own a wx hf hsl hE => ?_) ?_
    · obtain ⟨⟨⟨A91, cA91⟩, f_24, b_A91⟩, b_g69, b_A78, b_A79, -⟩ := hf
      obtain ⟨s_3, -⟩ := hsl
      exact px (or_call cf8 (args2 (s_3.trans e84_3) f_24) (table_Table_Add_w _ (forth own (look0 [(81, 2), (82, 3), (83, 1)])) r76.2.2 g69 43 A78 cA78 A79 cA79 [((⟨#[98]⟩ : ByteArray), (3, ByteArray.empty, 2)), ((⟨#[97]⟩ : ByteArray), (3, ByteArray.empty, 1))] A91 cA91 (look0_le rfl) (BlkO.forth_ (m := (look0 [(81, 2), (82, 3), (83, 1)])) b_g69) (RwO.forth_ (m := (look0 [(81, 2), (82, 3), (83, 1)])) b_A78) (RwO.forth_ (m := (look0 [(81, 2), (82, 3), (83, 1)])) b_A79) (RdO.forth_ (m := (look0 [(81, 2), (82, 3), (83, 1)])) (RwO.rd b_A91)) r93 hr93) (post_mems (m := (look0 [(81, 2), (82, 3), (83, 1)])) (m' := (look0 [(1, 100), (2, 98), (3, 99), (4, 97)])) (hm_of rfl) (fun own' w' a' x h1 h => ⟨x, h1, ⟨RwO.back_ h.1 (by decide) (.inl (Rep.fl_flat _)), RwO.back_ h.2.1 (by decide) (.inl (Rep.fl_flat _)), RwO.back_ h.2.2.1 (by decide) (.inl (Rep.fl_flat _)), BlkO.back_ h.2.2.2 (by decide)⟩⟩)))
    refine sc (fun own a wx hf hsl hE => ?_) ?_
    · obtain ⟨⟨⟨⟨A94, cA94⟩, ⟨A95, cA95⟩, ⟨A96, cA96⟩⟩, (f_25 : a.eval (.tmp 25) = .tuple #[.slice A94 r93.1.length cA94, .int .i64 r93.2.1]), b_A94, b_A95, b_A96, b_g69⟩, -⟩ := hf
      exact px (or_mono (f := Fct.val 19 (.tuple #[.slice A94 r93.1.length cA94, .int .i64 r93.2.1])) (or_move f_25) (fun own' a' w' v' hp h => fun _ _ h0' => by cases (f_25.symm.trans ((hp.2 25 (by decide)).symm.trans h0')); exact h))
    refine sc (fun own a wx hf hsl hE => ?_) ?_
    · obtain ⟨(q_19 : ∀ (A94 : Option Addr) (cA94 : Nat), a.eval (.tmp 25) = .tuple #[.slice A94 r93.1.length cA94, .int .i64 r93.2.1] → a.eval (.tmp 19) = .tuple #[.slice A94 r93.1.length cA94, .int .i64 r93.2.1]), ⟨⟨⟨A94, cA94⟩, ⟨A95, cA95⟩, ⟨A96, cA96⟩⟩, (f_25 : a.eval (.tmp 25) = .tuple #[.slice A94 r93.1.length cA94, .int .i64 r93.2.1]), b_A94, b_A95, b_A96, b_g69⟩, -⟩ := hf
      have f_19 := q_19 _ _ f_25
      exact px (or_mono (f := Fct.val 26 (.slice A94 r93.1.length cA94)) (or_k [(19, .tuple #[.slice A94 r93.1.length cA94, .int .i64 r93.2.1])] rfl rfl ⟨f_19, trivial⟩ (by kernel_rfl)) (fun own' a' w' v' hp h => fun _ _ h0' => by cases (f_25.symm.trans ((hp.2 25 (by decide)).symm.trans h0')); exact h))
    refine sc (fun own a wx hf hsl hE => ?_) ?_
    · obtain ⟨(q_19 : ∀ (A94 : Option Addr) (cA94 : Nat), a.eval (.tmp 25) = .tuple #[.slice A94 r93.1.length cA94, .int .i64 r93.2.1] → a.eval (.tmp 19) = .tuple #[.slice A94 r93.1.length cA94, .int .i64 r93.2.1]), ⟨⟨⟨A94, cA94⟩, ⟨A95, cA95⟩, ⟨A96, cA96⟩⟩, f_25, b_A94, b_A95, b_A96, b_g69⟩, -⟩ := hf
      have f_19 := q_19 _ _ f_25
      exact px (or_k [(19, .tuple #[.slice A94 r93.1.length cA94, .int .i64 r93.2.1])] rfl rfl ⟨f_19, trivial⟩ (by kernel_rfl))
    refine sc (fun own a wx hf hsl hE => ?_) ?_
    · obtain ⟨(q_26 : ∀ (A94 : Option Addr) (cA94 : Nat), a.eval (.tmp 25) = .tuple #[.slice A94 r93.1.length cA94, .int .i64 r93.2.1] → a.eval (.tmp 26) = .slice A94 r93.1.length cA94), ⟨⟨⟨A94, cA94⟩, ⟨A95, cA95⟩, ⟨A96, cA96⟩⟩, (f_25 : a.eval (.tmp 25) = .tuple #[.slice A94 r93.1.length cA94, .int .i64 r93.2.1]), b_A94, b_A95, b_A96, b_g69⟩, -⟩ := hf
      have f_26 := q_26 _ _ f_25
      exact px (or_mono (f := Fct.val 6 (.slice A94 r93.1.length cA94)) (or_assign f_26) (fun own' a' w' v' hp h => fun _ _ h0' => by cases (f_25.symm.trans ((hp.2 25 (by decide)).symm.trans h0')); exact h))
    refine sc (fun _ _ _ f _ _ => px (or_assign f.1)) ?_
    exact steps_nil
  intro own101 a101 w101 hd101 hz101 hk101 hf101 hE101
  have e101_3 := (hk101 3 rfl).trans e84_3
  have e101_4 := (hk101 4 rfl).trans e84_4
  have e101_5 := (hk101 5 rfl).trans e84_5
  obtain ⟨⟨⟨⟨A94, cA94⟩, ⟨A95, cA95⟩, ⟨A96, cA96⟩⟩, (f_25 : a101.eval (.tmp 25) = .tuple #[.slice A94 r93.1.length cA94, .int .i64 r93.2.1]), (b101_A94 : RwO own101 97 [] w101 3 R3 A94 cA94 r93.1), (b101_A95 : RwO own101 98 [] w101 9 R9 A95 cA95 r93.2.2.1), (b101_A96 : RwO own101 99 [] w101 60 R60 A96 cA96 r93.2.2.2), (b101_g69 : BlkO own101 100 w101 g69 43 #[.slice A95 r93.2.2.1.length cA95, .slice A96 r93.2.2.2.length cA96])⟩, (q_6 : ∀ (A94 : Option Addr) (cA94 : Nat), a101.eval (.tmp 25) = .tuple #[.slice A94 r93.1.length cA94, .int .i64 r93.2.1] → a101.eval (.tmp 6) = .slice A94 r93.1.length cA94), (e101_7 : a101.eval (.tmp 7) = .int .i64 r93.2.1), -⟩ := hf101 [5, 9, 10] rfl
  have e101_6 := q_6 _ _ f_25
  have hX101 := es_ hX84 hE101
  have b101_A77 := re_ hE101 b84_A77
  obtain ⟨x102, hx102, hs⟩ := obind hs
  obtain ⟨r105, hr105, hs⟩ := obind hs
  obtain ⟨r108, hr108, hs⟩ := obind hs
  obtain ⟨x109, hx109, hs⟩ := obind hs
  refine rg0_seq 50 own101 [0, 1, 3, 7, 15, 31, 63, 127, 127, 511, 1023, 2047, 4095, 4095, 16383, 32767, 65535, 131071, 262143, 524287, 1048575, 2097151, 4194303] [⟨[], [5], [], Fct.val 28 (.int .i64 r76.2.1)⟩, ⟨[0], [], [], Fct.val 29 (.bool (decide (r76.2.1 = 0)))⟩, ⟨[1], [], [], Fct.val 30 (.bool (decide (r76.2.1 = 0)))⟩, ⟨[2], [7], [], Fct.cond (decide (r76.2.1 = 0)) (some 31) (Fct.val 31 (.int .i64 r93.2.1))⟩, ⟨[2, 3], [], [], Fct.cond (decide (r76.2.1 = 0)) (some 32) (Fct.val 32 (.bool (decide (r93.2.1 = 0))))⟩, ⟨[2, 4], [], [], Fct.val 33 (.bool x102)⟩, ⟨[5], [], [], Fct.val 34 (.bool x102)⟩, ⟨[6], [4], [], Fct.cond x102 (some 35) (Fct.val 35 (.slice A77 r76.1.length cA77))⟩, ⟨[6], [], [], Fct.cond x102 (some 36) (Fct.row 104 [] 36 3 R3 [0, 0, 1, 0])⟩, ⟨[6, 7, 8], [], [], Fct.cond x102 (some 37) (Fct.val 37 (.bool r105))⟩, ⟨[6, 9], [], [], Fct.val 38 (.bool (x102 && r105))⟩, ⟨[10], [], [], Fct.val 39 (.bool (x102 && r105))⟩, ⟨[11], [6], [], Fct.cond (x102 && r105) (some 40) (Fct.val 40 (.slice A94 r93.1.length cA94))⟩, ⟨[11], [], [], Fct.cond (x102 && r105) (some 41) (Fct.row 107 [] 41 3 R3 [1, 1, 0, 0])⟩, ⟨[11, 12, 13], [], [], Fct.cond (x102 && r105) (some 42) (Fct.val 42 (.bool r108))⟩, ⟨[11, 14], [], [], Fct.val 43 (.bool ((x102 && r105) && r108))⟩, ⟨[15], [], [], Fct.val 44 (.bool ((x102 && r105) && r108))⟩, ⟨[16], [3], [], Fct.cond ((x102 && r105) && r108) (some 45) (Fct.val 45 (.pointer (some ⟨g69, 0, none⟩)))⟩, ⟨[16, 17], [], [], Fct.cond ((x102 && r105) && r108) (some 46) (Fct.val 46 (.slice A95 r93.2.2.1.length cA95))⟩, ⟨[16, 18], [], [], Fct.cond ((x102 && r105) && r108) (some 47) (Fct.val 47 (.int .i64 (r93.2.2.1.length : Int)))⟩, ⟨[16, 19], [], [], Fct.cond ((x102 && r105) && r108) (some 48) (Fct.val 48 (.bool (decide ((r93.2.2.1.length : Int) = 2))))⟩, ⟨[16, 20], [], [], Fct.val 49 (.bool x109)⟩, ⟨[21], [], [], Fct.val 0 (.bool x109)⟩] hz101 hd101 (by kernel_rfl) ?_ ?_
  · refine sc (fun _ _ _ _ s _ => px (or_move (s.1.trans e101_5))) ?_
    refine sc (fun _ _ _ f _ _ => px (or_eql f.1 rfl rfl)) ?_
    refine sc (fun _ _ _ f _ _ => px (or_move f.1)) ?_
    refine sc (fun _ _ _ f s _ => sg_t rfl rfl rfl f.1 (fun hg => or_move (s.1.trans e101_7))) ?_
    refine sc (fun _ _ _ f _ _ => sg_t rfl rfl rfl f.1 (fun hg => or_eql (f.2.1.1 hg) rfl rfl)) ?_
    refine sc (fun _ _ _ f _ _ => px (or_and f.1 (fun hx => f.2.1.1 hx) rfl (osome hx102).symm)) ?_
    refine sc (fun _ _ _ f _ _ => px (or_move f.1)) ?_
    refine sc (fun _ _ _ f s _ => sg_t rfl rfl rfl f.1 (fun hg => or_move (s.1.trans e101_4))) ?_
    refine sc (fun _ _ _ f _ _ => sg_t rfl rfl rfl f.1 (fun hg => or_lit (lab := 104) (e := 3) (cs := #[.int .i64 0, .int .i64 0, .int .i64 1, .int .i64 0]) (F := E3) (or_new [] rfl rfl trivial (by kernel_rfl)) rfl rfl (show 4 ≤ maxLen by decide))) ?_
    refine sc (fun own a wx hf hsl hE => ?_) ?_
    · obtain ⟨f_34, c_35, c_36, -⟩ := hf
      refine sg_t rfl rfl rfl f_34 (fun hg => ?_)
      have f_35 := c_35.1 hg
      obtain ⟨⟨A103, cA103⟩, f_36, b_A103⟩ := c_36.1 hg
      exact or_call cf20 (args2 f_35 f_36) (law04_Ints_w _ r76.1 A77 cA77 [0, 0, 1, 0] A103 cA103 (RdO.zero (RwO.rd (re_ hE b101_A77))) (RdO.zero (RwO.rd b_A103)) r105 (gd_t hr105 hg)) post_val
    refine sc (fun _ _ _ f _ _ => px (or_and f.1 (fun hx => f.2.1.1 hx) rfl rfl)) ?_
    refine sc (fun _ _ _ f _ _ => px (or_move f.1)) ?_
    refine sc (fun _ _ _ f s _ => sg_t rfl rfl rfl f.1 (fun hg => or_move (s.1.trans e101_6))) ?_
    refine sc (fun _ _ _ f _ _ => sg_t rfl rfl rfl f.1 (fun hg => or_lit (lab := 107) (e := 3) (cs := #[.int .i64 1, .int .i64 1, .int .i64 0, .int .i64 0]) (F := E3) (or_new [] rfl rfl trivial (by kernel_rfl)) rfl rfl (show 4 ≤ maxLen by decide))) ?_
    refine sc (fun own a wx hf hsl hE => ?_) ?_
    · obtain ⟨f_39, c_40, c_41, -⟩ := hf
      refine sg_t rfl rfl rfl f_39 (fun hg => ?_)
      have f_40 := c_40.1 hg
      obtain ⟨⟨A106, cA106⟩, f_41, b_A106⟩ := c_41.1 hg
      exact or_call cf20 (args2 f_40 f_41) (law04_Ints_w _ r93.1 A94 cA94 [1, 1, 0, 0] A106 cA106 (RdO.zero (RwO.rd (re_ hE b101_A94))) (RdO.zero (RwO.rd b_A106)) r108 (gd_t hr108 hg)) post_val
    refine sc (fun _ _ _ f _ _ => px (or_and f.1 (fun hx => f.2.1.1 hx) rfl rfl)) ?_
    refine sc (fun _ _ _ f _ _ => px (or_move f.1)) ?_
    refine sc (fun _ _ _ f s _ => sg_t rfl rfl rfl f.1 (fun hg => or_field fo43_0 (s.1.trans e101_3) (by rfl))) ?_
    refine sc (fun _ _ _ f _ hE => sg_t rfl rfl rfl f.1 (fun hg => or_load1 to34 (f.2.1.1 hg) (Blk.at_ (be_ hE b101_g69).2 0 rfl))) ?_
    refine sc (fun _ _ _ f _ _ => sg_t rfl rfl rfl f.1 (fun hg => or_len tu34 (f.2.1.1 hg) rfl)) ?_
    refine sc (fun _ _ _ f _ _ => sg_t rfl rfl rfl f.1 (fun hg => or_eql (f.2.1.1 hg) rfl rfl)) ?_
    refine sc (fun _ _ _ f _ _ => px (or_and f.1 (fun hx => f.2.1.1 hx) rfl (osome hx109).symm)) ?_
    refine sc (fun _ _ _ f _ _ => px (or_assign f.1)) ?_
    exact steps_nil
  intro own110 a110 w110 hd110 hz110 hk110 hf110 hE110
  obtain ⟨(e110_0 : a110.eval (.tmp 0) = .bool x109), -⟩ := hf110 [22] rfl
  have hX110 := es_ hX101 hE110
  refine fl_ret ?_
  obtain rfl := (osome hs).symm
  exact hret _ _ _ _ (.inl rfl) hd110 (results1_ rfl (RVal.tmp_ e110_0)) ⟨own110, rfl, hX110⟩
end Go.Proofs.Ytpbhdblkjabdlaa
