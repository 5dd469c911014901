import Derived.Test.YtoccfdohlefifaaWp3
import Derived.Test.YtoccfdohlefifaaSp4
namespace Go.Proofs.Ytoccfdohlefifaa
open Go.RowKit
set_option linter.unusedVariables false
set_option maxRecDepth 10000
theorem guard_Guard_Edges_w (w : World) (g1 : (((List ((Int × Int) × (Int × Int))) × (List ((Int × Int) × (List Int))) × (List Int))) × (List Int) × (List (Int × Int)) × (List ((Int × Int) × Bool)) × (List (((Int × Int) × (Int × Int)) × Bool))) (gg1 : Nat) (tg1 : TypeId) (gg1_0 : Nat) (tg1_0 : TypeId) (Ag1_0_0 : Option Addr) (cg1_0_0 : Nat) (mg1_0_1 : Nat) (Ag1_0_2 : Option Addr) (cg1_0_2 : Nat) (Ag1_1 : Option Addr) (cg1_1 : Nat) (Ag1_2 : Option Addr) (cg1_2 : Nat) (mg1_3 : Nat) (mg1_4 : Nat) (hgg1 : BlkO (fun _ => 0) 0 w gg1 tg1 #[.pointer (some ⟨gg1_0, 0, none⟩), .slice Ag1_1 g1.2.1.length cg1_1, .slice Ag1_2 g1.2.2.1.length cg1_2, .map (some mg1_3), .map (some mg1_4)]) (hAg1_1 : RdO (fun _ => 0) [0] w R3 Ag1_1 cg1_1 g1.2.1) (hAg1_2 : RdO (fun _ => 0) [0] w R25 Ag1_2 cg1_2 g1.2.2.1) (hmg1_3 : MpO (fun _ => 0) 0 w mg1_3 vv25 vv4 g1.2.2.2.1) (hmg1_4 : MpO (fun _ => 0) 0 w mg1_4 vv81 vv4 g1.2.2.2.2) (hgg1_0 : BlkO (fun _ => 0) 0 w gg1_0 tg1_0 #[.slice Ag1_0_0 g1.1.1.length cg1_0_0, .map (some mg1_0_1), .slice Ag1_0_2 g1.1.2.2.length cg1_0_2]) (hAg1_0_0 : RdO (fun _ => 0) [0] w R80 Ag1_0_0 cg1_0_0 g1.1.1) (hmg1_0_1 : MpN (fun _ => 0) 0 0 [0] w mg1_0_1 vv111 3 R3 g1.1.2.1) (hAg1_0_2 : RdO (fun _ => 0) [0] w R3 Ag1_0_2 cg1_0_2 g1.1.2.2) (r : Int) (hs : guard_Guard_Edges g1 = some r) :
    Calls Try.prog 22 #[.pointer (some ⟨gg1, 0, none⟩)] w fun e w' => ∃ own' : Own, e = .returned (.int .i64 r) ∧ Evo [] (fun _ => 0) own' w w' := by
  refine fl_enter (n := 10) rfl rfl rfl (Nat.le_of_ble_eq_true rfl) ?_
  intro a0 Q hd0 hz0 harg hret
  have ha0 := harg 0 _ rfl
  clear harg
  have hE0 : Evo [] (fun _ => 0) (fun _ => 0) w w := Evo.refl _ _ _
  refine rg0_seq 10 (fun _ => 0) (bz 1) [⟨[], [], [], Fct.val 2 (.int .i64 0)⟩] hz0 hd0 (by kernel_rfl) ?_ ?_
  · refine sc (fun _ _ _ _ _ _ => px (or_assign rfl)) ?_
    exact steps_nil
  intro own15 a15 w15 hd15 hz15 hk15 hf15 hE15
  have e15_0 := (hk15 0 rfl).trans ha0
  have hX15 := es_ hE0 hE15
  have b15_Ag1_0_0 := RdO.evo rfl hE15 hAg1_0_0
  have b15_mg1_0_1 := MpN.evo rfl hE15 hmg1_0_1
  have b15_Ag1_0_2 := RdO.evo rfl hE15 hAg1_0_2
  have b15_gg1_0 := be_ hE15 hgg1_0
  have b15_Ag1_1 := RdO.evo rfl hE15 hAg1_1
  have b15_Ag1_2 := RdO.evo rfl hE15 hAg1_2
  have b15_mg1_3 := MpO.evo (by decide) hE15 hmg1_3
  have b15_mg1_4 := MpO.evo (by decide) hE15 hmg1_4
  have b15_gg1 := be_ hE15 hgg1
  refine fl_seq (fun Q16 hn16 hp16 => ?_)
  refine rg0_seq 10 own15 (bz 2) [⟨[], [0], [], Fct.val 3 (.pointer (some ⟨gg1, 0, none⟩))⟩,     ⟨[0], [], [], Fct.val 4 (.bool false)⟩] hz15 hd15 (by kernel_rfl) ?_ ?_
  · refine sc (fun _ _ _ _ s _ => px (or_move (s.1.trans e15_0))) ?_
    refine sc (fun _ _ _ f _ _ => px (or_k [(3, .pointer (some ⟨gg1, 0, none⟩))] rfl rfl ⟨f.1, trivial⟩ (by kernel_rfl))) ?_
    exact steps_nil
  intro own17 a17 w17 hd17 hz17 hk17 hf17 hE17
  have e17_0 := (hk17 0 rfl).trans e15_0
  obtain ⟨(e17_4 : a17.eval (.tmp 4) = .bool false), -⟩ := hf17 [1] rfl
  have hX17 := es_ hX15 hE17
  have b17_Ag1_0_0 := RdO.evo rfl hE17 b15_Ag1_0_0
  have b17_mg1_0_1 := MpN.evo rfl hE17 b15_mg1_0_1
  have b17_Ag1_0_2 := RdO.evo rfl hE17 b15_Ag1_0_2
  have b17_gg1_0 := be_ hE17 b15_gg1_0
  have b17_Ag1_1 := RdO.evo rfl hE17 b15_Ag1_1
  have b17_Ag1_2 := RdO.evo rfl hE17 b15_Ag1_2
  have b17_mg1_3 := MpO.evo (by decide) hE17 b15_mg1_3
  have b17_mg1_4 := MpO.evo (by decide) hE17 b15_mg1_4
  have b17_gg1 := be_ hE17 b15_gg1
  refine fl_f e17_4 ?_
  refine fl_skip ?_
  refine hn16 _ _ ?_
  refine rg0_seq 10 own17 (bz 6) [⟨[], [0], [], Fct.val 5 (.pointer (some ⟨gg1, 0, none⟩))⟩,     ⟨[0], [], [], Fct.val 6 (.pointer (some ⟨gg1, 0, none⟩))⟩,     ⟨[1], [], [], Fct.val 7 (.pointer (some ⟨gg1, 4, none⟩))⟩,     ⟨[2], [], [], Fct.val 8 (.map (some mg1_4))⟩,     ⟨[3], [], [], Fct.val 9 (.int .i64 (g1.2.2.2.2.length : Int))⟩,     ⟨[4], [], [], Fct.val 2 (.int .i64 (g1.2.2.2.2.length : Int))⟩] hz17 hd17 (by kernel_rfl) ?_ ?_
  · refine sc (fun _ _ _ _ s _ => px (or_move (s.1.trans e17_0))) ?_
    refine sc (fun _ _ _ f _ _ => px (or_k [(5, .pointer (some ⟨gg1, 0, none⟩))] rfl rfl ⟨f.1, trivial⟩ (by kernel_rfl))) ?_
    refine sc (fun _ _ _ f _ _ => px (or_field fo77_4 f.1 (by rfl))) ?_
    refine sc (fun _ _ _ f _ hE => px (or_load1 to75 f.1 (Blk.at_ (be_ hE b17_gg1).2 4 rfl))) ?_
    refine sc (fun _ _ _ f _ hE => px (or_lenMap (kf := vv81) (vf := vv4) tm75 f.1 (MpO.evo (by decide) hE b17_mg1_4) rfl)) ?_
    refine sc (fun _ _ _ f _ _ => px (or_assign f.1)) ?_
    exact steps_nil
  intro own18 a18 w18 hd18 hz18 hk18 hf18 hE18
  obtain ⟨(e18_2 : a18.eval (.tmp 2) = .int .i64 (g1.2.2.2.2.length : Int)), -⟩ := hf18 [5] rfl
  have hX18 := es_ hX17 hE18
  refine fl_ret ?_
  obtain rfl := osome hs
  exact hret _ _ _ _ (.inl rfl) hd18 (results1_ rfl (RVal.tmp_ e18_2)) ⟨own18, rfl, hX18⟩
theorem law18_known_w (w : World) (r : Bool) (hs : law18_known = some r) :
    Calls Try.prog 11 #[] w fun e w' => ∃ own' : Own, e = .returned (.bool r) ∧ Evo [] (fun _ => 0) own' w w' := by
  refine fl_enter (n := 62) rfl rfl rfl (Nat.le_of_ble_eq_true rfl) ?_
  intro a0 Q hd0 hz0 harg hret
  clear harg
  have hE0 : Evo [] (fun _ => 0) (fun _ => 0) w w := Evo.refl _ _ _
  refine rg0_seq 62 (fun _ => 0) (bz 1) [⟨[], [], [], Fct.val 0 (.bool false)⟩] hz0 hd0 (by kernel_rfl) ?_ ?_
  · refine sc (fun _ _ _ _ _ _ => px (or_assign rfl)) ?_
    exact steps_nil
  intro own81 a81 w81 hd81 hz81 hk81 hf81 hE81
  have hX81 := es_ hE0 hE81
  refine rg_plain_seq (n := 62) (rs := []) (own0 := own81) (K := [85]) (bs := [0, 0, 0, 7, 15, 0, 63]) (ds := [⟨[], [], [], Fct.val 4 (.agg #[.int .i64 0, .int .i64 0])⟩,     ⟨[], [], [], Fct.val 5 (.agg #[.int .i64 2, .int .i64 1])⟩,     ⟨[], [], [], Fct.val 6 (.agg #[.int .i64 4, .int .i64 0])⟩,     ⟨[0, 1, 2], [], [], Fct.row 83 [] 7 25 R25 [(0, 0), (2, 1), (4, 0)]⟩,     ⟨[3], [], [], Fct.rel [8, 7] (fun l => ∀ (A82 : Option Addr) (cA82 : Nat), l.getD 1 undef = .slice A82 [(0, 0), (2, 1), (4, 0)].length cA82 → l.getD 0 undef = .agg #[.slice A82 [(0, 0), (2, 1), (4, 0)].length cA82, .int .i64 0, .int .i64 0])⟩,     ⟨[], [], [], Fct.blk 85 1 (fun g => .pointer (some ⟨g, 0, none⟩)) 63 #[.slice none 0 0, .int .i64 0, .int .i64 0]⟩,     ⟨[5, 4, 3], [], [85], Fct.by_ [86] [1, 7] (fun l own w => ∃ g84 : Nat, l.getD 0 undef = .pointer (some ⟨g84, 0, none⟩) ∧ (∀ (A82 : Option Addr) (cA82 : Nat), l.getD 1 undef = .slice A82 [(0, 0), (2, 1), (4, 0)].length cA82 → BlkO own 86 w g84 63 #[.slice A82 [(0, 0), (2, 1), (4, 0)].length cA82, .int .i64 0, .int .i64 0])) (fun hk he h => by obtain ⟨g, e, h⟩ := h; exact ⟨g, e, fun _ _ h0' => BlkO.evo (not_hit hk (by decide)) he (h _ _ h0')⟩)⟩]) (by kernel_rfl) hz81 hd81 nm_ ?_ ?_
  · refine sc (fun _ _ _ _ _ _ => px (or_k [] rfl rfl trivial (by kernel_rfl))) ?_
    refine sc (fun _ _ _ _ _ _ => px (or_k [] rfl rfl trivial (by kernel_rfl))) ?_
    refine sc (fun _ _ _ _ _ _ => px (or_k [] rfl rfl trivial (by kernel_rfl))) ?_
    refine sc (fun _ _ _ f _ _ => px (or_lit (lab := 83) (e := 25) (cs := #[.int .i64 0, .int .i64 0, .int .i64 2, .int .i64 1, .int .i64 4, .int .i64 0]) (F := E25) (or_new [(4, .agg #[.int .i64 0, .int .i64 0]), (5, .agg #[.int .i64 2, .int .i64 1]), (6, .agg #[.int .i64 4, .int .i64 0])] rfl rfl ⟨f.1, f.2.1, f.2.2.1, trivial⟩ (by kernel_rfl)) rfl rfl (show 3 ≤ maxLen by decide))) ?_
    refine sc (fun own a wx hf hsl hE => ?_) ?_
    · obtain ⟨⟨⟨A82, cA82⟩, (f_7 : a.eval (.tmp 7) = .slice A82 [(0, 0), (2, 1), (4, 0)].length cA82), b_A82⟩, -⟩ := hf
      exact px (or_mono (f := Fct.val 8 (.agg #[.slice A82 [(0, 0), (2, 1), (4, 0)].length cA82, .int .i64 0, .int .i64 0])) (or_k [(7, .slice A82 [(0, 0), (2, 1), (4, 0)].length cA82)] rfl rfl ⟨f_7, trivial⟩ (by kernel_rfl)) (fun own' a' w' v' hp h => fun _ _ h0' => by cases (f_7.symm.trans ((hp.2 7 (by decide)).symm.trans h0')); exact h))
    refine sc (fun _ _ _ _ _ _ => px (or_new [] rfl rfl trivial (by kernel_rfl))) ?_
    refine sc (fun own a wx hf hsl hE => ?_) ?_
    · obtain ⟨⟨g84, f_1, b_g84⟩, (q_8 : ∀ (A82 : Option Addr) (cA82 : Nat), a.eval (.tmp 7) = .slice A82 [(0, 0), (2, 1), (4, 0)].length cA82 → a.eval (.tmp 8) = .agg #[.slice A82 [(0, 0), (2, 1), (4, 0)].length cA82, .int .i64 0, .int .i64 0]), ⟨⟨A82, cA82⟩, (f_7 : a.eval (.tmp 7) = .slice A82 [(0, 0), (2, 1), (4, 0)].length cA82), b_A82⟩, -⟩ := hf
      have f_8 := q_8 _ _ f_7
      exact px (or_store (l := #[.slice A82 [(0, 0), (2, 1), (4, 0)].length cA82, .int .i64 0, .int .i64 0]) (lab := 85) (lab2 := 86) ts63 f_1 f_8 b_g84 (by simp) (by kernel_rfl) (mem_of rfl) (by decide) (by kernel_rfl) (fun own' a' w' ha hb => ⟨_, (ha 1).trans f_1, fun _ _ h0' => by cases (f_7.symm.trans ((ha 7).symm.trans h0')); exact hb⟩))
    exact steps_nil
  intro own87 a87 w87 hd87 hz87 hk87 hf87 hE87
  obtain ⟨⟨⟨A82, cA82⟩, (f_7 : a87.eval (.tmp 7) = .slice A82 [(0, 0), (2, 1), (4, 0)].length cA82), (b87_A82 : RwO own87 83 [] w87 25 R25 A82 cA82 [(0, 0), (2, 1), (4, 0)])⟩, ⟨g84, (e87_1 : a87.eval (.tmp 1) = .pointer (some ⟨g84, 0, none⟩)), (bq_g84 : ∀ (A82 : Option Addr) (cA82 : Nat), a87.eval (.tmp 7) = .slice A82 [(0, 0), (2, 1), (4, 0)].length cA82 → BlkO own87 86 w87 g84 63 #[.slice A82 [(0, 0), (2, 1), (4, 0)].length cA82, .int .i64 0, .int .i64 0])⟩, -⟩ := hf87 [3, 6] rfl
  have b87_g84 := bq_g84 _ _ f_7
  have hX87 := es_ hX81 hE87
  obtain ⟨r90, hr90, hs⟩ := obind hs
  refine rg0_seq 62 own87 (bz 4) [⟨[], [1], [], Fct.val 9 (.agg #[.slice A82 [(0, 0), (2, 1), (4, 0)].length cA82, .int .i64 0, .int .i64 0])⟩,     ⟨[0], [], [], Fct.row 89 [83] 10 63 R63 [([(0, 0), (2, 1), (4, 0)], 0, 0)]⟩,     ⟨[1], [], [], Fct.mems [100, 101, 102, 103, 104, 105, 106, 107, 108, 109] 11 (fun (x : (Option Addr × Nat) × (Option Addr × Nat) × (Option Addr × Nat) × (Option Addr × Nat) × (Option Addr × Nat) × (Option Addr × Nat) × (Option Addr × Nat) × (Option Addr × Nat) × (Option Addr × Nat)) => .pointer (some ⟨x.1.2, 0, none⟩)) (fun (x : (Option Addr × Nat) × (Option Addr × Nat) × (Option Addr × Nat) × (Option Addr × Nat) × (Option Addr × Nat) × (Option Addr × Nat) × (Option Addr × Nat) × (Option Addr × Nat) × (Option Addr × Nat)) own w => RwO own 100 [] w 80 R80 x.2.2.1.1 x.2.2.1.2 r90.1.1 ∧ MpN own 101 102 [] w x.2.2.2.1.2 vv111 3 R3 r90.1.2.1 ∧ RwO own 103 [] w 3 R3 x.2.2.2.2.1.1 x.2.2.2.2.1.2 r90.1.2.2 ∧ BlkO own 104 w x.2.1.2 106 #[.slice x.2.2.1.1 r90.1.1.length x.2.2.1.2, .map (some x.2.2.2.1.2), .slice x.2.2.2.2.1.1 r90.1.2.2.length x.2.2.2.2.1.2] ∧ RwO own 105 [] w 3 R3 x.2.2.2.2.2.1.1 x.2.2.2.2.2.1.2 r90.2.1 ∧ RwO own 106 [] w 25 R25 x.2.2.2.2.2.2.1.1 x.2.2.2.2.2.2.1.2 r90.2.2.1 ∧ MpO own 107 w x.2.2.2.2.2.2.2.1.2 vv25 vv4 r90.2.2.2.1 ∧ MpO own 108 w x.2.2.2.2.2.2.2.2.2 vv81 vv4 r90.2.2.2.2 ∧ BlkO own 109 w x.1.2 77 #[.pointer (some ⟨x.2.1.2, 0, none⟩), .slice x.2.2.2.2.2.1.1 r90.2.1.length x.2.2.2.2.2.1.2, .slice x.2.2.2.2.2.2.1.1 r90.2.2.1.length x.2.2.2.2.2.2.1.2, .map (some x.2.2.2.2.2.2.2.1.2), .map (some x.2.2.2.2.2.2.2.2.2)]) (fun hk he h => ⟨RwO.evo (hits_sub hk (by decide)) he h.1, MpN.evo (hits_sub hk (by decide)) he h.2.1, RwO.evo (hits_sub hk (by decide)) he h.2.2.1, BlkO.evo (not_hit hk (by decide)) he h.2.2.2.1, RwO.evo (hits_sub hk (by decide)) he h.2.2.2.2.1, RwO.evo (hits_sub hk (by decide)) he h.2.2.2.2.2.1, MpO.evo (not_hit hk (by decide)) he h.2.2.2.2.2.2.1, MpO.evo (not_hit hk (by decide)) he h.2.2.2.2.2.2.2.1, BlkO.evo (not_hit hk (by decide)) he h.2.2.2.2.2.2.2.2⟩)⟩,     ⟨[2], [], [], Fct.rel [2, 11] (fun l => ∀ (cA91 : Nat), l.getD 1 undef = .pointer (some ⟨cA91, 0, none⟩) → l.getD 0 undef = .pointer (some ⟨cA91, 0, none⟩))⟩] hz87 hd87 (by kernel_rfl) ?_ ?_
  · refine sc (fun _ _ _ _ s hE => px (or_load (l := [.slice A82 [(0, 0), (2, 1), (4, 0)].length cA82, .int .i64 0, .int .i64 0]) ta63 (s.1.trans e87_1) (Blk.cellsFrom (be_ hE b87_g84).2 0 rfl) rfl)) ?_
    refine sc (fun _ _ _ f _ hE => px (or_litN (R := R63) (lab := 89) (L := [83]) (e := 63) (cs := #[.slice A82 [(0, 0), (2, 1), (4, 0)].length cA82, .int .i64 0, .int .i64 0]) (l := [([(0, 0), (2, 1), (4, 0)], 0, 0)]) (n := 1) [(9, .agg #[.slice A82 [(0, 0), (2, 1), (4, 0)].length cA82, .int .i64 0, .int .i64 0])] rfl rfl ⟨f.1, trivial⟩ (by kernel_rfl) rfl (by decide) ⟨(Ex.iff X63).2 ⟨((A82, cA82), (), ()), rfl, ⟨(RwO.rd (re_ hE b87_A82)), trivial, trivial⟩⟩, rfl⟩ rfl)) ?_
    refine sc (fun own a wx hf hsl hE => ?_) ?_
    · obtain ⟨⟨⟨A88, cA88⟩, f_10, b_A88⟩, -⟩ := hf
      exact px (or_call cf7 (args2 rfl f_10) (guard_New_w _ ([] : List Int) none 0 [([(0, 0), (2, 1), (4, 0)], 0, 0)] A88 cA88 RdO.nil_ (RdO.zero (RwO.rd b_A88)) r90 hr90) (post_mems (m := (fun _ => 0)) (m' := (look0 [(1, 109), (2, 104), (3, 100), (4, 101), (5, 102), (6, 103), (7, 105), (8, 106), (9, 107), (10, 108)])) (fun _ _ => .inl rfl) (fun own' w' a' x h1 h => ⟨x, h1, ⟨RwO.back_ h.1 (by decide) (.inl (Rep.fl_flat _)), MpN.back_ h.2.1 (by decide) (by decide) (.inl (Rep.fl_flat _)), RwO.back_ h.2.2.1 (by decide) (.inl (Rep.fl_flat _)), BlkO.back_ h.2.2.2.1 (by decide), RwO.back_ h.2.2.2.2.1 (by decide) (.inl (Rep.fl_flat _)), RwO.back_ h.2.2.2.2.2.1 (by decide) (.inl (Rep.fl_flat _)), MpO.back_ h.2.2.2.2.2.2.1 (by decide), MpO.back_ h.2.2.2.2.2.2.2.1 (by decide), BlkO.back_ h.2.2.2.2.2.2.2.2 (by decide)⟩⟩)))
    refine sc (fun own a wx hf hsl hE => ?_) ?_
    · obtain ⟨⟨⟨⟨A91, cA91⟩, ⟨A92, cA92⟩, ⟨A93, cA93⟩, ⟨A94, cA94⟩, ⟨A95, cA95⟩, ⟨A96, cA96⟩, ⟨A97, cA97⟩, ⟨A98, cA98⟩, ⟨A99, cA99⟩⟩, (f_11 : a.eval (.tmp 11) = .pointer (some ⟨cA91, 0, none⟩)), b_A93, b_cA94, b_A95, b_cA92, b_A96, b_A97, b_cA98, b_cA99, b_cA91⟩, -⟩ := hf
      exact px (or_mono (f := Fct.val 2 (.pointer (some ⟨cA91, 0, none⟩))) (or_assign f_11) (fun own' a' w' v' hp h => fun _ h0' => by cases (f_11.symm.trans ((hp.2 11 (by decide)).symm.trans h0')); exact h))
    exact steps_nil
  intro own110 a110 w110 hd110 hz110 hk110 hf110 hE110
  have e110_1 := (hk110 1 rfl).trans e87_1
  obtain ⟨⟨⟨⟨A91, cA91⟩, ⟨A92, cA92⟩, ⟨A93, cA93⟩, ⟨A94, cA94⟩, ⟨A95, cA95⟩, ⟨A96, cA96⟩, ⟨A97, cA97⟩, ⟨A98, cA98⟩, ⟨A99, cA99⟩⟩, (f_11 : a110.eval (.tmp 11) = .pointer (some ⟨cA91, 0, none⟩)), (b110_A93 : RwO own110 100 [] w110 80 R80 A93 cA93 r90.1.1), (b110_cA94 : MpN own110 101 102 [] w110 cA94 vv111 3 R3 r90.1.2.1), (b110_A95 : RwO own110 103 [] w110 3 R3 A95 cA95 r90.1.2.2), (b110_cA92 : BlkO own110 104 w110 cA92 106 #[.slice A93 r90.1.1.length cA93, .map (some cA94), .slice A95 r90.1.2.2.length cA95]), (b110_A96 : RwO own110 105 [] w110 3 R3 A96 cA96 r90.2.1), (b110_A97 : RwO own110 106 [] w110 25 R25 A97 cA97 r90.2.2.1), (b110_cA98 : MpO own110 107 w110 cA98 vv25 vv4 r90.2.2.2.1), (b110_cA99 : MpO own110 108 w110 cA99 vv81 vv4 r90.2.2.2.2), (b110_cA91 : BlkO own110 109 w110 cA91 77 #[.pointer (some ⟨cA92, 0, none⟩), .slice A96 r90.2.1.length cA96, .slice A97 r90.2.2.1.length cA97, .map (some cA98), .map (some cA99)])⟩, (q_2 : ∀ (cA91 : Nat), a110.eval (.tmp 11) = .pointer (some ⟨cA91, 0, none⟩) → a110.eval (.tmp 2) = .pointer (some ⟨cA91, 0, none⟩)), -⟩ := hf110 [2, 3] rfl
  have e110_2 := q_2 _ f_11
  have hX110 := es_ hX87 hE110
  have b110_A82 := re_ hE110 b87_A82
  have b110_g84 := be_ hE110 b87_g84
  obtain ⟨r115, hr115, hs⟩ := obind hs
  refine rg0_seq 62 own110 [0, 0, 0, 6, 14, 31, 63, 127] [⟨[], [1], [], Fct.val 12 (.agg #[.slice A82 [(0, 0), (2, 1), (4, 0)].length cA82, .int .i64 0, .int .i64 0])⟩,     ⟨[], [], [], Fct.val 13 (.agg #[.int .i64 2, .int .i64 0])⟩,     ⟨[], [], [], Fct.val 14 (.agg #[.int .i64 2, .int .i64 (-5)])⟩,     ⟨[1, 2], [], [], Fct.row 112 [] 15 25 R25 [(2, 0), (2, (-5))]⟩,     ⟨[3], [], [], Fct.rel [16, 15] (fun l => ∀ (A111 : Option Addr) (cA111 : Nat), l.getD 1 undef = .slice A111 [(2, 0), (2, (-5))].length cA111 → l.getD 0 undef = .agg #[.slice A111 [(2, 0), (2, (-5))].length cA111, .int .i64 0, .int .i64 0])⟩,     ⟨[0, 4, 3], [], [], Fct.row 114 [83, 112] 17 63 R63 [([(0, 0), (2, 1), (4, 0)], 0, 0), ([(2, 0), (2, (-5))], 0, 0)]⟩,     ⟨[5], [], [], Fct.mems [125, 126, 127, 128, 129, 130, 131, 132, 133, 134] 18 (fun (x : (Option Addr × Nat) × (Option Addr × Nat) × (Option Addr × Nat) × (Option Addr × Nat) × (Option Addr × Nat) × (Option Addr × Nat) × (Option Addr × Nat) × (Option Addr × Nat) × (Option Addr × Nat)) => .pointer (some ⟨x.1.2, 0, none⟩)) (fun (x : (Option Addr × Nat) × (Option Addr × Nat) × (Option Addr × Nat) × (Option Addr × Nat) × (Option Addr × Nat) × (Option Addr × Nat) × (Option Addr × Nat) × (Option Addr × Nat) × (Option Addr × Nat)) own w => RwO own 125 [] w 80 R80 x.2.2.1.1 x.2.2.1.2 r115.1.1 ∧ MpN own 126 127 [] w x.2.2.2.1.2 vv111 3 R3 r115.1.2.1 ∧ RwO own 128 [] w 3 R3 x.2.2.2.2.1.1 x.2.2.2.2.1.2 r115.1.2.2 ∧ BlkO own 129 w x.2.1.2 106 #[.slice x.2.2.1.1 r115.1.1.length x.2.2.1.2, .map (some x.2.2.2.1.2), .slice x.2.2.2.2.1.1 r115.1.2.2.length x.2.2.2.2.1.2] ∧ RwO own 130 [] w 3 R3 x.2.2.2.2.2.1.1 x.2.2.2.2.2.1.2 r115.2.1 ∧ RwO own 131 [] w 25 R25 x.2.2.2.2.2.2.1.1 x.2.2.2.2.2.2.1.2 r115.2.2.1 ∧ MpO own 132 w x.2.2.2.2.2.2.2.1.2 vv25 vv4 r115.2.2.2.1 ∧ MpO own 133 w x.2.2.2.2.2.2.2.2.2 vv81 vv4 r115.2.2.2.2 ∧ BlkO own 134 w x.1.2 77 #[.pointer (some ⟨x.2.1.2, 0, none⟩), .slice x.2.2.2.2.2.1.1 r115.2.1.length x.2.2.2.2.2.1.2, .slice x.2.2.2.2.2.2.1.1 r115.2.2.1.length x.2.2.2.2.2.2.1.2, .map (some x.2.2.2.2.2.2.2.1.2), .map (some x.2.2.2.2.2.2.2.2.2)]) (fun hk he h => ⟨RwO.evo (hits_sub hk (by decide)) he h.1, MpN.evo (hits_sub hk (by decide)) he h.2.1, RwO.evo (hits_sub hk (by decide)) he h.2.2.1, BlkO.evo (not_hit hk (by decide)) he h.2.2.2.1, RwO.evo (hits_sub hk (by decide)) he h.2.2.2.2.1, RwO.evo (hits_sub hk (by decide)) he h.2.2.2.2.2.1, MpO.evo (not_hit hk (by decide)) he h.2.2.2.2.2.2.1, MpO.evo (not_hit hk (by decide)) he h.2.2.2.2.2.2.2.1, BlkO.evo (not_hit hk (by decide)) he h.2.2.2.2.2.2.2.2⟩)⟩,     ⟨[6], [], [], Fct.rel [3, 18] (fun l => ∀ (cA116 : Nat), l.getD 1 undef = .pointer (some ⟨cA116, 0, none⟩) → l.getD 0 undef = .pointer (some ⟨cA116, 0, none⟩))⟩] hz110 hd110 (by kernel_rfl) ?_ ?_
  · refine sc (fun _ _ _ _ s hE => px (or_load (l := [.slice A82 [(0, 0), (2, 1), (4, 0)].length cA82, .int .i64 0, .int .i64 0]) ta63 (s.1.trans e110_1) (Blk.cellsFrom (be_ hE b110_g84).2 0 rfl) rfl)) ?_
    refine sc (fun _ _ _ _ _ _ => px (or_k [] rfl rfl trivial (by kernel_rfl))) ?_
    refine sc (fun _ _ _ _ _ _ => px (or_k [] rfl rfl trivial (by kernel_rfl))) ?_
    refine sc (fun _ _ _ f _ _ => px (or_lit (lab := 112) (e := 25) (cs := #[.int .i64 2, .int .i64 0, .int .i64 2, .int .i64 (-5)]) (F := E25) (or_new [(13, .agg #[.int .i64 2, .int .i64 0]), (14, .agg #[.int .i64 2, .int .i64 (-5)])] rfl rfl ⟨f.1, f.2.1, trivial⟩ (by kernel_rfl)) rfl rfl (show 2 ≤ maxLen by decide))) ?_
    refine sc (fun own a wx hf hsl hE => ?_) ?_
    · obtain ⟨⟨⟨A111, cA111⟩, (f_15 : a.eval (.tmp 15) = .slice A111 [(2, 0), (2, (-5))].length cA111), b_A111⟩, -⟩ := hf
      exact px (or_mono (f := Fct.val 16 (.agg #[.slice A111 [(2, 0), (2, (-5))].length cA111, .int .i64 0, .int .i64 0])) (or_k [(15, .slice A111 [(2, 0), (2, (-5))].length cA111)] rfl rfl ⟨f_15, trivial⟩ (by kernel_rfl)) (fun own' a' w' v' hp h => fun _ _ h0' => by cases (f_15.symm.trans ((hp.2 15 (by decide)).symm.trans h0')); exact h))
    refine sc (fun own a wx hf hsl hE => ?_) ?_
    · obtain ⟨f_12, (q_16 : ∀ (A111 : Option Addr) (cA111 : Nat), a.eval (.tmp 15) = .slice A111 [(2, 0), (2, (-5))].length cA111 → a.eval (.tmp 16) = .agg #[.slice A111 [(2, 0), (2, (-5))].length cA111, .int .i64 0, .int .i64 0]), ⟨⟨A111, cA111⟩, f_15, b_A111⟩, -⟩ := hf
      have f_16 := q_16 _ _ f_15
      exact px (or_litN (R := R63) (lab := 114) (L := [83, 112]) (e := 63) (cs := #[.slice A82 [(0, 0), (2, 1), (4, 0)].length cA82, .int .i64 0, .int .i64 0, .slice A111 [(2, 0), (2, (-5))].length cA111, .int .i64 0, .int .i64 0]) (l := [([(0, 0), (2, 1), (4, 0)], 0, 0), ([(2, 0), (2, (-5))], 0, 0)]) (n := 2) [(12, .agg #[.slice A82 [(0, 0), (2, 1), (4, 0)].length cA82, .int .i64 0, .int .i64 0]), (16, .agg #[.slice A111 [(2, 0), (2, (-5))].length cA111, .int .i64 0, .int .i64 0])] rfl rfl ⟨f_12, f_16, trivial⟩ (by kernel_rfl) rfl (by decide) ⟨(Ex.iff X63).2 ⟨((A82, cA82), (), ()), rfl, ⟨(RdO.more (RwO.rd (re_ hE b110_A82)) (by decide)), trivial, trivial⟩⟩, ⟨(Ex.iff X63).2 ⟨((A111, cA111), (), ()), rfl, ⟨(RdO.more (RwO.rd b_A111) (by decide)), trivial, trivial⟩⟩, rfl⟩⟩ rfl)
    refine sc (fun own a wx hf hsl hE => ?_) ?_
    · obtain ⟨⟨⟨A113, cA113⟩, f_17, b_A113⟩, -⟩ := hf
      exact px (or_call cf7 (args2 rfl f_17) (guard_New_w _ ([] : List Int) none 0 [([(0, 0), (2, 1), (4, 0)], 0, 0), ([(2, 0), (2, (-5))], 0, 0)] A113 cA113 RdO.nil_ (RdO.zero (RwO.rd b_A113)) r115 hr115) (post_mems (m := (fun _ => 0)) (m' := (look0 [(1, 134), (2, 129), (3, 125), (4, 126), (5, 127), (6, 128), (7, 130), (8, 131), (9, 132), (10, 133)])) (fun _ _ => .inl rfl) (fun own' w' a' x h1 h => ⟨x, h1, ⟨RwO.back_ h.1 (by decide) (.inl (Rep.fl_flat _)), MpN.back_ h.2.1 (by decide) (by decide) (.inl (Rep.fl_flat _)), RwO.back_ h.2.2.1 (by decide) (.inl (Rep.fl_flat _)), BlkO.back_ h.2.2.2.1 (by decide), RwO.back_ h.2.2.2.2.1 (by decide) (.inl (Rep.fl_flat _)), RwO.back_ h.2.2.2.2.2.1 (by decide) (.inl (Rep.fl_flat _)), MpO.back_ h.2.2.2.2.2.2.1 (by decide), MpO.back_ h.2.2.2.2.2.2.2.1 (by decide), BlkO.back_ h.2.2.2.2.2.2.2.2 (by decide)⟩⟩)))
    refine sc (fun own a wx hf hsl hE => ?_) ?_
    · obtain ⟨⟨⟨⟨A116, cA116⟩, ⟨A117, cA117⟩, ⟨A118, cA118⟩, ⟨A119, cA119⟩, ⟨A120, cA120⟩, ⟨A121, cA121⟩, ⟨A122, cA122⟩, ⟨A123, cA123⟩, ⟨A124, cA124⟩⟩, (f_18 : a.eval (.tmp 18) = .pointer (some ⟨cA116, 0, none⟩)), b_A118, b_cA119, b_A120, b_cA117, b_A121, b_A122, b_cA123, b_cA124, b_cA116⟩, -⟩ := hf
      exact px (or_mono (f := Fct.val 3 (.pointer (some ⟨cA116, 0, none⟩))) (or_assign f_18) (fun own' a' w' v' hp h => fun _ h0' => by cases (f_18.symm.trans ((hp.2 18 (by decide)).symm.trans h0')); exact h))
    exact steps_nil
  intro own135 a135 w135 hd135 hz135 hk135 hf135 hE135
  have e135_1 := (hk135 1 rfl).trans e110_1
  have e135_2 := (hk135 2 rfl).trans e110_2
  obtain ⟨⟨⟨⟨A116, cA116⟩, ⟨A117, cA117⟩, ⟨A118, cA118⟩, ⟨A119, cA119⟩, ⟨A120, cA120⟩, ⟨A121, cA121⟩, ⟨A122, cA122⟩, ⟨A123, cA123⟩, ⟨A124, cA124⟩⟩, (f_18 : a135.eval (.tmp 18) = .pointer (some ⟨cA116, 0, none⟩)), (b135_A118 : RwO own135 125 [] w135 80 R80 A118 cA118 r115.1.1), (b135_cA119 : MpN own135 126 127 [] w135 cA119 vv111 3 R3 r115.1.2.1), (b135_A120 : RwO own135 128 [] w135 3 R3 A120 cA120 r115.1.2.2), (b135_cA117 : BlkO own135 129 w135 cA117 106 #[.slice A118 r115.1.1.length cA118, .map (some cA119), .slice A120 r115.1.2.2.length cA120]), (b135_A121 : RwO own135 130 [] w135 3 R3 A121 cA121 r115.2.1), (b135_A122 : RwO own135 131 [] w135 25 R25 A122 cA122 r115.2.2.1), (b135_cA123 : MpO own135 132 w135 cA123 vv25 vv4 r115.2.2.2.1), (b135_cA124 : MpO own135 133 w135 cA124 vv81 vv4 r115.2.2.2.2), (b135_cA116 : BlkO own135 134 w135 cA116 77 #[.pointer (some ⟨cA117, 0, none⟩), .slice A121 r115.2.1.length cA121, .slice A122 r115.2.2.1.length cA122, .map (some cA123), .map (some cA124)])⟩, (q_3 : ∀ (cA116 : Nat), a135.eval (.tmp 18) = .pointer (some ⟨cA116, 0, none⟩) → a135.eval (.tmp 3) = .pointer (some ⟨cA116, 0, none⟩)), -⟩ := hf135 [6, 7] rfl
  have e135_3 := q_3 _ f_18
  have hX135 := es_ hX110 hE135
  have b135_A82 := re_ hE135 b110_A82
  have b135_g84 := be_ hE135 b110_g84
  have b135_A93 := re_ hE135 b110_A93
  have b135_cA94 := MpN.evo rfl hE135 b110_cA94
  have b135_A95 := re_ hE135 b110_A95
  have b135_cA92 := be_ hE135 b110_cA92
  have b135_A96 := re_ hE135 b110_A96
  have b135_A97 := re_ hE135 b110_A97
  have b135_cA98 := MpO.evo (by decide) hE135 b110_cA98
  have b135_cA99 := MpO.evo (by decide) hE135 b110_cA99
  have b135_cA91 := be_ hE135 b110_cA91
  refine fl_seq (fun Q136 hn136 hp136 => ?_)
  refine rg0_seq 62 own135 (bz 6) [⟨[], [2], [], Fct.val 19 (.pointer (some ⟨cA91, 0, none⟩))⟩,     ⟨[0], [], [], Fct.val 20 (.bool false)⟩,     ⟨[1], [], [], Fct.val 21 (.bool false)⟩,     ⟨[2], [3], [], Fct.cond (!false) (some 22) (Fct.val 22 (.pointer (some ⟨cA116, 0, none⟩)))⟩,     ⟨[2, 3], [], [], Fct.cond (!false) (some 23) (Fct.val 23 (.bool false))⟩,     ⟨[2, 4], [], [], Fct.val 24 (.bool (false || false))⟩] hz135 hd135 (by kernel_rfl) ?_ ?_
  · refine sc (fun _ _ _ _ s _ => px (or_move (s.1.trans e135_2))) ?_
    refine sc (fun _ _ _ f _ _ => px (or_k [(19, .pointer (some ⟨cA91, 0, none⟩))] rfl rfl ⟨f.1, trivial⟩ (by kernel_rfl))) ?_
    refine sc (fun _ _ _ f _ _ => px (or_move f.1)) ?_
    refine sc (fun _ _ _ f s _ => sg_f rfl rfl rfl f.1 (fun hg => or_move (s.1.trans e135_3))) ?_
    refine sc (fun _ _ _ f _ _ => sg_f rfl rfl rfl f.1 (fun hg => or_k [(22, .pointer (some ⟨cA116, 0, none⟩))] rfl rfl ⟨(f.2.1.1 hg), trivial⟩ (by kernel_rfl))) ?_
    refine sc (fun _ _ _ f _ _ => px (or_or f.1 rfl (fun hx => f.2.1.1 hx) rfl)) ?_
    exact steps_nil
  intro own137 a137 w137 hd137 hz137 hk137 hf137 hE137
  have e137_1 := (hk137 1 rfl).trans e135_1
  have e137_2 := (hk137 2 rfl).trans e135_2
  have e137_3 := (hk137 3 rfl).trans e135_3
  obtain ⟨(e137_24 : a137.eval (.tmp 24) = .bool (false || false)), -⟩ := hf137 [5] rfl
  have hX137 := es_ hX135 hE137
  have b137_A82 := re_ hE137 b135_A82
  have b137_g84 := be_ hE137 b135_g84
  have b137_A93 := re_ hE137 b135_A93
  have b137_cA94 := MpN.evo rfl hE137 b135_cA94
  have b137_A95 := re_ hE137 b135_A95
  have b137_cA92 := be_ hE137 b135_cA92
  have b137_A96 := re_ hE137 b135_A96
  have b137_A97 := re_ hE137 b135_A97
  have b137_cA98 := MpO.evo (by decide) hE137 b135_cA98
  have b137_cA99 := MpO.evo (by decide) hE137 b135_cA99
  have b137_cA91 := be_ hE137 b135_cA91
  have b137_A118 := re_ hE137 b135_A118
  have b137_cA119 := MpN.evo rfl hE137 b135_cA119
  have b137_A120 := re_ hE137 b135_A120
  have b137_cA117 := be_ hE137 b135_cA117
  have b137_A121 := re_ hE137 b135_A121
  have b137_A122 := re_ hE137 b135_A122
  have b137_cA123 := MpO.evo (by decide) hE137 b135_cA123
  have b137_cA124 := MpO.evo (by decide) hE137 b135_cA124
  have b137_cA116 := be_ hE137 b135_cA116
  refine fl_cond e137_24 hs (fun c138 hs => ?_) (fun c138 hs => ?_)
  · refine rg0_seq 62 own137 (bz 1) [⟨[], [], [], Fct.val 0 (.bool false)⟩] hz137 hd137 (by kernel_rfl) ?_ ?_
    · refine sc (fun _ _ _ _ _ _ => px (or_assign rfl)) ?_
      exact steps_nil
    intro own139 a139 w139 hd139 hz139 hk139 hf139 hE139
    obtain ⟨(e139_0 : a139.eval (.tmp 0) = .bool false), -⟩ := hf139 [0] rfl
    have hX139 := es_ hX137 hE139
    refine fl_ret ?_
    refine hp136 _ _ _ rfl ?_
    obtain rfl := osome hs
    exact hret _ _ _ _ (.inl rfl) hd139 (results1_ rfl (RVal.tmp_ e139_0)) ⟨own139, rfl, hX139⟩
  refine fl_skip ?_
  refine hn136 _ _ ?_
  obtain ⟨x140, hx140, hs⟩ := obind hs
  obtain ⟨x141, hx141, hs⟩ := obind hs
  obtain ⟨x142, hx142, hs⟩ := obind hs
  obtain ⟨r143, hr143, hs⟩ := obind hs
  obtain ⟨x144, hx144, hs⟩ := obind hs
  obtain ⟨x145, hx145, hs⟩ := obind hs
  obtain ⟨x146, hx146, hs⟩ := obind hs
  obtain ⟨r147, hr147, hs⟩ := obind hs
  obtain ⟨x148, hx148, hs⟩ := obind hs
  obtain ⟨r149, hr149, hs⟩ := obind hs
  refine rg_draw_seq g_mixed (n := 62) (rs := []) (own0 := own137) (K := []) (bs := [0, 0, 2, 6, 14, 0, 32, 96, 224, 0, 512, 1536, 3584, 8191, 16383, 32767, 65535, 65535, 196607, 458751, 983039, 65535, 2162687, 6356991, 14745599, 65535, 33619967, 100728831, 234946559, 536870911, 1073741823, 2147483647, 4294967295, 8589934591, 17179869183, 34359738367, 68719476735, 137438953471]) (ds := [⟨[], [2], [], Fct.val 25 (.pointer (some ⟨cA91, 0, none⟩))⟩,     ⟨[], [1], [], Fct.val 26 (.pointer (some ⟨g84, 0, none⟩))⟩,     ⟨[1], [], [], Fct.val 27 (.slice A82 [(0, 0), (2, 1), (4, 0)].length cA82)⟩,     ⟨[2], [], [], Fct.val 28 (.pointer (some ((adr A82).add ((0 : Int).toNat * R25.s))))⟩,     ⟨[3], [], [], Fct.val 29 (.agg #[.int .i64 x140.1, .int .i64 x140.2])⟩,     ⟨[], [1], [], Fct.val 30 (.pointer (some ⟨g84, 0, none⟩))⟩,     ⟨[5], [], [], Fct.val 31 (.slice A82 [(0, 0), (2, 1), (4, 0)].length cA82)⟩,     ⟨[6], [], [], Fct.val 32 (.pointer (some ((adr A82).add ((1 : Int).toNat * R25.s))))⟩,     ⟨[7], [], [], Fct.val 33 (.agg #[.int .i64 x141.1, .int .i64 x141.2])⟩,     ⟨[], [1], [], Fct.val 34 (.pointer (some ⟨g84, 0, none⟩))⟩,     ⟨[9], [], [], Fct.val 35 (.slice A82 [(0, 0), (2, 1), (4, 0)].length cA82)⟩,     ⟨[10], [], [], Fct.val 36 (.pointer (some ((adr A82).add ((2 : Int).toNat * R25.s))))⟩,     ⟨[11], [], [], Fct.val 37 (.agg #[.int .i64 x142.1, .int .i64 x142.2])⟩,     ⟨[0, 4, 8, 12], [], [], Fct.val 38 (.int .i64 r143)⟩,     ⟨[13], [], [], Fct.val 39 (.bool (decide (r143 = 0)))⟩,     ⟨[14], [], [], Fct.val 40 (.bool (decide (r143 = 0)))⟩,     ⟨[15], [3], [], Fct.cond (decide (r143 = 0)) (some 41) (Fct.val 41 (.pointer (some ⟨cA116, 0, none⟩)))⟩,     ⟨[15], [1], [], Fct.cond (decide (r143 = 0)) (some 42) (Fct.val 42 (.pointer (some ⟨g84, 0, none⟩)))⟩,     ⟨[15, 17], [], [], Fct.cond (decide (r143 = 0)) (some 43) (Fct.val 43 (.slice A82 [(0, 0), (2, 1), (4, 0)].length cA82))⟩,     ⟨[15, 18], [], [], Fct.cond (decide (r143 = 0)) (some 44) (Fct.val 44 (.pointer (some ((adr A82).add ((0 : Int).toNat * R25.s)))))⟩,     ⟨[15, 19], [], [], Fct.cond (decide (r143 = 0)) (some 45) (Fct.val 45 (.agg #[.int .i64 x144.1, .int .i64 x144.2]))⟩,     ⟨[15], [1], [], Fct.cond (decide (r143 = 0)) (some 46) (Fct.val 46 (.pointer (some ⟨g84, 0, none⟩)))⟩,     ⟨[15, 21], [], [], Fct.cond (decide (r143 = 0)) (some 47) (Fct.val 47 (.slice A82 [(0, 0), (2, 1), (4, 0)].length cA82))⟩,     ⟨[15, 22], [], [], Fct.cond (decide (r143 = 0)) (some 48) (Fct.val 48 (.pointer (some ((adr A82).add ((1 : Int).toNat * R25.s)))))⟩,     ⟨[15, 23], [], [], Fct.cond (decide (r143 = 0)) (some 49) (Fct.val 49 (.agg #[.int .i64 x145.1, .int .i64 x145.2]))⟩,     ⟨[15], [1], [], Fct.cond (decide (r143 = 0)) (some 50) (Fct.val 50 (.pointer (some ⟨g84, 0, none⟩)))⟩,     ⟨[15, 25], [], [], Fct.cond (decide (r143 = 0)) (some 51) (Fct.val 51 (.slice A82 [(0, 0), (2, 1), (4, 0)].length cA82))⟩,     ⟨[15, 26], [], [], Fct.cond (decide (r143 = 0)) (some 52) (Fct.val 52 (.pointer (some ((adr A82).add ((2 : Int).toNat * R25.s)))))⟩,     ⟨[15, 27], [], [], Fct.cond (decide (r143 = 0)) (some 53) (Fct.val 53 (.agg #[.int .i64 x146.1, .int .i64 x146.2]))⟩,     ⟨[15, 16, 20, 24, 28], [], [], Fct.cond (decide (r143 = 0)) (some 54) (Fct.val 54 (.int .i64 r147))⟩,     ⟨[15, 29], [], [], Fct.cond (decide (r143 = 0)) (some 55) (Fct.val 55 (.bool (decide (r147 = 4))))⟩,     ⟨[15, 30], [], [], Fct.val 56 (.bool x148)⟩,     ⟨[31], [], [], Fct.val 57 (.bool x148)⟩,     ⟨[32], [2], [], Fct.cond x148 (some 58) (Fct.val 58 (.pointer (some ⟨cA91, 0, none⟩)))⟩,     ⟨[32, 33], [], [], Fct.cond x148 (some 59) (Fct.val 59 (.int .i64 r149))⟩,     ⟨[32, 34], [], [], Fct.cond x148 (some 60) (Fct.val 60 (.bool (decide (r149 = 2))))⟩,     ⟨[32, 35], [], [], Fct.val 61 (.bool (x148 && (decide (r149 = 2))))⟩,     ⟨[36], [], [], Fct.val 0 (.bool (x148 && (decide (r149 = 2))))⟩]) (by kernel_rfl) hz137 hd137 nm_ ?_ ?_
  · refine sc (fun _ _ _ _ s _ => px (or_move (s.1.trans e137_2))) ?_
    refine sc (fun _ _ _ _ s _ => px (or_field fo63_0 (s.1.trans e137_1) (by rfl))) ?_
    refine sc (fun _ _ _ f _ hE => px (or_load1 to55 f.1 (Blk.at_ (be_ hE b137_g84).2 0 rfl))) ?_
    refine sc (fun _ _ _ f _ _ => px (or_index (R := R25) (l := [(0, 0), (2, 1), (4, 0)]) tl55 f.1 rfl (RdO.some_ (RwO.rd b137_A82) hx140) hx140)) ?_
    refine sc (fun _ _ _ f _ hE => px (or_load (l := E25.f x140) ta25 f.1 (RdO.cells (F := E25) (RwO.rd (re_ hE b137_A82)) hx140) rfl)) ?_
    refine sc (fun _ _ _ _ s _ => px (or_field fo63_0 (s.1.trans e137_1) (by rfl))) ?_
    refine sc (fun _ _ _ f _ hE => px (or_load1 to55 f.1 (Blk.at_ (be_ hE b137_g84).2 0 rfl))) ?_
    refine sc (fun _ _ _ f _ _ => px (or_index (R := R25) (l := [(0, 0), (2, 1), (4, 0)]) tl55 f.1 rfl (RdO.some_ (RwO.rd b137_A82) hx141) hx141)) ?_
    refine sc (fun _ _ _ f _ hE => px (or_load (l := E25.f x141) ta25 f.1 (RdO.cells (F := E25) (RwO.rd (re_ hE b137_A82)) hx141) rfl)) ?_
    refine sc (fun _ _ _ _ s _ => px (or_field fo63_0 (s.1.trans e137_1) (by rfl))) ?_
    refine sc (fun _ _ _ f _ hE => px (or_load1 to55 f.1 (Blk.at_ (be_ hE b137_g84).2 0 rfl))) ?_
    refine sc (fun _ _ _ f _ _ => px (or_index (R := R25) (l := [(0, 0), (2, 1), (4, 0)]) tl55 f.1 rfl (RdO.some_ (RwO.rd b137_A82) hx142) hx142)) ?_
    refine sc (fun _ _ _ f _ hE => px (or_load (l := E25.f x142) ta25 f.1 (RdO.cells (F := E25) (RwO.rd (re_ hE b137_A82)) hx142) rfl)) ?_
    refine sc (fun _ _ _ f _ hE => px (or_call cf10 (args4 f.1 f.2.1 f.2.2.1 f.2.2.2.1) (guard_Guard_Why_w _ r90 cA91 77 cA92 106 A93 cA93 cA94 A95 cA95 A96 cA96 A97 cA97 cA98 cA99 x140 x141 x142 (BlkO.zero_ (be_ hE b137_cA91)) (RdO.zero (RwO.rd (re_ hE b137_A96))) (RdO.zero (RwO.rd (re_ hE b137_A97))) (MpO.zero_ (MpO.evo (by decide) hE b137_cA98)) (MpO.zero_ (MpO.evo (by decide) hE b137_cA99)) (BlkO.zero_ (be_ hE b137_cA92)) (RdO.zero (RwO.rd (re_ hE b137_A93))) (MpN.zero_ (MpN.evo rfl hE b137_cA94)) (RdO.zero (RwO.rd (re_ hE b137_A95))) r143 hr143) post_val)) ?_
    refine sc (fun _ _ _ f _ _ => px (or_eql f.1 rfl rfl)) ?_
    refine sc (fun _ _ _ f _ _ => px (or_move f.1)) ?_
    refine sc (fun _ _ _ f s _ => sg_t rfl rfl rfl f.1 (fun hg => or_move (s.1.trans e137_3))) ?_
    refine sc (fun _ _ _ f s _ => sg_t rfl rfl rfl f.1 (fun hg => or_field fo63_0 (s.1.trans e137_1) (by rfl))) ?_
    refine sc (fun _ _ _ f _ hE => sg_t rfl rfl rfl f.1 (fun hg => or_load1 to55 (f.2.1.1 hg) (Blk.at_ (be_ hE b137_g84).2 0 rfl))) ?_
    refine sc (fun _ _ _ f _ _ => sg_t rfl rfl rfl f.1 (fun hg => or_index (R := R25) (l := [(0, 0), (2, 1), (4, 0)]) tl55 (f.2.1.1 hg) rfl (RdO.some_ (RwO.rd b137_A82) (gd_t hx144 hg)) (gd_t hx144 hg))) ?_
    refine sc (fun _ _ _ f _ hE => sg_t rfl rfl rfl f.1 (fun hg => or_load (l := E25.f x144) ta25 (f.2.1.1 hg) (RdO.cells (F := E25) (RwO.rd (re_ hE b137_A82)) (gd_t hx144 hg)) rfl)) ?_
    refine sc (fun _ _ _ f s _ => sg_t rfl rfl rfl f.1 (fun hg => or_field fo63_0 (s.1.trans e137_1) (by rfl))) ?_
    refine sc (fun _ _ _ f _ hE => sg_t rfl rfl rfl f.1 (fun hg => or_load1 to55 (f.2.1.1 hg) (Blk.at_ (be_ hE b137_g84).2 0 rfl))) ?_
    refine sc (fun _ _ _ f _ _ => sg_t rfl rfl rfl f.1 (fun hg => or_index (R := R25) (l := [(0, 0), (2, 1), (4, 0)]) tl55 (f.2.1.1 hg) rfl (RdO.some_ (RwO.rd b137_A82) (gd_t hx145 hg)) (gd_t hx145 hg))) ?_
    refine sc (fun _ _ _ f _ hE => sg_t rfl rfl rfl f.1 (fun hg => or_load (l := E25.f x145) ta25 (f.2.1.1 hg) (RdO.cells (F := E25) (RwO.rd (re_ hE b137_A82)) (gd_t hx145 hg)) rfl)) ?_
    refine sc (fun _ _ _ f s _ => sg_t rfl rfl rfl f.1 (fun hg => or_field fo63_0 (s.1.trans e137_1) (by rfl))) ?_
    refine sc (fun _ _ _ f _ hE => sg_t rfl rfl rfl f.1 (fun hg => or_load1 to55 (f.2.1.1 hg) (Blk.at_ (be_ hE b137_g84).2 0 rfl))) ?_
    refine sc (fun _ _ _ f _ _ => sg_t rfl rfl rfl f.1 (fun hg => or_index (R := R25) (l := [(0, 0), (2, 1), (4, 0)]) tl55 (f.2.1.1 hg) rfl (RdO.some_ (RwO.rd b137_A82) (gd_t hx146 hg)) (gd_t hx146 hg))) ?_
    refine sc (fun _ _ _ f _ hE => sg_t rfl rfl rfl f.1 (fun hg => or_load (l := E25.f x146) ta25 (f.2.1.1 hg) (RdO.cells (F := E25) (RwO.rd (re_ hE b137_A82)) (gd_t hx146 hg)) rfl)) ?_
    refine sc (fun _ _ _ f _ hE => sg_t rfl rfl rfl f.1 (fun hg => or_call cf10 (args4 (f.2.1.1 hg) (f.2.2.1.1 hg) (f.2.2.2.1.1 hg) (f.2.2.2.2.1.1 hg)) (guard_Guard_Why_w _ r115 cA116 77 cA117 106 A118 cA118 cA119 A120 cA120 A121 cA121 A122 cA122 cA123 cA124 x144 x145 x146 (BlkO.zero_ (be_ hE b137_cA116)) (RdO.zero (RwO.rd (re_ hE b137_A121))) (RdO.zero (RwO.rd (re_ hE b137_A122))) (MpO.zero_ (MpO.evo (by decide) hE b137_cA123)) (MpO.zero_ (MpO.evo (by decide) hE b137_cA124)) (BlkO.zero_ (be_ hE b137_cA117)) (RdO.zero (RwO.rd (re_ hE b137_A118))) (MpN.zero_ (MpN.evo rfl hE b137_cA119)) (RdO.zero (RwO.rd (re_ hE b137_A120))) r147 (gd_t hr147 hg)) post_val)) ?_
    refine sc (fun _ _ _ f _ _ => sg_t rfl rfl rfl f.1 (fun hg => or_eql (f.2.1.1 hg) rfl rfl)) ?_
    refine sc (fun _ _ _ f _ _ => px (or_and f.1 (fun hx => f.2.1.1 hx) rfl (osome hx148).symm)) ?_
    refine sc (fun _ _ _ f _ _ => px (or_move f.1)) ?_
    refine sc (fun _ _ _ f s _ => sg_t rfl rfl rfl f.1 (fun hg => or_move (s.1.trans e137_2))) ?_
    refine sc (fun _ _ _ f _ hE => sg_t rfl rfl rfl f.1 (fun hg => or_call cf22 (args1 (f.2.1.1 hg)) (guard_Guard_Edges_w _ r90 cA91 77 cA92 106 A93 cA93 cA94 A95 cA95 A96 cA96 A97 cA97 cA98 cA99 (BlkO.zero_ (be_ hE b137_cA91)) (RdO.zero (RwO.rd (re_ hE b137_A96))) (RdO.zero (RwO.rd (re_ hE b137_A97))) (MpO.zero_ (MpO.evo (by decide) hE b137_cA98)) (MpO.zero_ (MpO.evo (by decide) hE b137_cA99)) (BlkO.zero_ (be_ hE b137_cA92)) (RdO.zero (RwO.rd (re_ hE b137_A93))) (MpN.zero_ (MpN.evo rfl hE b137_cA94)) (RdO.zero (RwO.rd (re_ hE b137_A95))) r149 (gd_t hr149 hg)) post_val)) ?_
    refine sc (fun _ _ _ f _ _ => sg_t rfl rfl rfl f.1 (fun hg => or_eql (f.2.1.1 hg) rfl rfl)) ?_
    refine sc (fun _ _ _ f _ _ => px (or_and f.1 (fun hx => f.2.1.1 hx) rfl rfl)) ?_
    refine sc (fun _ _ _ f _ _ => px (or_assign f.1)) ?_
    exact steps_nil
  intro own150 a150 w150 hd150 hz150 hk150 hf150 hE150
  obtain ⟨(e150_0 : a150.eval (.tmp 0) = .bool (x148 && (decide (r149 = 2)))), -⟩ := hf150 [37] rfl
  have hX150 := es_ hX137 hE150
  refine fl_ret ?_
  obtain rfl := osome hs
  exact hret _ _ _ _ (.inl rfl) hd150 (results1_ rfl (RVal.tmp_ e150_0)) ⟨own150, rfl, hX150⟩
theorem guard_Guard_Drop_w (w : World) (own : Own) (g1 : (((List ((Int × Int) × (Int × Int))) × (List ((Int × Int) × (List Int))) × (List Int))) × (List Int) × (List (Int × Int)) × (List ((Int × Int) × Bool)) × (List (((Int × Int) × (Int × Int)) × Bool))) (gg1 : Nat) (tg1 : TypeId) (gg1_0 : Nat) (tg1_0 : TypeId) (Ag1_0_0 : Option Addr) (cg1_0_0 : Nat) (mg1_0_1 : Nat) (Ag1_0_2 : Option Addr) (cg1_0_2 : Nat) (Ag1_1 : Option Addr) (cg1_1 : Nat) (Ag1_2 : Option Addr) (cg1_2 : Nat) (mg1_3 : Nat) (mg1_4 : Nat) (x2 : Int × Int) (b3 : Int × Int) (c4 : Int × Int) (hown : ∀ b, own b ≤ 10) (hgg1 : BlkO own 1 w gg1 tg1 #[.pointer (some ⟨gg1_0, 0, none⟩), .slice Ag1_1 g1.2.1.length cg1_1, .slice Ag1_2 g1.2.2.1.length cg1_2, .map (some mg1_3), .map (some mg1_4)]) (hAg1_1 : RwO own 7 [] w 3 R3 Ag1_1 cg1_1 g1.2.1) (hAg1_2 : RwO own 8 [] w 25 R25 Ag1_2 cg1_2 g1.2.2.1) (hmg1_3 : MpO own 9 w mg1_3 vv25 vv4 g1.2.2.2.1) (hmg1_4 : MpO own 10 w mg1_4 vv81 vv4 g1.2.2.2.2) (hgg1_0 : BlkO own 2 w gg1_0 tg1_0 #[.slice Ag1_0_0 g1.1.1.length cg1_0_0, .map (some mg1_0_1), .slice Ag1_0_2 g1.1.2.2.length cg1_0_2]) (hAg1_0_0 : RwO own 3 [] w 80 R80 Ag1_0_0 cg1_0_0 g1.1.1) (hmg1_0_1 : MpN own 4 5 [] w mg1_0_1 vv111 3 R3 g1.1.2.1) (hAg1_0_2 : RwO own 6 [] w 3 R3 Ag1_0_2 cg1_0_2 g1.1.2.2) (r : Bool × ((((List ((Int × Int) × (Int × Int))) × (List ((Int × Int) × (List Int))) × (List Int))) × (List Int) × (List (Int × Int)) × (List ((Int × Int) × Bool)) × (List (((Int × Int) × (Int × Int)) × Bool)))) (hs : guard_Guard_Drop g1 x2 b3 c4 = some r) :
    Calls Try.prog 12 #[.pointer (some ⟨gg1, 0, none⟩), .agg #[.int .i64 x2.1, .int .i64 x2.2], .agg #[.int .i64 b3.1, .int .i64 b3.2], .agg #[.int .i64 c4.1, .int .i64 c4.2]] w fun e w' => ∃ (own' : Own) (x : (Option Addr × Nat) × (Option Addr × Nat) × (Option Addr × Nat) × (Option Addr × Nat)), e = .returned (.bool r.1) ∧ Evo [1, 2, 3, 4, 5, 6, 7, 8, 9, 10] own own' w w' ∧ RwO own' 3 [] w' 80 R80 x.1.1 x.1.2 r.2.1.1 ∧ MpN own' 4 5 [] w' mg1_0_1 vv111 3 R3 r.2.1.2.1 ∧ RwO own' 6 [] w' 3 R3 x.2.1.1 x.2.1.2 r.2.1.2.2 ∧ BlkO own' 2 w' gg1_0 tg1_0 #[.slice x.1.1 r.2.1.1.length x.1.2, .map (some mg1_0_1), .slice x.2.1.1 r.2.1.2.2.length x.2.1.2] ∧ RwO own' 7 [] w' 3 R3 x.2.2.1.1 x.2.2.1.2 r.2.2.1 ∧ RwO own' 8 [] w' 25 R25 x.2.2.2.1 x.2.2.2.2 r.2.2.2.1 ∧ MpO own' 9 w' mg1_3 vv25 vv4 r.2.2.2.2.1 ∧ MpO own' 10 w' mg1_4 vv81 vv4 r.2.2.2.2.2 ∧ BlkO own' 1 w' gg1 tg1 #[.pointer (some ⟨gg1_0, 0, none⟩), .slice x.2.2.1.1 r.2.2.1.length x.2.2.1.2, .slice x.2.2.2.1 r.2.2.2.1.length x.2.2.2.2, .map (some mg1_3), .map (some mg1_4)] := by
  refine fl_enter (n := 41) rfl rfl rfl (Nat.le_of_ble_eq_true rfl) ?_
  intro a0 Q hd0 hz0 harg hret
  have ha0 := harg 0 _ rfl
  have ha1 := harg 1 _ rfl
  have ha2 := harg 2 _ rfl
  have ha3 := harg 3 _ rfl
  clear harg
  have hE0 : Evo [1, 2, 3, 4, 5, 6, 7, 8, 9, 10] own own w w := Evo.refl _ _ _
  refine rg0_seq 41 own [0, 0, 0, 0] [⟨[], [1], [], Fct.blk 53 5 (fun g => .pointer (some ⟨g, 0, none⟩)) 25 #[.int .i64 x2.1, .int .i64 x2.2]⟩,     ⟨[], [2], [], Fct.blk 55 6 (fun g => .pointer (some ⟨g, 0, none⟩)) 25 #[.int .i64 b3.1, .int .i64 b3.2]⟩,     ⟨[], [3], [], Fct.blk 57 7 (fun g => .pointer (some ⟨g, 0, none⟩)) 25 #[.int .i64 c4.1, .int .i64 c4.2]⟩,     ⟨[], [], [], Fct.val 8 (.bool false)⟩] hz0 hd0 (by kernel_rfl) ?_ ?_
  · refine sc (fun _ _ _ _ s _ => px (or_new [(1, .agg #[.int .i64 x2.1, .int .i64 x2.2])] rfl rfl ⟨(s.1.trans ha1), trivial⟩ (by kernel_rfl))) ?_
    refine sc (fun _ _ _ _ s _ => px (or_new [(2, .agg #[.int .i64 b3.1, .int .i64 b3.2])] rfl rfl ⟨(s.1.trans ha2), trivial⟩ (by kernel_rfl))) ?_
    refine sc (fun _ _ _ _ s _ => px (or_new [(3, .agg #[.int .i64 c4.1, .int .i64 c4.2])] rfl rfl ⟨(s.1.trans ha3), trivial⟩ (by kernel_rfl))) ?_
    refine sc (fun _ _ _ _ _ _ => px (or_assign rfl)) ?_
    exact steps_nil
  intro own58 a58 w58 hd58 hz58 hk58 hf58 hE58
  have e58_0 := (hk58 0 rfl).trans ha0
  obtain ⟨⟨g52, (e58_5 : a58.eval (.tmp 5) = .pointer (some ⟨g52, 0, none⟩)), (b58_g52 : BlkO own58 53 w58 g52 25 #[.int .i64 x2.1, .int .i64 x2.2])⟩, ⟨g54, (e58_6 : a58.eval (.tmp 6) = .pointer (some ⟨g54, 0, none⟩)), (b58_g54 : BlkO own58 55 w58 g54 25 #[.int .i64 b3.1, .int .i64 b3.2])⟩, ⟨g56, (e58_7 : a58.eval (.tmp 7) = .pointer (some ⟨g56, 0, none⟩)), (b58_g56 : BlkO own58 57 w58 g56 25 #[.int .i64 c4.1, .int .i64 c4.2])⟩, -⟩ := hf58 [0, 1, 2] rfl
  have hX58 := Evo.step hE0 hown hE58 rfl
  have b58_Ag1_0_0 := re_ hE58 hAg1_0_0
  have b58_mg1_0_1 := MpN.evo rfl hE58 hmg1_0_1
  have b58_Ag1_0_2 := re_ hE58 hAg1_0_2
  have b58_gg1_0 := be_ hE58 hgg1_0
  have b58_Ag1_1 := re_ hE58 hAg1_1
  have b58_Ag1_2 := re_ hE58 hAg1_2
  have b58_mg1_3 := MpO.evo (by decide) hE58 hmg1_3
  have b58_mg1_4 := MpO.evo (by decide) hE58 hmg1_4
  have b58_gg1 := be_ hE58 hgg1
  refine fl_seq (fun Q59 hn59 hp59 => ?_)
  obtain ⟨r60, hr60, hs⟩ := obind hs
  refine rg0_seq 41 own58 [0, 0, 0, 0, 15, 31] [⟨[], [0], [], Fct.val 9 (.pointer (some ⟨gg1, 0, none⟩))⟩,     ⟨[], [5], [], Fct.val 10 (.agg #[.int .i64 x2.1, .int .i64 x2.2])⟩,     ⟨[], [6], [], Fct.val 11 (.agg #[.int .i64 b3.1, .int .i64 b3.2])⟩,     ⟨[], [7], [], Fct.val 12 (.agg #[.int .i64 c4.1, .int .i64 c4.2])⟩,     ⟨[0, 1, 2, 3], [], [], Fct.val 13 (.int .i64 r60)⟩,     ⟨[4], [], [], Fct.val 14 (.bool (!decide (r60 = 0)))⟩] hz58 hd58 (by kernel_rfl) ?_ ?_
  · refine sc (fun _ _ _ _ s _ => px (or_move (s.1.trans e58_0))) ?_
    refine sc (fun _ _ _ _ s hE => px (or_load (l := [.int .i64 x2.1, .int .i64 x2.2]) ta25 (s.1.trans e58_5) (Blk.cellsFrom (be_ hE b58_g52).2 0 rfl) rfl)) ?_
    refine sc (fun _ _ _ _ s hE => px (or_load (l := [.int .i64 b3.1, .int .i64 b3.2]) ta25 (s.1.trans e58_6) (Blk.cellsFrom (be_ hE b58_g54).2 0 rfl) rfl)) ?_
    refine sc (fun _ _ _ _ s hE => px (or_load (l := [.int .i64 c4.1, .int .i64 c4.2]) ta25 (s.1.trans e58_7) (Blk.cellsFrom (be_ hE b58_g56).2 0 rfl) rfl)) ?_
    refine sc (fun _ _ _ f _ hE => px (or_call cf10 (args4 f.1 f.2.1 f.2.2.1 f.2.2.2.1) (guard_Guard_Why_w _ g1 gg1 tg1 gg1_0 tg1_0 Ag1_0_0 cg1_0_0 mg1_0_1 Ag1_0_2 cg1_0_2 Ag1_1 cg1_1 Ag1_2 cg1_2 mg1_3 mg1_4 x2 b3 c4 (BlkO.zero_ (be_ hE b58_gg1)) (RdO.zero (RwO.rd (re_ hE b58_Ag1_1))) (RdO.zero (RwO.rd (re_ hE b58_Ag1_2))) (MpO.zero_ (MpO.evo (by decide) hE b58_mg1_3)) (MpO.zero_ (MpO.evo (by decide) hE b58_mg1_4)) (BlkO.zero_ (be_ hE b58_gg1_0)) (RdO.zero (RwO.rd (re_ hE b58_Ag1_0_0))) (MpN.zero_ (MpN.evo rfl hE b58_mg1_0_1)) (RdO.zero (RwO.rd (re_ hE b58_Ag1_0_2))) r60 hr60) post_val)) ?_
    refine sc (fun _ _ _ f _ _ => px (or_neq f.1 rfl rfl)) ?_
    exact steps_nil
  intro own61 a61 w61 hd61 hz61 hk61 hf61 hE61
  have e61_0 := (hk61 0 rfl).trans e58_0
  have e61_5 := (hk61 5 rfl).trans e58_5
  have e61_6 := (hk61 6 rfl).trans e58_6
  have e61_7 := (hk61 7 rfl).trans e58_7
  obtain ⟨(e61_14 : a61.eval (.tmp 14) = .bool (!decide (r60 = 0))), -⟩ := hf61 [5] rfl
  have hX61 := Evo.step hX58 hown hE61 rfl
  have b61_Ag1_0_0 := re_ hE61 b58_Ag1_0_0
  have b61_mg1_0_1 := MpN.evo rfl hE61 b58_mg1_0_1
  have b61_Ag1_0_2 := re_ hE61 b58_Ag1_0_2
  have b61_gg1_0 := be_ hE61 b58_gg1_0
  have b61_Ag1_1 := re_ hE61 b58_Ag1_1
  have b61_Ag1_2 := re_ hE61 b58_Ag1_2
  have b61_mg1_3 := MpO.evo (by decide) hE61 b58_mg1_3
  have b61_mg1_4 := MpO.evo (by decide) hE61 b58_mg1_4
  have b61_gg1 := be_ hE61 b58_gg1
  have b61_g52 := be_ hE61 b58_g52
  have b61_g54 := be_ hE61 b58_g54
  have b61_g56 := be_ hE61 b58_g56
  refine fl_cond e61_14 hs (fun c62 hs => ?_) (fun c62 hs => ?_)
  · refine rg0_seq 41 own61 (bz 1) [⟨[], [], [], Fct.val 8 (.bool false)⟩] hz61 hd61 (by kernel_rfl) ?_ ?_
    · refine sc (fun _ _ _ _ _ _ => px (or_assign rfl)) ?_
      exact steps_nil
    intro own63 a63 w63 hd63 hz63 hk63 hf63 hE63
    have e63_0 := (hk63 0 rfl).trans e61_0
    obtain ⟨(e63_8 : a63.eval (.tmp 8) = .bool false), -⟩ := hf63 [0] rfl
    have hX63 := Evo.step hX61 hown hE63 rfl
    have b63_Ag1_0_0 := re_ hE63 b61_Ag1_0_0
    have b63_mg1_0_1 := MpN.evo rfl hE63 b61_mg1_0_1
    have b63_Ag1_0_2 := re_ hE63 b61_Ag1_0_2
    have b63_gg1_0 := be_ hE63 b61_gg1_0
    have b63_Ag1_1 := re_ hE63 b61_Ag1_1
    have b63_Ag1_2 := re_ hE63 b61_Ag1_2
    have b63_mg1_3 := MpO.evo (by decide) hE63 b61_mg1_3
    have b63_mg1_4 := MpO.evo (by decide) hE63 b61_mg1_4
    have b63_gg1 := be_ hE63 b61_gg1
    refine fl_ret ?_
    refine hp59 _ _ _ rfl ?_
    obtain rfl := osome hs
    exact hret _ _ _ _ (.inl rfl) hd63 (results1_ rfl (RVal.tmp_ e63_8)) ⟨own63, ((Ag1_0_0, cg1_0_0), (Ag1_0_2, cg1_0_2), (Ag1_1, cg1_1), (Ag1_2, cg1_2)), rfl, hX63, b63_Ag1_0_0, b63_mg1_0_1, b63_Ag1_0_2, b63_gg1_0, b63_Ag1_1, b63_Ag1_2, b63_mg1_3, b63_mg1_4, b63_gg1⟩
  refine fl_skip ?_
  refine hn59 _ _ ?_
  obtain ⟨D64, hD64, hs⟩ := obind hs
  refine rg_draw_seq g_mixed (n := 41) (rs := [Fct.mapAt 9 mg1_3 vv25 vv4 g1.2.2.2.1]) (own0 := own61) (K := [9]) (bs := [0, 1, 3, 7, 0, 31]) (ds := [⟨[], [0], [], Fct.val 15 (.pointer (some ⟨gg1, 0, none⟩))⟩,     ⟨[0], [], [], Fct.val 16 (.pointer (some ⟨gg1, 0, none⟩))⟩,     ⟨[1], [], [], Fct.val 17 (.pointer (some ⟨gg1, 3, none⟩))⟩,     ⟨[2], [], [], Fct.val 18 (.map (some mg1_3))⟩,     ⟨[], [6], [], Fct.val 19 (.agg #[.int .i64 b3.1, .int .i64 b3.2])⟩,     ⟨[3, 4, 6], [], [9], Fct.mapAt 65 mg1_3 vv25 vv4 D64⟩]) (by kernel_rfl) hz61 hd61 (by simp only [List.forall_mem_cons]; exact ⟨b61_mg1_3, fun _ h => nomatch h⟩) ?_ ?_
  · refine sc (fun _ _ _ _ s _ => px (or_move (s.1.trans e61_0))) ?_
    refine sc (fun _ _ _ f _ _ => px (or_k [(15, .pointer (some ⟨gg1, 0, none⟩))] rfl rfl ⟨f.1, trivial⟩ (by kernel_rfl))) ?_
    refine sc (fun _ _ _ f _ _ => px (or_field fo77_3 f.1 (by rfl))) ?_
    refine sc (fun _ _ _ f _ hE => px (or_load1 to74 f.1 (Blk.at_ (be_ hE b61_gg1).2 3 rfl))) ?_
    refine sc (fun _ _ _ _ s hE => px (or_load (l := [.int .i64 b3.1, .int .i64 b3.2]) ta25 (s.1.trans e61_6) (Blk.cellsFrom (be_ hE b61_g54).2 0 rfl) rfl)) ?_
    refine sc (fun own a wx hf hsl hE => ?_) ?_
    · obtain ⟨f_18, f_19, b_mg1_3, -⟩ := hf
      exact px (or_delete (kf := vv25) (vf := vv4) (k := b3) (lab := 9) (lab2 := 65) ko25 tm74 f_18 f_19 b_mg1_3 (osome hD64).symm (mem_of rfl) (by decide) (fun own' a' w' hb => hb))
    exact steps_nil
  intro own66 a66 w66 hd66 hz66 hk66 hf66 hE66
  have e66_0 := (hk66 0 rfl).trans e61_0
  have e66_5 := (hk66 5 rfl).trans e61_5
  have e66_6 := (hk66 6 rfl).trans e61_6
  have e66_7 := (hk66 7 rfl).trans e61_7
  obtain ⟨(b66_mg1_3 : MpO own66 65 w66 mg1_3 vv25 vv4 D64), -⟩ := hf66 [5] rfl
  have hX66 := Evo.step hX61 hown hE66 rfl
  have b66_Ag1_0_0 := re_ hE66 b61_Ag1_0_0
  have b66_mg1_0_1 := MpN.evo rfl hE66 b61_mg1_0_1
  have b66_Ag1_0_2 := re_ hE66 b61_Ag1_0_2
  have b66_gg1_0 := be_ hE66 b61_gg1_0
  have b66_Ag1_1 := re_ hE66 b61_Ag1_1
  have b66_Ag1_2 := re_ hE66 b61_Ag1_2
  have b66_mg1_4 := MpO.evo (by decide) hE66 b61_mg1_4
  have b66_gg1 := be_ hE66 b61_gg1
  have b66_g52 := be_ hE66 b61_g52
  have b66_g54 := be_ hE66 b61_g54
  have b66_g56 := be_ hE66 b61_g56
  obtain ⟨r68, hr68, hs⟩ := obind hs
  obtain ⟨D69, hD69, hs⟩ := obind hs
  refine rg_draw_seq g_mixed (n := 41) (rs := [Fct.mapAt 10 mg1_4 vv81 vv4 g1.2.2.2.2]) (own0 := own66) (K := [10]) (bs := [0, 1, 3, 7, 0, 0, 48, 127]) (ds := [⟨[], [0], [], Fct.val 20 (.pointer (some ⟨gg1, 0, none⟩))⟩,     ⟨[0], [], [], Fct.val 21 (.pointer (some ⟨gg1, 0, none⟩))⟩,     ⟨[1], [], [], Fct.val 22 (.pointer (some ⟨gg1, 4, none⟩))⟩,     ⟨[2], [], [], Fct.val 23 (.map (some mg1_4))⟩,     ⟨[], [5], [], Fct.val 24 (.agg #[.int .i64 x2.1, .int .i64 x2.2])⟩,     ⟨[], [6], [], Fct.val 25 (.agg #[.int .i64 b3.1, .int .i64 b3.2])⟩,     ⟨[4, 5], [], [], Fct.val 26 (.agg #[.int .i64 r68.1.1, .int .i64 r68.1.2, .int .i64 r68.2.1, .int .i64 r68.2.2])⟩,     ⟨[3, 6, 8], [], [10], Fct.mapAt 70 mg1_4 vv81 vv4 D69⟩]) (by kernel_rfl) hz66 hd66 (by simp only [List.forall_mem_cons]; exact ⟨b66_mg1_4, fun _ h => nomatch h⟩) ?_ ?_
  · refine sc (fun _ _ _ _ s _ => px (or_move (s.1.trans e66_0))) ?_
    refine sc (fun _ _ _ f _ _ => px (or_k [(20, .pointer (some ⟨gg1, 0, none⟩))] rfl rfl ⟨f.1, trivial⟩ (by kernel_rfl))) ?_
    refine sc (fun _ _ _ f _ _ => px (or_field fo77_4 f.1 (by rfl))) ?_
    refine sc (fun _ _ _ f _ hE => px (or_load1 to75 f.1 (Blk.at_ (be_ hE b66_gg1).2 4 rfl))) ?_
    refine sc (fun _ _ _ _ s hE => px (or_load (l := [.int .i64 x2.1, .int .i64 x2.2]) ta25 (s.1.trans e66_5) (Blk.cellsFrom (be_ hE b66_g52).2 0 rfl) rfl)) ?_
    refine sc (fun _ _ _ _ s hE => px (or_load (l := [.int .i64 b3.1, .int .i64 b3.2]) ta25 (s.1.trans e66_6) (Blk.cellsFrom (be_ hE b66_g54).2 0 rfl) rfl)) ?_
    refine sc (fun _ _ _ f _ _ => px (or_call cf30 (args2 f.1 f.2.1) (guard_between_w _ x2 b3  r68 hr68) post_val)) ?_
    refine sc (fun own a wx hf hsl hE => ?_) ?_
    · obtain ⟨f_23, f_26, b_mg1_4, -⟩ := hf
      exact px (or_delete (kf := vv81) (vf := vv4) (k := r68) (lab := 10) (lab2 := 70) ko81 tm75 f_23 f_26 b_mg1_4 (osome hD69).symm (mem_of rfl) (by decide) (fun own' a' w' hb => hb))
    exact steps_nil
  intro own71 a71 w71 hd71 hz71 hk71 hf71 hE71
  have e71_0 := (hk71 0 rfl).trans e66_0
  have e71_5 := (hk71 5 rfl).trans e66_5
  have e71_6 := (hk71 6 rfl).trans e66_6
  have e71_7 := (hk71 7 rfl).trans e66_7
  obtain ⟨(b71_mg1_4 : MpO own71 70 w71 mg1_4 vv81 vv4 D69), -⟩ := hf71 [7] rfl
  have hX71 := Evo.step hX66 hown hE71 rfl
  have b71_Ag1_0_0 := re_ hE71 b66_Ag1_0_0
  have b71_mg1_0_1 := MpN.evo rfl hE71 b66_mg1_0_1
  have b71_Ag1_0_2 := re_ hE71 b66_Ag1_0_2
  have b71_gg1_0 := be_ hE71 b66_gg1_0
  have b71_Ag1_1 := re_ hE71 b66_Ag1_1
  have b71_Ag1_2 := re_ hE71 b66_Ag1_2
  have b71_gg1 := be_ hE71 b66_gg1
  have b71_g52 := be_ hE71 b66_g52
  have b71_g54 := be_ hE71 b66_g54
  have b71_g56 := be_ hE71 b66_g56
  have b71_mg1_3 := MpO.evo (by decide) hE71 b66_mg1_3
  obtain ⟨r73, hr73, hs⟩ := obind hs
  obtain ⟨D74, hD74, hs⟩ := obind hs
  refine rg_draw_seq g_mixed (n := 41) (rs := [Fct.mapAt 70 mg1_4 vv81 vv4 D69]) (own0 := own71) (K := [70]) (bs := [0, 1, 3, 7, 0, 0, 48, 127]) (ds := [⟨[], [0], [], Fct.val 27 (.pointer (some ⟨gg1, 0, none⟩))⟩,     ⟨[0], [], [], Fct.val 28 (.pointer (some ⟨gg1, 0, none⟩))⟩,     ⟨[1], [], [], Fct.val 29 (.pointer (some ⟨gg1, 4, none⟩))⟩,     ⟨[2], [], [], Fct.val 30 (.map (some mg1_4))⟩,     ⟨[], [6], [], Fct.val 31 (.agg #[.int .i64 b3.1, .int .i64 b3.2])⟩,     ⟨[], [7], [], Fct.val 32 (.agg #[.int .i64 c4.1, .int .i64 c4.2])⟩,     ⟨[4, 5], [], [], Fct.val 33 (.agg #[.int .i64 r73.1.1, .int .i64 r73.1.2, .int .i64 r73.2.1, .int .i64 r73.2.2])⟩,     ⟨[3, 6, 8], [], [70], Fct.mapAt 75 mg1_4 vv81 vv4 D74⟩]) (by kernel_rfl) hz71 hd71 (by simp only [List.forall_mem_cons]; exact ⟨b71_mg1_4, fun _ h => nomatch h⟩) ?_ ?_
  · refine sc (fun _ _ _ _ s _ => px (or_move (s.1.trans e71_0))) ?_
    refine sc (fun _ _ _ f _ _ => px (or_k [(27, .pointer (some ⟨gg1, 0, none⟩))] rfl rfl ⟨f.1, trivial⟩ (by kernel_rfl))) ?_
    refine sc (fun _ _ _ f _ _ => px (or_field fo77_4 f.1 (by rfl))) ?_
    refine sc (fun _ _ _ f _ hE => px (or_load1 to75 f.1 (Blk.at_ (be_ hE b71_gg1).2 4 rfl))) ?_
    refine sc (fun _ _ _ _ s hE => px (or_load (l := [.int .i64 b3.1, .int .i64 b3.2]) ta25 (s.1.trans e71_6) (Blk.cellsFrom (be_ hE b71_g54).2 0 rfl) rfl)) ?_
    refine sc (fun _ _ _ _ s hE => px (or_load (l := [.int .i64 c4.1, .int .i64 c4.2]) ta25 (s.1.trans e71_7) (Blk.cellsFrom (be_ hE b71_g56).2 0 rfl) rfl)) ?_
    refine sc (fun _ _ _ f _ _ => px (or_call cf30 (args2 f.1 f.2.1) (guard_between_w _ b3 c4  r73 hr73) post_val)) ?_
    refine sc (fun own a wx hf hsl hE => ?_) ?_
    · obtain ⟨f_30, f_33, b_mg1_4, -⟩ := hf
      exact px (or_delete (kf := vv81) (vf := vv4) (k := r73) (lab := 70) (lab2 := 75) ko81 tm75 f_30 f_33 b_mg1_4 (osome hD74).symm (mem_of rfl) (by decide) (fun own' a' w' hb => hb))
    exact steps_nil
  intro own76 a76 w76 hd76 hz76 hk76 hf76 hE76
  have e76_0 := (hk76 0 rfl).trans e71_0
  have e76_5 := (hk76 5 rfl).trans e71_5
  have e76_7 := (hk76 7 rfl).trans e71_7
  obtain ⟨(b76_mg1_4 : MpO own76 75 w76 mg1_4 vv81 vv4 D74), -⟩ := hf76 [7] rfl
  have hX76 := Evo.step hX71 hown hE76 rfl
  have b76_Ag1_0_0 := re_ hE76 b71_Ag1_0_0
  have b76_mg1_0_1 := MpN.evo rfl hE76 b71_mg1_0_1
  have b76_Ag1_0_2 := re_ hE76 b71_Ag1_0_2
  have b76_gg1_0 := be_ hE76 b71_gg1_0
  have b76_Ag1_1 := re_ hE76 b71_Ag1_1
  have b76_Ag1_2 := re_ hE76 b71_Ag1_2
  have b76_gg1 := be_ hE76 b71_gg1
  have b76_g52 := be_ hE76 b71_g52
  have b76_g56 := be_ hE76 b71_g56
  have b76_mg1_3 := MpO.evo (by decide) hE76 b71_mg1_3
  obtain ⟨r78, hr78, hs⟩ := obind hs
  obtain ⟨D79, hD79, hs⟩ := obind hs
  refine rg_draw_seq g_mixed (n := 41) (rs := [Fct.mapAt 75 mg1_4 vv81 vv4 D74]) (own0 := own76) (K := [75]) (bs := [0, 1, 3, 7, 0, 0, 48, 127]) (ds := [⟨[], [0], [], Fct.val 34 (.pointer (some ⟨gg1, 0, none⟩))⟩,     ⟨[0], [], [], Fct.val 35 (.pointer (some ⟨gg1, 0, none⟩))⟩,     ⟨[1], [], [], Fct.val 36 (.pointer (some ⟨gg1, 4, none⟩))⟩,     ⟨[2], [], [], Fct.val 37 (.map (some mg1_4))⟩,     ⟨[], [5], [], Fct.val 38 (.agg #[.int .i64 x2.1, .int .i64 x2.2])⟩,     ⟨[], [7], [], Fct.val 39 (.agg #[.int .i64 c4.1, .int .i64 c4.2])⟩,     ⟨[4, 5], [], [], Fct.val 40 (.agg #[.int .i64 r78.1.1, .int .i64 r78.1.2, .int .i64 r78.2.1, .int .i64 r78.2.2])⟩,     ⟨[3, 6, 8], [], [75], Fct.mapAt 80 mg1_4 vv81 vv4 D79⟩]) (by kernel_rfl) hz76 hd76 (by simp only [List.forall_mem_cons]; exact ⟨b76_mg1_4, fun _ h => nomatch h⟩) ?_ ?_
  · refine sc (fun _ _ _ _ s _ => px (or_move (s.1.trans e76_0))) ?_
    refine sc (fun _ _ _ f _ _ => px (or_k [(34, .pointer (some ⟨gg1, 0, none⟩))] rfl rfl ⟨f.1, trivial⟩ (by kernel_rfl))) ?_
    refine sc (fun _ _ _ f _ _ => px (or_field fo77_4 f.1 (by rfl))) ?_
    refine sc (fun _ _ _ f _ hE => px (or_load1 to75 f.1 (Blk.at_ (be_ hE b76_gg1).2 4 rfl))) ?_
    refine sc (fun _ _ _ _ s hE => px (or_load (l := [.int .i64 x2.1, .int .i64 x2.2]) ta25 (s.1.trans e76_5) (Blk.cellsFrom (be_ hE b76_g52).2 0 rfl) rfl)) ?_
    refine sc (fun _ _ _ _ s hE => px (or_load (l := [.int .i64 c4.1, .int .i64 c4.2]) ta25 (s.1.trans e76_7) (Blk.cellsFrom (be_ hE b76_g56).2 0 rfl) rfl)) ?_
    refine sc (fun _ _ _ f _ _ => px (or_call cf30 (args2 f.1 f.2.1) (guard_between_w _ x2 c4  r78 hr78) post_val)) ?_
    refine sc (fun own a wx hf hsl hE => ?_) ?_
    · obtain ⟨f_37, f_40, b_mg1_4, -⟩ := hf
      exact px (or_mapUpdate (kf := vv81) (vf := vv4) (k := r78) (v := true) (lab := 75) (lab2 := 80) ko81 tm75 f_37 f_40 rfl b_mg1_4 (osome hD79).symm (mem_of rfl) (by decide) (fun own' a' w' hb => hb))
    exact steps_nil
  intro own81 a81 w81 hd81 hz81 hk81 hf81 hE81
  have e81_0 := (hk81 0 rfl).trans e76_0
  obtain ⟨(b81_mg1_4 : MpO own81 80 w81 mg1_4 vv81 vv4 D79), -⟩ := hf81 [7] rfl
  have hX81 := Evo.step hX76 hown hE81 rfl
  have b81_Ag1_0_0 := re_ hE81 b76_Ag1_0_0
  have b81_mg1_0_1 := MpN.evo rfl hE81 b76_mg1_0_1
  have b81_Ag1_0_2 := re_ hE81 b76_Ag1_0_2
  have b81_gg1_0 := be_ hE81 b76_gg1_0
  have b81_Ag1_1 := re_ hE81 b76_Ag1_1
  have b81_Ag1_2 := re_ hE81 b76_Ag1_2
  have b81_gg1 := be_ hE81 b76_gg1
  have b81_mg1_3 := MpO.evo (by decide) hE81 b76_mg1_3
  refine rg0_seq 41 own81 (bz 1) [⟨[], [], [], Fct.val 8 (.bool true)⟩] hz81 hd81 (by kernel_rfl) ?_ ?_
  · refine sc (fun _ _ _ _ _ _ => px (or_assign rfl)) ?_
    exact steps_nil
  intro own82 a82 w82 hd82 hz82 hk82 hf82 hE82
  have e82_0 := (hk82 0 rfl).trans e81_0
  obtain ⟨(e82_8 : a82.eval (.tmp 8) = .bool true), -⟩ := hf82 [0] rfl
  have hX82 := Evo.step hX81 hown hE82 rfl
  have b82_Ag1_0_0 := re_ hE82 b81_Ag1_0_0
  have b82_mg1_0_1 := MpN.evo rfl hE82 b81_mg1_0_1
  have b82_Ag1_0_2 := re_ hE82 b81_Ag1_0_2
  have b82_gg1_0 := be_ hE82 b81_gg1_0
  have b82_Ag1_1 := re_ hE82 b81_Ag1_1
  have b82_Ag1_2 := re_ hE82 b81_Ag1_2
  have b82_gg1 := be_ hE82 b81_gg1
  have b82_mg1_3 := MpO.evo (by decide) hE82 b81_mg1_3
  have b82_mg1_4 := MpO.evo (by decide) hE82 b81_mg1_4
  refine fl_ret ?_
  obtain rfl := osome hs
  exact hret _ _ _ _ (.inl rfl) hd82 (results1_ rfl (RVal.tmp_ e82_8)) ⟨(rl [(65, 9), (80, 10)] own82), ((Ag1_0_0, cg1_0_0), (Ag1_0_2, cg1_0_2), (Ag1_1, cg1_1), (Ag1_2, cg1_2)), rfl, (Evo.rl_ hX82 hown rfl), (RwO.rl_ (mm := [(65, 9), (80, 10)]) b82_Ag1_0_0), (MpN.rl_ (mm := [(65, 9), (80, 10)]) b82_mg1_0_1), (RwO.rl_ (mm := [(65, 9), (80, 10)]) b82_Ag1_0_2), (BlkO.rl_ (mm := [(65, 9), (80, 10)]) b82_gg1_0), (RwO.rl_ (mm := [(65, 9), (80, 10)]) b82_Ag1_1), (RwO.rl_ (mm := [(65, 9), (80, 10)]) b82_Ag1_2), (MpO.rl_ (mm := [(65, 9), (80, 10)]) b82_mg1_3), (MpO.rl_ (mm := [(65, 9), (80, 10)]) b82_mg1_4), (BlkO.rl_ (mm := [(65, 9), (80, 10)]) b82_gg1)⟩
end Go.Proofs.Ytoccfdohlefifaa
