import Derived.Test.YtoccfdohlefifaaWp5
import Derived.Test.YtoccfdohlefifaaSp6
namespace Go.Proofs.Ytoccfdohlefifaa
open Go.RowKit
set_option linter.unusedVariables false
set_option maxRecDepth 10000
theorem guard_Guard_Edges_w (w : World) (g1 : (((List ((Int × Int) × (Int × Int))) × (List ((Int × Int) × (List Int))) × (List Int))) × (List Int) × (List (Int × Int)) × (List ((Int × Int) × Bool)) × (List (((Int × Int) × (Int × Int)) × Bool))) (gg1 : Nat) (tg1 : TypeId) (gg1_0 : Nat) (tg1_0 : TypeId) (Ag1_0_0 : Option Addr) (cg1_0_0 : Nat) (mg1_0_1 : Nat) (Ag1_0_2 : Option Addr) (cg1_0_2 : Nat) (Ag1_1 : Option Addr) (cg1_1 : Nat) (Ag1_2 : Option Addr) (cg1_2 : Nat) (mg1_3 : Nat) (mg1_4 : Nat) (hgg1 : BlkO (fun _ => 0) 0 w gg1 tg1 #[.pointer (some ⟨gg1_0, 0, none⟩), .slice Ag1_1 g1.2.1.length cg1_1, .slice Ag1_2 g1.2.2.1.length cg1_2, .map (some mg1_3), .map (some mg1_4)]) (hAg1_1 : RdO (fun _ => 0) [0] w R3 Ag1_1 cg1_1 g1.2.1) (hAg1_2 : RdO (fun _ => 0) [0] w R25 Ag1_2 cg1_2 g1.2.2.1) (hmg1_3 : MpO (fun _ => 0) 0 w mg1_3 vv25 vv4 g1.2.2.2.1) (hmg1_4 : MpO (fun _ => 0) 0 w mg1_4 vv81 vv4 g1.2.2.2.2) (hgg1_0 : BlkO (fun _ => 0) 0 w gg1_0 tg1_0 #[.slice Ag1_0_0 g1.1.1.length cg1_0_0, .map (some mg1_0_1), .slice Ag1_0_2 g1.1.2.2.length cg1_0_2]) (hAg1_0_0 : RdO (fun _ => 0) [0] w R80 Ag1_0_0 cg1_0_0 g1.1.1) (hmg1_0_1 : MpN (fun _ => 0) 0 0 [0] w mg1_0_1 vv111 3 R3 g1.1.2.1) (hAg1_0_2 : RdO (fun _ => 0) [0] w R3 Ag1_0_2 cg1_0_2 g1.1.2.2) (r : Int) (hs : guard_Guard_Edges g1 = some r) :
    Calls Try.prog 22 #[.pointer (some ⟨gg1, 0, none⟩)] w fun e w' => ∃ own' : Own, e = .returned (.int .i64 r) ∧ Evo [] (fun _ => 0) own' w w' := by
  refine fl_enter (n := 10) rfl rfl rfl (Nat.le_of_ble_eq_true rfl) ?_
  intro a0 Q hd0 hz0 harg hret
  have ha0 := harg 0 _ rfl
  clear harg
  have hE0 : Evo [] (fun _ => 0) (fun _ => 0) w w := Evo.refl _ _ _
  refine rg_plain_seq (n := 10) (rs := []) (own0 := (fun _ => 0)) (K := [])
      (bs := [0])
      (ds := [⟨[], [], [], Fct.val 2 (.int .i64 0)⟩]) (by kernel_rfl) hz0 hd0 (fun _ h => nomatch h) ?_ ?_
  · refine sc (fun _ _ _ _ _ _ => px (or_assign rfl)) ?_
    exact steps_nil
  intro own15 a15 w15 hd15 hz15 hk15 hf15 hE15
  have e15_0 := (hk15 0 rfl).trans ha0
  have hX15 := Evo.step hE0 (fun _ => Nat.le_refl 0) hE15 rfl
  have b15_Ag1_0_0 := RdO.evo rfl hE15 hAg1_0_0
  have b15_mg1_0_1 := MpN.evo rfl hE15 hmg1_0_1
  have b15_Ag1_0_2 := RdO.evo rfl hE15 hAg1_0_2
  have b15_gg1_0 := BlkO.evo (by decide) hE15 hgg1_0
  have b15_Ag1_1 := RdO.evo rfl hE15 hAg1_1
  have b15_Ag1_2 := RdO.evo rfl hE15 hAg1_2
  have b15_mg1_3 := MpO.evo (by decide) hE15 hmg1_3
  have b15_mg1_4 := MpO.evo (by decide) hE15 hmg1_4
  have b15_gg1 := BlkO.evo (by decide) hE15 hgg1
  refine fl_seq (fun Q16 hn16 hp16 => ?_)
  refine rg_plain_seq (n := 10) (rs := []) (own0 := own15) (K := [])
      (bs := [0, 1])
      (ds := [⟨[], [0], [], Fct.val 3 (.pointer (some ⟨gg1, 0, none⟩))⟩,
      ⟨[0], [], [], Fct.val 4 (.bool false)⟩]) (by kernel_rfl) hz15 hd15 (fun _ h => nomatch h) ?_ ?_
  · refine sc (fun _ _ _ _ s _ => px (or_move (s.1.trans e15_0))) ?_
    refine sc (fun _ _ _ f _ _ => px (or_k [(3, .pointer (some ⟨gg1, 0, none⟩))] rfl rfl ⟨f.1, trivial⟩ (by kernel_rfl))) ?_
    exact steps_nil
  intro own17 a17 w17 hd17 hz17 hk17 hf17 hE17
  have e17_0 := (hk17 0 rfl).trans e15_0
  obtain ⟨(f_4 : a17.eval (.tmp 4) = .bool false), -⟩ := hf17 [1] rfl
  have e17_4 := f_4
  have hX17 := Evo.step hX15 (fun _ => Nat.le_refl 0) hE17 rfl
  have b17_Ag1_0_0 := RdO.evo rfl hE17 b15_Ag1_0_0
  have b17_mg1_0_1 := MpN.evo rfl hE17 b15_mg1_0_1
  have b17_Ag1_0_2 := RdO.evo rfl hE17 b15_Ag1_0_2
  have b17_gg1_0 := BlkO.evo (by decide) hE17 b15_gg1_0
  have b17_Ag1_1 := RdO.evo rfl hE17 b15_Ag1_1
  have b17_Ag1_2 := RdO.evo rfl hE17 b15_Ag1_2
  have b17_mg1_3 := MpO.evo (by decide) hE17 b15_mg1_3
  have b17_mg1_4 := MpO.evo (by decide) hE17 b15_mg1_4
  have b17_gg1 := BlkO.evo (by decide) hE17 b15_gg1
  refine fl_f e17_4 ?_
  refine fl_skip ?_
  refine hn16 _ _ ?_
  refine rg_plain_seq (n := 10) (rs := []) (own0 := own17) (K := [])
      (bs := [0, 1, 3, 7, 15, 31])
      (ds := [⟨[], [0], [], Fct.val 5 (.pointer (some ⟨gg1, 0, none⟩))⟩,
      ⟨[0], [], [], Fct.val 6 (.pointer (some ⟨gg1, 0, none⟩))⟩,
      ⟨[1], [], [], Fct.val 7 (.pointer (some ⟨gg1, 4, none⟩))⟩,
      ⟨[2], [], [], Fct.val 8 (.map (some mg1_4))⟩,
      ⟨[3], [], [], Fct.val 9 (.int .i64 (g1.2.2.2.2.length : Int))⟩,
      ⟨[4], [], [], Fct.val 2 (.int .i64 (g1.2.2.2.2.length : Int))⟩]) (by kernel_rfl) hz17 hd17 (fun _ h => nomatch h) ?_ ?_
  · refine sc (fun _ _ _ _ s _ => px (or_move (s.1.trans e17_0))) ?_
    refine sc (fun _ _ _ f _ _ => px (or_k [(5, .pointer (some ⟨gg1, 0, none⟩))] rfl rfl ⟨f.1, trivial⟩ (by kernel_rfl))) ?_
    refine sc (fun _ _ _ f _ _ => px (or_field fo77_4 f.1 (by rfl))) ?_
    refine sc (fun _ _ _ f _ hE => px (or_load1 to75 f.1 (Blk.at_ (BlkO.evo (by decide) hE b17_gg1).2 4 rfl))) ?_
    refine sc (fun _ _ _ f _ hE => px (or_lenMap (kf := vv81) (vf := vv4) tm75 f.1 (MpO.evo (by decide) hE b17_mg1_4) rfl)) ?_
    refine sc (fun _ _ _ f _ _ => px (or_assign f.1)) ?_
    exact steps_nil
  intro own18 a18 w18 hd18 hz18 hk18 hf18 hE18
  obtain ⟨(f_2 : a18.eval (.tmp 2) = .int .i64 (g1.2.2.2.2.length : Int)), -⟩ := hf18 [5] rfl
  have e18_2 := f_2
  have hX18 := Evo.step hX17 (fun _ => Nat.le_refl 0) hE18 rfl
  refine fl_ret ?_
  obtain rfl := osome hs
  exact hret _ _ _ _ (.inl rfl) hd18 (results1_ rfl (RVal.tmp_ e18_2)) ⟨own18, rfl, hX18⟩
theorem law18_known_w (w : World) (r : Bool) (hs : law18_known = some r) :
    Calls Try.prog 11 #[] w fun e w' => ∃ own' : Own, e = .returned (.bool r) ∧ Evo [] (fun _ => 0) own' w w' := by
  refine fl_enter (n := 62) rfl rfl rfl (Nat.le_of_ble_eq_true rfl) ?_
  intro a0 Q hd0 hz0 harg hret
  clear harg
  have hE0 : Evo [] (fun _ => 0) (fun _ => 0) w w := Evo.refl _ _ _
  refine rg_plain_seq (n := 62) (rs := []) (own0 := (fun _ => 0)) (K := [])
      (bs := [0])
      (ds := [⟨[], [], [], Fct.val 0 (.bool false)⟩]) (by kernel_rfl) hz0 hd0 (fun _ h => nomatch h) ?_ ?_
  · refine sc (fun _ _ _ _ _ _ => px (or_assign rfl)) ?_
    exact steps_nil
  intro own81 a81 w81 hd81 hz81 hk81 hf81 hE81
  have hX81 := Evo.step hE0 (fun _ => Nat.le_refl 0) hE81 rfl
  refine rg_plain_seq (n := 62) (rs := []) (own0 := own81) (K := [85])
      (bs := [0, 0, 0, 7, 15, 0, 63])
      (ds := [⟨[], [], [], Fct.val 4 (.agg #[.int .i64 0, .int .i64 0])⟩,
      ⟨[], [], [], Fct.val 5 (.agg #[.int .i64 2, .int .i64 1])⟩,
      ⟨[], [], [], Fct.val 6 (.agg #[.int .i64 4, .int .i64 0])⟩,
      ⟨[0, 1, 2], [], [], Fct.row 83 [] 7 25 R25 [(0, 0), (2, 1), (4, 0)]⟩,
      ⟨[3], [], [], Fct.rel [8, 7] (fun l => ∀ (A82 : Option Addr) (cA82 : Nat), l.getD 1 undef = .slice A82 [(0, 0), (2, 1), (4, 0)].length cA82 → l.getD 0 undef = .agg #[.slice A82 [(0, 0), (2, 1), (4, 0)].length cA82, .int .i64 0, .int .i64 0])⟩,
      ⟨[], [], [], Fct.blk 85 1 (fun g => .pointer (some ⟨g, 0, none⟩)) 63 #[.slice none 0 0, .int .i64 0, .int .i64 0]⟩,
      ⟨[5, 4, 3], [], [85], Fct.by_ [86] [1, 7] (fun l own w => ∃ g84 : Nat, l.getD 0 undef = .pointer (some ⟨g84, 0, none⟩) ∧ (∀ (A82 : Option Addr) (cA82 : Nat), l.getD 1 undef = .slice A82 [(0, 0), (2, 1), (4, 0)].length cA82 → BlkO own 86 w g84 63 #[.slice A82 [(0, 0), (2, 1), (4, 0)].length cA82, .int .i64 0, .int .i64 0])) (fun hk he h => by obtain ⟨g, e, h⟩ := h; exact ⟨g, e, fun _ _ h0' => BlkO.evo (not_hit hk (by decide)) he (h _ _ h0')⟩)⟩]) (by kernel_rfl) hz81 hd81 (fun _ h => nomatch h) ?_ ?_
  · refine sc (fun _ _ _ _ _ _ => px (or_k [] rfl rfl trivial (by kernel_rfl))) ?_
    refine sc (fun _ _ _ _ _ _ => px (or_k [] rfl rfl trivial (by kernel_rfl))) ?_
    refine sc (fun _ _ _ _ _ _ => px (or_k [] rfl rfl trivial (by kernel_rfl))) ?_
    refine sc (fun _ _ _ f _ _ => px (or_lit (lab := 83) (e := 25) (cs := #[.int .i64 0, .int .i64 0, .int .i64 2, .int .i64 1, .int .i64 4, .int .i64 0]) (F := E25) (or_new [(4, .agg #[.int .i64 0, .int .i64 0]), (5, .agg #[.int .i64 2, .int .i64 1]), (6, .agg #[.int .i64 4, .int .i64 0])] rfl rfl ⟨f.1, f.2.1, f.2.2.1, trivial⟩ (by kernel_rfl)) rfl rfl (show 3 ≤ maxLen by decide))) ?_
    refine sc (fun own a wx hf hsl hE => ?_) ?_
    · obtain ⟨⟨⟨A82, cA82⟩, (f_7 : a.eval (.tmp 7) = .slice A82 [(0, 0), (2, 1), (4, 0)].length cA82), (b_A82 : RwO own 83 [] wx 25 R25 A82 cA82 [(0, 0), (2, 1), (4, 0)])⟩, -⟩ := hf
      exact px (or_mono (f := Fct.val 8 (.agg #[.slice A82 [(0, 0), (2, 1), (4, 0)].length cA82, .int .i64 0, .int .i64 0])) (or_k [(7, .slice A82 [(0, 0), (2, 1), (4, 0)].length cA82)] rfl rfl ⟨f_7, trivial⟩ (by kernel_rfl)) (fun own' a' w' v' hp h => fun _ _ h0' => by cases (f_7.symm.trans ((hp.2 7 (by decide)).symm.trans h0')); exact h))
    refine sc (fun _ _ _ _ _ _ => px (or_new [] rfl rfl trivial (by kernel_rfl))) ?_
    refine sc (fun own a wx hf hsl hE => ?_) ?_
    · obtain ⟨⟨g84, (f_1 : a.eval (.tmp 1) = .pointer (some ⟨g84, 0, none⟩)), (b_g84 : BlkO own 85 wx g84 63 #[.slice none 0 0, .int .i64 0, .int .i64 0])⟩, (q_8 : ∀ (A82 : Option Addr) (cA82 : Nat), a.eval (.tmp 7) = .slice A82 [(0, 0), (2, 1), (4, 0)].length cA82 → a.eval (.tmp 8) = .agg #[.slice A82 [(0, 0), (2, 1), (4, 0)].length cA82, .int .i64 0, .int .i64 0]), ⟨⟨A82, cA82⟩, (f_7 : a.eval (.tmp 7) = .slice A82 [(0, 0), (2, 1), (4, 0)].length cA82), (b_A82 : RwO own 83 [] wx 25 R25 A82 cA82 [(0, 0), (2, 1), (4, 0)])⟩, -⟩ := hf
      have f_8 := q_8 _ _ f_7
      exact px (or_store (l := #[.slice A82 [(0, 0), (2, 1), (4, 0)].length cA82, .int .i64 0, .int .i64 0]) (lab := 85) (lab2 := 86) ts63 f_1 f_8 b_g84 (by simp) (by kernel_rfl) (mem_of rfl) (by decide) (by kernel_rfl) (fun own' a' w' ha hb => ⟨_, (ha 1).trans f_1, fun _ _ h0' => by cases (f_7.symm.trans ((ha 7).symm.trans h0')); exact hb⟩))
    exact steps_nil
  intro own87 a87 w87 hd87 hz87 hk87 hf87 hE87
  obtain ⟨⟨⟨A82, cA82⟩, (f_7 : a87.eval (.tmp 7) = .slice A82 [(0, 0), (2, 1), (4, 0)].length cA82), (b_A82 : RwO own87 83 [] w87 25 R25 A82 cA82 [(0, 0), (2, 1), (4, 0)])⟩, ⟨g84, (f_1 : a87.eval (.tmp 1) = .pointer (some ⟨g84, 0, none⟩)), (bq_g84 : ∀ (A82 : Option Addr) (cA82 : Nat), a87.eval (.tmp 7) = .slice A82 [(0, 0), (2, 1), (4, 0)].length cA82 → BlkO own87 86 w87 g84 63 #[.slice A82 [(0, 0), (2, 1), (4, 0)].length cA82, .int .i64 0, .int .i64 0])⟩, -⟩ := hf87 [3, 6] rfl
  have b_g84 := bq_g84 _ _ f_7
  have e87_1 := f_1
  have hX87 := Evo.step hX81 (fun _ => Nat.le_refl 0) hE87 rfl
  have b87_A82 := b_A82
  have b87_g84 := b_g84
  obtain ⟨r90, hr90, hs⟩ := obind hs
  refine rg_plain_seq (n := 62) (rs := []) (own0 := own87) (K := [])
      (bs := [0, 1, 3, 7])
      (ds := [⟨[], [1], [], Fct.val 9 (.agg #[.slice A82 [(0, 0), (2, 1), (4, 0)].length cA82, .int .i64 0, .int .i64 0])⟩,
      ⟨[0], [], [], Fct.row 89 [83] 10 63 R63 [([(0, 0), (2, 1), (4, 0)], 0, 0)]⟩,
      ⟨[1], [], [], Fct.mems [100, 101, 102, 103, 104, 105, 106, 107, 108, 109] 11 (fun (x : (Option Addr × Nat) × (Option Addr × Nat) × (Option Addr × Nat) × (Option Addr × Nat) × (Option Addr × Nat) × (Option Addr × Nat) × (Option Addr × Nat) × (Option Addr × Nat) × (Option Addr × Nat)) => .pointer (some ⟨x.1.2, 0, none⟩)) (fun (x : (Option Addr × Nat) × (Option Addr × Nat) × (Option Addr × Nat) × (Option Addr × Nat) × (Option Addr × Nat) × (Option Addr × Nat) × (Option Addr × Nat) × (Option Addr × Nat) × (Option Addr × Nat)) own w => RwO own 100 [] w 80 R80 x.2.2.1.1 x.2.2.1.2 r90.1.1 ∧ MpN own 101 102 [] w x.2.2.2.1.2 vv111 3 R3 r90.1.2.1 ∧ RwO own 103 [] w 3 R3 x.2.2.2.2.1.1 x.2.2.2.2.1.2 r90.1.2.2 ∧ BlkO own 104 w x.2.1.2 106 #[.slice x.2.2.1.1 r90.1.1.length x.2.2.1.2, .map (some x.2.2.2.1.2), .slice x.2.2.2.2.1.1 r90.1.2.2.length x.2.2.2.2.1.2] ∧ RwO own 105 [] w 3 R3 x.2.2.2.2.2.1.1 x.2.2.2.2.2.1.2 r90.2.1 ∧ RwO own 106 [] w 25 R25 x.2.2.2.2.2.2.1.1 x.2.2.2.2.2.2.1.2 r90.2.2.1 ∧ MpO own 107 w x.2.2.2.2.2.2.2.1.2 vv25 vv4 r90.2.2.2.1 ∧ MpO own 108 w x.2.2.2.2.2.2.2.2.2 vv81 vv4 r90.2.2.2.2 ∧ BlkO own 109 w x.1.2 77 #[.pointer (some ⟨x.2.1.2, 0, none⟩), .slice x.2.2.2.2.2.1.1 r90.2.1.length x.2.2.2.2.2.1.2, .slice x.2.2.2.2.2.2.1.1 r90.2.2.1.length x.2.2.2.2.2.2.1.2, .map (some x.2.2.2.2.2.2.2.1.2), .map (some x.2.2.2.2.2.2.2.2.2)]) (fun hk he h => ⟨RwO.evo (hits_sub hk (by decide)) he h.1, MpN.evo (hits_sub hk (by decide)) he h.2.1, RwO.evo (hits_sub hk (by decide)) he h.2.2.1, BlkO.evo (not_hit hk (by decide)) he h.2.2.2.1, RwO.evo (hits_sub hk (by decide)) he h.2.2.2.2.1, RwO.evo (hits_sub hk (by decide)) he h.2.2.2.2.2.1, MpO.evo (not_hit hk (by decide)) he h.2.2.2.2.2.2.1, MpO.evo (not_hit hk (by decide)) he h.2.2.2.2.2.2.2.1, BlkO.evo (not_hit hk (by decide)) he h.2.2.2.2.2.2.2.2⟩)⟩,
      ⟨[2], [], [], Fct.rel [2, 11] (fun l => ∀ (cA91 : Nat), l.getD 1 undef = .pointer (some ⟨cA91, 0, none⟩) → l.getD 0 undef = .pointer (some ⟨cA91, 0, none⟩))⟩]) (by kernel_rfl) hz87 hd87 (fun _ h => nomatch h) ?_ ?_
  · refine sc (fun _ _ _ _ s hE => px (or_load (l := [.slice A82 [(0, 0), (2, 1), (4, 0)].length cA82, .int .i64 0, .int .i64 0]) ta63 (s.1.trans e87_1) (Blk.cellsFrom (BlkO.evo (by decide) hE b87_g84).2 0 rfl) rfl)) ?_
    refine sc (fun _ _ _ f _ hE => px (or_litN (R := R63) (lab := 89) (L := [83]) (e := 63) (cs := #[.slice A82 [(0, 0), (2, 1), (4, 0)].length cA82, .int .i64 0, .int .i64 0]) (l := [([(0, 0), (2, 1), (4, 0)], 0, 0)]) (n := 1) [(9, .agg #[.slice A82 [(0, 0), (2, 1), (4, 0)].length cA82, .int .i64 0, .int .i64 0])] rfl rfl ⟨f.1, trivial⟩ (by kernel_rfl) rfl (by decide) ⟨(Ex.iff X63).2 ⟨((A82, cA82), (), ()), rfl, ⟨(RwO.rd (RwO.evo rfl hE b87_A82)), trivial, trivial⟩⟩, rfl⟩ rfl)) ?_
    refine sc (fun own a wx hf hsl hE => ?_) ?_
    · obtain ⟨⟨⟨A88, cA88⟩, (f_10 : a.eval (.tmp 10) = .slice A88 [([(0, 0), (2, 1), (4, 0)], 0, 0)].length cA88), (b_A88 : RwO own 89 [83] wx 63 R63 A88 cA88 [([(0, 0), (2, 1), (4, 0)], 0, 0)])⟩, -⟩ := hf
      exact px (or_call cf7 (args2 rfl f_10) (guard_New_w _ ([] : List Int) none 0 [([(0, 0), (2, 1), (4, 0)], 0, 0)] A88 cA88 RdO.nil_ (RdO.zero (RwO.rd b_A88)) r90 hr90) (post_mems (m := (fun _ => 0)) (m' := (look0 [(1, 109), (2, 104), (3, 100), (4, 101), (5, 102), (6, 103), (7, 105), (8, 106), (9, 107), (10, 108)])) (fun _ _ => .inl rfl) (fun own' w' a' x h1 h => ⟨x, h1, ⟨RwO.back_ h.1 (by decide) (.inl (Rep.fl_flat _)), MpN.back_ h.2.1 (by decide) (by decide) (.inl (Rep.fl_flat _)), RwO.back_ h.2.2.1 (by decide) (.inl (Rep.fl_flat _)), BlkO.back_ h.2.2.2.1 (by decide), RwO.back_ h.2.2.2.2.1 (by decide) (.inl (Rep.fl_flat _)), RwO.back_ h.2.2.2.2.2.1 (by decide) (.inl (Rep.fl_flat _)), MpO.back_ h.2.2.2.2.2.2.1 (by decide), MpO.back_ h.2.2.2.2.2.2.2.1 (by decide), BlkO.back_ h.2.2.2.2.2.2.2.2 (by decide)⟩⟩)))
    refine sc (fun own a wx hf hsl hE => ?_) ?_
    · obtain ⟨⟨⟨⟨A91, cA91⟩, ⟨A92, cA92⟩, ⟨A93, cA93⟩, ⟨A94, cA94⟩, ⟨A95, cA95⟩, ⟨A96, cA96⟩, ⟨A97, cA97⟩, ⟨A98, cA98⟩, ⟨A99, cA99⟩⟩, (f_11 : a.eval (.tmp 11) = .pointer (some ⟨cA91, 0, none⟩)), (b_A93 : RwO own 100 [] wx 80 R80 A93 cA93 r90.1.1), (b_cA94 : MpN own 101 102 [] wx cA94 vv111 3 R3 r90.1.2.1), (b_A95 : RwO own 103 [] wx 3 R3 A95 cA95 r90.1.2.2), (b_cA92 : BlkO own 104 wx cA92 106 #[.slice A93 r90.1.1.length cA93, .map (some cA94), .slice A95 r90.1.2.2.length cA95]), (b_A96 : RwO own 105 [] wx 3 R3 A96 cA96 r90.2.1), (b_A97 : RwO own 106 [] wx 25 R25 A97 cA97 r90.2.2.1), (b_cA98 : MpO own 107 wx cA98 vv25 vv4 r90.2.2.2.1), (b_cA99 : MpO own 108 wx cA99 vv81 vv4 r90.2.2.2.2), (b_cA91 : BlkO own 109 wx cA91 77 #[.pointer (some ⟨cA92, 0, none⟩), .slice A96 r90.2.1.length cA96, .slice A97 r90.2.2.1.length cA97, .map (some cA98), .map (some cA99)])⟩, -⟩ := hf
      exact px (or_mono (f := Fct.val 2 (.pointer (some ⟨cA91, 0, none⟩))) (or_assign f_11) (fun own' a' w' v' hp h => fun _ h0' => by cases (f_11.symm.trans ((hp.2 11 (by decide)).symm.trans h0')); exact h))
    exact steps_nil
  intro own110 a110 w110 hd110 hz110 hk110 hf110 hE110
  have e110_1 := (hk110 1 rfl).trans e87_1
  obtain ⟨⟨⟨⟨A91, cA91⟩, ⟨A92, cA92⟩, ⟨A93, cA93⟩, ⟨A94, cA94⟩, ⟨A95, cA95⟩, ⟨A96, cA96⟩, ⟨A97, cA97⟩, ⟨A98, cA98⟩, ⟨A99, cA99⟩⟩, (f_11 : a110.eval (.tmp 11) = .pointer (some ⟨cA91, 0, none⟩)), (b_A93 : RwO own110 100 [] w110 80 R80 A93 cA93 r90.1.1), (b_cA94 : MpN own110 101 102 [] w110 cA94 vv111 3 R3 r90.1.2.1), (b_A95 : RwO own110 103 [] w110 3 R3 A95 cA95 r90.1.2.2), (b_cA92 : BlkO own110 104 w110 cA92 106 #[.slice A93 r90.1.1.length cA93, .map (some cA94), .slice A95 r90.1.2.2.length cA95]), (b_A96 : RwO own110 105 [] w110 3 R3 A96 cA96 r90.2.1), (b_A97 : RwO own110 106 [] w110 25 R25 A97 cA97 r90.2.2.1), (b_cA98 : MpO own110 107 w110 cA98 vv25 vv4 r90.2.2.2.1), (b_cA99 : MpO own110 108 w110 cA99 vv81 vv4 r90.2.2.2.2), (b_cA91 : BlkO own110 109 w110 cA91 77 #[.pointer (some ⟨cA92, 0, none⟩), .slice A96 r90.2.1.length cA96, .slice A97 r90.2.2.1.length cA97, .map (some cA98), .map (some cA99)])⟩, (q_2 : ∀ (cA91 : Nat), a110.eval (.tmp 11) = .pointer (some ⟨cA91, 0, none⟩) → a110.eval (.tmp 2) = .pointer (some ⟨cA91, 0, none⟩)), -⟩ := hf110 [2, 3] rfl
  have f_2 := q_2 _ f_11
  have e110_2 := f_2
  have hX110 := Evo.step hX87 (fun _ => Nat.le_refl 0) hE110 rfl
  have b110_A82 := RwO.evo rfl hE110 b87_A82
  have b110_g84 := BlkO.evo (by decide) hE110 b87_g84
  have b110_A93 := b_A93
  have b110_cA94 := b_cA94
  have b110_A95 := b_A95
  have b110_cA92 := b_cA92
  have b110_A96 := b_A96
  have b110_A97 := b_A97
  have b110_cA98 := b_cA98
  have b110_cA99 := b_cA99
  have b110_cA91 := b_cA91
  obtain ⟨r115, hr115, hs⟩ := obind hs
  refine rg_plain_seq (n := 62) (rs := []) (own0 := own110) (K := [])
      (bs := [0, 0, 0, 6, 14, 31, 63, 127])
      (ds := [⟨[], [1], [], Fct.val 12 (.agg #[.slice A82 [(0, 0), (2, 1), (4, 0)].length cA82, .int .i64 0, .int .i64 0])⟩,
      ⟨[], [], [], Fct.val 13 (.agg #[.int .i64 2, .int .i64 0])⟩,
      ⟨[], [], [], Fct.val 14 (.agg #[.int .i64 2, .int .i64 (-5)])⟩,
      ⟨[1, 2], [], [], Fct.row 112 [] 15 25 R25 [(2, 0), (2, (-5))]⟩,
      ⟨[3], [], [], Fct.rel [16, 15] (fun l => ∀ (A111 : Option Addr) (cA111 : Nat), l.getD 1 undef = .slice A111 [(2, 0), (2, (-5))].length cA111 → l.getD 0 undef = .agg #[.slice A111 [(2, 0), (2, (-5))].length cA111, .int .i64 0, .int .i64 0])⟩,
      ⟨[0, 4, 3], [], [], Fct.row 114 [83, 112] 17 63 R63 [([(0, 0), (2, 1), (4, 0)], 0, 0), ([(2, 0), (2, (-5))], 0, 0)]⟩,
      ⟨[5], [], [], Fct.mems [125, 126, 127, 128, 129, 130, 131, 132, 133, 134] 18 (fun (x : (Option Addr × Nat) × (Option Addr × Nat) × (Option Addr × Nat) × (Option Addr × Nat) × (Option Addr × Nat) × (Option Addr × Nat) × (Option Addr × Nat) × (Option Addr × Nat) × (Option Addr × Nat)) => .pointer (some ⟨x.1.2, 0, none⟩)) (fun (x : (Option Addr × Nat) × (Option Addr × Nat) × (Option Addr × Nat) × (Option Addr × Nat) × (Option Addr × Nat) × (Option Addr × Nat) × (Option Addr × Nat) × (Option Addr × Nat) × (Option Addr × Nat)) own w => RwO own 125 [] w 80 R80 x.2.2.1.1 x.2.2.1.2 r115.1.1 ∧ MpN own 126 127 [] w x.2.2.2.1.2 vv111 3 R3 r115.1.2.1 ∧ RwO own 128 [] w 3 R3 x.2.2.2.2.1.1 x.2.2.2.2.1.2 r115.1.2.2 ∧ BlkO own 129 w x.2.1.2 106 #[.slice x.2.2.1.1 r115.1.1.length x.2.2.1.2, .map (some x.2.2.2.1.2), .slice x.2.2.2.2.1.1 r115.1.2.2.length x.2.2.2.2.1.2] ∧ RwO own 130 [] w 3 R3 x.2.2.2.2.2.1.1 x.2.2.2.2.2.1.2 r115.2.1 ∧ RwO own 131 [] w 25 R25 x.2.2.2.2.2.2.1.1 x.2.2.2.2.2.2.1.2 r115.2.2.1 ∧ MpO own 132 w x.2.2.2.2.2.2.2.1.2 vv25 vv4 r115.2.2.2.1 ∧ MpO own 133 w x.2.2.2.2.2.2.2.2.2 vv81 vv4 r115.2.2.2.2 ∧ BlkO own 134 w x.1.2 77 #[.pointer (some ⟨x.2.1.2, 0, none⟩), .slice x.2.2.2.2.2.1.1 r115.2.1.length x.2.2.2.2.2.1.2, .slice x.2.2.2.2.2.2.1.1 r115.2.2.1.length x.2.2.2.2.2.2.1.2, .map (some x.2.2.2.2.2.2.2.1.2), .map (some x.2.2.2.2.2.2.2.2.2)]) (fun hk he h => ⟨RwO.evo (hits_sub hk (by decide)) he h.1, MpN.evo (hits_sub hk (by decide)) he h.2.1, RwO.evo (hits_sub hk (by decide)) he h.2.2.1, BlkO.evo (not_hit hk (by decide)) he h.2.2.2.1, RwO.evo (hits_sub hk (by decide)) he h.2.2.2.2.1, RwO.evo (hits_sub hk (by decide)) he h.2.2.2.2.2.1, MpO.evo (not_hit hk (by decide)) he h.2.2.2.2.2.2.1, MpO.evo (not_hit hk (by decide)) he h.2.2.2.2.2.2.2.1, BlkO.evo (not_hit hk (by decide)) he h.2.2.2.2.2.2.2.2⟩)⟩,
      ⟨[6], [], [], Fct.rel [3, 18] (fun l => ∀ (cA116 : Nat), l.getD 1 undef = .pointer (some ⟨cA116, 0, none⟩) → l.getD 0 undef = .pointer (some ⟨cA116, 0, none⟩))⟩]) (by kernel_rfl) hz110 hd110 (fun _ h => nomatch h) ?_ ?_
  · refine sc (fun _ _ _ _ s hE => px (or_load (l := [.slice A82 [(0, 0), (2, 1), (4, 0)].length cA82, .int .i64 0, .int .i64 0]) ta63 (s.1.trans e110_1) (Blk.cellsFrom (BlkO.evo (by decide) hE b110_g84).2 0 rfl) rfl)) ?_
    refine sc (fun _ _ _ _ _ _ => px (or_k [] rfl rfl trivial (by kernel_rfl))) ?_
    refine sc (fun _ _ _ _ _ _ => px (or_k [] rfl rfl trivial (by kernel_rfl))) ?_
    refine sc (fun _ _ _ f _ _ => px (or_lit (lab := 112) (e := 25) (cs := #[.int .i64 2, .int .i64 0, .int .i64 2, .int .i64 (-5)]) (F := E25) (or_new [(13, .agg #[.int .i64 2, .int .i64 0]), (14, .agg #[.int .i64 2, .int .i64 (-5)])] rfl rfl ⟨f.1, f.2.1, trivial⟩ (by kernel_rfl)) rfl rfl (show 2 ≤ maxLen by decide))) ?_
    refine sc (fun own a wx hf hsl hE => ?_) ?_
    · obtain ⟨⟨⟨A111, cA111⟩, (f_15 : a.eval (.tmp 15) = .slice A111 [(2, 0), (2, (-5))].length cA111), (b_A111 : RwO own 112 [] wx 25 R25 A111 cA111 [(2, 0), (2, (-5))])⟩, -⟩ := hf
      exact px (or_mono (f := Fct.val 16 (.agg #[.slice A111 [(2, 0), (2, (-5))].length cA111, .int .i64 0, .int .i64 0])) (or_k [(15, .slice A111 [(2, 0), (2, (-5))].length cA111)] rfl rfl ⟨f_15, trivial⟩ (by kernel_rfl)) (fun own' a' w' v' hp h => fun _ _ h0' => by cases (f_15.symm.trans ((hp.2 15 (by decide)).symm.trans h0')); exact h))
    refine sc (fun own a wx hf hsl hE => ?_) ?_
    · obtain ⟨(f_12 : a.eval (.tmp 12) = .agg #[.slice A82 [(0, 0), (2, 1), (4, 0)].length cA82, .int .i64 0, .int .i64 0]), (q_16 : ∀ (A111 : Option Addr) (cA111 : Nat), a.eval (.tmp 15) = .slice A111 [(2, 0), (2, (-5))].length cA111 → a.eval (.tmp 16) = .agg #[.slice A111 [(2, 0), (2, (-5))].length cA111, .int .i64 0, .int .i64 0]), ⟨⟨A111, cA111⟩, (f_15 : a.eval (.tmp 15) = .slice A111 [(2, 0), (2, (-5))].length cA111), (b_A111 : RwO own 112 [] wx 25 R25 A111 cA111 [(2, 0), (2, (-5))])⟩, -⟩ := hf
      have f_16 := q_16 _ _ f_15
      exact px (or_litN (R := R63) (lab := 114) (L := [83, 112]) (e := 63) (cs := #[.slice A82 [(0, 0), (2, 1), (4, 0)].length cA82, .int .i64 0, .int .i64 0, .slice A111 [(2, 0), (2, (-5))].length cA111, .int .i64 0, .int .i64 0]) (l := [([(0, 0), (2, 1), (4, 0)], 0, 0), ([(2, 0), (2, (-5))], 0, 0)]) (n := 2) [(12, .agg #[.slice A82 [(0, 0), (2, 1), (4, 0)].length cA82, .int .i64 0, .int .i64 0]), (16, .agg #[.slice A111 [(2, 0), (2, (-5))].length cA111, .int .i64 0, .int .i64 0])] rfl rfl ⟨f_12, f_16, trivial⟩ (by kernel_rfl) rfl (by decide) ⟨(Ex.iff X63).2 ⟨((A82, cA82), (), ()), rfl, ⟨(RdO.more (RwO.rd (RwO.evo rfl hE b110_A82)) (by decide)), trivial, trivial⟩⟩, ⟨(Ex.iff X63).2 ⟨((A111, cA111), (), ()), rfl, ⟨(RdO.more (RwO.rd b_A111) (by decide)), trivial, trivial⟩⟩, rfl⟩⟩ rfl)
    refine sc (fun own a wx hf hsl hE => ?_) ?_
    · obtain ⟨⟨⟨A113, cA113⟩, (f_17 : a.eval (.tmp 17) = .slice A113 [([(0, 0), (2, 1), (4, 0)], 0, 0), ([(2, 0), (2, (-5))], 0, 0)].length cA113), (b_A113 : RwO own 114 [83, 112] wx 63 R63 A113 cA113 [([(0, 0), (2, 1), (4, 0)], 0, 0), ([(2, 0), (2, (-5))], 0, 0)])⟩, -⟩ := hf
      exact px (or_call cf7 (args2 rfl f_17) (guard_New_w _ ([] : List Int) none 0 [([(0, 0), (2, 1), (4, 0)], 0, 0), ([(2, 0), (2, (-5))], 0, 0)] A113 cA113 RdO.nil_ (RdO.zero (RwO.rd b_A113)) r115 hr115) (post_mems (m := (fun _ => 0)) (m' := (look0 [(1, 134), (2, 129), (3, 125), (4, 126), (5, 127), (6, 128), (7, 130), (8, 131), (9, 132), (10, 133)])) (fun _ _ => .inl rfl) (fun own' w' a' x h1 h => ⟨x, h1, ⟨RwO.back_ h.1 (by decide) (.inl (Rep.fl_flat _)), MpN.back_ h.2.1 (by decide) (by decide) (.inl (Rep.fl_flat _)), RwO.back_ h.2.2.1 (by decide) (.inl (Rep.fl_flat _)), BlkO.back_ h.2.2.2.1 (by decide), RwO.back_ h.2.2.2.2.1 (by decide) (.inl (Rep.fl_flat _)), RwO.back_ h.2.2.2.2.2.1 (by decide) (.inl (Rep.fl_flat _)), MpO.back_ h.2.2.2.2.2.2.1 (by decide), MpO.back_ h.2.2.2.2.2.2.2.1 (by decide), BlkO.back_ h.2.2.2.2.2.2.2.2 (by decide)⟩⟩)))
    refine sc (fun own a wx hf hsl hE => ?_) ?_
    · obtain ⟨⟨⟨⟨A116, cA116⟩, ⟨A117, cA117⟩, ⟨A118, cA118⟩, ⟨A119, cA119⟩, ⟨A120, cA120⟩, ⟨A121, cA121⟩, ⟨A122, cA122⟩, ⟨A123, cA123⟩, ⟨A124, cA124⟩⟩, (f_18 : a.eval (.tmp 18) = .pointer (some ⟨cA116, 0, none⟩)), (b_A118 : RwO own 125 [] wx 80 R80 A118 cA118 r115.1.1), (b_cA119 : MpN own 126 127 [] wx cA119 vv111 3 R3 r115.1.2.1), (b_A120 : RwO own 128 [] wx 3 R3 A120 cA120 r115.1.2.2), (b_cA117 : BlkO own 129 wx cA117 106 #[.slice A118 r115.1.1.length cA118, .map (some cA119), .slice A120 r115.1.2.2.length cA120]), (b_A121 : RwO own 130 [] wx 3 R3 A121 cA121 r115.2.1), (b_A122 : RwO own 131 [] wx 25 R25 A122 cA122 r115.2.2.1), (b_cA123 : MpO own 132 wx cA123 vv25 vv4 r115.2.2.2.1), (b_cA124 : MpO own 133 wx cA124 vv81 vv4 r115.2.2.2.2), (b_cA116 : BlkO own 134 wx cA116 77 #[.pointer (some ⟨cA117, 0, none⟩), .slice A121 r115.2.1.length cA121, .slice A122 r115.2.2.1.length cA122, .map (some cA123), .map (some cA124)])⟩, -⟩ := hf
      exact px (or_mono (f := Fct.val 3 (.pointer (some ⟨cA116, 0, none⟩))) (or_assign f_18) (fun own' a' w' v' hp h => fun _ h0' => by cases (f_18.symm.trans ((hp.2 18 (by decide)).symm.trans h0')); exact h))
    exact steps_nil
  intro own135 a135 w135 hd135 hz135 hk135 hf135 hE135
  have e135_1 := (hk135 1 rfl).trans e110_1
  have e135_2 := (hk135 2 rfl).trans e110_2
  obtain ⟨⟨⟨⟨A116, cA116⟩, ⟨A117, cA117⟩, ⟨A118, cA118⟩, ⟨A119, cA119⟩, ⟨A120, cA120⟩, ⟨A121, cA121⟩, ⟨A122, cA122⟩, ⟨A123, cA123⟩, ⟨A124, cA124⟩⟩, (f_18 : a135.eval (.tmp 18) = .pointer (some ⟨cA116, 0, none⟩)), (b_A118 : RwO own135 125 [] w135 80 R80 A118 cA118 r115.1.1), (b_cA119 : MpN own135 126 127 [] w135 cA119 vv111 3 R3 r115.1.2.1), (b_A120 : RwO own135 128 [] w135 3 R3 A120 cA120 r115.1.2.2), (b_cA117 : BlkO own135 129 w135 cA117 106 #[.slice A118 r115.1.1.length cA118, .map (some cA119), .slice A120 r115.1.2.2.length cA120]), (b_A121 : RwO own135 130 [] w135 3 R3 A121 cA121 r115.2.1), (b_A122 : RwO own135 131 [] w135 25 R25 A122 cA122 r115.2.2.1), (b_cA123 : MpO own135 132 w135 cA123 vv25 vv4 r115.2.2.2.1), (b_cA124 : MpO own135 133 w135 cA124 vv81 vv4 r115.2.2.2.2), (b_cA116 : BlkO own135 134 w135 cA116 77 #[.pointer (some ⟨cA117, 0, none⟩), .slice A121 r115.2.1.length cA121, .slice A122 r115.2.2.1.length cA122, .map (some cA123), .map (some cA124)])⟩, (q_3 : ∀ (cA116 : Nat), a135.eval (.tmp 18) = .pointer (some ⟨cA116, 0, none⟩) → a135.eval (.tmp 3) = .pointer (some ⟨cA116, 0, none⟩)), -⟩ := hf135 [6, 7] rfl
  have f_3 := q_3 _ f_18
  have e135_3 := f_3
  have hX135 := Evo.step hX110 (fun _ => Nat.le_refl 0) hE135 rfl
  have b135_A82 := RwO.evo rfl hE135 b110_A82
  have b135_g84 := BlkO.evo (by decide) hE135 b110_g84
  have b135_A93 := RwO.evo rfl hE135 b110_A93
  have b135_cA94 := MpN.evo rfl hE135 b110_cA94
  have b135_A95 := RwO.evo rfl hE135 b110_A95
  have b135_cA92 := BlkO.evo (by decide) hE135 b110_cA92
  have b135_A96 := RwO.evo rfl hE135 b110_A96
  have b135_A97 := RwO.evo rfl hE135 b110_A97
  have b135_cA98 := MpO.evo (by decide) hE135 b110_cA98
  have b135_cA99 := MpO.evo (by decide) hE135 b110_cA99
  have b135_cA91 := BlkO.evo (by decide) hE135 b110_cA91
  have b135_A118 := b_A118
  have b135_cA119 := b_cA119
  have b135_A120 := b_A120
  have b135_cA117 := b_cA117
  have b135_A121 := b_A121
  have b135_A122 := b_A122
  have b135_cA123 := b_cA123
  have b135_cA124 := b_cA124
  have b135_cA116 := b_cA116
  refine fl_seq (fun Q136 hn136 hp136 => ?_)
  refine rg_plain_seq (n := 62) (rs := []) (own0 := own135) (K := [])
      (bs := [0, 1, 3, 7, 15, 31])
      (ds := [⟨[], [2], [], Fct.val 19 (.pointer (some ⟨cA91, 0, none⟩))⟩,
      ⟨[0], [], [], Fct.val 20 (.bool false)⟩,
      ⟨[1], [], [], Fct.val 21 (.bool false)⟩,
      ⟨[2], [3], [], Fct.cond (!false) (some 22) (Fct.val 22 (.pointer (some ⟨cA116, 0, none⟩)))⟩,
      ⟨[2, 3], [], [], Fct.cond (!false) (some 23) (Fct.val 23 (.bool false))⟩,
      ⟨[2, 4], [], [], Fct.val 24 (.bool (false || false))⟩]) (by kernel_rfl) hz135 hd135 (fun _ h => nomatch h) ?_ ?_
  · refine sc (fun _ _ _ _ s _ => px (or_move (s.1.trans e135_2))) ?_
    refine sc (fun _ _ _ f _ _ => px (or_k [(19, .pointer (some ⟨cA91, 0, none⟩))] rfl rfl ⟨f.1, trivial⟩ (by kernel_rfl))) ?_
    refine sc (fun _ _ _ f _ _ => px (or_move f.1)) ?_
    refine sc (fun own a wx hf hsl hE => ?_) ?_
    · obtain ⟨(f_21 : a.eval (.tmp 21) = .bool false), -⟩ := hf
      obtain ⟨s_3, -⟩ := hsl
      refine sg_f rfl rfl rfl f_21 (fun hg => ?_)
      exact or_move (s_3.trans e135_3)
    refine sc (fun own a wx hf hsl hE => ?_) ?_
    · obtain ⟨(f_21 : a.eval (.tmp 21) = .bool false), c_22, -⟩ := hf
      refine sg_f rfl rfl rfl f_21 (fun hg => ?_)
      have f_22 : a.eval (.tmp 22) = .pointer (some ⟨cA116, 0, none⟩) := c_22.1 hg
      exact or_k [(22, .pointer (some ⟨cA116, 0, none⟩))] rfl rfl ⟨f_22, trivial⟩ (by kernel_rfl)
    refine sc (fun own a wx hf hsl hE => ?_) ?_
    · obtain ⟨(f_21 : a.eval (.tmp 21) = .bool false), c_23, -⟩ := hf
      exact px (or_or f_21 rfl (fun hx => c_23.1 hx) rfl)
    exact steps_nil
  intro own137 a137 w137 hd137 hz137 hk137 hf137 hE137
  have e137_1 := (hk137 1 rfl).trans e135_1
  have e137_2 := (hk137 2 rfl).trans e135_2
  have e137_3 := (hk137 3 rfl).trans e135_3
  obtain ⟨(f_24 : a137.eval (.tmp 24) = .bool (false || false)), -⟩ := hf137 [5] rfl
  have e137_24 := f_24
  have hX137 := Evo.step hX135 (fun _ => Nat.le_refl 0) hE137 rfl
  have b137_A82 := RwO.evo rfl hE137 b135_A82
  have b137_g84 := BlkO.evo (by decide) hE137 b135_g84
  have b137_A93 := RwO.evo rfl hE137 b135_A93
  have b137_cA94 := MpN.evo rfl hE137 b135_cA94
  have b137_A95 := RwO.evo rfl hE137 b135_A95
  have b137_cA92 := BlkO.evo (by decide) hE137 b135_cA92
  have b137_A96 := RwO.evo rfl hE137 b135_A96
  have b137_A97 := RwO.evo rfl hE137 b135_A97
  have b137_cA98 := MpO.evo (by decide) hE137 b135_cA98
  have b137_cA99 := MpO.evo (by decide) hE137 b135_cA99
  have b137_cA91 := BlkO.evo (by decide) hE137 b135_cA91
  have b137_A118 := RwO.evo rfl hE137 b135_A118
  have b137_cA119 := MpN.evo rfl hE137 b135_cA119
  have b137_A120 := RwO.evo rfl hE137 b135_A120
  have b137_cA117 := BlkO.evo (by decide) hE137 b135_cA117
  have b137_A121 := RwO.evo rfl hE137 b135_A121
  have b137_A122 := RwO.evo rfl hE137 b135_A122
  have b137_cA123 := MpO.evo (by decide) hE137 b135_cA123
  have b137_cA124 := MpO.evo (by decide) hE137 b135_cA124
  have b137_cA116 := BlkO.evo (by decide) hE137 b135_cA116
  refine fl_cond e137_24 hs (fun c138 hs => ?_) (fun c138 hs => ?_)
  · refine rg_plain_seq (n := 62) (rs := []) (own0 := own137) (K := [])
        (bs := [0])
        (ds := [⟨[], [], [], Fct.val 0 (.bool false)⟩]) (by kernel_rfl) hz137 hd137 (fun _ h => nomatch h) ?_ ?_
    · refine sc (fun _ _ _ _ _ _ => px (or_assign rfl)) ?_
      exact steps_nil
    intro own139 a139 w139 hd139 hz139 hk139 hf139 hE139
    obtain ⟨(f_0 : a139.eval (.tmp 0) = .bool false), -⟩ := hf139 [0] rfl
    have e139_0 := f_0
    have hX139 := Evo.step hX137 (fun _ => Nat.le_refl 0) hE139 rfl
    refine fl_ret ?_
    refine hp136 _ _ _ rfl ?_
    obtain rfl := osome hs
    exact hret _ _ _ _ (.inl rfl) hd139 (results1_ rfl (RVal.tmp_ e139_0)) ⟨own139, rfl, hX139⟩
  refine fl_skip ?_
  refine hn136 _ _ ?_
  obtain ⟨x140, hx140, hs⟩ := obind hs
  obtain ⟨x141, hx141, hs⟩ := obind hs
  obtain ⟨x142, hx142, hs⟩ := obind hs
  obtain ⟨r143, hr143, hs⟩ := obind hs
  obtain ⟨x144, hx144, hs⟩ := obind hs
  obtain ⟨x145, hx145, hs⟩ := obind hs
  obtain ⟨x146, hx146, hs⟩ := obind hs
  obtain ⟨r147, hr147, hs⟩ := obind hs
  obtain ⟨x148, hx148, hs⟩ := obind hs
  obtain ⟨r149, hr149, hs⟩ := obind hs
  refine rg_draw_seq g_mixed (n := 62) (rs := []) (own0 := own137) (K := [])
      (bs := [0, 0, 2, 6, 14, 0, 32, 96, 224, 0, 512, 1536, 3584, 8191, 16383, 32767, 65535, 65535, 196607, 458751, 983039, 65535, 2162687, 6356991, 14745599, 65535, 33619967, 100728831, 234946559, 536870911, 1073741823, 2147483647, 4294967295, 8589934591, 17179869183, 34359738367, 68719476735, 137438953471])
      (ds := [⟨[], [2], [], Fct.val 25 (.pointer (some ⟨cA91, 0, none⟩))⟩,
      ⟨[], [1], [], Fct.val 26 (.pointer (some ⟨g84, 0, none⟩))⟩,
      ⟨[1], [], [], Fct.val 27 (.slice A82 [(0, 0), (2, 1), (4, 0)].length cA82)⟩,
      ⟨[2], [], [], Fct.val 28 (.pointer (some ((adr A82).add ((0 : Int).toNat * R25.s))))⟩,
      ⟨[3], [], [], Fct.val 29 (.agg #[.int .i64 x140.1, .int .i64 x140.2])⟩,
      ⟨[], [1], [], Fct.val 30 (.pointer (some ⟨g84, 0, none⟩))⟩,
      ⟨[5], [], [], Fct.val 31 (.slice A82 [(0, 0), (2, 1), (4, 0)].length cA82)⟩,
      ⟨[6], [], [], Fct.val 32 (.pointer (some ((adr A82).add ((1 : Int).toNat * R25.s))))⟩,
      ⟨[7], [], [], Fct.val 33 (.agg #[.int .i64 x141.1, .int .i64 x141.2])⟩,
      ⟨[], [1], [], Fct.val 34 (.pointer (some ⟨g84, 0, none⟩))⟩,
      ⟨[9], [], [], Fct.val 35 (.slice A82 [(0, 0), (2, 1), (4, 0)].length cA82)⟩,
      ⟨[10], [], [], Fct.val 36 (.pointer (some ((adr A82).add ((2 : Int).toNat * R25.s))))⟩,
      ⟨[11], [], [], Fct.val 37 (.agg #[.int .i64 x142.1, .int .i64 x142.2])⟩,
      ⟨[0, 4, 8, 12], [], [], Fct.val 38 (.int .i64 r143)⟩,
      ⟨[13], [], [], Fct.val 39 (.bool (decide (r143 = 0)))⟩,
      ⟨[14], [], [], Fct.val 40 (.bool (decide (r143 = 0)))⟩,
      ⟨[15], [3], [], Fct.cond (decide (r143 = 0)) (some 41) (Fct.val 41 (.pointer (some ⟨cA116, 0, none⟩)))⟩,
      ⟨[15], [1], [], Fct.cond (decide (r143 = 0)) (some 42) (Fct.val 42 (.pointer (some ⟨g84, 0, none⟩)))⟩,
      ⟨[15, 17], [], [], Fct.cond (decide (r143 = 0)) (some 43) (Fct.val 43 (.slice A82 [(0, 0), (2, 1), (4, 0)].length cA82))⟩,
      ⟨[15, 18], [], [], Fct.cond (decide (r143 = 0)) (some 44) (Fct.val 44 (.pointer (some ((adr A82).add ((0 : Int).toNat * R25.s)))))⟩,
      ⟨[15, 19], [], [], Fct.cond (decide (r143 = 0)) (some 45) (Fct.val 45 (.agg #[.int .i64 x144.1, .int .i64 x144.2]))⟩,
      ⟨[15], [1], [], Fct.cond (decide (r143 = 0)) (some 46) (Fct.val 46 (.pointer (some ⟨g84, 0, none⟩)))⟩,
      ⟨[15, 21], [], [], Fct.cond (decide (r143 = 0)) (some 47) (Fct.val 47 (.slice A82 [(0, 0), (2, 1), (4, 0)].length cA82))⟩,
      ⟨[15, 22], [], [], Fct.cond (decide (r143 = 0)) (some 48) (Fct.val 48 (.pointer (some ((adr A82).add ((1 : Int).toNat * R25.s)))))⟩,
      ⟨[15, 23], [], [], Fct.cond (decide (r143 = 0)) (some 49) (Fct.val 49 (.agg #[.int .i64 x145.1, .int .i64 x145.2]))⟩,
      ⟨[15], [1], [], Fct.cond (decide (r143 = 0)) (some 50) (Fct.val 50 (.pointer (some ⟨g84, 0, none⟩)))⟩,
      ⟨[15, 25], [], [], Fct.cond (decide (r143 = 0)) (some 51) (Fct.val 51 (.slice A82 [(0, 0), (2, 1), (4, 0)].length cA82))⟩,
      ⟨[15, 26], [], [], Fct.cond (decide (r143 = 0)) (some 52) (Fct.val 52 (.pointer (some ((adr A82).add ((2 : Int).toNat * R25.s)))))⟩,
      ⟨[15, 27], [], [], Fct.cond (decide (r143 = 0)) (some 53) (Fct.val 53 (.agg #[.int .i64 x146.1, .int .i64 x146.2]))⟩,
      ⟨[15, 16, 20, 24, 28], [], [], Fct.cond (decide (r143 = 0)) (some 54) (Fct.val 54 (.int .i64 r147))⟩,
      ⟨[15, 29], [], [], Fct.cond (decide (r143 = 0)) (some 55) (Fct.val 55 (.bool (decide (r147 = 4))))⟩,
      ⟨[15, 30], [], [], Fct.val 56 (.bool x148)⟩,
      ⟨[31], [], [], Fct.val 57 (.bool x148)⟩,
      ⟨[32], [2], [], Fct.cond x148 (some 58) (Fct.val 58 (.pointer (some ⟨cA91, 0, none⟩)))⟩,
      ⟨[32, 33], [], [], Fct.cond x148 (some 59) (Fct.val 59 (.int .i64 r149))⟩,
      ⟨[32, 34], [], [], Fct.cond x148 (some 60) (Fct.val 60 (.bool (decide (r149 = 2))))⟩,
      ⟨[32, 35], [], [], Fct.val 61 (.bool (x148 && (decide (r149 = 2))))⟩,
      ⟨[36], [], [], Fct.val 0 (.bool (x148 && (decide (r149 = 2))))⟩]) (by kernel_rfl) hz137 hd137 (fun _ h => nomatch h) ?_ ?_
  · refine sc (fun _ _ _ _ s _ => px (or_move (s.1.trans e137_2))) ?_
    refine sc (fun _ _ _ _ s _ => px (or_field fo63_0 (s.1.trans e137_1) (by rfl))) ?_
    refine sc (fun _ _ _ f _ hE => px (or_load1 to55 f.1 (Blk.at_ (BlkO.evo (by decide) hE b137_g84).2 0 rfl))) ?_
    refine sc (fun _ _ _ f _ _ => px (or_index (R := R25) (l := [(0, 0), (2, 1), (4, 0)]) tl55 f.1 rfl (RdO.some_ (RwO.rd b137_A82) hx140) hx140)) ?_
    refine sc (fun _ _ _ f _ hE => px (or_load (l := E25.f x140) ta25 f.1 (RdO.cells (F := E25) (RwO.rd (RwO.evo rfl hE b137_A82)) hx140) rfl)) ?_
    refine sc (fun _ _ _ _ s _ => px (or_field fo63_0 (s.1.trans e137_1) (by rfl))) ?_
    refine sc (fun _ _ _ f _ hE => px (or_load1 to55 f.1 (Blk.at_ (BlkO.evo (by decide) hE b137_g84).2 0 rfl))) ?_
    refine sc (fun _ _ _ f _ _ => px (or_index (R := R25) (l := [(0, 0), (2, 1), (4, 0)]) tl55 f.1 rfl (RdO.some_ (RwO.rd b137_A82) hx141) hx141)) ?_
    refine sc (fun _ _ _ f _ hE => px (or_load (l := E25.f x141) ta25 f.1 (RdO.cells (F := E25) (RwO.rd (RwO.evo rfl hE b137_A82)) hx141) rfl)) ?_
    refine sc (fun _ _ _ _ s _ => px (or_field fo63_0 (s.1.trans e137_1) (by rfl))) ?_
    refine sc (fun _ _ _ f _ hE => px (or_load1 to55 f.1 (Blk.at_ (BlkO.evo (by decide) hE b137_g84).2 0 rfl))) ?_
    refine sc (fun _ _ _ f _ _ => px (or_index (R := R25) (l := [(0, 0), (2, 1), (4, 0)]) tl55 f.1 rfl (RdO.some_ (RwO.rd b137_A82) hx142) hx142)) ?_
    refine sc (fun _ _ _ f _ hE => px (or_load (l := E25.f x142) ta25 f.1 (RdO.cells (F := E25) (RwO.rd (RwO.evo rfl hE b137_A82)) hx142) rfl)) ?_
    refine sc (fun _ _ _ f _ hE => px (or_call cf10 (args4 f.1 f.2.1 f.2.2.1 f.2.2.2.1) (guard_Guard_Why_w _ r90 cA91 77 cA92 106 A93 cA93 cA94 A95 cA95 A96 cA96 A97 cA97 cA98 cA99 x140 x141 x142 (BlkO.zero_ (BlkO.evo (by decide) hE b137_cA91)) (RdO.zero (RwO.rd (RwO.evo rfl hE b137_A96))) (RdO.zero (RwO.rd (RwO.evo rfl hE b137_A97))) (MpO.zero_ (MpO.evo (by decide) hE b137_cA98)) (MpO.zero_ (MpO.evo (by decide) hE b137_cA99)) (BlkO.zero_ (BlkO.evo (by decide) hE b137_cA92)) (RdO.zero (RwO.rd (RwO.evo rfl hE b137_A93))) (MpN.zero_ (MpN.evo rfl hE b137_cA94)) (RdO.zero (RwO.rd (RwO.evo rfl hE b137_A95))) r143 hr143) post_val)) ?_
    refine sc (fun _ _ _ f _ _ => px (or_eql f.1 rfl rfl)) ?_
    refine sc (fun _ _ _ f _ _ => px (or_move f.1)) ?_
    refine sc (fun own a wx hf hsl hE => ?_) ?_
    · obtain ⟨(f_40 : a.eval (.tmp 40) = .bool (decide (r143 = 0))), -⟩ := hf
      obtain ⟨s_3, -⟩ := hsl
      refine sg_t rfl rfl rfl f_40 (fun hg => ?_)
      exact or_move (s_3.trans e137_3)
    refine sc (fun own a wx hf hsl hE => ?_) ?_
    · obtain ⟨(f_40 : a.eval (.tmp 40) = .bool (decide (r143 = 0))), -⟩ := hf
      obtain ⟨s_1, -⟩ := hsl
      refine sg_t rfl rfl rfl f_40 (fun hg => ?_)
      exact or_field fo63_0 (s_1.trans e137_1) (by rfl)
    refine sc (fun own a wx hf hsl hE => ?_) ?_
    · obtain ⟨(f_40 : a.eval (.tmp 40) = .bool (decide (r143 = 0))), c_42, -⟩ := hf
      refine sg_t rfl rfl rfl f_40 (fun hg => ?_)
      have f_42 : a.eval (.tmp 42) = .pointer (some ⟨g84, 0, none⟩) := c_42.1 hg
      exact or_load1 to55 f_42 (Blk.at_ (BlkO.evo (by decide) hE b137_g84).2 0 rfl)
    refine sc (fun own a wx hf hsl hE => ?_) ?_
    · obtain ⟨(f_40 : a.eval (.tmp 40) = .bool (decide (r143 = 0))), c_43, -⟩ := hf
      refine sg_t rfl rfl rfl f_40 (fun hg => ?_)
      have f_43 : a.eval (.tmp 43) = .slice A82 [(0, 0), (2, 1), (4, 0)].length cA82 := c_43.1 hg
      exact or_index (R := R25) (l := [(0, 0), (2, 1), (4, 0)]) tl55 f_43 rfl (RdO.some_ (RwO.rd b137_A82) (gd_t hx144 hg)) (gd_t hx144 hg)
    refine sc (fun own a wx hf hsl hE => ?_) ?_
    · obtain ⟨(f_40 : a.eval (.tmp 40) = .bool (decide (r143 = 0))), c_44, -⟩ := hf
      refine sg_t rfl rfl rfl f_40 (fun hg => ?_)
      have f_44 : a.eval (.tmp 44) = .pointer (some ((adr A82).add ((0 : Int).toNat * R25.s))) := c_44.1 hg
      exact or_load (l := E25.f x144) ta25 f_44 (RdO.cells (F := E25) (RwO.rd (RwO.evo rfl hE b137_A82)) (gd_t hx144 hg)) rfl
    refine sc (fun own a wx hf hsl hE => ?_) ?_
    · obtain ⟨(f_40 : a.eval (.tmp 40) = .bool (decide (r143 = 0))), -⟩ := hf
      obtain ⟨s_1, -⟩ := hsl
      refine sg_t rfl rfl rfl f_40 (fun hg => ?_)
      exact or_field fo63_0 (s_1.trans e137_1) (by rfl)
    refine sc (fun own a wx hf hsl hE => ?_) ?_
    · obtain ⟨(f_40 : a.eval (.tmp 40) = .bool (decide (r143 = 0))), c_46, -⟩ := hf
      refine sg_t rfl rfl rfl f_40 (fun hg => ?_)
      have f_46 : a.eval (.tmp 46) = .pointer (some ⟨g84, 0, none⟩) := c_46.1 hg
      exact or_load1 to55 f_46 (Blk.at_ (BlkO.evo (by decide) hE b137_g84).2 0 rfl)
    refine sc (fun own a wx hf hsl hE => ?_) ?_
    · obtain ⟨(f_40 : a.eval (.tmp 40) = .bool (decide (r143 = 0))), c_47, -⟩ := hf
      refine sg_t rfl rfl rfl f_40 (fun hg => ?_)
      have f_47 : a.eval (.tmp 47) = .slice A82 [(0, 0), (2, 1), (4, 0)].length cA82 := c_47.1 hg
      exact or_index (R := R25) (l := [(0, 0), (2, 1), (4, 0)]) tl55 f_47 rfl (RdO.some_ (RwO.rd b137_A82) (gd_t hx145 hg)) (gd_t hx145 hg)
    refine sc (fun own a wx hf hsl hE => ?_) ?_
    · obtain ⟨(f_40 : a.eval (.tmp 40) = .bool (decide (r143 = 0))), c_48, -⟩ := hf
      refine sg_t rfl rfl rfl f_40 (fun hg => ?_)
      have f_48 : a.eval (.tmp 48) = .pointer (some ((adr A82).add ((1 : Int).toNat * R25.s))) := c_48.1 hg
      exact or_load (l := E25.f x145) ta25 f_48 (RdO.cells (F := E25) (RwO.rd (RwO.evo rfl hE b137_A82)) (gd_t hx145 hg)) rfl
    refine sc (fun own a wx hf hsl hE => ?_) ?_
    · obtain ⟨(f_40 : a.eval (.tmp 40) = .bool (decide (r143 = 0))), -⟩ := hf
      obtain ⟨s_1, -⟩ := hsl
      refine sg_t rfl rfl rfl f_40 (fun hg => ?_)
      exact or_field fo63_0 (s_1.trans e137_1) (by rfl)
    refine sc (fun own a wx hf hsl hE => ?_) ?_
    · obtain ⟨(f_40 : a.eval (.tmp 40) = .bool (decide (r143 = 0))), c_50, -⟩ := hf
      refine sg_t rfl rfl rfl f_40 (fun hg => ?_)
      have f_50 : a.eval (.tmp 50) = .pointer (some ⟨g84, 0, none⟩) := c_50.1 hg
      exact or_load1 to55 f_50 (Blk.at_ (BlkO.evo (by decide) hE b137_g84).2 0 rfl)
    refine sc (fun own a wx hf hsl hE => ?_) ?_
    · obtain ⟨(f_40 : a.eval (.tmp 40) = .bool (decide (r143 = 0))), c_51, -⟩ := hf
      refine sg_t rfl rfl rfl f_40 (fun hg => ?_)
      have f_51 : a.eval (.tmp 51) = .slice A82 [(0, 0), (2, 1), (4, 0)].length cA82 := c_51.1 hg
      exact or_index (R := R25) (l := [(0, 0), (2, 1), (4, 0)]) tl55 f_51 rfl (RdO.some_ (RwO.rd b137_A82) (gd_t hx146 hg)) (gd_t hx146 hg)
    refine sc (fun own a wx hf hsl hE => ?_) ?_
    · obtain ⟨(f_40 : a.eval (.tmp 40) = .bool (decide (r143 = 0))), c_52, -⟩ := hf
      refine sg_t rfl rfl rfl f_40 (fun hg => ?_)
      have f_52 : a.eval (.tmp 52) = .pointer (some ((adr A82).add ((2 : Int).toNat * R25.s))) := c_52.1 hg
      exact or_load (l := E25.f x146) ta25 f_52 (RdO.cells (F := E25) (RwO.rd (RwO.evo rfl hE b137_A82)) (gd_t hx146 hg)) rfl
    refine sc (fun own a wx hf hsl hE => ?_) ?_
    · obtain ⟨(f_40 : a.eval (.tmp 40) = .bool (decide (r143 = 0))), c_41, c_45, c_49, c_53, -⟩ := hf
      refine sg_t rfl rfl rfl f_40 (fun hg => ?_)
      have f_41 : a.eval (.tmp 41) = .pointer (some ⟨cA116, 0, none⟩) := c_41.1 hg
      have f_45 : a.eval (.tmp 45) = .agg #[.int .i64 x144.1, .int .i64 x144.2] := c_45.1 hg
      have f_49 : a.eval (.tmp 49) = .agg #[.int .i64 x145.1, .int .i64 x145.2] := c_49.1 hg
      have f_53 : a.eval (.tmp 53) = .agg #[.int .i64 x146.1, .int .i64 x146.2] := c_53.1 hg
      exact or_call cf10 (args4 f_41 f_45 f_49 f_53) (guard_Guard_Why_w _ r115 cA116 77 cA117 106 A118 cA118 cA119 A120 cA120 A121 cA121 A122 cA122 cA123 cA124 x144 x145 x146 (BlkO.zero_ (BlkO.evo (by decide) hE b137_cA116)) (RdO.zero (RwO.rd (RwO.evo rfl hE b137_A121))) (RdO.zero (RwO.rd (RwO.evo rfl hE b137_A122))) (MpO.zero_ (MpO.evo (by decide) hE b137_cA123)) (MpO.zero_ (MpO.evo (by decide) hE b137_cA124)) (BlkO.zero_ (BlkO.evo (by decide) hE b137_cA117)) (RdO.zero (RwO.rd (RwO.evo rfl hE b137_A118))) (MpN.zero_ (MpN.evo rfl hE b137_cA119)) (RdO.zero (RwO.rd (RwO.evo rfl hE b137_A120))) r147 (gd_t hr147 hg)) post_val
    refine sc (fun own a wx hf hsl hE => ?_) ?_
    · obtain ⟨(f_40 : a.eval (.tmp 40) = .bool (decide (r143 = 0))), c_54, -⟩ := hf
      refine sg_t rfl rfl rfl f_40 (fun hg => ?_)
      have f_54 : a.eval (.tmp 54) = .int .i64 r147 := c_54.1 hg
      exact or_eql f_54 rfl rfl
    refine sc (fun own a wx hf hsl hE => ?_) ?_
    · obtain ⟨(f_40 : a.eval (.tmp 40) = .bool (decide (r143 = 0))), c_55, -⟩ := hf
      exact px (or_and f_40 (fun hx => c_55.1 hx) rfl (osome hx148).symm)
    refine sc (fun _ _ _ f _ _ => px (or_move f.1)) ?_
    refine sc (fun own a wx hf hsl hE => ?_) ?_
    · obtain ⟨(f_57 : a.eval (.tmp 57) = .bool x148), -⟩ := hf
      obtain ⟨s_2, -⟩ := hsl
      refine sg_t rfl rfl rfl f_57 (fun hg => ?_)
      exact or_move (s_2.trans e137_2)
    refine sc (fun own a wx hf hsl hE => ?_) ?_
    · obtain ⟨(f_57 : a.eval (.tmp 57) = .bool x148), c_58, -⟩ := hf
      refine sg_t rfl rfl rfl f_57 (fun hg => ?_)
      have f_58 : a.eval (.tmp 58) = .pointer (some ⟨cA91, 0, none⟩) := c_58.1 hg
      exact or_call cf22 (args1 f_58) (guard_Guard_Edges_w _ r90 cA91 77 cA92 106 A93 cA93 cA94 A95 cA95 A96 cA96 A97 cA97 cA98 cA99 (BlkO.zero_ (BlkO.evo (by decide) hE b137_cA91)) (RdO.zero (RwO.rd (RwO.evo rfl hE b137_A96))) (RdO.zero (RwO.rd (RwO.evo rfl hE b137_A97))) (MpO.zero_ (MpO.evo (by decide) hE b137_cA98)) (MpO.zero_ (MpO.evo (by decide) hE b137_cA99)) (BlkO.zero_ (BlkO.evo (by decide) hE b137_cA92)) (RdO.zero (RwO.rd (RwO.evo rfl hE b137_A93))) (MpN.zero_ (MpN.evo rfl hE b137_cA94)) (RdO.zero (RwO.rd (RwO.evo rfl hE b137_A95))) r149 (gd_t hr149 hg)) post_val
    refine sc (fun own a wx hf hsl hE => ?_) ?_
    · obtain ⟨(f_57 : a.eval (.tmp 57) = .bool x148), c_59, -⟩ := hf
      refine sg_t rfl rfl rfl f_57 (fun hg => ?_)
      have f_59 : a.eval (.tmp 59) = .int .i64 r149 := c_59.1 hg
      exact or_eql f_59 rfl rfl
    refine sc (fun own a wx hf hsl hE => ?_) ?_
    · obtain ⟨(f_57 : a.eval (.tmp 57) = .bool x148), c_60, -⟩ := hf
      exact px (or_and f_57 (fun hx => c_60.1 hx) rfl rfl)
    refine sc (fun _ _ _ f _ _ => px (or_assign f.1)) ?_
    exact steps_nil
  intro own150 a150 w150 hd150 hz150 hk150 hf150 hE150
  obtain ⟨(f_0 : a150.eval (.tmp 0) = .bool (x148 && (decide (r149 = 2)))), -⟩ := hf150 [37] rfl
  have e150_0 := f_0
  have hX150 := Evo.step hX137 (fun _ => Nat.le_refl 0) hE150 rfl
  refine fl_ret ?_
  obtain rfl := osome hs
  exact hret _ _ _ _ (.inl rfl) hd150 (results1_ rfl (RVal.tmp_ e150_0)) ⟨own150, rfl, hX150⟩
end Go.Proofs.Ytoccfdohlefifaa
