import Derived.Test.YtoccfdohlefifaaWp4
import Derived.Test.YtoccfdohlefifaaSp6
namespace Go.Proofs.Ytoccfdohlefifaa
open Go.RowKit
set_option linter.unusedVariables false
set_option maxRecDepth 10000
theorem guard_Guard_Has_w (w : World) (g1 : (((List ((Int × Int) × (Int × Int))) × (List ((Int × Int) × (List Int))) × (List Int))) × (List Int) × (List (Int × Int)) × (List ((Int × Int) × Bool)) × (List (((Int × Int) × (Int × Int)) × Bool))) (gg1 : Nat) (tg1 : TypeId) (gg1_0 : Nat) (tg1_0 : TypeId) (Ag1_0_0 : Option Addr) (cg1_0_0 : Nat) (mg1_0_1 : Nat) (Ag1_0_2 : Option Addr) (cg1_0_2 : Nat) (Ag1_1 : Option Addr) (cg1_1 : Nat) (Ag1_2 : Option Addr) (cg1_2 : Nat) (mg1_3 : Nat) (mg1_4 : Nat) (p2 : Int × Int) (hgg1 : BlkO (fun _ => 0) 0 w gg1 tg1 #[.pointer (some ⟨gg1_0, 0, none⟩), .slice Ag1_1 g1.2.1.length cg1_1, .slice Ag1_2 g1.2.2.1.length cg1_2, .map (some mg1_3), .map (some mg1_4)]) (hAg1_1 : RdO (fun _ => 0) [0] w R3 Ag1_1 cg1_1 g1.2.1) (hAg1_2 : RdO (fun _ => 0) [0] w R25 Ag1_2 cg1_2 g1.2.2.1) (hmg1_3 : MpO (fun _ => 0) 0 w mg1_3 vv25 vv4 g1.2.2.2.1) (hmg1_4 : MpO (fun _ => 0) 0 w mg1_4 vv81 vv4 g1.2.2.2.2) (hgg1_0 : BlkO (fun _ => 0) 0 w gg1_0 tg1_0 #[.slice Ag1_0_0 g1.1.1.length cg1_0_0, .map (some mg1_0_1), .slice Ag1_0_2 g1.1.2.2.length cg1_0_2]) (hAg1_0_0 : RdO (fun _ => 0) [0] w R80 Ag1_0_0 cg1_0_0 g1.1.1) (hmg1_0_1 : MpN (fun _ => 0) 0 0 [0] w mg1_0_1 vv111 3 R3 g1.1.2.1) (hAg1_0_2 : RdO (fun _ => 0) [0] w R3 Ag1_0_2 cg1_0_2 g1.1.2.2) (r : Bool) (hs : guard_Guard_Has g1 p2 = some r) :
    Calls Try.prog 17 #[.pointer (some ⟨gg1, 0, none⟩), .agg #[.int .i64 p2.1, .int .i64 p2.2]] w fun e w' => ∃ own' : Own, e = .returned (.bool r) ∧ Evo [] (fun _ => 0) own' w w' := by
  refine fl_enter (n := 15) rfl rfl rfl (Nat.le_of_ble_eq_true rfl) ?_
  intro a0 Q hd0 hz0 harg hret
  have ha0 := harg 0 _ rfl
  have ha1 := harg 1 _ rfl
  clear harg
  have hE0 : Evo [] (fun _ => 0) (fun _ => 0) w w := Evo.refl _ _ _
  refine rg0_seq 15 (fun _ => 0) [0, 0] [⟨[], [1], [], Fct.blk 17 3 (fun g => .pointer (some ⟨g, 0, none⟩)) 25 #[.int .i64 p2.1, .int .i64 p2.2]⟩,     ⟨[], [], [], Fct.val 4 (.bool false)⟩] hz0 hd0 (by kernel_rfl) ?_ ?_
  · refine sc (fun _ _ _ _ s _ => px (or_new [(1, .agg #[.int .i64 p2.1, .int .i64 p2.2])] rfl rfl ⟨(s.1.trans ha1), trivial⟩ (by kernel_rfl))) ?_
    refine sc (fun _ _ _ _ _ _ => px (or_assign rfl)) ?_
    exact steps_nil
  intro own18 a18 w18 hd18 hz18 hk18 hf18 hE18
  have e18_0 := (hk18 0 rfl).trans ha0
  obtain ⟨⟨g16, (e18_3 : a18.eval (.tmp 3) = .pointer (some ⟨g16, 0, none⟩)), (b18_g16 : BlkO own18 17 w18 g16 25 #[.int .i64 p2.1, .int .i64 p2.2])⟩, -⟩ := hf18 [0] rfl
  have hX18 := es_ hE0 hE18
  have b18_Ag1_0_0 := RdO.evo rfl hE18 hAg1_0_0
  have b18_mg1_0_1 := MpN.evo rfl hE18 hmg1_0_1
  have b18_Ag1_0_2 := RdO.evo rfl hE18 hAg1_0_2
  have b18_gg1_0 := be_ hE18 hgg1_0
  have b18_Ag1_1 := RdO.evo rfl hE18 hAg1_1
  have b18_Ag1_2 := RdO.evo rfl hE18 hAg1_2
  have b18_mg1_3 := MpO.evo (by decide) hE18 hmg1_3
  have b18_mg1_4 := MpO.evo (by decide) hE18 hmg1_4
  have b18_gg1 := be_ hE18 hgg1
  obtain ⟨x19, hx19, hs⟩ := obind hs
  refine rg_draw_seq g_mixed (n := 15) (rs := []) (own0 := own18) (K := []) (bs := [0, 1, 3, 7, 15, 31, 63, 7, 255, 511, 1023]) (ds := [⟨[], [0], [], Fct.val 5 (.pointer (some ⟨gg1, 0, none⟩))⟩,     ⟨[0], [], [], Fct.val 6 (.bool true)⟩,     ⟨[1], [], [], Fct.val 7 (.bool true)⟩,     ⟨[2], [0], [], Fct.cond true (some 8) (Fct.val 8 (.pointer (some ⟨gg1, 0, none⟩)))⟩,     ⟨[2, 3], [], [], Fct.cond true (some 9) (Fct.val 9 (.pointer (some ⟨gg1, 0, none⟩)))⟩,     ⟨[2, 4], [], [], Fct.cond true (some 10) (Fct.val 10 (.pointer (some ⟨gg1, 3, none⟩)))⟩,     ⟨[2, 5], [], [], Fct.cond true (some 11) (Fct.val 11 (.map (some mg1_3)))⟩,     ⟨[2], [3], [], Fct.cond true (some 12) (Fct.val 12 (.agg #[.int .i64 p2.1, .int .i64 p2.2]))⟩,     ⟨[2, 6, 7], [], [], Fct.cond true (some 13) (Fct.val 13 (.bool ((lkM g1.2.2.2.1 p2).getD false)))⟩,     ⟨[2, 8], [], [], Fct.val 14 (.bool x19)⟩,     ⟨[9], [], [], Fct.val 4 (.bool x19)⟩]) (by kernel_rfl) hz18 hd18 nm_ ?_ ?_
  · refine sc (fun _ _ _ _ s _ => px (or_move (s.1.trans e18_0))) ?_
    refine sc (fun _ _ _ f _ _ => px (or_k [(5, .pointer (some ⟨gg1, 0, none⟩))] rfl rfl ⟨f.1, trivial⟩ (by kernel_rfl))) ?_
    refine sc (fun _ _ _ f _ _ => px (or_move f.1)) ?_
    refine sc (fun _ _ _ f s _ => sg_t rfl rfl rfl f.1 (fun hg => or_move (s.1.trans e18_0))) ?_
    refine sc (fun _ _ _ f _ _ => sg_t rfl rfl rfl f.1 (fun hg => or_k [(8, .pointer (some ⟨gg1, 0, none⟩))] rfl rfl ⟨(f.2.1.1 hg), trivial⟩ (by kernel_rfl))) ?_
    refine sc (fun _ _ _ f _ _ => sg_t rfl rfl rfl f.1 (fun hg => or_field fo77_3 (f.2.1.1 hg) (by rfl))) ?_
    refine sc (fun _ _ _ f _ hE => sg_t rfl rfl rfl f.1 (fun hg => or_load1 to74 (f.2.1.1 hg) (Blk.at_ (be_ hE b18_gg1).2 3 rfl))) ?_
    refine sc (fun _ _ _ f s hE => sg_t rfl rfl rfl f.1 (fun hg => or_load (l := [.int .i64 p2.1, .int .i64 p2.2]) ta25 (s.1.trans e18_3) (Blk.cellsFrom (be_ hE b18_g16).2 0 rfl) rfl)) ?_
    refine sc (fun _ _ _ f _ hE => sg_t rfl rfl rfl f.1 (fun hg => or_lookupE (kf := vv25) (vf := vv4) (k := p2) (dv := false) ko25 tm74 tzv74 (f.2.1.1 hg) (f.2.2.1.1 hg) (MpO.evo (by decide) hE b18_mg1_3) rfl)) ?_
    refine sc (fun _ _ _ f _ _ => px (or_and f.1 (fun hx => f.2.1.1 hx) rfl (osome hx19).symm)) ?_
    refine sc (fun _ _ _ f _ _ => px (or_assign f.1)) ?_
    exact steps_nil
  intro own20 a20 w20 hd20 hz20 hk20 hf20 hE20
  obtain ⟨(e20_4 : a20.eval (.tmp 4) = .bool x19), -⟩ := hf20 [10] rfl
  have hX20 := es_ hX18 hE20
  refine fl_ret ?_
  obtain rfl := (osome hs).symm
  exact hret _ _ _ _ (.inl rfl) hd20 (results1_ rfl (RVal.tmp_ e20_4)) ⟨own20, rfl, hX20⟩
theorem guard_Guard_Joined_w (w : World) (g1 : (((List ((Int × Int) × (Int × Int))) × (List ((Int × Int) × (List Int))) × (List Int))) × (List Int) × (List (Int × Int)) × (List ((Int × Int) × Bool)) × (List (((Int × Int) × (Int × Int)) × Bool))) (gg1 : Nat) (tg1 : TypeId) (gg1_0 : Nat) (tg1_0 : TypeId) (Ag1_0_0 : Option Addr) (cg1_0_0 : Nat) (mg1_0_1 : Nat) (Ag1_0_2 : Option Addr) (cg1_0_2 : Nat) (Ag1_1 : Option Addr) (cg1_1 : Nat) (Ag1_2 : Option Addr) (cg1_2 : Nat) (mg1_3 : Nat) (mg1_4 : Nat) (x2 : Int × Int) (b3 : Int × Int) (hgg1 : BlkO (fun _ => 0) 0 w gg1 tg1 #[.pointer (some ⟨gg1_0, 0, none⟩), .slice Ag1_1 g1.2.1.length cg1_1, .slice Ag1_2 g1.2.2.1.length cg1_2, .map (some mg1_3), .map (some mg1_4)]) (hAg1_1 : RdO (fun _ => 0) [0] w R3 Ag1_1 cg1_1 g1.2.1) (hAg1_2 : RdO (fun _ => 0) [0] w R25 Ag1_2 cg1_2 g1.2.2.1) (hmg1_3 : MpO (fun _ => 0) 0 w mg1_3 vv25 vv4 g1.2.2.2.1) (hmg1_4 : MpO (fun _ => 0) 0 w mg1_4 vv81 vv4 g1.2.2.2.2) (hgg1_0 : BlkO (fun _ => 0) 0 w gg1_0 tg1_0 #[.slice Ag1_0_0 g1.1.1.length cg1_0_0, .map (some mg1_0_1), .slice Ag1_0_2 g1.1.2.2.length cg1_0_2]) (hAg1_0_0 : RdO (fun _ => 0) [0] w R80 Ag1_0_0 cg1_0_0 g1.1.1) (hmg1_0_1 : MpN (fun _ => 0) 0 0 [0] w mg1_0_1 vv111 3 R3 g1.1.2.1) (hAg1_0_2 : RdO (fun _ => 0) [0] w R3 Ag1_0_2 cg1_0_2 g1.1.2.2) (r : Bool) (hs : guard_Guard_Joined g1 x2 b3 = some r) :
    Calls Try.prog 19 #[.pointer (some ⟨gg1, 0, none⟩), .agg #[.int .i64 x2.1, .int .i64 x2.2], .agg #[.int .i64 b3.1, .int .i64 b3.2]] w fun e w' => ∃ own' : Own, e = .returned (.bool r) ∧ Evo [] (fun _ => 0) own' w w' := by
  refine fl_enter (n := 19) rfl rfl rfl (Nat.le_of_ble_eq_true rfl) ?_
  intro a0 Q hd0 hz0 harg hret
  have ha0 := harg 0 _ rfl
  have ha1 := harg 1 _ rfl
  have ha2 := harg 2 _ rfl
  clear harg
  have hE0 : Evo [] (fun _ => 0) (fun _ => 0) w w := Evo.refl _ _ _
  refine rg0_seq 19 (fun _ => 0) [0, 0, 0] [⟨[], [1], [], Fct.blk 20 4 (fun g => .pointer (some ⟨g, 0, none⟩)) 25 #[.int .i64 x2.1, .int .i64 x2.2]⟩,     ⟨[], [2], [], Fct.blk 22 5 (fun g => .pointer (some ⟨g, 0, none⟩)) 25 #[.int .i64 b3.1, .int .i64 b3.2]⟩,     ⟨[], [], [], Fct.val 6 (.bool false)⟩] hz0 hd0 (by kernel_rfl) ?_ ?_
  · refine sc (fun _ _ _ _ s _ => px (or_new [(1, .agg #[.int .i64 x2.1, .int .i64 x2.2])] rfl rfl ⟨(s.1.trans ha1), trivial⟩ (by kernel_rfl))) ?_
    refine sc (fun _ _ _ _ s _ => px (or_new [(2, .agg #[.int .i64 b3.1, .int .i64 b3.2])] rfl rfl ⟨(s.1.trans ha2), trivial⟩ (by kernel_rfl))) ?_
    refine sc (fun _ _ _ _ _ _ => px (or_assign rfl)) ?_
    exact steps_nil
  intro own23 a23 w23 hd23 hz23 hk23 hf23 hE23
  have e23_0 := (hk23 0 rfl).trans ha0
  obtain ⟨⟨g19, (e23_4 : a23.eval (.tmp 4) = .pointer (some ⟨g19, 0, none⟩)), (b23_g19 : BlkO own23 20 w23 g19 25 #[.int .i64 x2.1, .int .i64 x2.2])⟩, ⟨g21, (e23_5 : a23.eval (.tmp 5) = .pointer (some ⟨g21, 0, none⟩)), (b23_g21 : BlkO own23 22 w23 g21 25 #[.int .i64 b3.1, .int .i64 b3.2])⟩, -⟩ := hf23 [0, 1] rfl
  have hX23 := es_ hE0 hE23
  have b23_Ag1_0_0 := RdO.evo rfl hE23 hAg1_0_0
  have b23_mg1_0_1 := MpN.evo rfl hE23 hmg1_0_1
  have b23_Ag1_0_2 := RdO.evo rfl hE23 hAg1_0_2
  have b23_gg1_0 := be_ hE23 hgg1_0
  have b23_Ag1_1 := RdO.evo rfl hE23 hAg1_1
  have b23_Ag1_2 := RdO.evo rfl hE23 hAg1_2
  have b23_mg1_3 := MpO.evo (by decide) hE23 hmg1_3
  have b23_mg1_4 := MpO.evo (by decide) hE23 hmg1_4
  have b23_gg1 := be_ hE23 hgg1
  obtain ⟨r24, hr24, hs⟩ := obind hs
  obtain ⟨x25, hx25, hs⟩ := obind hs
  refine rg_draw_seq g_mixed (n := 19) (rs := []) (own0 := own23) (K := []) (bs := [0, 1, 3, 7, 15, 31, 63, 7, 7, 391, 1023, 2047, 4095]) (ds := [⟨[], [0], [], Fct.val 7 (.pointer (some ⟨gg1, 0, none⟩))⟩,     ⟨[0], [], [], Fct.val 8 (.bool true)⟩,     ⟨[1], [], [], Fct.val 9 (.bool true)⟩,     ⟨[2], [0], [], Fct.cond true (some 10) (Fct.val 10 (.pointer (some ⟨gg1, 0, none⟩)))⟩,     ⟨[2, 3], [], [], Fct.cond true (some 11) (Fct.val 11 (.pointer (some ⟨gg1, 0, none⟩)))⟩,     ⟨[2, 4], [], [], Fct.cond true (some 12) (Fct.val 12 (.pointer (some ⟨gg1, 4, none⟩)))⟩,     ⟨[2, 5], [], [], Fct.cond true (some 13) (Fct.val 13 (.map (some mg1_4)))⟩,     ⟨[2], [4], [], Fct.cond true (some 14) (Fct.val 14 (.agg #[.int .i64 x2.1, .int .i64 x2.2]))⟩,     ⟨[2], [5], [], Fct.cond true (some 15) (Fct.val 15 (.agg #[.int .i64 b3.1, .int .i64 b3.2]))⟩,     ⟨[2, 7, 8], [], [], Fct.cond true (some 16) (Fct.val 16 (.agg #[.int .i64 r24.1.1, .int .i64 r24.1.2, .int .i64 r24.2.1, .int .i64 r24.2.2]))⟩,     ⟨[2, 6, 9], [], [], Fct.cond true (some 17) (Fct.val 17 (.bool ((lkM g1.2.2.2.2 r24).getD false)))⟩,     ⟨[2, 10], [], [], Fct.val 18 (.bool x25)⟩,     ⟨[11], [], [], Fct.val 6 (.bool x25)⟩]) (by kernel_rfl) hz23 hd23 nm_ ?_ ?_
  · refine sc (fun _ _ _ _ s _ => px (or_move (s.1.trans e23_0))) ?_
    refine sc (fun _ _ _ f _ _ => px (or_k [(7, .pointer (some ⟨gg1, 0, none⟩))] rfl rfl ⟨f.1, trivial⟩ (by kernel_rfl))) ?_
    refine sc (fun _ _ _ f _ _ => px (or_move f.1)) ?_
    refine sc (fun _ _ _ f s _ => sg_t rfl rfl rfl f.1 (fun hg => or_move (s.1.trans e23_0))) ?_
    refine sc (fun _ _ _ f _ _ => sg_t rfl rfl rfl f.1 (fun hg => or_k [(10, .pointer (some ⟨gg1, 0, none⟩))] rfl rfl ⟨(f.2.1.1 hg), trivial⟩ (by kernel_rfl))) ?_
    refine sc (fun _ _ _ f _ _ => sg_t rfl rfl rfl f.1 (fun hg => or_field fo77_4 (f.2.1.1 hg) (by rfl))) ?_
    refine sc (fun _ _ _ f _ hE => sg_t rfl rfl rfl f.1 (fun hg => or_load1 to75 (f.2.1.1 hg) (Blk.at_ (be_ hE b23_gg1).2 4 rfl))) ?_
    refine sc (fun _ _ _ f s hE => sg_t rfl rfl rfl f.1 (fun hg => or_load (l := [.int .i64 x2.1, .int .i64 x2.2]) ta25 (s.1.trans e23_4) (Blk.cellsFrom (be_ hE b23_g19).2 0 rfl) rfl)) ?_
    refine sc (fun _ _ _ f s hE => sg_t rfl rfl rfl f.1 (fun hg => or_load (l := [.int .i64 b3.1, .int .i64 b3.2]) ta25 (s.1.trans e23_5) (Blk.cellsFrom (be_ hE b23_g21).2 0 rfl) rfl)) ?_
    refine sc (fun _ _ _ f _ _ => sg_t rfl rfl rfl f.1 (fun hg => or_call cf30 (args2 (f.2.1.1 hg) (f.2.2.1.1 hg)) (guard_between_w _ x2 b3  r24 (gd_t hr24 hg)) post_val)) ?_
    refine sc (fun _ _ _ f _ hE => sg_t rfl rfl rfl f.1 (fun hg => or_lookupE (kf := vv81) (vf := vv4) (k := r24) (dv := false) ko81 tm75 tzv75 (f.2.1.1 hg) (f.2.2.1.1 hg) (MpO.evo (by decide) hE b23_mg1_4) rfl)) ?_
    refine sc (fun _ _ _ f _ _ => px (or_and f.1 (fun hx => f.2.1.1 hx) rfl (osome hx25).symm)) ?_
    refine sc (fun _ _ _ f _ _ => px (or_assign f.1)) ?_
    exact steps_nil
  intro own26 a26 w26 hd26 hz26 hk26 hf26 hE26
  obtain ⟨(e26_6 : a26.eval (.tmp 6) = .bool x25), -⟩ := hf26 [12] rfl
  have hX26 := es_ hX23 hE26
  refine fl_ret ?_
  obtain rfl := (osome hs).symm
  exact hret _ _ _ _ (.inl rfl) hd26 (results1_ rfl (RVal.tmp_ e26_6)) ⟨own26, rfl, hX26⟩
end Go.Proofs.Ytoccfdohlefifaa
