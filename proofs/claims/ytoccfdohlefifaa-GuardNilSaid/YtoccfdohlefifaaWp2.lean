import Derived.Test.YtoccfdohlefifaaWp1
import Derived.Test.YtoccfdohlefifaaSp2
namespace Go.Proofs.Ytoccfdohlefifaa
open Go.RowKit
set_option linter.unusedVariables false
set_option maxRecDepth 10000
theorem guard_between_w (w : World) (x1 : Int × Int) (b2 : Int × Int) (r : (Int × Int) × (Int × Int)) (hs : guard_between x1 b2 = some r) :
    Calls Try.prog 30 #[.agg #[.int .i64 x1.1, .int .i64 x1.2], .agg #[.int .i64 b2.1, .int .i64 b2.2]] w fun e w' => ∃ own' : Own, e = .returned (.agg #[.int .i64 r.1.1, .int .i64 r.1.2, .int .i64 r.2.1, .int .i64 r.2.2]) ∧ Evo [] (fun _ => 0) own' w w' := by
  refine fl_enter (n := 14) rfl rfl rfl (Nat.le_of_ble_eq_true rfl) ?_
  intro a0 Q hd0 hz0 harg hret
  have ha0 := harg 0 _ rfl
  have ha1 := harg 1 _ rfl
  clear harg
  have hE0 : Evo [] (fun _ => 0) (fun _ => 0) w w := Evo.refl _ _ _
  refine rg_plain_seq (n := 14) (rs := []) (own0 := (fun _ => 0)) (K := [])
      (bs := [0, 0, 0])
      (ds := [⟨[], [0], [], Fct.blk 27 2 (fun g => .pointer (some ⟨g, 0, none⟩)) 25 #[.int .i64 x1.1, .int .i64 x1.2]⟩,
      ⟨[], [1], [], Fct.blk 29 3 (fun g => .pointer (some ⟨g, 0, none⟩)) 25 #[.int .i64 b2.1, .int .i64 b2.2]⟩,
      ⟨[], [], [], Fct.blk 31 4 (fun g => .pointer (some ⟨g, 0, none⟩)) 81 #[.int .i64 0, .int .i64 0, .int .i64 0, .int .i64 0]⟩]) (by kernel_rfl) hz0 hd0 (fun _ h => nomatch h) ?_ ?_
  · refine sc (fun _ _ _ _ s _ => px (or_new [(0, .agg #[.int .i64 x1.1, .int .i64 x1.2])] rfl rfl ⟨(s.1.trans ha0), trivial⟩ (by kernel_rfl))) ?_
    refine sc (fun _ _ _ _ s _ => px (or_new [(1, .agg #[.int .i64 b2.1, .int .i64 b2.2])] rfl rfl ⟨(s.1.trans ha1), trivial⟩ (by kernel_rfl))) ?_
    refine sc (fun _ _ _ _ _ _ => px (or_new [] rfl rfl trivial (by kernel_rfl))) ?_
    exact steps_nil
  intro own32 a32 w32 hd32 hz32 hk32 hf32 hE32
  obtain ⟨⟨g26, (f_2 : a32.eval (.tmp 2) = .pointer (some ⟨g26, 0, none⟩)), (b_g26 : BlkO own32 27 w32 g26 25 #[.int .i64 x1.1, .int .i64 x1.2])⟩, ⟨g28, (f_3 : a32.eval (.tmp 3) = .pointer (some ⟨g28, 0, none⟩)), (b_g28 : BlkO own32 29 w32 g28 25 #[.int .i64 b2.1, .int .i64 b2.2])⟩, ⟨g30, (f_4 : a32.eval (.tmp 4) = .pointer (some ⟨g30, 0, none⟩)), (b_g30 : BlkO own32 31 w32 g30 81 #[.int .i64 0, .int .i64 0, .int .i64 0, .int .i64 0])⟩, -⟩ := hf32 [0, 1, 2] rfl
  have e32_2 := f_2
  have e32_3 := f_3
  have e32_4 := f_4
  have hX32 := Evo.step hE0 (fun _ => Nat.le_refl 0) hE32 rfl
  have b32_g26 := b_g26
  have b32_g28 := b_g28
  have b32_g30 := b_g30
  refine fl_seq (fun Q33 hn33 hp33 => ?_)
  obtain ⟨r34, hr34, hs⟩ := obind hs
  refine rg_plain_seq (n := 14) (rs := []) (own0 := own32) (K := [])
      (bs := [0, 0, 3])
      (ds := [⟨[], [3], [], Fct.val 5 (.agg #[.int .i64 b2.1, .int .i64 b2.2])⟩,
      ⟨[], [2], [], Fct.val 6 (.agg #[.int .i64 x1.1, .int .i64 x1.2])⟩,
      ⟨[0, 1], [], [], Fct.val 7 (.bool r34)⟩]) (by kernel_rfl) hz32 hd32 (fun _ h => nomatch h) ?_ ?_
  · refine sc (fun _ _ _ _ s hE => px (or_load (l := [.int .i64 b2.1, .int .i64 b2.2]) ta25 (s.1.trans e32_3) (Blk.cellsFrom (BlkO.evo (by decide) hE b32_g28).2 0 rfl) rfl)) ?_
    refine sc (fun _ _ _ _ s hE => px (or_load (l := [.int .i64 x1.1, .int .i64 x1.2]) ta25 (s.1.trans e32_2) (Blk.cellsFrom (BlkO.evo (by decide) hE b32_g26).2 0 rfl) rfl)) ?_
    refine sc (fun _ _ _ f _ _ => px (or_call cf51 (args2 f.1 f.2.1) (exact_Less_w _ b2 x1  r34 hr34) post_val)) ?_
    exact steps_nil
  intro own35 a35 w35 hd35 hz35 hk35 hf35 hE35
  have e35_2 := (hk35 2 rfl).trans e32_2
  have e35_3 := (hk35 3 rfl).trans e32_3
  have e35_4 := (hk35 4 rfl).trans e32_4
  obtain ⟨(f_7 : a35.eval (.tmp 7) = .bool r34), -⟩ := hf35 [2] rfl
  have e35_7 := f_7
  have hX35 := Evo.step hX32 (fun _ => Nat.le_refl 0) hE35 rfl
  have b35_g26 := BlkO.evo (by decide) hE35 b32_g26
  have b35_g28 := BlkO.evo (by decide) hE35 b32_g28
  have b35_g30 := BlkO.evo (by decide) hE35 b32_g30
  refine fl_cond e35_7 hs (fun c36 hs => ?_) (fun c36 hs => ?_)
  · refine rg_plain_seq (n := 14) (rs := [Fct.at_ 31 g30 81 #[.int .i64 0, .int .i64 0, .int .i64 0, .int .i64 0]]) (own0 := own35) (K := [31])
        (bs := [0, 0, 3, 7])
        (ds := [⟨[], [3], [], Fct.val 8 (.agg #[.int .i64 b2.1, .int .i64 b2.2])⟩,
        ⟨[], [2], [], Fct.val 9 (.agg #[.int .i64 x1.1, .int .i64 x1.2])⟩,
        ⟨[0, 1], [], [], Fct.val 10 (.agg #[.int .i64 b2.1, .int .i64 b2.2, .int .i64 x1.1, .int .i64 x1.2])⟩,
        ⟨[2, 4], [4], [31], Fct.at_ 37 g30 81 #[.int .i64 b2.1, .int .i64 b2.2, .int .i64 x1.1, .int .i64 x1.2]⟩]) (by kernel_rfl) hz35 hd35 (by simp only [List.forall_mem_cons]; exact ⟨b35_g30, fun _ h => nomatch h⟩) ?_ ?_
    · refine sc (fun _ _ _ _ s hE => px (or_load (l := [.int .i64 b2.1, .int .i64 b2.2]) ta25 (s.1.trans e35_3) (Blk.cellsFrom (BlkO.evo (by decide) hE b35_g28).2 0 rfl) rfl)) ?_
      refine sc (fun _ _ _ _ s hE => px (or_load (l := [.int .i64 x1.1, .int .i64 x1.2]) ta25 (s.1.trans e35_2) (Blk.cellsFrom (BlkO.evo (by decide) hE b35_g26).2 0 rfl) rfl)) ?_
      refine sc (fun _ _ _ f _ _ => px (or_k [(8, .agg #[.int .i64 b2.1, .int .i64 b2.2]), (9, .agg #[.int .i64 x1.1, .int .i64 x1.2])] rfl rfl ⟨f.1, f.2.1, trivial⟩ (by kernel_rfl))) ?_
      refine sc (fun own a wx hf hsl hE => ?_) ?_
      · obtain ⟨(f_10 : a.eval (.tmp 10) = .agg #[.int .i64 b2.1, .int .i64 b2.2, .int .i64 x1.1, .int .i64 x1.2]), (b_g30 : BlkO own 31 wx g30 81 #[.int .i64 0, .int .i64 0, .int .i64 0, .int .i64 0]), -⟩ := hf
        obtain ⟨s_4, -⟩ := hsl
        exact px (or_store (l := #[.int .i64 b2.1, .int .i64 b2.2, .int .i64 x1.1, .int .i64 x1.2]) (lab := 31) (lab2 := 37) ts81 (s_4.trans e35_4) f_10 b_g30 (by simp) (by kernel_rfl) (mem_of rfl) (by decide) (by kernel_rfl) (fun own' a' w' ha hb => hb))
      exact steps_nil
    intro own38 a38 w38 hd38 hz38 hk38 hf38 hE38
    have e38_4 := (hk38 4 rfl).trans e35_4
    obtain ⟨(b_g30 : BlkO own38 37 w38 g30 81 #[.int .i64 b2.1, .int .i64 b2.2, .int .i64 x1.1, .int .i64 x1.2]), -⟩ := hf38 [3] rfl
    have hX38 := Evo.step hX35 (fun _ => Nat.le_refl 0) hE38 rfl
    have b38_g30 := b_g30
    refine fl_ret ?_
    refine hp33 _ _ _ rfl ?_
    obtain rfl := osome hs
    exact hret _ _ _ _ (.inl rfl) hd38 (results1_ rfl (RVal.cell_ e38_4 (run_loadVarAgg (l := [.int .i64 b2.1, .int .i64 b2.2, .int .i64 x1.1, .int .i64 x1.2]) ta81 (Blk.cellsFrom b38_g30.2 0 rfl) rfl))) ⟨own38, rfl, hX38⟩
  refine fl_skip ?_
  refine hn33 _ _ ?_
  refine rg_plain_seq (n := 14) (rs := [Fct.at_ 31 g30 81 #[.int .i64 0, .int .i64 0, .int .i64 0, .int .i64 0]]) (own0 := own35) (K := [31])
      (bs := [0, 0, 3, 7])
      (ds := [⟨[], [2], [], Fct.val 11 (.agg #[.int .i64 x1.1, .int .i64 x1.2])⟩,
      ⟨[], [3], [], Fct.val 12 (.agg #[.int .i64 b2.1, .int .i64 b2.2])⟩,
      ⟨[0, 1], [], [], Fct.val 13 (.agg #[.int .i64 x1.1, .int .i64 x1.2, .int .i64 b2.1, .int .i64 b2.2])⟩,
      ⟨[2, 4], [4], [31], Fct.at_ 39 g30 81 #[.int .i64 x1.1, .int .i64 x1.2, .int .i64 b2.1, .int .i64 b2.2]⟩]) (by kernel_rfl) hz35 hd35 (by simp only [List.forall_mem_cons]; exact ⟨b35_g30, fun _ h => nomatch h⟩) ?_ ?_
  · refine sc (fun _ _ _ _ s hE => px (or_load (l := [.int .i64 x1.1, .int .i64 x1.2]) ta25 (s.1.trans e35_2) (Blk.cellsFrom (BlkO.evo (by decide) hE b35_g26).2 0 rfl) rfl)) ?_
    refine sc (fun _ _ _ _ s hE => px (or_load (l := [.int .i64 b2.1, .int .i64 b2.2]) ta25 (s.1.trans e35_3) (Blk.cellsFrom (BlkO.evo (by decide) hE b35_g28).2 0 rfl) rfl)) ?_
    refine sc (fun _ _ _ f _ _ => px (or_k [(11, .agg #[.int .i64 x1.1, .int .i64 x1.2]), (12, .agg #[.int .i64 b2.1, .int .i64 b2.2])] rfl rfl ⟨f.1, f.2.1, trivial⟩ (by kernel_rfl))) ?_
    refine sc (fun own a wx hf hsl hE => ?_) ?_
    · obtain ⟨(f_13 : a.eval (.tmp 13) = .agg #[.int .i64 x1.1, .int .i64 x1.2, .int .i64 b2.1, .int .i64 b2.2]), (b_g30 : BlkO own 31 wx g30 81 #[.int .i64 0, .int .i64 0, .int .i64 0, .int .i64 0]), -⟩ := hf
      obtain ⟨s_4, -⟩ := hsl
      exact px (or_store (l := #[.int .i64 x1.1, .int .i64 x1.2, .int .i64 b2.1, .int .i64 b2.2]) (lab := 31) (lab2 := 39) ts81 (s_4.trans e35_4) f_13 b_g30 (by simp) (by kernel_rfl) (mem_of rfl) (by decide) (by kernel_rfl) (fun own' a' w' ha hb => hb))
    exact steps_nil
  intro own40 a40 w40 hd40 hz40 hk40 hf40 hE40
  have e40_4 := (hk40 4 rfl).trans e35_4
  obtain ⟨(b_g30 : BlkO own40 39 w40 g30 81 #[.int .i64 x1.1, .int .i64 x1.2, .int .i64 b2.1, .int .i64 b2.2]), -⟩ := hf40 [3] rfl
  have hX40 := Evo.step hX35 (fun _ => Nat.le_refl 0) hE40 rfl
  have b40_g30 := b_g30
  refine fl_ret ?_
  obtain rfl := osome hs
  exact hret _ _ _ _ (.inl rfl) hd40 (results1_ rfl (RVal.cell_ e40_4 (run_loadVarAgg (l := [.int .i64 x1.1, .int .i64 x1.2, .int .i64 b2.1, .int .i64 b2.2]) ta81 (Blk.cellsFrom b40_g30.2 0 rfl) rfl))) ⟨own40, rfl, hX40⟩
set_option maxHeartbeats 2000000 in
theorem guard_New_w (w : World) (lines1 : List Int) (Alines1 : Option Addr) (clines1 : Nat) (l2 : List ((List (Int × Int)) × Int × Int)) (Al2 : Option Addr) (cl2 : Nat) (hlines1 : RdO (fun _ => 0) [0] w R3 Alines1 clines1 lines1) (hl2 : RdO (fun _ => 0) [0] w R63 Al2 cl2 l2) (r : (((List ((Int × Int) × (Int × Int))) × (List ((Int × Int) × (List Int))) × (List Int))) × (List Int) × (List (Int × Int)) × (List ((Int × Int) × Bool)) × (List (((Int × Int) × (Int × Int)) × Bool))) (hs : guard_New lines1 l2 = some r) :
    Calls Try.prog 7 #[.slice Alines1 lines1.length clines1, .slice Al2 l2.length cl2] w fun e w' => ∃ (own' : Own) (x : (Option Addr × Nat) × (Option Addr × Nat) × (Option Addr × Nat) × (Option Addr × Nat) × (Option Addr × Nat) × (Option Addr × Nat) × (Option Addr × Nat) × (Option Addr × Nat) × (Option Addr × Nat)), e = .returned (.pointer (some ⟨x.1.2, 0, none⟩)) ∧ Evo [] (fun _ => 0) own' w w' ∧ RwO own' 3 [] w' 80 R80 x.2.2.1.1 x.2.2.1.2 r.1.1 ∧ MpN own' 4 5 [] w' x.2.2.2.1.2 vv111 3 R3 r.1.2.1 ∧ RwO own' 6 [] w' 3 R3 x.2.2.2.2.1.1 x.2.2.2.2.1.2 r.1.2.2 ∧ BlkO own' 2 w' x.2.1.2 106 #[.slice x.2.2.1.1 r.1.1.length x.2.2.1.2, .map (some x.2.2.2.1.2), .slice x.2.2.2.2.1.1 r.1.2.2.length x.2.2.2.2.1.2] ∧ RwO own' 7 [] w' 3 R3 x.2.2.2.2.2.1.1 x.2.2.2.2.2.1.2 r.2.1 ∧ RwO own' 8 [] w' 25 R25 x.2.2.2.2.2.2.1.1 x.2.2.2.2.2.2.1.2 r.2.2.1 ∧ MpO own' 9 w' x.2.2.2.2.2.2.2.1.2 vv25 vv4 r.2.2.2.1 ∧ MpO own' 10 w' x.2.2.2.2.2.2.2.2.2 vv81 vv4 r.2.2.2.2 ∧ BlkO own' 1 w' x.1.2 77 #[.pointer (some ⟨x.2.1.2, 0, none⟩), .slice x.2.2.2.2.2.1.1 r.2.1.length x.2.2.2.2.2.1.2, .slice x.2.2.2.2.2.2.1.1 r.2.2.1.length x.2.2.2.2.2.2.1.2, .map (some x.2.2.2.2.2.2.2.1.2), .map (some x.2.2.2.2.2.2.2.2.2)] := by
  refine fl_enter (n := 91) rfl rfl rfl (Nat.le_of_ble_eq_true rfl) ?_
  intro a0 Q hd0 hz0 harg hret
  have ha0 := harg 0 _ rfl
  have ha1 := harg 1 _ rfl
  clear harg
  have hE0 : Evo [] (fun _ => 0) (fun _ => 0) w w := Evo.refl _ _ _
  refine rg_plain_seq (n := 91) (rs := []) (own0 := (fun _ => 0)) (K := [])
      (bs := [0])
      (ds := [⟨[], [], [], Fct.val 4 (.pointer none)⟩]) (by kernel_rfl) hz0 hd0 (fun _ h => nomatch h) ?_ ?_
  · refine sc (fun _ _ _ _ _ _ => px (or_assign rfl)) ?_
    exact steps_nil
  intro own4604 a4604 w4604 hd4604 hz4604 hk4604 hf4604 hE4604
  have e4604_0 := (hk4604 0 rfl).trans ha0
  have e4604_1 := (hk4604 1 rfl).trans ha1
  have hX4604 := Evo.step hE0 (fun _ => Nat.le_refl 0) hE4604 rfl
  have b4604_Alines1 := RdO.evo rfl hE4604 hlines1
  have b4604_Al2 := RdO.evo rfl hE4604 hl2
  obtain ⟨r4605, hr4605, hs⟩ := obind hs
  obtain ⟨x4616, hx4616, hs⟩ := obind hs
  refine rg_plain_seq (n := 91) (rs := []) (own0 := own4604) (K := [4615])
      (bs := [0, 1, 0, 5, 0, 0, 63, 127, 255])
      (ds := [⟨[], [], [], Fct.mems [4610, 4611, 4612, 4613, 4614] 10 (fun (x : (Option Addr × Nat) × (Option Addr × Nat) × (Option Addr × Nat) × (Option Addr × Nat)) => .pointer (some ⟨x.1.2, 0, none⟩)) (fun (x : (Option Addr × Nat) × (Option Addr × Nat) × (Option Addr × Nat) × (Option Addr × Nat)) own w => RwO own 4610 [] w 80 R80 x.2.1.1 x.2.1.2 r4605.1 ∧ MpN own 4611 4612 [] w x.2.2.1.2 vv111 3 R3 r4605.2.1 ∧ RwO own 4613 [] w 3 R3 x.2.2.2.1 x.2.2.2.2 r4605.2.2 ∧ BlkO own 4614 w x.1.2 106 #[.slice x.2.1.1 r4605.1.length x.2.1.2, .map (some x.2.2.1.2), .slice x.2.2.2.1 r4605.2.2.length x.2.2.2.2]) (fun hk he h => ⟨RwO.evo (hits_sub hk (by decide)) he h.1, MpN.evo (hits_sub hk (by decide)) he h.2.1, RwO.evo (hits_sub hk (by decide)) he h.2.2.1, BlkO.evo (not_hit hk (by decide)) he h.2.2.2⟩)⟩,
      ⟨[0], [], [], Fct.rel [11, 10] (fun l => ∀ (cA4606 : Nat), l.getD 1 undef = .pointer (some ⟨cA4606, 0, none⟩) → l.getD 0 undef = .agg #[.pointer (some ⟨cA4606, 0, none⟩)])⟩,
      ⟨[], [0], [], Fct.val 12 (.slice Alines1 lines1.length clines1)⟩,
      ⟨[2], [], [4615], Fct.row 4617 [] 13 3 R3 x4616⟩,
      ⟨[], [], [], Fct.map_ 4620 14 vv25 vv4 ([] : List ((Int × Int) × Bool))⟩,
      ⟨[], [], [], Fct.map_ 4622 15 vv81 vv4 ([] : List (((Int × Int) × (Int × Int)) × Bool))⟩,
      ⟨[1, 0, 3, 4, 5], [], [], Fct.rel [16, 10, 13, 14, 15] (fun l => ∀ (cA4606 : Nat) (A4618 : Option Addr) (cA4618 : Nat) (g4619 : Nat) (g4621 : Nat), l.getD 1 undef = .pointer (some ⟨cA4606, 0, none⟩) → l.getD 2 undef = .slice A4618 x4616.length cA4618 → l.getD 3 undef = .map (some g4619) → l.getD 4 undef = .map (some g4621) → l.getD 0 undef = .agg #[.pointer (some ⟨cA4606, 0, none⟩), .slice A4618 x4616.length cA4618, .slice none 0 0, .map (some g4619), .map (some g4621)])⟩,
      ⟨[6, 0, 3, 4, 5], [], [], Fct.by_ [4624] [17, 10, 13, 14, 15] (fun l own w => ∃ g4623 : Nat, l.getD 0 undef = .pointer (some ⟨g4623, 0, none⟩) ∧ (∀ (cA4606 : Nat) (A4618 : Option Addr) (cA4618 : Nat) (g4619 : Nat) (g4621 : Nat), l.getD 1 undef = .pointer (some ⟨cA4606, 0, none⟩) → l.getD 2 undef = .slice A4618 x4616.length cA4618 → l.getD 3 undef = .map (some g4619) → l.getD 4 undef = .map (some g4621) → BlkO own 4624 w g4623 77 #[.pointer (some ⟨cA4606, 0, none⟩), .slice A4618 x4616.length cA4618, .slice none 0 0, .map (some g4619), .map (some g4621)])) (fun hk he h => by obtain ⟨g, e, h⟩ := h; exact ⟨g, e, fun _ _ _ _ _ h0' h1' h2' h3' => BlkO.evo (not_hit hk (by decide)) he (h _ _ _ _ _ h0' h1' h2' h3')⟩)⟩,
      ⟨[7, 0, 3, 4, 5], [], [], Fct.rel [5, 17] (fun l => ∀ (g4623 : Nat), l.getD 1 undef = .pointer (some ⟨g4623, 0, none⟩) → l.getD 0 undef = .pointer (some ⟨g4623, 0, none⟩))⟩]) (by kernel_rfl) hz4604 hd4604 (fun _ h => nomatch h) ?_ ?_
  · refine sc (fun _ _ _ _ _ _ => px (or_call cf28 (args1 rfl) (rows_New_w _ ([] : List ((Int × Int) × (Int × Int))) none 0 RdO.nil_ r4605 hr4605) (post_mems (m := (fun _ => 0)) (m' := (look0 [(1, 4614), (2, 4610), (3, 4611), (4, 4612), (5, 4613)])) (fun _ _ => .inl rfl) (fun own' w' a' x h1 h => ⟨x, h1, ⟨RwO.back_ h.1 (by decide) (.inl (Rep.fl_flat _)), MpN.back_ h.2.1 (by decide) (by decide) (.inl (Rep.fl_flat _)), RwO.back_ h.2.2.1 (by decide) (.inl (Rep.fl_flat _)), BlkO.back_ h.2.2.2 (by decide)⟩⟩)))) ?_
    refine sc (fun own a wx hf hsl hE => ?_) ?_
    · obtain ⟨⟨⟨⟨A4606, cA4606⟩, ⟨A4607, cA4607⟩, ⟨A4608, cA4608⟩, ⟨A4609, cA4609⟩⟩, (f_10 : a.eval (.tmp 10) = .pointer (some ⟨cA4606, 0, none⟩)), (b_A4607 : RwO own 4610 [] wx 80 R80 A4607 cA4607 r4605.1), (b_cA4608 : MpN own 4611 4612 [] wx cA4608 vv111 3 R3 r4605.2.1), (b_A4609 : RwO own 4613 [] wx 3 R3 A4609 cA4609 r4605.2.2), (b_cA4606 : BlkO own 4614 wx cA4606 106 #[.slice A4607 r4605.1.length cA4607, .map (some cA4608), .slice A4609 r4605.2.2.length cA4609])⟩, -⟩ := hf
      exact px (or_mono (f := Fct.val 11 (.agg #[.pointer (some ⟨cA4606, 0, none⟩)])) (or_k [(10, .pointer (some ⟨cA4606, 0, none⟩))] rfl rfl ⟨f_10, trivial⟩ (by kernel_rfl)) (fun own' a' w' v' hp h => fun _ h0' => by cases (f_10.symm.trans ((hp.2 10 (by decide)).symm.trans h0')); exact h))
    refine sc (fun _ _ _ _ s _ => px (or_move (s.1.trans e4604_0))) ?_
    refine sc (fun _ _ _ f _ hE => px (or_append (R := R3) (lab := 4615) (lab2 := 4617) (L := []) (L3 := []) tp22 rfl RwO.nil_ (by decide) f.1 (RdO.evo rfl hE b4604_Alines1) hx4616 (by decide) (by decide) (mem_of rfl) (.inl (Rep.fl_flat _)))) ?_
    refine sc (fun _ _ _ _ _ _ => px (or_makeMap)) ?_
    refine sc (fun _ _ _ _ _ _ => px (or_makeMap)) ?_
    refine sc (fun own a wx hf hsl hE => ?_) ?_
    · obtain ⟨(q_11 : ∀ (cA4606 : Nat), a.eval (.tmp 10) = .pointer (some ⟨cA4606, 0, none⟩) → a.eval (.tmp 11) = .agg #[.pointer (some ⟨cA4606, 0, none⟩)]), ⟨⟨⟨A4606, cA4606⟩, ⟨A4607, cA4607⟩, ⟨A4608, cA4608⟩, ⟨A4609, cA4609⟩⟩, (f_10 : a.eval (.tmp 10) = .pointer (some ⟨cA4606, 0, none⟩)), (b_A4607 : RwO own 4610 [] wx 80 R80 A4607 cA4607 r4605.1), (b_cA4608 : MpN own 4611 4612 [] wx cA4608 vv111 3 R3 r4605.2.1), (b_A4609 : RwO own 4613 [] wx 3 R3 A4609 cA4609 r4605.2.2), (b_cA4606 : BlkO own 4614 wx cA4606 106 #[.slice A4607 r4605.1.length cA4607, .map (some cA4608), .slice A4609 r4605.2.2.length cA4609])⟩, ⟨⟨A4618, cA4618⟩, (f_13 : a.eval (.tmp 13) = .slice A4618 x4616.length cA4618), (b_A4618 : RwO own 4617 [] wx 3 R3 A4618 cA4618 x4616)⟩, ⟨g4619, (f_14 : a.eval (.tmp 14) = .map (some g4619)), (b_g4619 : MpO own 4620 wx g4619 vv25 vv4 ([] : List ((Int × Int) × Bool)))⟩, ⟨g4621, (f_15 : a.eval (.tmp 15) = .map (some g4621)), (b_g4621 : MpO own 4622 wx g4621 vv81 vv4 ([] : List (((Int × Int) × (Int × Int)) × Bool)))⟩, -⟩ := hf
      have f_11 := q_11 _ f_10
      exact px (or_mono (f := Fct.val 16 (.agg #[.pointer (some ⟨cA4606, 0, none⟩), .slice A4618 x4616.length cA4618, .slice none 0 0, .map (some g4619), .map (some g4621)])) (or_k [(11, .agg #[.pointer (some ⟨cA4606, 0, none⟩)]), (13, .slice A4618 x4616.length cA4618), (14, .map (some g4619)), (15, .map (some g4621))] rfl rfl ⟨f_11, f_13, f_14, f_15, trivial⟩ (by kernel_rfl)) (fun own' a' w' v' hp h => fun _ _ _ _ _ h0' h1' h2' h3' => by cases (f_10.symm.trans ((hp.2 10 (by decide)).symm.trans h0')); cases (f_13.symm.trans ((hp.2 13 (by decide)).symm.trans h1')); cases (f_14.symm.trans ((hp.2 14 (by decide)).symm.trans h2')); cases (f_15.symm.trans ((hp.2 15 (by decide)).symm.trans h3')); exact h))
    refine sc (fun own a wx hf hsl hE => ?_) ?_
    · obtain ⟨(q_16 : ∀ (cA4606 : Nat) (A4618 : Option Addr) (cA4618 : Nat) (g4619 : Nat) (g4621 : Nat), a.eval (.tmp 10) = .pointer (some ⟨cA4606, 0, none⟩) → a.eval (.tmp 13) = .slice A4618 x4616.length cA4618 → a.eval (.tmp 14) = .map (some g4619) → a.eval (.tmp 15) = .map (some g4621) → a.eval (.tmp 16) = .agg #[.pointer (some ⟨cA4606, 0, none⟩), .slice A4618 x4616.length cA4618, .slice none 0 0, .map (some g4619), .map (some g4621)]), ⟨⟨⟨A4606, cA4606⟩, ⟨A4607, cA4607⟩, ⟨A4608, cA4608⟩, ⟨A4609, cA4609⟩⟩, (f_10 : a.eval (.tmp 10) = .pointer (some ⟨cA4606, 0, none⟩)), (b_A4607 : RwO own 4610 [] wx 80 R80 A4607 cA4607 r4605.1), (b_cA4608 : MpN own 4611 4612 [] wx cA4608 vv111 3 R3 r4605.2.1), (b_A4609 : RwO own 4613 [] wx 3 R3 A4609 cA4609 r4605.2.2), (b_cA4606 : BlkO own 4614 wx cA4606 106 #[.slice A4607 r4605.1.length cA4607, .map (some cA4608), .slice A4609 r4605.2.2.length cA4609])⟩, ⟨⟨A4618, cA4618⟩, (f_13 : a.eval (.tmp 13) = .slice A4618 x4616.length cA4618), (b_A4618 : RwO own 4617 [] wx 3 R3 A4618 cA4618 x4616)⟩, ⟨g4619, (f_14 : a.eval (.tmp 14) = .map (some g4619)), (b_g4619 : MpO own 4620 wx g4619 vv25 vv4 ([] : List ((Int × Int) × Bool)))⟩, ⟨g4621, (f_15 : a.eval (.tmp 15) = .map (some g4621)), (b_g4621 : MpO own 4622 wx g4621 vv81 vv4 ([] : List (((Int × Int) × (Int × Int)) × Bool)))⟩, -⟩ := hf
      have f_16 := q_16 _ _ _ _ _ f_10 f_13 f_14 f_15
      exact px (or_mono (f := Fct.blk 4624 17 (fun g => .pointer (some ⟨g, 0, none⟩)) 77 #[.pointer (some ⟨cA4606, 0, none⟩), .slice A4618 x4616.length cA4618, .slice none 0 0, .map (some g4619), .map (some g4621)]) (or_new [(16, .agg #[.pointer (some ⟨cA4606, 0, none⟩), .slice A4618 x4616.length cA4618, .slice none 0 0, .map (some g4619), .map (some g4621)])] rfl rfl ⟨f_16, trivial⟩ (by kernel_rfl)) (fun own' a' w' v' hp h => by obtain ⟨g, e, h⟩ := h; exact ⟨g, e, fun _ _ _ _ _ h0' h1' h2' h3' => by cases (f_10.symm.trans ((hp.2 10 (by decide)).symm.trans h0')); cases (f_13.symm.trans ((hp.2 13 (by decide)).symm.trans h1')); cases (f_14.symm.trans ((hp.2 14 (by decide)).symm.trans h2')); cases (f_15.symm.trans ((hp.2 15 (by decide)).symm.trans h3')); exact h⟩))
    refine sc (fun own a wx hf hsl hE => ?_) ?_
    · obtain ⟨⟨g4623, (f_17 : a.eval (.tmp 17) = .pointer (some ⟨g4623, 0, none⟩)), (bq_g4623 : ∀ (cA4606 : Nat) (A4618 : Option Addr) (cA4618 : Nat) (g4619 : Nat) (g4621 : Nat), a.eval (.tmp 10) = .pointer (some ⟨cA4606, 0, none⟩) → a.eval (.tmp 13) = .slice A4618 x4616.length cA4618 → a.eval (.tmp 14) = .map (some g4619) → a.eval (.tmp 15) = .map (some g4621) → BlkO own 4624 wx g4623 77 #[.pointer (some ⟨cA4606, 0, none⟩), .slice A4618 x4616.length cA4618, .slice none 0 0, .map (some g4619), .map (some g4621)])⟩, ⟨⟨⟨A4606, cA4606⟩, ⟨A4607, cA4607⟩, ⟨A4608, cA4608⟩, ⟨A4609, cA4609⟩⟩, (f_10 : a.eval (.tmp 10) = .pointer (some ⟨cA4606, 0, none⟩)), (b_A4607 : RwO own 4610 [] wx 80 R80 A4607 cA4607 r4605.1), (b_cA4608 : MpN own 4611 4612 [] wx cA4608 vv111 3 R3 r4605.2.1), (b_A4609 : RwO own 4613 [] wx 3 R3 A4609 cA4609 r4605.2.2), (b_cA4606 : BlkO own 4614 wx cA4606 106 #[.slice A4607 r4605.1.length cA4607, .map (some cA4608), .slice A4609 r4605.2.2.length cA4609])⟩, ⟨⟨A4618, cA4618⟩, (f_13 : a.eval (.tmp 13) = .slice A4618 x4616.length cA4618), (b_A4618 : RwO own 4617 [] wx 3 R3 A4618 cA4618 x4616)⟩, ⟨g4619, (f_14 : a.eval (.tmp 14) = .map (some g4619)), (b_g4619 : MpO own 4620 wx g4619 vv25 vv4 ([] : List ((Int × Int) × Bool)))⟩, ⟨g4621, (f_15 : a.eval (.tmp 15) = .map (some g4621)), (b_g4621 : MpO own 4622 wx g4621 vv81 vv4 ([] : List (((Int × Int) × (Int × Int)) × Bool)))⟩, -⟩ := hf
      have b_g4623 := bq_g4623 _ _ _ _ _ f_10 f_13 f_14 f_15
      exact px (or_mono (f := Fct.val 5 (.pointer (some ⟨g4623, 0, none⟩))) (or_assign f_17) (fun own' a' w' v' hp h => fun _ h0' => by cases (f_17.symm.trans ((hp.2 17 (by decide)).symm.trans h0')); exact h))
    exact steps_nil
  intro own4625 a4625 w4625 hd4625 hz4625 hk4625 hf4625 hE4625
  have e4625_1 := (hk4625 1 rfl).trans e4604_1
  obtain ⟨⟨⟨⟨A4606, cA4606⟩, ⟨A4607, cA4607⟩, ⟨A4608, cA4608⟩, ⟨A4609, cA4609⟩⟩, (f_10 : a4625.eval (.tmp 10) = .pointer (some ⟨cA4606, 0, none⟩)), (b_A4607 : RwO own4625 4610 [] w4625 80 R80 A4607 cA4607 r4605.1), (b_cA4608 : MpN own4625 4611 4612 [] w4625 cA4608 vv111 3 R3 r4605.2.1), (b_A4609 : RwO own4625 4613 [] w4625 3 R3 A4609 cA4609 r4605.2.2), (b_cA4606 : BlkO own4625 4614 w4625 cA4606 106 #[.slice A4607 r4605.1.length cA4607, .map (some cA4608), .slice A4609 r4605.2.2.length cA4609])⟩, ⟨⟨A4618, cA4618⟩, (f_13 : a4625.eval (.tmp 13) = .slice A4618 x4616.length cA4618), (b_A4618 : RwO own4625 4617 [] w4625 3 R3 A4618 cA4618 x4616)⟩, ⟨g4619, (f_14 : a4625.eval (.tmp 14) = .map (some g4619)), (b_g4619 : MpO own4625 4620 w4625 g4619 vv25 vv4 ([] : List ((Int × Int) × Bool)))⟩, ⟨g4621, (f_15 : a4625.eval (.tmp 15) = .map (some g4621)), (b_g4621 : MpO own4625 4622 w4625 g4621 vv81 vv4 ([] : List (((Int × Int) × (Int × Int)) × Bool)))⟩, ⟨g4623, (f_17 : a4625.eval (.tmp 17) = .pointer (some ⟨g4623, 0, none⟩)), (bq_g4623 : ∀ (cA4606 : Nat) (A4618 : Option Addr) (cA4618 : Nat) (g4619 : Nat) (g4621 : Nat), a4625.eval (.tmp 10) = .pointer (some ⟨cA4606, 0, none⟩) → a4625.eval (.tmp 13) = .slice A4618 x4616.length cA4618 → a4625.eval (.tmp 14) = .map (some g4619) → a4625.eval (.tmp 15) = .map (some g4621) → BlkO own4625 4624 w4625 g4623 77 #[.pointer (some ⟨cA4606, 0, none⟩), .slice A4618 x4616.length cA4618, .slice none 0 0, .map (some g4619), .map (some g4621)])⟩, (q_5 : ∀ (g4623 : Nat), a4625.eval (.tmp 17) = .pointer (some ⟨g4623, 0, none⟩) → a4625.eval (.tmp 5) = .pointer (some ⟨g4623, 0, none⟩)), -⟩ := hf4625 [0, 3, 4, 5, 7, 8] rfl
  have b_g4623 := bq_g4623 _ _ _ _ _ f_10 f_13 f_14 f_15
  have f_5 := q_5 _ f_17
  have e4625_5 := f_5
  have hX4625 := Evo.step hX4604 (fun _ => Nat.le_refl 0) hE4625 rfl
  have b4625_Al2 := RdO.evo rfl hE4625 b4604_Al2
  have b4625_A4607 := b_A4607
  have b4625_cA4608 := b_cA4608
  have b4625_A4609 := b_A4609
  have b4625_cA4606 := b_cA4606
  have b4625_A4618 := b_A4618
  have b4625_g4619 := b_g4619
  have b4625_g4621 := b_g4621
  have b4625_g4623 := b_g4623
  refine fl_seq (fun Q4626 hn4626 hp4626 => ?_)
  refine rg_plain_seq (n := 91) (rs := []) (own0 := own4625) (K := [])
      (bs := [0, 1, 0])
      (ds := [⟨[], [1], [], Fct.val 18 (.slice Al2 l2.length cl2)⟩,
      ⟨[0], [], [], Fct.val 19 (.int .i64 (l2.length : Int))⟩,
      ⟨[], [], [], Fct.val 20 (.int .i64 0)⟩]) (by kernel_rfl) hz4625 hd4625 (fun _ h => nomatch h) ?_ ?_
  · refine sc (fun _ _ _ _ s _ => px (or_move (s.1.trans e4625_1))) ?_
    refine sc (fun _ _ _ f _ _ => px (or_len tu23 f.1 rfl)) ?_
    refine sc (fun _ _ _ _ _ _ => px (or_move rfl)) ?_
    exact steps_nil
  intro own4627 a4627 w4627 hd4627 hz4627 hk4627 hf4627 hE4627
  have e4627_5 := (hk4627 5 rfl).trans e4625_5
  obtain ⟨(f_18 : a4627.eval (.tmp 18) = .slice Al2 l2.length cl2), (f_19 : a4627.eval (.tmp 19) = .int .i64 (l2.length : Int)), (f_20 : a4627.eval (.tmp 20) = .int .i64 0), -⟩ := hf4627 [0, 1, 2] rfl
  have e4627_18 := f_18
  have e4627_19 := f_19
  have e4627_20 := f_20
  have hX4627 := Evo.step hX4625 (fun _ => Nat.le_refl 0) hE4627 rfl
  have b4627_Al2 := RdO.evo rfl hE4627 b4625_Al2
  have b4627_A4607 := RwO.evo rfl hE4627 b4625_A4607
  have b4627_cA4608 := MpN.evo rfl hE4627 b4625_cA4608
  have b4627_A4609 := RwO.evo rfl hE4627 b4625_A4609
  have b4627_cA4606 := BlkO.evo (by decide) hE4627 b4625_cA4606
  have b4627_A4618 := RwO.evo rfl hE4627 b4625_A4618
  have b4627_g4619 := MpO.evo (by decide) hE4627 b4625_g4619
  have b4627_g4621 := MpO.evo (by decide) hE4627 b4625_g4621
  have b4627_g4623 := BlkO.evo (by decide) hE4627 b4625_g4623
  refine fl_block (fun Q4628 hn4628 hx4628 hp4628 => ?_)
  refine fl_loop (body := (fun s => guard_New_b1 l2 x4616 s.1 s.2.1 s.2.2.1 s.2.2.2.1 s.2.2.2.2.1 s.2.2.2.2.2.1 s.2.2.2.2.2.2)) (z := r) (show loopO _ _ = _ from hs) (fun (s : (List ((Int × Int) × (Int × Int))) × (List ((Int × Int) × (List Int))) × (List Int) × (List (Int × Int)) × (List ((Int × Int) × Bool)) × (List (((Int × Int) × (Int × Int)) × Bool)) × Int) a wx => match s with | (g6153, g6156, g6160, g6164, g6167, g6169, x6170) => ∃ (ox : Own) (A6151 : Option Addr) (c6152 : Nat) (A6158 : Option Addr) (c6159 : Nat) (A6162 : Option Addr) (c6163 : Nat), a.defers = [] ∧ a.tmps.size = 91 ∧ a.eval (.tmp 5) = .pointer (some ⟨g4623, 0, none⟩) ∧ a.eval (.tmp 18) = .slice Al2 l2.length cl2 ∧ a.eval (.tmp 19) = .int .i64 (l2.length : Int) ∧ a.eval (.tmp 20) = .int .i64 x6170 ∧ Evo [] (fun _ => 0) ox w wx ∧ BlkO ox 6149 wx g4623 77 #[.pointer (some ⟨cA4606, 0, none⟩), .slice A4618 x4616.length cA4618, .slice A6162 g6164.length c6163, .map (some g4619), .map (some g4621)] ∧ BlkO ox 6150 wx cA4606 106 #[.slice A6151 g6153.length c6152, .map (some cA4608), .slice A6158 g6160.length c6159] ∧ RwO ox 6154 [] wx 80 R80 A6151 c6152 g6153 ∧ MpN ox 6155 6157 [] wx cA4608 vv111 3 R3 g6156 ∧ RwO ox 6161 [] wx 3 R3 A6158 c6159 g6160 ∧ RwO ox 4617 [] wx 3 R3 A4618 cA4618 x4616 ∧ RwO ox 6165 [] wx 25 R25 A6162 c6163 g6164 ∧ MpO ox 6166 wx g4619 vv25 vv4 g6167 ∧ MpO ox 6168 wx g4621 vv81 vv4 g6169 ∧ RdO ox [0] wx R63 Al2 cl2 l2) ?_ ?_
  · exact ⟨(rl [(4610, 6154), (4611, 6155), (4612, 6157), (4613, 6161), (4614, 6150), (4620, 6166), (4622, 6168), (4624, 6149)] own4627), A4607, cA4607, A4609, cA4609, none, 0, hd4627, hz4627, e4627_5, e4627_18, e4627_19, e4627_20, (Evo.rl_ hX4627 (fun _ => Nat.le_refl 0) rfl), (BlkO.rl_ (mm := [(4610, 6154), (4611, 6155), (4612, 6157), (4613, 6161), (4614, 6150), (4620, 6166), (4622, 6168), (4624, 6149)]) b4627_g4623), (BlkO.rl_ (mm := [(4610, 6154), (4611, 6155), (4612, 6157), (4613, 6161), (4614, 6150), (4620, 6166), (4622, 6168), (4624, 6149)]) b4627_cA4606), (RwO.rl_ (mm := [(4610, 6154), (4611, 6155), (4612, 6157), (4613, 6161), (4614, 6150), (4620, 6166), (4622, 6168), (4624, 6149)]) b4627_A4607), (MpN.rl_ (mm := [(4610, 6154), (4611, 6155), (4612, 6157), (4613, 6161), (4614, 6150), (4620, 6166), (4622, 6168), (4624, 6149)]) b4627_cA4608), (RwO.rl_ (mm := [(4610, 6154), (4611, 6155), (4612, 6157), (4613, 6161), (4614, 6150), (4620, 6166), (4622, 6168), (4624, 6149)]) b4627_A4609), (RwO.rl_ (mm := [(4610, 6154), (4611, 6155), (4612, 6157), (4613, 6161), (4614, 6150), (4620, 6166), (4622, 6168), (4624, 6149)]) b4627_A4618), RwO.nil_, (MpO.rl_ (mm := [(4610, 6154), (4611, 6155), (4612, 6157), (4613, 6161), (4614, 6150), (4620, 6166), (4622, 6168), (4624, 6149)]) b4627_g4619), (MpO.rl_ (mm := [(4610, 6154), (4611, 6155), (4612, 6157), (4613, 6161), (4614, 6150), (4620, 6166), (4622, 6168), (4624, 6149)]) b4627_g4621), (RdO.rl_ (mm := [(4610, 6154), (4611, 6155), (4612, 6157), (4613, 6161), (4614, 6150), (4620, 6166), (4622, 6168), (4624, 6149)]) b4627_Al2)⟩
  · rintro ⟨g6153, g6156, g6160, g6164, g6167, g6169, x6170⟩ zz7683 a7683 w7683 ⟨own7683, A6151, c6152, A6158, c6159, A6162, c6163, hd7684, hz7684, e7684_5, e7684_18, e7684_19, e7684_20, hE7684, b7684_g4623, b7684_cA4606, b7684_A6151, b7684_cA4608, b7684_A6158, b7684_A4618, b7684_A6162, b7684_g4619, b7684_g4621, b7684_Al2⟩ hs Q7683 hn7683 hp7683 hz7683
    have hs : guard_New_b1 l2 x4616 g6153 g6156 g6160 g6164 g6167 g6169 x6170 = some zz7683 := hs
    refine rg_plain_seq (n := 91) (rs := []) (own0 := own7683) (K := [])
        (bs := [0])
        (ds := [⟨[], [20, 19], [], Fct.val 21 (.bool (decide (x6170 < (l2.length : Int))))⟩]) (by kernel_rfl) hz7684 hd7684 (fun _ h => nomatch h) ?_ ?_
    · refine sc (fun _ _ _ _ s _ => px (or_lss (s.1.trans e7684_20) (s.2.1.trans e7684_19) rfl)) ?_
      exact steps_nil
    intro own7685 a7685 w7685 hd7685 hz7685 hk7685 hf7685 hE7685
    have e7685_5 := (hk7685 5 rfl).trans e7684_5
    have e7685_18 := (hk7685 18 rfl).trans e7684_18
    have e7685_19 := (hk7685 19 rfl).trans e7684_19
    have e7685_20 := (hk7685 20 rfl).trans e7684_20
    obtain ⟨(f_21 : a7685.eval (.tmp 21) = .bool (decide (x6170 < (l2.length : Int)))), -⟩ := hf7685 [0] rfl
    have e7685_21 := f_21
    have hX7685 := Evo.step hE7684 (fun _ => Nat.le_refl 0) hE7685 rfl
    have b7685_g4623 := BlkO.evo (by decide) hE7685 b7684_g4623
    have b7685_cA4606 := BlkO.evo (by decide) hE7685 b7684_cA4606
    have b7685_A6151 := RwO.evo rfl hE7685 b7684_A6151
    have b7685_cA4608 := MpN.evo rfl hE7685 b7684_cA4608
    have b7685_A6158 := RwO.evo rfl hE7685 b7684_A6158
    have b7685_A4618 := RwO.evo rfl hE7685 b7684_A4618
    have b7685_A6162 := RwO.evo rfl hE7685 b7684_A6162
    have b7685_g4619 := MpO.evo (by decide) hE7685 b7684_g4619
    have b7685_g4621 := MpO.evo (by decide) hE7685 b7684_g4621
    have b7685_Al2 := RdO.evo rfl hE7685 b7684_Al2
    refine fl_seq (fun Q7686 hn7686 hp7686 => ?_)
    refine fl_cond e7685_21 hs (fun c7687 hs => ?_) (fun c7687 hs => ?_)
    · refine fl_skip ?_
      refine hn7686 _ _ ?_
      refine fl_seq (fun Q7688 hn7688 hp7688 => ?_)
      refine fl_block (fun Q7689 hn7689 hx7689 hp7689 => ?_)
      obtain ⟨x7690, hx7690, hs⟩ := obind hs
      refine rg_plain_seq (n := 91) (rs := []) (own0 := own7685) (K := [7693])
          (bs := [0, 1, 0, 7])
          (ds := [⟨[], [18, 20], [], Fct.val 22 (.pointer (some ((adr Al2).add ((x6170 : Int).toNat * R63.s))))⟩,
          ⟨[0], [], [], Fct.nest X63 [0] 23 (fun (y : ((Option Addr × Nat) × Unit × Unit)) => .agg #[.slice y.1.1 x7690.1.length y.1.2, .int .i64 x7690.2.1, .int .i64 x7690.2.2]) x7690⟩,
          ⟨[], [], [], Fct.blk 7693 7 (fun g => .pointer (some ⟨g, 0, none⟩)) 63 #[.slice none 0 0, .int .i64 0, .int .i64 0]⟩,
          ⟨[2, 1], [], [7693], Fct.by_ [7694] [7, 23] (fun l own w => ∃ g7692 : Nat, l.getD 0 undef = .pointer (some ⟨g7692, 0, none⟩) ∧ (∀ (A7691 : Option Addr) (cA7691 : Nat), l.getD 1 undef = .agg #[.slice A7691 x7690.1.length cA7691, .int .i64 x7690.2.1, .int .i64 x7690.2.2] → BlkO own 7694 w g7692 63 #[.slice A7691 x7690.1.length cA7691, .int .i64 x7690.2.1, .int .i64 x7690.2.2])) (fun hk he h => by obtain ⟨g, e, h⟩ := h; exact ⟨g, e, fun _ _ h0' => BlkO.evo (not_hit hk (by decide)) he (h _ _ h0')⟩)⟩]) (by kernel_rfl) hz7685 hd7685 (fun _ h => nomatch h) ?_ ?_
      · refine sc (fun _ _ _ _ s _ => px (or_index (R := R63) (l := l2) tl23 (s.1.trans e7685_18) (s.2.1.trans e7685_20) (RdO.some_ b7685_Al2 hx7690) hx7690)) ?_
        refine sc (fun _ _ _ f _ hE => px (or_loadN X63 0 3 ta63 f.1 (Addr.add_zero' _).symm (RdO.evo rfl hE b7685_Al2) hx7690 (fun _ => rfl) (fun _ => rfl))) ?_
        refine sc (fun _ _ _ _ _ _ => px (or_new [] rfl rfl trivial (by kernel_rfl))) ?_
        refine sc (fun own a wx hf hsl hE => ?_) ?_
        · obtain ⟨⟨g7692, (f_7 : a.eval (.tmp 7) = .pointer (some ⟨g7692, 0, none⟩)), (b_g7692 : BlkO own 7693 wx g7692 63 #[.slice none 0 0, .int .i64 0, .int .i64 0])⟩, ⟨⟨⟨A7691, cA7691⟩, _, _⟩, (f_23 : a.eval (.tmp 23) = .agg #[.slice A7691 x7690.1.length cA7691, .int .i64 x7690.2.1, .int .i64 x7690.2.2]), ⟨(b_A7691 : RdO own [0] wx R25 A7691 cA7691 x7690.1), -, -⟩⟩, -⟩ := hf
          exact px (or_store (l := #[.slice A7691 x7690.1.length cA7691, .int .i64 x7690.2.1, .int .i64 x7690.2.2]) (lab := 7693) (lab2 := 7694) ts63 f_7 f_23 b_g7692 (by simp) (by kernel_rfl) (mem_of rfl) (by decide) (by kernel_rfl) (fun own' a' w' ha hb => ⟨_, (ha 7).trans f_7, fun _ _ h0' => by cases (f_23.symm.trans ((ha 23).symm.trans h0')); exact hb⟩))
        exact steps_nil
      intro own7695 a7695 w7695 hd7695 hz7695 hk7695 hf7695 hE7695
      have e7695_5 := (hk7695 5 rfl).trans e7685_5
      have e7695_18 := (hk7695 18 rfl).trans e7685_18
      have e7695_19 := (hk7695 19 rfl).trans e7685_19
      have e7695_20 := (hk7695 20 rfl).trans e7685_20
      obtain ⟨⟨⟨⟨A7691, cA7691⟩, _, _⟩, (f_23 : a7695.eval (.tmp 23) = .agg #[.slice A7691 x7690.1.length cA7691, .int .i64 x7690.2.1, .int .i64 x7690.2.2]), ⟨(b_A7691 : RdO own7695 [0] w7695 R25 A7691 cA7691 x7690.1), -, -⟩⟩, ⟨g7692, (f_7 : a7695.eval (.tmp 7) = .pointer (some ⟨g7692, 0, none⟩)), (bq_g7692 : ∀ (A7691 : Option Addr) (cA7691 : Nat), a7695.eval (.tmp 23) = .agg #[.slice A7691 x7690.1.length cA7691, .int .i64 x7690.2.1, .int .i64 x7690.2.2] → BlkO own7695 7694 w7695 g7692 63 #[.slice A7691 x7690.1.length cA7691, .int .i64 x7690.2.1, .int .i64 x7690.2.2])⟩, -⟩ := hf7695 [1, 3] rfl
      have b_g7692 := bq_g7692 _ _ f_23
      have e7695_7 := f_7
      have hX7695 := Evo.step hX7685 (fun _ => Nat.le_refl 0) hE7695 rfl
      have b7695_g4623 := BlkO.evo (by decide) hE7695 b7685_g4623
      have b7695_cA4606 := BlkO.evo (by decide) hE7695 b7685_cA4606
      have b7695_A6151 := RwO.evo rfl hE7695 b7685_A6151
      have b7695_cA4608 := MpN.evo rfl hE7695 b7685_cA4608
      have b7695_A6158 := RwO.evo rfl hE7695 b7685_A6158
      have b7695_A4618 := RwO.evo rfl hE7695 b7685_A4618
      have b7695_A6162 := RwO.evo rfl hE7695 b7685_A6162
      have b7695_g4619 := MpO.evo (by decide) hE7695 b7685_g4619
      have b7695_g4621 := MpO.evo (by decide) hE7695 b7685_g4621
      have b7695_Al2 := RdO.evo rfl hE7695 b7685_Al2
      have b7695_A7691 := b_A7691
      have b7695_g7692 := b_g7692
      refine rg_plain_seq (n := 91) (rs := []) (own0 := own7695) (K := [])
          (bs := [0, 1, 3, 0])
          (ds := [⟨[], [7], [], Fct.val 24 (.pointer (some ⟨g7692, 0, none⟩))⟩,
          ⟨[0], [], [], Fct.val 25 (.slice A7691 x7690.1.length cA7691)⟩,
          ⟨[1], [], [], Fct.val 26 (.int .i64 (x7690.1.length : Int))⟩,
          ⟨[], [], [], Fct.val 27 (.int .i64 0)⟩]) (by kernel_rfl) hz7695 hd7695 (fun _ h => nomatch h) ?_ ?_
      · refine sc (fun _ _ _ _ s _ => px (or_field fo63_0 (s.1.trans e7695_7) (by rfl))) ?_
        refine sc (fun _ _ _ f _ hE => px (or_load1 to55 f.1 (Blk.at_ (BlkO.evo (by decide) hE b7695_g7692).2 0 rfl))) ?_
        refine sc (fun _ _ _ f _ _ => px (or_len tu55 f.1 rfl)) ?_
        refine sc (fun _ _ _ _ _ _ => px (or_move rfl)) ?_
        exact steps_nil
      intro own7696 a7696 w7696 hd7696 hz7696 hk7696 hf7696 hE7696
      have e7696_5 := (hk7696 5 rfl).trans e7695_5
      have e7696_7 := (hk7696 7 rfl).trans e7695_7
      have e7696_18 := (hk7696 18 rfl).trans e7695_18
      have e7696_19 := (hk7696 19 rfl).trans e7695_19
      have e7696_20 := (hk7696 20 rfl).trans e7695_20
      obtain ⟨(f_25 : a7696.eval (.tmp 25) = .slice A7691 x7690.1.length cA7691), (f_26 : a7696.eval (.tmp 26) = .int .i64 (x7690.1.length : Int)), (f_27 : a7696.eval (.tmp 27) = .int .i64 0), -⟩ := hf7696 [1, 2, 3] rfl
      have e7696_25 := f_25
      have e7696_26 := f_26
      have e7696_27 := f_27
      have hX7696 := Evo.step hX7695 (fun _ => Nat.le_refl 0) hE7696 rfl
      have b7696_g4623 := BlkO.evo (by decide) hE7696 b7695_g4623
      have b7696_cA4606 := BlkO.evo (by decide) hE7696 b7695_cA4606
      have b7696_A6151 := RwO.evo rfl hE7696 b7695_A6151
      have b7696_cA4608 := MpN.evo rfl hE7696 b7695_cA4608
      have b7696_A6158 := RwO.evo rfl hE7696 b7695_A6158
      have b7696_A4618 := RwO.evo rfl hE7696 b7695_A4618
      have b7696_A6162 := RwO.evo rfl hE7696 b7695_A6162
      have b7696_g4619 := MpO.evo (by decide) hE7696 b7695_g4619
      have b7696_g4621 := MpO.evo (by decide) hE7696 b7695_g4621
      have b7696_Al2 := RdO.evo rfl hE7696 b7695_Al2
      have b7696_A7691 := RdO.evo rfl hE7696 b7695_A7691
      have b7696_g7692 := BlkO.evo (by decide) hE7696 b7695_g7692
      refine fl_block (fun Q7697 hn7697 hx7697 hp7697 => ?_)
      refine fl_loop (body := (fun s => guard_New_b2 x6170 x7690 s.1 s.2.1 s.2.2.1 s.2.2.2.1 s.2.2.2.2.1 s.2.2.2.2.2.1 s.2.2.2.2.2.2)) (z := zz7683) (show loopO _ _ = _ from hs) (fun (s : (List ((Int × Int) × (Int × Int))) × (List ((Int × Int) × (List Int))) × (List Int) × (List (Int × Int)) × (List ((Int × Int) × Bool)) × (List (((Int × Int) × (Int × Int)) × Bool)) × Int) a wx => match s with | (g8188, g8191, g8195, g8199, g8202, g8204, x8205) => ∃ (ox : Own) (A8186 : Option Addr) (c8187 : Nat) (A8193 : Option Addr) (c8194 : Nat) (A8197 : Option Addr) (c8198 : Nat), a.defers = [] ∧ a.tmps.size = 91 ∧ a.eval (.tmp 5) = .pointer (some ⟨g4623, 0, none⟩) ∧ a.eval (.tmp 7) = .pointer (some ⟨g7692, 0, none⟩) ∧ a.eval (.tmp 18) = .slice Al2 l2.length cl2 ∧ a.eval (.tmp 19) = .int .i64 (l2.length : Int) ∧ a.eval (.tmp 20) = .int .i64 x6170 ∧ a.eval (.tmp 25) = .slice A7691 x7690.1.length cA7691 ∧ a.eval (.tmp 26) = .int .i64 (x7690.1.length : Int) ∧ a.eval (.tmp 27) = .int .i64 x8205 ∧ Evo [] (fun _ => 0) ox w wx ∧ BlkO ox 8184 wx g4623 77 #[.pointer (some ⟨cA4606, 0, none⟩), .slice A4618 x4616.length cA4618, .slice A8197 g8199.length c8198, .map (some g4619), .map (some g4621)] ∧ BlkO ox 8185 wx cA4606 106 #[.slice A8186 g8188.length c8187, .map (some cA4608), .slice A8193 g8195.length c8194] ∧ RwO ox 8189 [] wx 80 R80 A8186 c8187 g8188 ∧ MpN ox 8190 8192 [] wx cA4608 vv111 3 R3 g8191 ∧ RwO ox 8196 [] wx 3 R3 A8193 c8194 g8195 ∧ RwO ox 4617 [] wx 3 R3 A4618 cA4618 x4616 ∧ RwO ox 8200 [] wx 25 R25 A8197 c8198 g8199 ∧ MpO ox 8201 wx g4619 vv25 vv4 g8202 ∧ MpO ox 8203 wx g4621 vv81 vv4 g8204 ∧ BlkO ox 7694 wx g7692 63 #[.slice A7691 x7690.1.length cA7691, .int .i64 x7690.2.1, .int .i64 x7690.2.2] ∧ RdO ox [0] wx R25 A7691 cA7691 x7690.1 ∧ RdO ox [0] wx R63 Al2 cl2 l2) ?_ ?_
      · exact ⟨(rl [(6149, 8184), (6150, 8185), (6154, 8189), (6155, 8190), (6157, 8192), (6161, 8196), (6165, 8200), (6166, 8201), (6168, 8203)] own7696), A6151, c6152, A6158, c6159, A6162, c6163, hd7696, hz7696, e7696_5, e7696_7, e7696_18, e7696_19, e7696_20, e7696_25, e7696_26, e7696_27, (Evo.rl_ hX7696 (fun _ => Nat.le_refl 0) rfl), (BlkO.rl_ (mm := [(6149, 8184), (6150, 8185), (6154, 8189), (6155, 8190), (6157, 8192), (6161, 8196), (6165, 8200), (6166, 8201), (6168, 8203)]) b7696_g4623), (BlkO.rl_ (mm := [(6149, 8184), (6150, 8185), (6154, 8189), (6155, 8190), (6157, 8192), (6161, 8196), (6165, 8200), (6166, 8201), (6168, 8203)]) b7696_cA4606), (RwO.rl_ (mm := [(6149, 8184), (6150, 8185), (6154, 8189), (6155, 8190), (6157, 8192), (6161, 8196), (6165, 8200), (6166, 8201), (6168, 8203)]) b7696_A6151), (MpN.rl_ (mm := [(6149, 8184), (6150, 8185), (6154, 8189), (6155, 8190), (6157, 8192), (6161, 8196), (6165, 8200), (6166, 8201), (6168, 8203)]) b7696_cA4608), (RwO.rl_ (mm := [(6149, 8184), (6150, 8185), (6154, 8189), (6155, 8190), (6157, 8192), (6161, 8196), (6165, 8200), (6166, 8201), (6168, 8203)]) b7696_A6158), (RwO.rl_ (mm := [(6149, 8184), (6150, 8185), (6154, 8189), (6155, 8190), (6157, 8192), (6161, 8196), (6165, 8200), (6166, 8201), (6168, 8203)]) b7696_A4618), (RwO.rl_ (mm := [(6149, 8184), (6150, 8185), (6154, 8189), (6155, 8190), (6157, 8192), (6161, 8196), (6165, 8200), (6166, 8201), (6168, 8203)]) b7696_A6162), (MpO.rl_ (mm := [(6149, 8184), (6150, 8185), (6154, 8189), (6155, 8190), (6157, 8192), (6161, 8196), (6165, 8200), (6166, 8201), (6168, 8203)]) b7696_g4619), (MpO.rl_ (mm := [(6149, 8184), (6150, 8185), (6154, 8189), (6155, 8190), (6157, 8192), (6161, 8196), (6165, 8200), (6166, 8201), (6168, 8203)]) b7696_g4621), (BlkO.rl_ (mm := [(6149, 8184), (6150, 8185), (6154, 8189), (6155, 8190), (6157, 8192), (6161, 8196), (6165, 8200), (6166, 8201), (6168, 8203)]) b7696_g7692), (RdO.rl_ (mm := [(6149, 8184), (6150, 8185), (6154, 8189), (6155, 8190), (6157, 8192), (6161, 8196), (6165, 8200), (6166, 8201), (6168, 8203)]) b7696_A7691), (RdO.rl_ (mm := [(6149, 8184), (6150, 8185), (6154, 8189), (6155, 8190), (6157, 8192), (6161, 8196), (6165, 8200), (6166, 8201), (6168, 8203)]) b7696_Al2)⟩
      · rintro ⟨g8188, g8191, g8195, g8199, g8202, g8204, x8205⟩ zz8700 a8700 w8700 ⟨own8700, A8186, c8187, A8193, c8194, A8197, c8198, hd8701, hz8701, e8701_5, e8701_7, e8701_18, e8701_19, e8701_20, e8701_25, e8701_26, e8701_27, hE8701, b8701_g4623, b8701_cA4606, b8701_A8186, b8701_cA4608, b8701_A8193, b8701_A4618, b8701_A8197, b8701_g4619, b8701_g4621, b8701_g7692, b8701_A7691, b8701_Al2⟩ hs Q8700 hn8700 hp8700 hz8700
        have hs : guard_New_b2 x6170 x7690 g8188 g8191 g8195 g8199 g8202 g8204 x8205 = some zz8700 := hs
        refine rg_plain_seq (n := 91) (rs := []) (own0 := own8700) (K := [])
            (bs := [0])
            (ds := [⟨[], [27, 26], [], Fct.val 28 (.bool (decide (x8205 < (x7690.1.length : Int))))⟩]) (by kernel_rfl) hz8701 hd8701 (fun _ h => nomatch h) ?_ ?_
        · refine sc (fun _ _ _ _ s _ => px (or_lss (s.1.trans e8701_27) (s.2.1.trans e8701_26) rfl)) ?_
          exact steps_nil
        intro own8702 a8702 w8702 hd8702 hz8702 hk8702 hf8702 hE8702
        have e8702_5 := (hk8702 5 rfl).trans e8701_5
        have e8702_7 := (hk8702 7 rfl).trans e8701_7
        have e8702_18 := (hk8702 18 rfl).trans e8701_18
        have e8702_19 := (hk8702 19 rfl).trans e8701_19
        have e8702_20 := (hk8702 20 rfl).trans e8701_20
        have e8702_25 := (hk8702 25 rfl).trans e8701_25
        have e8702_26 := (hk8702 26 rfl).trans e8701_26
        have e8702_27 := (hk8702 27 rfl).trans e8701_27
        obtain ⟨(f_28 : a8702.eval (.tmp 28) = .bool (decide (x8205 < (x7690.1.length : Int)))), -⟩ := hf8702 [0] rfl
        have e8702_28 := f_28
        have hX8702 := Evo.step hE8701 (fun _ => Nat.le_refl 0) hE8702 rfl
        have b8702_g4623 := BlkO.evo (by decide) hE8702 b8701_g4623
        have b8702_cA4606 := BlkO.evo (by decide) hE8702 b8701_cA4606
        have b8702_A8186 := RwO.evo rfl hE8702 b8701_A8186
        have b8702_cA4608 := MpN.evo rfl hE8702 b8701_cA4608
        have b8702_A8193 := RwO.evo rfl hE8702 b8701_A8193
        have b8702_A4618 := RwO.evo rfl hE8702 b8701_A4618
        have b8702_A8197 := RwO.evo rfl hE8702 b8701_A8197
        have b8702_g4619 := MpO.evo (by decide) hE8702 b8701_g4619
        have b8702_g4621 := MpO.evo (by decide) hE8702 b8701_g4621
        have b8702_g7692 := BlkO.evo (by decide) hE8702 b8701_g7692
        have b8702_A7691 := RdO.evo rfl hE8702 b8701_A7691
        have b8702_Al2 := RdO.evo rfl hE8702 b8701_Al2
        refine fl_seq (fun Q8703 hn8703 hp8703 => ?_)
        refine fl_cond e8702_28 hs (fun c8704 hs => ?_) (fun c8704 hs => ?_)
        · refine fl_skip ?_
          refine hn8703 _ _ ?_
          refine fl_seq (fun Q8705 hn8705 hp8705 => ?_)
          refine fl_block (fun Q8950 hn8950 hx8950 hp8950 => ?_)
          have K9078 : ∀ (a9078 : Act) (w9078 : World) (own9078 : Own) (g9067 : List ((Int × Int) × (Int × Int))) (g9068 : List ((Int × Int) × (List Int))) (g9071 : List Int) (g9074 : List (Int × Int)) (g9075 : List ((Int × Int) × Bool)) (g9077 : List (((Int × Int) × (Int × Int)) × Bool)) (A9065 : Option Addr) (c9066 : Nat) (A9069 : Option Addr) (c9070 : Nat) (A9072 : Option Addr) (c9073 : Nat), a9078.defers = [] → a9078.tmps.size = 91 → a9078.eval (.tmp 5) = .pointer (some ⟨g4623, 0, none⟩) → a9078.eval (.tmp 7) = .pointer (some ⟨g7692, 0, none⟩) → a9078.eval (.tmp 18) = .slice Al2 l2.length cl2 → a9078.eval (.tmp 19) = .int .i64 (l2.length : Int) → a9078.eval (.tmp 20) = .int .i64 x6170 → a9078.eval (.tmp 25) = .slice A7691 x7690.1.length cA7691 → a9078.eval (.tmp 26) = .int .i64 (x7690.1.length : Int) → a9078.eval (.tmp 27) = .int .i64 x8205 → Evo [] (fun _ => 0) own9078 w w9078 → BlkO own9078 8995 w9078 g4623 77 #[.pointer (some ⟨cA4606, 0, none⟩), .slice A4618 x4616.length cA4618, .slice A9072 g9074.length c9073, .map (some g4619), .map (some g4621)] → BlkO own9078 8996 w9078 cA4606 106 #[.slice A9065 g9067.length c9066, .map (some cA4608), .slice A9069 g9071.length c9070] → RwO own9078 9000 [] w9078 80 R80 A9065 c9066 g9067 → MpN own9078 9001 9003 [] w9078 cA4608 vv111 3 R3 g9068 → RwO own9078 9007 [] w9078 3 R3 A9069 c9070 g9071 → RwO own9078 4617 [] w9078 3 R3 A4618 cA4618 x4616 → RwO own9078 9011 [] w9078 25 R25 A9072 c9073 g9074 → MpO own9078 9012 w9078 g4619 vv25 vv4 g9075 → MpO own9078 9076 w9078 g4621 vv81 vv4 g9077 → BlkO own9078 7694 w9078 g7692 63 #[.slice A7691 x7690.1.length cA7691, .int .i64 x7690.2.1, .int .i64 x7690.2.2] → RdO own9078 [0] w9078 R25 A7691 cA7691 x7690.1 → RdO own9078 [0] w9078 R63 Al2 cl2 l2 → guard_New_k3 x8205 g9067 g9068 g9071 g9074 g9075 g9077 = some zz8700 → (Q8950 .normal a9078 w9078 ∧ Q8950 (.exit 3) a9078 w9078) := by
            intro a9078 w9078 own9078 g9067 g9068 g9071 g9074 g9075 g9077 A9065 c9066 A9069 c9070 A9072 c9073 hd9079 hz9079 e9079_5 e9079_7 e9079_18 e9079_19 e9079_20 e9079_25 e9079_26 e9079_27 hE9079 b9079_g4623 b9079_cA4606 b9079_A9065 b9079_cA4608 b9079_A9069 b9079_A4618 b9079_A9072 b9079_g4619 b9079_g4621 b9079_g7692 b9079_A7691 b9079_Al2 hs
            refine and_both (hn8950 _ _) (hx8950 _ _) ?_
            refine hn8705 _ _ ?_
            refine rg_plain (n := 91) (rs := []) (own0 := own9078) (K := [])
                (bs := [0, 1])
                (ds := [⟨[], [27], [], Fct.val 88 (.int .i64 (ad x8205 1))⟩,
                ⟨[0], [], [], Fct.val 27 (.int .i64 (ad x8205 1))⟩]) (by kernel_rfl) hz9079 hd9079 (fun _ h => nomatch h) ?_ ?_
            · refine sc (fun _ _ _ _ s _ => px (or_add (s.1.trans e9079_27) rfl rfl)) ?_
              refine sc (fun _ _ _ f _ _ => px (or_move f.1)) ?_
              exact steps_nil
            intro own9080 a9080 w9080 hd9080 hz9080 hk9080 hf9080 hE9080
            have e9080_5 := (hk9080 5 rfl).trans e9079_5
            have e9080_7 := (hk9080 7 rfl).trans e9079_7
            have e9080_18 := (hk9080 18 rfl).trans e9079_18
            have e9080_19 := (hk9080 19 rfl).trans e9079_19
            have e9080_20 := (hk9080 20 rfl).trans e9079_20
            have e9080_25 := (hk9080 25 rfl).trans e9079_25
            have e9080_26 := (hk9080 26 rfl).trans e9079_26
            obtain ⟨(f_27 : a9080.eval (.tmp 27) = .int .i64 (ad x8205 1)), -⟩ := hf9080 [1] rfl
            have e9080_27 := f_27
            have hX9080 := Evo.step hE9079 (fun _ => Nat.le_refl 0) hE9080 rfl
            have b9080_g4623 := BlkO.evo (by decide) hE9080 b9079_g4623
            have b9080_cA4606 := BlkO.evo (by decide) hE9080 b9079_cA4606
            have b9080_A9065 := RwO.evo rfl hE9080 b9079_A9065
            have b9080_cA4608 := MpN.evo rfl hE9080 b9079_cA4608
            have b9080_A9069 := RwO.evo rfl hE9080 b9079_A9069
            have b9080_A4618 := RwO.evo rfl hE9080 b9079_A4618
            have b9080_A9072 := RwO.evo rfl hE9080 b9079_A9072
            have b9080_g4619 := MpO.evo (by decide) hE9080 b9079_g4619
            have b9080_g4621 := MpO.evo (by decide) hE9080 b9079_g4621
            have b9080_g7692 := BlkO.evo (by decide) hE9080 b9079_g7692
            have b9080_A7691 := RdO.evo rfl hE9080 b9079_A7691
            have b9080_Al2 := RdO.evo rfl hE9080 b9079_Al2
            exact hn8700 _ _ _ hs ⟨(rl [(8995, 8184), (8996, 8185), (9000, 8189), (9001, 8190), (9003, 8192), (9007, 8196), (9011, 8200), (9012, 8201), (9076, 8203)] own9080), A9065, c9066, A9069, c9070, A9072, c9073, hd9080, hz9080, e9080_5, e9080_7, e9080_18, e9080_19, e9080_20, e9080_25, e9080_26, e9080_27, (Evo.rl_ hX9080 (fun _ => Nat.le_refl 0) rfl), (BlkO.rl_ (mm := [(8995, 8184), (8996, 8185), (9000, 8189), (9001, 8190), (9003, 8192), (9007, 8196), (9011, 8200), (9012, 8201), (9076, 8203)]) b9080_g4623), (BlkO.rl_ (mm := [(8995, 8184), (8996, 8185), (9000, 8189), (9001, 8190), (9003, 8192), (9007, 8196), (9011, 8200), (9012, 8201), (9076, 8203)]) b9080_cA4606), (RwO.rl_ (mm := [(8995, 8184), (8996, 8185), (9000, 8189), (9001, 8190), (9003, 8192), (9007, 8196), (9011, 8200), (9012, 8201), (9076, 8203)]) b9080_A9065), (MpN.rl_ (mm := [(8995, 8184), (8996, 8185), (9000, 8189), (9001, 8190), (9003, 8192), (9007, 8196), (9011, 8200), (9012, 8201), (9076, 8203)]) b9080_cA4608), (RwO.rl_ (mm := [(8995, 8184), (8996, 8185), (9000, 8189), (9001, 8190), (9003, 8192), (9007, 8196), (9011, 8200), (9012, 8201), (9076, 8203)]) b9080_A9069), (RwO.rl_ (mm := [(8995, 8184), (8996, 8185), (9000, 8189), (9001, 8190), (9003, 8192), (9007, 8196), (9011, 8200), (9012, 8201), (9076, 8203)]) b9080_A4618), (RwO.rl_ (mm := [(8995, 8184), (8996, 8185), (9000, 8189), (9001, 8190), (9003, 8192), (9007, 8196), (9011, 8200), (9012, 8201), (9076, 8203)]) b9080_A9072), (MpO.rl_ (mm := [(8995, 8184), (8996, 8185), (9000, 8189), (9001, 8190), (9003, 8192), (9007, 8196), (9011, 8200), (9012, 8201), (9076, 8203)]) b9080_g4619), (MpO.rl_ (mm := [(8995, 8184), (8996, 8185), (9000, 8189), (9001, 8190), (9003, 8192), (9007, 8196), (9011, 8200), (9012, 8201), (9076, 8203)]) b9080_g4621), (BlkO.rl_ (mm := [(8995, 8184), (8996, 8185), (9000, 8189), (9001, 8190), (9003, 8192), (9007, 8196), (9011, 8200), (9012, 8201), (9076, 8203)]) b9080_g7692), (RdO.rl_ (mm := [(8995, 8184), (8996, 8185), (9000, 8189), (9001, 8190), (9003, 8192), (9007, 8196), (9011, 8200), (9012, 8201), (9076, 8203)]) b9080_A7691), (RdO.rl_ (mm := [(8995, 8184), (8996, 8185), (9000, 8189), (9001, 8190), (9003, 8192), (9007, 8196), (9011, 8200), (9012, 8201), (9076, 8203)]) b9080_Al2)⟩
          obtain ⟨x9081, hx9081, hs⟩ := obind hs
          refine rg_plain_seq (n := 91) (rs := []) (own0 := own8702) (K := [9083])
              (bs := [0, 0, 2, 0, 15, 31])
              (ds := [⟨[], [27], [], Fct.val 29 (.int .i64 x8205)⟩,
              ⟨[], [25, 27], [], Fct.val 30 (.pointer (some ((adr A7691).add ((x8205 : Int).toNat * R25.s))))⟩,
              ⟨[1], [], [], Fct.val 31 (.agg #[.int .i64 x9081.1, .int .i64 x9081.2])⟩,
              ⟨[], [], [], Fct.blk 9083 9 (fun g => .pointer (some ⟨g, 0, none⟩)) 25 #[.int .i64 0, .int .i64 0]⟩,
              ⟨[0], [], [], Fct.val 8 (.int .i64 x8205)⟩,
              ⟨[3, 2], [], [9083], Fct.blk 9084 9 (fun g => .pointer (some ⟨g, 0, none⟩)) 25 #[.int .i64 x9081.1, .int .i64 x9081.2]⟩]) (by kernel_rfl) hz8702 hd8702 (fun _ h => nomatch h) ?_ ?_
          · refine sc (fun _ _ _ _ s _ => px (or_move (s.1.trans e8702_27))) ?_
            refine sc (fun _ _ _ _ s _ => px (or_index (R := R25) (l := x7690.1) tl55 (s.1.trans e8702_25) (s.2.1.trans e8702_27) (RdO.some_ b8702_A7691 hx9081) hx9081)) ?_
            refine sc (fun _ _ _ f _ hE => px (or_load (l := E25.f x9081) ta25 f.1 (RdO.cells (F := E25) (RdO.evo rfl hE b8702_A7691) hx9081) rfl)) ?_
            refine sc (fun _ _ _ _ _ _ => px (or_new [] rfl rfl trivial (by kernel_rfl))) ?_
            refine sc (fun _ _ _ f _ _ => px (or_assign f.1)) ?_
            refine sc (fun own a wx hf hsl hE => ?_) ?_
            · obtain ⟨⟨g9082, (f_9 : a.eval (.tmp 9) = .pointer (some ⟨g9082, 0, none⟩)), (b_g9082 : BlkO own 9083 wx g9082 25 #[.int .i64 0, .int .i64 0])⟩, (f_31 : a.eval (.tmp 31) = .agg #[.int .i64 x9081.1, .int .i64 x9081.2]), -⟩ := hf
              exact px (or_store (l := #[.int .i64 x9081.1, .int .i64 x9081.2]) (lab := 9083) (lab2 := 9084) ts25 f_9 f_31 b_g9082 (by simp) (by kernel_rfl) (mem_of rfl) (by decide) (by kernel_rfl) (fun own' a' w' ha hb => ⟨_, (ha 9).trans f_9, hb⟩))
            exact steps_nil
          intro own9085 a9085 w9085 hd9085 hz9085 hk9085 hf9085 hE9085
          have e9085_5 := (hk9085 5 rfl).trans e8702_5
          have e9085_7 := (hk9085 7 rfl).trans e8702_7
          have e9085_18 := (hk9085 18 rfl).trans e8702_18
          have e9085_19 := (hk9085 19 rfl).trans e8702_19
          have e9085_20 := (hk9085 20 rfl).trans e8702_20
          have e9085_25 := (hk9085 25 rfl).trans e8702_25
          have e9085_26 := (hk9085 26 rfl).trans e8702_26
          have e9085_27 := (hk9085 27 rfl).trans e8702_27
          obtain ⟨⟨g9082, (f_9 : a9085.eval (.tmp 9) = .pointer (some ⟨g9082, 0, none⟩)), (b_g9082 : BlkO own9085 9084 w9085 g9082 25 #[.int .i64 x9081.1, .int .i64 x9081.2])⟩, (f_8 : a9085.eval (.tmp 8) = .int .i64 x8205), -⟩ := hf9085 [5, 4] rfl
          have e9085_9 := f_9
          have e9085_8 := f_8
          have hX9085 := Evo.step hX8702 (fun _ => Nat.le_refl 0) hE9085 rfl
          have b9085_g4623 := BlkO.evo (by decide) hE9085 b8702_g4623
          have b9085_cA4606 := BlkO.evo (by decide) hE9085 b8702_cA4606
          have b9085_A8186 := RwO.evo rfl hE9085 b8702_A8186
          have b9085_cA4608 := MpN.evo rfl hE9085 b8702_cA4608
          have b9085_A8193 := RwO.evo rfl hE9085 b8702_A8193
          have b9085_A4618 := RwO.evo rfl hE9085 b8702_A4618
          have b9085_A8197 := RwO.evo rfl hE9085 b8702_A8197
          have b9085_g4619 := MpO.evo (by decide) hE9085 b8702_g4619
          have b9085_g4621 := MpO.evo (by decide) hE9085 b8702_g4621
          have b9085_g7692 := BlkO.evo (by decide) hE9085 b8702_g7692
          have b9085_A7691 := RdO.evo rfl hE9085 b8702_A7691
          have b9085_Al2 := RdO.evo rfl hE9085 b8702_Al2
          have b9085_g9082 := b_g9082
          refine fl_seq (fun Q9086 hn9086 hp9086 => ?_)
          have K9144 : ∀ (a9144 : Act) (w9144 : World) (own9144 : Own) (g9129 : List ((Int × Int) × (Int × Int))) (g9132 : List ((Int × Int) × (List Int))) (g9136 : List Int) (g9140 : List (Int × Int)) (g9143 : List ((Int × Int) × Bool)) (A9127 : Option Addr) (c9128 : Nat) (A9134 : Option Addr) (c9135 : Nat) (A9138 : Option Addr) (c9139 : Nat), a9144.defers = [] → a9144.tmps.size = 91 → a9144.eval (.tmp 5) = .pointer (some ⟨g4623, 0, none⟩) → a9144.eval (.tmp 7) = .pointer (some ⟨g7692, 0, none⟩) → a9144.eval (.tmp 8) = .int .i64 x8205 → a9144.eval (.tmp 9) = .pointer (some ⟨g9082, 0, none⟩) → a9144.eval (.tmp 18) = .slice Al2 l2.length cl2 → a9144.eval (.tmp 19) = .int .i64 (l2.length : Int) → a9144.eval (.tmp 20) = .int .i64 x6170 → a9144.eval (.tmp 25) = .slice A7691 x7690.1.length cA7691 → a9144.eval (.tmp 26) = .int .i64 (x7690.1.length : Int) → a9144.eval (.tmp 27) = .int .i64 x8205 → Evo [] (fun _ => 0) own9144 w w9144 → BlkO own9144 9125 w9144 g4623 77 #[.pointer (some ⟨cA4606, 0, none⟩), .slice A4618 x4616.length cA4618, .slice A9138 g9140.length c9139, .map (some g4619), .map (some g4621)] → BlkO own9144 9126 w9144 cA4606 106 #[.slice A9127 g9129.length c9128, .map (some cA4608), .slice A9134 g9136.length c9135] → RwO own9144 9130 [] w9144 80 R80 A9127 c9128 g9129 → MpN own9144 9131 9133 [] w9144 cA4608 vv111 3 R3 g9132 → RwO own9144 9137 [] w9144 3 R3 A9134 c9135 g9136 → RwO own9144 4617 [] w9144 3 R3 A4618 cA4618 x4616 → RwO own9144 9141 [] w9144 25 R25 A9138 c9139 g9140 → MpO own9144 9142 w9144 g4619 vv25 vv4 g9143 → MpO own9144 8203 w9144 g4621 vv81 vv4 g8204 → BlkO own9144 7694 w9144 g7692 63 #[.slice A7691 x7690.1.length cA7691, .int .i64 x7690.2.1, .int .i64 x7690.2.2] → RdO own9144 [0] w9144 R25 A7691 cA7691 x7690.1 → BlkO own9144 9084 w9144 g9082 25 #[.int .i64 x9081.1, .int .i64 x9081.2] → RdO own9144 [0] w9144 R63 Al2 cl2 l2 → guard_New_k4 x7690 g8204 x8205 x9081 g9129 g9132 g9136 g9140 g9143 = some zz8700 → Q9086 .normal a9144 w9144 := by
            intro a9144 w9144 own9144 g9129 g9132 g9136 g9140 g9143 A9127 c9128 A9134 c9135 A9138 c9139 hd9145 hz9145 e9145_5 e9145_7 e9145_8 e9145_9 e9145_18 e9145_19 e9145_20 e9145_25 e9145_26 e9145_27 hE9145 b9145_g4623 b9145_cA4606 b9145_A9127 b9145_cA4608 b9145_A9134 b9145_A4618 b9145_A9138 b9145_g4619 b9145_g4621 b9145_g7692 b9145_A7691 b9145_g9082 b9145_Al2 hs
            refine hn9086 _ _ ?_
            obtain ⟨x9146, hx9146, hs⟩ := obind hs
            obtain ⟨x9147, hx9147, hs⟩ := obind hs
            refine rg_draw_seq g_mixed (n := 91) (rs := []) (own0 := own9144) (K := [])
                (bs := [0, 1, 3, 7, 15, 7, 39, 127, 255, 7, 1023, 2047])
                (ds := [⟨[], [8], [], Fct.val 64 (.int .i64 x8205)⟩,
                ⟨[0], [], [], Fct.val 65 (.bool (decide (0 < x8205)))⟩,
                ⟨[1], [], [], Fct.val 66 (.bool (decide (0 < x8205)))⟩,
                ⟨[2], [7], [], Fct.cond (decide (0 < x8205)) (some 67) (Fct.val 67 (.pointer (some ⟨g7692, 0, none⟩)))⟩,
                ⟨[2, 3], [], [], Fct.cond (decide (0 < x8205)) (some 68) (Fct.val 68 (.slice A7691 x7690.1.length cA7691))⟩,
                ⟨[2], [8], [], Fct.cond (decide (0 < x8205)) (some 69) (Fct.val 69 (.int .i64 x8205))⟩,
                ⟨[2, 5], [], [], Fct.cond (decide (0 < x8205)) (some 70) (Fct.val 70 (.int .i64 (sb x8205 1)))⟩,
                ⟨[2, 4, 6], [], [], Fct.cond (decide (0 < x8205)) (some 71) (Fct.val 71 (.pointer (some ((adr A7691).add ((sb x8205 1 : Int).toNat * R25.s)))))⟩,
                ⟨[2, 7], [], [], Fct.cond (decide (0 < x8205)) (some 72) (Fct.val 72 (.agg #[.int .i64 x9146.1, .int .i64 x9146.2]))⟩,
                ⟨[2], [9], [], Fct.cond (decide (0 < x8205)) (some 73) (Fct.val 73 (.agg #[.int .i64 x9081.1, .int .i64 x9081.2]))⟩,
                ⟨[2, 8, 9], [], [], Fct.cond (decide (0 < x8205)) (some 74) (Fct.val 74 (.bool (!decide (x9146 = x9081))))⟩,
                ⟨[2, 10], [], [], Fct.val 75 (.bool x9147)⟩]) (by kernel_rfl) hz9145 hd9145 (fun _ h => nomatch h) ?_ ?_
            · refine sc (fun _ _ _ _ s _ => px (or_move (s.1.trans e9145_8))) ?_
              refine sc (fun _ _ _ f _ _ => px (or_gtr f.1 rfl rfl)) ?_
              refine sc (fun _ _ _ f _ _ => px (or_move f.1)) ?_
              refine sc (fun own a wx hf hsl hE => ?_) ?_
              · obtain ⟨(f_66 : a.eval (.tmp 66) = .bool (decide (0 < x8205))), -⟩ := hf
                obtain ⟨s_7, -⟩ := hsl
                refine sg_t rfl rfl rfl f_66 (fun hg => ?_)
                exact or_field fo63_0 (s_7.trans e9145_7) (by rfl)
              refine sc (fun own a wx hf hsl hE => ?_) ?_
              · obtain ⟨(f_66 : a.eval (.tmp 66) = .bool (decide (0 < x8205))), c_67, -⟩ := hf
                refine sg_t rfl rfl rfl f_66 (fun hg => ?_)
                have f_67 : a.eval (.tmp 67) = .pointer (some ⟨g7692, 0, none⟩) := c_67.1 hg
                exact or_load1 to55 f_67 (Blk.at_ (BlkO.evo (by decide) hE b9145_g7692).2 0 rfl)
              refine sc (fun own a wx hf hsl hE => ?_) ?_
              · obtain ⟨(f_66 : a.eval (.tmp 66) = .bool (decide (0 < x8205))), -⟩ := hf
                obtain ⟨s_8, -⟩ := hsl
                refine sg_t rfl rfl rfl f_66 (fun hg => ?_)
                exact or_move (s_8.trans e9145_8)
              refine sc (fun own a wx hf hsl hE => ?_) ?_
              · obtain ⟨(f_66 : a.eval (.tmp 66) = .bool (decide (0 < x8205))), c_69, -⟩ := hf
                refine sg_t rfl rfl rfl f_66 (fun hg => ?_)
                have f_69 : a.eval (.tmp 69) = .int .i64 x8205 := c_69.1 hg
                exact or_sub f_69 rfl rfl
              refine sc (fun own a wx hf hsl hE => ?_) ?_
              · obtain ⟨(f_66 : a.eval (.tmp 66) = .bool (decide (0 < x8205))), c_68, c_70, -⟩ := hf
                refine sg_t rfl rfl rfl f_66 (fun hg => ?_)
                have f_68 : a.eval (.tmp 68) = .slice A7691 x7690.1.length cA7691 := c_68.1 hg
                have f_70 : a.eval (.tmp 70) = .int .i64 (sb x8205 1) := c_70.1 hg
                exact or_index (R := R25) (l := x7690.1) tl55 f_68 f_70 (RdO.some_ b9145_A7691 (gd_t hx9146 hg)) (gd_t hx9146 hg)
              refine sc (fun own a wx hf hsl hE => ?_) ?_
              · obtain ⟨(f_66 : a.eval (.tmp 66) = .bool (decide (0 < x8205))), c_71, -⟩ := hf
                refine sg_t rfl rfl rfl f_66 (fun hg => ?_)
                have f_71 : a.eval (.tmp 71) = .pointer (some ((adr A7691).add ((sb x8205 1 : Int).toNat * R25.s))) := c_71.1 hg
                exact or_load (l := E25.f x9146) ta25 f_71 (RdO.cells (F := E25) (RdO.evo rfl hE b9145_A7691) (gd_t hx9146 hg)) rfl
              refine sc (fun own a wx hf hsl hE => ?_) ?_
              · obtain ⟨(f_66 : a.eval (.tmp 66) = .bool (decide (0 < x8205))), -⟩ := hf
                obtain ⟨s_9, -⟩ := hsl
                refine sg_t rfl rfl rfl f_66 (fun hg => ?_)
                exact or_load (l := [.int .i64 x9081.1, .int .i64 x9081.2]) ta25 (s_9.trans e9145_9) (Blk.cellsFrom (BlkO.evo (by decide) hE b9145_g9082).2 0 rfl) rfl
              refine sc (fun own a wx hf hsl hE => ?_) ?_
              · obtain ⟨(f_66 : a.eval (.tmp 66) = .bool (decide (0 < x8205))), c_72, c_73, -⟩ := hf
                refine sg_t rfl rfl rfl f_66 (fun hg => ?_)
                have f_72 : a.eval (.tmp 72) = .agg #[.int .i64 x9146.1, .int .i64 x9146.2] := c_72.1 hg
                have f_73 : a.eval (.tmp 73) = .agg #[.int .i64 x9081.1, .int .i64 x9081.2] := c_73.1 hg
                exact or_neqA sg25 f_72 f_73 (sn25 x9146.1 x9146.2 x9081.1 x9081.2 _) rfl
              refine sc (fun own a wx hf hsl hE => ?_) ?_
              · obtain ⟨(f_66 : a.eval (.tmp 66) = .bool (decide (0 < x8205))), c_74, -⟩ := hf
                exact px (or_and f_66 (fun hx => c_74.1 hx) rfl (osome hx9147).symm)
              exact steps_nil
            intro own9148 a9148 w9148 hd9148 hz9148 hk9148 hf9148 hE9148
            have e9148_5 := (hk9148 5 rfl).trans e9145_5
            have e9148_7 := (hk9148 7 rfl).trans e9145_7
            have e9148_8 := (hk9148 8 rfl).trans e9145_8
            have e9148_9 := (hk9148 9 rfl).trans e9145_9
            have e9148_18 := (hk9148 18 rfl).trans e9145_18
            have e9148_19 := (hk9148 19 rfl).trans e9145_19
            have e9148_20 := (hk9148 20 rfl).trans e9145_20
            have e9148_25 := (hk9148 25 rfl).trans e9145_25
            have e9148_26 := (hk9148 26 rfl).trans e9145_26
            have e9148_27 := (hk9148 27 rfl).trans e9145_27
            obtain ⟨(f_75 : a9148.eval (.tmp 75) = .bool x9147), -⟩ := hf9148 [11] rfl
            have e9148_75 := f_75
            have hX9148 := Evo.step hE9145 (fun _ => Nat.le_refl 0) hE9148 rfl
            have b9148_g4623 := BlkO.evo (by decide) hE9148 b9145_g4623
            have b9148_cA4606 := BlkO.evo (by decide) hE9148 b9145_cA4606
            have b9148_A9127 := RwO.evo rfl hE9148 b9145_A9127
            have b9148_cA4608 := MpN.evo rfl hE9148 b9145_cA4608
            have b9148_A9134 := RwO.evo rfl hE9148 b9145_A9134
            have b9148_A4618 := RwO.evo rfl hE9148 b9145_A4618
            have b9148_A9138 := RwO.evo rfl hE9148 b9145_A9138
            have b9148_g4619 := MpO.evo (by decide) hE9148 b9145_g4619
            have b9148_g4621 := MpO.evo (by decide) hE9148 b9145_g4621
            have b9148_g7692 := BlkO.evo (by decide) hE9148 b9145_g7692
            have b9148_A7691 := RdO.evo rfl hE9148 b9145_A7691
            have b9148_g9082 := BlkO.evo (by decide) hE9148 b9145_g9082
            have b9148_Al2 := RdO.evo rfl hE9148 b9145_Al2
            refine fl_cond e9148_75 hs (fun c9149 hs => ?_) (fun c9149 hs => ?_)
            · obtain ⟨x9152, hx9152, hs⟩ := obind hs
              obtain ⟨r9153, hr9153, hs⟩ := obind hs
              obtain ⟨D9154, hD9154, hs⟩ := obind hs
              refine rg_draw g_mixed (n := 91) (rs := [Fct.mapAt 8203 g4621 vv81 vv4 g8204]) (own0 := own9148) (K := [8203])
                  (bs := [0, 1, 3, 7, 0, 16, 0, 64, 240, 496, 0, 2032, 4095])
                  (ds := [⟨[], [5], [], Fct.val 76 (.pointer (some ⟨g4623, 0, none⟩))⟩,
                  ⟨[0], [], [], Fct.val 77 (.pointer (some ⟨g4623, 0, none⟩))⟩,
                  ⟨[1], [], [], Fct.val 78 (.pointer (some ⟨g4623, 4, none⟩))⟩,
                  ⟨[2], [], [], Fct.val 79 (.map (some g4621))⟩,
                  ⟨[], [7], [], Fct.val 80 (.pointer (some ⟨g7692, 0, none⟩))⟩,
                  ⟨[4], [], [], Fct.val 81 (.slice A7691 x7690.1.length cA7691)⟩,
                  ⟨[], [8], [], Fct.val 82 (.int .i64 x8205)⟩,
                  ⟨[6], [], [], Fct.val 83 (.int .i64 (sb x8205 1))⟩,
                  ⟨[5, 7], [], [], Fct.val 84 (.pointer (some ((adr A7691).add ((sb x8205 1 : Int).toNat * R25.s))))⟩,
                  ⟨[8], [], [], Fct.val 85 (.agg #[.int .i64 x9152.1, .int .i64 x9152.2])⟩,
                  ⟨[], [9], [], Fct.val 86 (.agg #[.int .i64 x9081.1, .int .i64 x9081.2])⟩,
                  ⟨[9, 10], [], [], Fct.val 87 (.agg #[.int .i64 r9153.1.1, .int .i64 r9153.1.2, .int .i64 r9153.2.1, .int .i64 r9153.2.2])⟩,
                  ⟨[3, 11, 13], [], [8203], Fct.mapAt 9155 g4621 vv81 vv4 D9154⟩]) (by kernel_rfl) hz9148 hd9148 (by simp only [List.forall_mem_cons]; exact ⟨b9148_g4621, fun _ h => nomatch h⟩) ?_ ?_
              · refine sc (fun _ _ _ _ s _ => px (or_move (s.1.trans e9148_5))) ?_
                refine sc (fun _ _ _ f _ _ => px (or_k [(76, .pointer (some ⟨g4623, 0, none⟩))] rfl rfl ⟨f.1, trivial⟩ (by kernel_rfl))) ?_
                refine sc (fun _ _ _ f _ _ => px (or_field fo77_4 f.1 (by rfl))) ?_
                refine sc (fun _ _ _ f _ hE => px (or_load1 to75 f.1 (Blk.at_ (BlkO.evo (by decide) hE b9148_g4623).2 4 rfl))) ?_
                refine sc (fun _ _ _ _ s _ => px (or_field fo63_0 (s.1.trans e9148_7) (by rfl))) ?_
                refine sc (fun _ _ _ f _ hE => px (or_load1 to55 f.1 (Blk.at_ (BlkO.evo (by decide) hE b9148_g7692).2 0 rfl))) ?_
                refine sc (fun _ _ _ _ s _ => px (or_move (s.1.trans e9148_8))) ?_
                refine sc (fun _ _ _ f _ _ => px (or_sub f.1 rfl rfl)) ?_
                refine sc (fun _ _ _ f _ _ => px (or_index (R := R25) (l := x7690.1) tl55 f.1 f.2.1 (RdO.some_ b9148_A7691 hx9152) hx9152)) ?_
                refine sc (fun _ _ _ f _ hE => px (or_load (l := E25.f x9152) ta25 f.1 (RdO.cells (F := E25) (RdO.evo rfl hE b9148_A7691) hx9152) rfl)) ?_
                refine sc (fun _ _ _ _ s hE => px (or_load (l := [.int .i64 x9081.1, .int .i64 x9081.2]) ta25 (s.1.trans e9148_9) (Blk.cellsFrom (BlkO.evo (by decide) hE b9148_g9082).2 0 rfl) rfl)) ?_
                refine sc (fun _ _ _ f _ _ => px (or_call cf30 (args2 f.1 f.2.1) (guard_between_w _ x9152 x9081  r9153 hr9153) post_val)) ?_
                refine sc (fun own a wx hf hsl hE => ?_) ?_
                · obtain ⟨(f_79 : a.eval (.tmp 79) = .map (some g4621)), (f_87 : a.eval (.tmp 87) = .agg #[.int .i64 r9153.1.1, .int .i64 r9153.1.2, .int .i64 r9153.2.1, .int .i64 r9153.2.2]), (b_g4621 : MpO own 8203 wx g4621 vv81 vv4 g8204), -⟩ := hf
                  exact px (or_mapUpdate (kf := vv81) (vf := vv4) (k := r9153) (v := true) (lab := 8203) (lab2 := 9155) ko81 tm75 f_79 f_87 rfl b_g4621 (osome hD9154).symm (mem_of rfl) (by decide) (fun own' a' w' hb => hb))
                exact steps_nil
              intro own9156 a9156 w9156 hd9156 hz9156 hk9156 hf9156 hE9156
              have e9156_5 := (hk9156 5 rfl).trans e9148_5
              have e9156_7 := (hk9156 7 rfl).trans e9148_7
              have e9156_18 := (hk9156 18 rfl).trans e9148_18
              have e9156_19 := (hk9156 19 rfl).trans e9148_19
              have e9156_20 := (hk9156 20 rfl).trans e9148_20
              have e9156_25 := (hk9156 25 rfl).trans e9148_25
              have e9156_26 := (hk9156 26 rfl).trans e9148_26
              have e9156_27 := (hk9156 27 rfl).trans e9148_27
              obtain ⟨(b_g4621 : MpO own9156 9155 w9156 g4621 vv81 vv4 D9154), -⟩ := hf9156 [12] rfl
              have hX9156 := Evo.step hX9148 (fun _ => Nat.le_refl 0) hE9156 rfl
              have b9156_g4623 := BlkO.evo (by decide) hE9156 b9148_g4623
              have b9156_cA4606 := BlkO.evo (by decide) hE9156 b9148_cA4606
              have b9156_A9127 := RwO.evo rfl hE9156 b9148_A9127
              have b9156_cA4608 := MpN.evo rfl hE9156 b9148_cA4608
              have b9156_A9134 := RwO.evo rfl hE9156 b9148_A9134
              have b9156_A4618 := RwO.evo rfl hE9156 b9148_A4618
              have b9156_A9138 := RwO.evo rfl hE9156 b9148_A9138
              have b9156_g4619 := MpO.evo (by decide) hE9156 b9148_g4619
              have b9156_g7692 := BlkO.evo (by decide) hE9156 b9148_g7692
              have b9156_A7691 := RdO.evo rfl hE9156 b9148_A7691
              have b9156_Al2 := RdO.evo rfl hE9156 b9148_Al2
              have b9156_g4621 := b_g4621
              exact (K9078 _ _ (rl [(9125, 8995), (9126, 8996), (9130, 9000), (9131, 9001), (9133, 9003), (9137, 9007), (9141, 9011), (9142, 9012), (9155, 9076)] own9156) _ _ _ _ _ _ A9127 c9128 A9134 c9135 A9138 c9139 hd9156 hz9156 e9156_5 e9156_7 e9156_18 e9156_19 e9156_20 e9156_25 e9156_26 e9156_27 (Evo.rl_ hX9156 (fun _ => Nat.le_refl 0) rfl) (BlkO.rl_ (mm := [(9125, 8995), (9126, 8996), (9130, 9000), (9131, 9001), (9133, 9003), (9137, 9007), (9141, 9011), (9142, 9012), (9155, 9076)]) b9156_g4623) (BlkO.rl_ (mm := [(9125, 8995), (9126, 8996), (9130, 9000), (9131, 9001), (9133, 9003), (9137, 9007), (9141, 9011), (9142, 9012), (9155, 9076)]) b9156_cA4606) (RwO.rl_ (mm := [(9125, 8995), (9126, 8996), (9130, 9000), (9131, 9001), (9133, 9003), (9137, 9007), (9141, 9011), (9142, 9012), (9155, 9076)]) b9156_A9127) (MpN.rl_ (mm := [(9125, 8995), (9126, 8996), (9130, 9000), (9131, 9001), (9133, 9003), (9137, 9007), (9141, 9011), (9142, 9012), (9155, 9076)]) b9156_cA4608) (RwO.rl_ (mm := [(9125, 8995), (9126, 8996), (9130, 9000), (9131, 9001), (9133, 9003), (9137, 9007), (9141, 9011), (9142, 9012), (9155, 9076)]) b9156_A9134) (RwO.rl_ (mm := [(9125, 8995), (9126, 8996), (9130, 9000), (9131, 9001), (9133, 9003), (9137, 9007), (9141, 9011), (9142, 9012), (9155, 9076)]) b9156_A4618) (RwO.rl_ (mm := [(9125, 8995), (9126, 8996), (9130, 9000), (9131, 9001), (9133, 9003), (9137, 9007), (9141, 9011), (9142, 9012), (9155, 9076)]) b9156_A9138) (MpO.rl_ (mm := [(9125, 8995), (9126, 8996), (9130, 9000), (9131, 9001), (9133, 9003), (9137, 9007), (9141, 9011), (9142, 9012), (9155, 9076)]) b9156_g4619) (MpO.rl_ (mm := [(9125, 8995), (9126, 8996), (9130, 9000), (9131, 9001), (9133, 9003), (9137, 9007), (9141, 9011), (9142, 9012), (9155, 9076)]) b9156_g4621) (BlkO.rl_ (mm := [(9125, 8995), (9126, 8996), (9130, 9000), (9131, 9001), (9133, 9003), (9137, 9007), (9141, 9011), (9142, 9012), (9155, 9076)]) b9156_g7692) (RdO.rl_ (mm := [(9125, 8995), (9126, 8996), (9130, 9000), (9131, 9001), (9133, 9003), (9137, 9007), (9141, 9011), (9142, 9012), (9155, 9076)]) b9156_A7691) (RdO.rl_ (mm := [(9125, 8995), (9126, 8996), (9130, 9000), (9131, 9001), (9133, 9003), (9137, 9007), (9141, 9011), (9142, 9012), (9155, 9076)]) b9156_Al2) hs).1
            refine fl_skip ?_
            exact (K9078 _ _ (rl [(8203, 9076), (9125, 8995), (9126, 8996), (9130, 9000), (9131, 9001), (9133, 9003), (9137, 9007), (9141, 9011), (9142, 9012)] own9148) _ _ _ _ _ _ A9127 c9128 A9134 c9135 A9138 c9139 hd9148 hz9148 e9148_5 e9148_7 e9148_18 e9148_19 e9148_20 e9148_25 e9148_26 e9148_27 (Evo.rl_ hX9148 (fun _ => Nat.le_refl 0) rfl) (BlkO.rl_ (mm := [(8203, 9076), (9125, 8995), (9126, 8996), (9130, 9000), (9131, 9001), (9133, 9003), (9137, 9007), (9141, 9011), (9142, 9012)]) b9148_g4623) (BlkO.rl_ (mm := [(8203, 9076), (9125, 8995), (9126, 8996), (9130, 9000), (9131, 9001), (9133, 9003), (9137, 9007), (9141, 9011), (9142, 9012)]) b9148_cA4606) (RwO.rl_ (mm := [(8203, 9076), (9125, 8995), (9126, 8996), (9130, 9000), (9131, 9001), (9133, 9003), (9137, 9007), (9141, 9011), (9142, 9012)]) b9148_A9127) (MpN.rl_ (mm := [(8203, 9076), (9125, 8995), (9126, 8996), (9130, 9000), (9131, 9001), (9133, 9003), (9137, 9007), (9141, 9011), (9142, 9012)]) b9148_cA4608) (RwO.rl_ (mm := [(8203, 9076), (9125, 8995), (9126, 8996), (9130, 9000), (9131, 9001), (9133, 9003), (9137, 9007), (9141, 9011), (9142, 9012)]) b9148_A9134) (RwO.rl_ (mm := [(8203, 9076), (9125, 8995), (9126, 8996), (9130, 9000), (9131, 9001), (9133, 9003), (9137, 9007), (9141, 9011), (9142, 9012)]) b9148_A4618) (RwO.rl_ (mm := [(8203, 9076), (9125, 8995), (9126, 8996), (9130, 9000), (9131, 9001), (9133, 9003), (9137, 9007), (9141, 9011), (9142, 9012)]) b9148_A9138) (MpO.rl_ (mm := [(8203, 9076), (9125, 8995), (9126, 8996), (9130, 9000), (9131, 9001), (9133, 9003), (9137, 9007), (9141, 9011), (9142, 9012)]) b9148_g4619) (MpO.rl_ (mm := [(8203, 9076), (9125, 8995), (9126, 8996), (9130, 9000), (9131, 9001), (9133, 9003), (9137, 9007), (9141, 9011), (9142, 9012)]) b9148_g4621) (BlkO.rl_ (mm := [(8203, 9076), (9125, 8995), (9126, 8996), (9130, 9000), (9131, 9001), (9133, 9003), (9137, 9007), (9141, 9011), (9142, 9012)]) b9148_g7692) (RdO.rl_ (mm := [(8203, 9076), (9125, 8995), (9126, 8996), (9130, 9000), (9131, 9001), (9133, 9003), (9137, 9007), (9141, 9011), (9142, 9012)]) b9148_A7691) (RdO.rl_ (mm := [(8203, 9076), (9125, 8995), (9126, 8996), (9130, 9000), (9131, 9001), (9133, 9003), (9137, 9007), (9141, 9011), (9142, 9012)]) b9148_Al2) hs).1
          refine rg_draw_seq g_mixed (n := 91) (rs := []) (own0 := own9085) (K := [])
              (bs := [0, 1, 3, 7, 0, 31, 63])
              (ds := [⟨[], [5], [], Fct.val 32 (.pointer (some ⟨g4623, 0, none⟩))⟩,
              ⟨[0], [], [], Fct.val 33 (.pointer (some ⟨g4623, 0, none⟩))⟩,
              ⟨[1], [], [], Fct.val 34 (.pointer (some ⟨g4623, 3, none⟩))⟩,
              ⟨[2], [], [], Fct.val 35 (.map (some g4619))⟩,
              ⟨[], [9], [], Fct.val 36 (.agg #[.int .i64 x9081.1, .int .i64 x9081.2])⟩,
              ⟨[3, 4], [], [], Fct.val 37 (.bool ((lkM g8202 x9081).getD false))⟩,
              ⟨[5], [], [], Fct.val 38 (.bool (!((lkM g8202 x9081).getD false)))⟩]) (by kernel_rfl) hz9085 hd9085 (fun _ h => nomatch h) ?_ ?_
          · refine sc (fun _ _ _ _ s _ => px (or_move (s.1.trans e9085_5))) ?_
            refine sc (fun _ _ _ f _ _ => px (or_k [(32, .pointer (some ⟨g4623, 0, none⟩))] rfl rfl ⟨f.1, trivial⟩ (by kernel_rfl))) ?_
            refine sc (fun _ _ _ f _ _ => px (or_field fo77_3 f.1 (by rfl))) ?_
            refine sc (fun _ _ _ f _ hE => px (or_load1 to74 f.1 (Blk.at_ (BlkO.evo (by decide) hE b9085_g4623).2 3 rfl))) ?_
            refine sc (fun _ _ _ _ s hE => px (or_load (l := [.int .i64 x9081.1, .int .i64 x9081.2]) ta25 (s.1.trans e9085_9) (Blk.cellsFrom (BlkO.evo (by decide) hE b9085_g9082).2 0 rfl) rfl)) ?_
            refine sc (fun _ _ _ f _ hE => px (or_lookupE (kf := vv25) (vf := vv4) (k := x9081) (dv := false) ko25 tm74 tzv74 f.1 f.2.1 (MpO.evo (by decide) hE b9085_g4619) rfl)) ?_
            refine sc (fun _ _ _ f _ _ => px (or_not f.1 rfl)) ?_
            exact steps_nil
          intro own9157 a9157 w9157 hd9157 hz9157 hk9157 hf9157 hE9157
          have e9157_5 := (hk9157 5 rfl).trans e9085_5
          have e9157_7 := (hk9157 7 rfl).trans e9085_7
          have e9157_8 := (hk9157 8 rfl).trans e9085_8
          have e9157_9 := (hk9157 9 rfl).trans e9085_9
          have e9157_18 := (hk9157 18 rfl).trans e9085_18
          have e9157_19 := (hk9157 19 rfl).trans e9085_19
          have e9157_20 := (hk9157 20 rfl).trans e9085_20
          have e9157_25 := (hk9157 25 rfl).trans e9085_25
          have e9157_26 := (hk9157 26 rfl).trans e9085_26
          have e9157_27 := (hk9157 27 rfl).trans e9085_27
          obtain ⟨(f_38 : a9157.eval (.tmp 38) = .bool (!((lkM g8202 x9081).getD false))), -⟩ := hf9157 [6] rfl
          have e9157_38 := f_38
          have hX9157 := Evo.step hX9085 (fun _ => Nat.le_refl 0) hE9157 rfl
          have b9157_g4623 := BlkO.evo (by decide) hE9157 b9085_g4623
          have b9157_cA4606 := BlkO.evo (by decide) hE9157 b9085_cA4606
          have b9157_A8186 := RwO.evo rfl hE9157 b9085_A8186
          have b9157_cA4608 := MpN.evo rfl hE9157 b9085_cA4608
          have b9157_A8193 := RwO.evo rfl hE9157 b9085_A8193
          have b9157_A4618 := RwO.evo rfl hE9157 b9085_A4618
          have b9157_A8197 := RwO.evo rfl hE9157 b9085_A8197
          have b9157_g4619 := MpO.evo (by decide) hE9157 b9085_g4619
          have b9157_g4621 := MpO.evo (by decide) hE9157 b9085_g4621
          have b9157_g7692 := BlkO.evo (by decide) hE9157 b9085_g7692
          have b9157_A7691 := RdO.evo rfl hE9157 b9085_A7691
          have b9157_Al2 := RdO.evo rfl hE9157 b9085_Al2
          have b9157_g9082 := BlkO.evo (by decide) hE9157 b9085_g9082
          refine fl_cond e9157_38 hs (fun c9158 hs => ?_) (fun c9158 hs => ?_)
          · obtain ⟨D9159, hD9159, hs⟩ := obind hs
            refine rg_draw_seq g_mixed (n := 91) (rs := [Fct.mapAt 8201 g4619 vv25 vv4 g8202]) (own0 := own9157) (K := [8201])
                (bs := [0, 1, 3, 7, 0, 31])
                (ds := [⟨[], [5], [], Fct.val 39 (.pointer (some ⟨g4623, 0, none⟩))⟩,
                ⟨[0], [], [], Fct.val 40 (.pointer (some ⟨g4623, 0, none⟩))⟩,
                ⟨[1], [], [], Fct.val 41 (.pointer (some ⟨g4623, 3, none⟩))⟩,
                ⟨[2], [], [], Fct.val 42 (.map (some g4619))⟩,
                ⟨[], [9], [], Fct.val 43 (.agg #[.int .i64 x9081.1, .int .i64 x9081.2])⟩,
                ⟨[3, 4, 6], [], [8201], Fct.mapAt 9160 g4619 vv25 vv4 D9159⟩]) (by kernel_rfl) hz9157 hd9157 (by simp only [List.forall_mem_cons]; exact ⟨b9157_g4619, fun _ h => nomatch h⟩) ?_ ?_
            · refine sc (fun _ _ _ _ s _ => px (or_move (s.1.trans e9157_5))) ?_
              refine sc (fun _ _ _ f _ _ => px (or_k [(39, .pointer (some ⟨g4623, 0, none⟩))] rfl rfl ⟨f.1, trivial⟩ (by kernel_rfl))) ?_
              refine sc (fun _ _ _ f _ _ => px (or_field fo77_3 f.1 (by rfl))) ?_
              refine sc (fun _ _ _ f _ hE => px (or_load1 to74 f.1 (Blk.at_ (BlkO.evo (by decide) hE b9157_g4623).2 3 rfl))) ?_
              refine sc (fun _ _ _ _ s hE => px (or_load (l := [.int .i64 x9081.1, .int .i64 x9081.2]) ta25 (s.1.trans e9157_9) (Blk.cellsFrom (BlkO.evo (by decide) hE b9157_g9082).2 0 rfl) rfl)) ?_
              refine sc (fun own a wx hf hsl hE => ?_) ?_
              · obtain ⟨(f_42 : a.eval (.tmp 42) = .map (some g4619)), (f_43 : a.eval (.tmp 43) = .agg #[.int .i64 x9081.1, .int .i64 x9081.2]), (b_g4619 : MpO own 8201 wx g4619 vv25 vv4 g8202), -⟩ := hf
                exact px (or_mapUpdate (kf := vv25) (vf := vv4) (k := x9081) (v := true) (lab := 8201) (lab2 := 9160) ko25 tm74 f_42 f_43 rfl b_g4619 (osome hD9159).symm (mem_of rfl) (by decide) (fun own' a' w' hb => hb))
              exact steps_nil
            intro own9161 a9161 w9161 hd9161 hz9161 hk9161 hf9161 hE9161
            have e9161_5 := (hk9161 5 rfl).trans e9157_5
            have e9161_7 := (hk9161 7 rfl).trans e9157_7
            have e9161_8 := (hk9161 8 rfl).trans e9157_8
            have e9161_9 := (hk9161 9 rfl).trans e9157_9
            have e9161_18 := (hk9161 18 rfl).trans e9157_18
            have e9161_19 := (hk9161 19 rfl).trans e9157_19
            have e9161_20 := (hk9161 20 rfl).trans e9157_20
            have e9161_25 := (hk9161 25 rfl).trans e9157_25
            have e9161_26 := (hk9161 26 rfl).trans e9157_26
            have e9161_27 := (hk9161 27 rfl).trans e9157_27
            obtain ⟨(b_g4619 : MpO own9161 9160 w9161 g4619 vv25 vv4 D9159), -⟩ := hf9161 [5] rfl
            have hX9161 := Evo.step hX9157 (fun _ => Nat.le_refl 0) hE9161 rfl
            have b9161_g4623 := BlkO.evo (by decide) hE9161 b9157_g4623
            have b9161_cA4606 := BlkO.evo (by decide) hE9161 b9157_cA4606
            have b9161_A8186 := RwO.evo rfl hE9161 b9157_A8186
            have b9161_cA4608 := MpN.evo rfl hE9161 b9157_cA4608
            have b9161_A8193 := RwO.evo rfl hE9161 b9157_A8193
            have b9161_A4618 := RwO.evo rfl hE9161 b9157_A4618
            have b9161_A8197 := RwO.evo rfl hE9161 b9157_A8197
            have b9161_g4621 := MpO.evo (by decide) hE9161 b9157_g4621
            have b9161_g7692 := BlkO.evo (by decide) hE9161 b9157_g7692
            have b9161_A7691 := RdO.evo rfl hE9161 b9157_A7691
            have b9161_Al2 := RdO.evo rfl hE9161 b9157_Al2
            have b9161_g9082 := BlkO.evo (by decide) hE9161 b9157_g9082
            have b9161_g4619 := b_g4619
            obtain ⟨x9171, hx9171, hs⟩ := obind hs
            refine rg_draw_seq g_mixed (n := 91) (rs := [Fct.rowAt 8200 [] 25 R25 A8197 c8198 g8199, Fct.at_ 8184 g4623 77 #[.pointer (some ⟨cA4606, 0, none⟩), .slice A4618 x4616.length cA4618, .slice A8197 g8199.length c8198, .map (some g4619), .map (some g4621)]]) (own0 := own9161) (K := [8200, 8184])
                (bs := [0, 0, 2, 6, 14, 0, 32, 126, 255, 511, 1023])
                (ds := [⟨[], [5], [], Fct.val 44 (.pointer (some ⟨g4623, 0, none⟩))⟩,
                ⟨[], [5], [], Fct.val 45 (.pointer (some ⟨g4623, 0, none⟩))⟩,
                ⟨[1], [], [], Fct.val 46 (.pointer (some ⟨g4623, 0, none⟩))⟩,
                ⟨[2], [], [], Fct.val 47 (.pointer (some ⟨g4623, 2, none⟩))⟩,
                ⟨[3, 12], [], [], Fct.val 48 (.slice A8197 g8199.length c8198)⟩,
                ⟨[], [9], [], Fct.val 49 (.agg #[.int .i64 x9081.1, .int .i64 x9081.2])⟩,
                ⟨[5], [], [], Fct.row 9170 [] 50 25 R25 [x9081]⟩,
                ⟨[4, 6, 11], [], [8200], Fct.row 9172 [] 51 25 R25 x9171⟩,
                ⟨[0], [], [], Fct.val 52 (.pointer (some ⟨g4623, 0, none⟩))⟩,
                ⟨[8], [], [], Fct.val 53 (.pointer (some ⟨g4623, 2, none⟩))⟩,
                ⟨[9, 7, 12], [], [8184], Fct.by_ [9174] [51] (fun l own w => ∀ (A9173 : Option Addr) (cA9173 : Nat), l.getD 0 undef = .slice A9173 x9171.length cA9173 → BlkO own 9174 w g4623 77 #[.pointer (some ⟨cA4606, 0, none⟩), .slice A4618 x4616.length cA4618, .slice A9173 x9171.length cA9173, .map (some g4619), .map (some g4621)]) (fun hk he h _ _ h0' => BlkO.evo (not_hit hk (by decide)) he (h _ _ h0'))⟩]) (by kernel_rfl) hz9161 hd9161 (by simp only [List.forall_mem_cons]; exact ⟨b9161_A8197, b9161_g4623, fun _ h => nomatch h⟩) ?_ ?_
            · refine sc (fun _ _ _ _ s _ => px (or_move (s.1.trans e9161_5))) ?_
              refine sc (fun _ _ _ _ s _ => px (or_move (s.1.trans e9161_5))) ?_
              refine sc (fun _ _ _ f _ _ => px (or_k [(45, .pointer (some ⟨g4623, 0, none⟩))] rfl rfl ⟨f.1, trivial⟩ (by kernel_rfl))) ?_
              refine sc (fun _ _ _ f _ _ => px (or_field fo77_2 f.1 (by rfl))) ?_
              refine sc (fun own a wx hf hsl hE => ?_) ?_
              · obtain ⟨(f_47 : a.eval (.tmp 47) = .pointer (some ⟨g4623, 2, none⟩)), (b_g4623 : BlkO own 8184 wx g4623 77 #[.pointer (some ⟨cA4606, 0, none⟩), .slice A4618 x4616.length cA4618, .slice A8197 g8199.length c8198, .map (some g4619), .map (some g4621)]), -⟩ := hf
                exact px (or_load1 to55 f_47 (Blk.at_ b_g4623.2 2 rfl))
              refine sc (fun _ _ _ _ s hE => px (or_load (l := [.int .i64 x9081.1, .int .i64 x9081.2]) ta25 (s.1.trans e9161_9) (Blk.cellsFrom (BlkO.evo (by decide) hE b9161_g9082).2 0 rfl) rfl)) ?_
              refine sc (fun _ _ _ f _ _ => px (or_lit (lab := 9170) (e := 25) (cs := #[.int .i64 x9081.1, .int .i64 x9081.2]) (F := E25) (or_new [(49, .agg #[.int .i64 x9081.1, .int .i64 x9081.2])] rfl rfl ⟨f.1, trivial⟩ (by kernel_rfl)) rfl rfl (show 1 ≤ maxLen by decide))) ?_
              refine sc (fun own a wx hf hsl hE => ?_) ?_
              · obtain ⟨(f_48 : a.eval (.tmp 48) = .slice A8197 g8199.length c8198), ⟨⟨A9169, cA9169⟩, (f_50 : a.eval (.tmp 50) = .slice A9169 [x9081].length cA9169), (b_A9169 : RwO own 9170 [] wx 25 R25 A9169 cA9169 [x9081])⟩, (b_A8197 : RwO own 8200 [] wx 25 R25 A8197 c8198 g8199), -⟩ := hf
                exact px (or_append (R := R25) (lab := 8200) (lab2 := 9172) (L := []) (L3 := []) tp55 f_48 b_A8197 (by decide) f_50 (RwO.rd b_A9169) hx9171 (by decide) (by decide) (mem_of rfl) (.inl (Rep.fl_flat _)))
              refine sc (fun _ _ _ f _ _ => px (or_k [(44, .pointer (some ⟨g4623, 0, none⟩))] rfl rfl ⟨f.1, trivial⟩ (by kernel_rfl))) ?_
              refine sc (fun _ _ _ f _ _ => px (or_field fo77_2 f.1 (by rfl))) ?_
              refine sc (fun own a wx hf hsl hE => ?_) ?_
              · obtain ⟨(f_53 : a.eval (.tmp 53) = .pointer (some ⟨g4623, 2, none⟩)), ⟨⟨A9173, cA9173⟩, (f_51 : a.eval (.tmp 51) = .slice A9173 x9171.length cA9173), (b_A9173 : RwO own 9172 [] wx 25 R25 A9173 cA9173 x9171)⟩, (b_g4623 : BlkO own 8184 wx g4623 77 #[.pointer (some ⟨cA4606, 0, none⟩), .slice A4618 x4616.length cA4618, .slice A8197 g8199.length c8198, .map (some g4619), .map (some g4621)]), -⟩ := hf
                exact px (or_store1 (lab := 8184) (lab2 := 9174) ts55 f_53 f_51 b_g4623 (by simp) rfl (mem_of rfl) (by decide) rfl (fun own' a' w' ha hb => fun _ _ h0' => by cases (f_51.symm.trans ((ha 51).symm.trans h0')); exact hb))
              exact steps_nil
            intro own9175 a9175 w9175 hd9175 hz9175 hk9175 hf9175 hE9175
            have e9175_5 := (hk9175 5 rfl).trans e9161_5
            have e9175_7 := (hk9175 7 rfl).trans e9161_7
            have e9175_8 := (hk9175 8 rfl).trans e9161_8
            have e9175_9 := (hk9175 9 rfl).trans e9161_9
            have e9175_18 := (hk9175 18 rfl).trans e9161_18
            have e9175_19 := (hk9175 19 rfl).trans e9161_19
            have e9175_20 := (hk9175 20 rfl).trans e9161_20
            have e9175_25 := (hk9175 25 rfl).trans e9161_25
            have e9175_26 := (hk9175 26 rfl).trans e9161_26
            have e9175_27 := (hk9175 27 rfl).trans e9161_27
            obtain ⟨⟨⟨A9173, cA9173⟩, (f_51 : a9175.eval (.tmp 51) = .slice A9173 x9171.length cA9173), (b_A9173 : RwO own9175 9172 [] w9175 25 R25 A9173 cA9173 x9171)⟩, (bq_g4623 : ∀ (A9173 : Option Addr) (cA9173 : Nat), a9175.eval (.tmp 51) = .slice A9173 x9171.length cA9173 → BlkO own9175 9174 w9175 g4623 77 #[.pointer (some ⟨cA4606, 0, none⟩), .slice A4618 x4616.length cA4618, .slice A9173 x9171.length cA9173, .map (some g4619), .map (some g4621)]), -⟩ := hf9175 [7, 10] rfl
            have b_g4623 := bq_g4623 _ _ f_51
            have hX9175 := Evo.step hX9161 (fun _ => Nat.le_refl 0) hE9175 rfl
            have b9175_cA4606 := BlkO.evo (by decide) hE9175 b9161_cA4606
            have b9175_A8186 := RwO.evo rfl hE9175 b9161_A8186
            have b9175_cA4608 := MpN.evo rfl hE9175 b9161_cA4608
            have b9175_A8193 := RwO.evo rfl hE9175 b9161_A8193
            have b9175_A4618 := RwO.evo rfl hE9175 b9161_A4618
            have b9175_g4621 := MpO.evo (by decide) hE9175 b9161_g4621
            have b9175_g7692 := BlkO.evo (by decide) hE9175 b9161_g7692
            have b9175_A7691 := RdO.evo rfl hE9175 b9161_A7691
            have b9175_Al2 := RdO.evo rfl hE9175 b9161_Al2
            have b9175_g9082 := BlkO.evo (by decide) hE9175 b9161_g9082
            have b9175_g4619 := MpO.evo (by decide) hE9175 b9161_g4619
            have b9175_g4623 := b_g4623
            have b9175_A9173 := b_A9173
            obtain ⟨r9186, hr9186, hs⟩ := obind hs
            refine rg_draw g_mixed (n := 91) (rs := [Fct.at_ 8185 cA4606 106 #[.slice A8186 g8188.length c8187, .map (some cA4608), .slice A8193 g8195.length c8194], Fct.rowAt 8189 [] 80 R80 A8186 c8187 g8188, Fct.mapnAt 8190 8192 [] cA4608 vv111 3 R3 g8191, Fct.rowAt 8196 [] 3 R3 A8193 c8194 g8195]) (own0 := own9175) (K := [8185, 8189, 8190, 8192, 8196])
                (bs := [0, 1, 3, 7, 15, 0, 0, 96, 224, 511])
                (ds := [⟨[], [5], [], Fct.val 54 (.pointer (some ⟨g4623, 0, none⟩))⟩,
                ⟨[0], [], [], Fct.val 55 (.pointer (some ⟨g4623, 0, none⟩))⟩,
                ⟨[1], [], [], Fct.val 56 (.pointer (some ⟨g4623, 0, none⟩))⟩,
                ⟨[2], [], [], Fct.val 57 (.pointer (some ⟨g4623, 0, none⟩))⟩,
                ⟨[3], [], [], Fct.val 58 (.pointer (some ⟨cA4606, 0, none⟩))⟩,
                ⟨[], [9], [], Fct.val 59 (.agg #[.int .i64 x9081.1, .int .i64 x9081.2])⟩,
                ⟨[], [9], [], Fct.val 60 (.agg #[.int .i64 x9081.1, .int .i64 x9081.2])⟩,
                ⟨[5, 6], [], [], Fct.val 61 (.agg #[.int .i64 x9081.1, .int .i64 x9081.2, .int .i64 x9081.1, .int .i64 x9081.2])⟩,
                ⟨[7], [], [], Fct.row 9185 [] 62 80 R80 [(x9081, x9081)]⟩,
                ⟨[4, 8, 10, 11, 12, 13], [], [8185, 8189, 8190, 8192, 8196], Fct.mems [9189, 9190, 9191, 9192, 9193] 63 (fun (x : (Option Addr × Nat) × (Option Addr × Nat)) => .int .i64 r9186.1) (fun (x : (Option Addr × Nat) × (Option Addr × Nat)) own w => RwO own 9189 [] w 80 R80 x.1.1 x.1.2 r9186.2.1 ∧ MpN own 9190 9191 [] w cA4608 vv111 3 R3 r9186.2.2.1 ∧ RwO own 9192 [] w 3 R3 x.2.1 x.2.2 r9186.2.2.2 ∧ BlkO own 9193 w cA4606 106 #[.slice x.1.1 r9186.2.1.length x.1.2, .map (some cA4608), .slice x.2.1 r9186.2.2.2.length x.2.2]) (fun hk he h => ⟨RwO.evo (hits_sub hk (by decide)) he h.1, MpN.evo (hits_sub hk (by decide)) he h.2.1, RwO.evo (hits_sub hk (by decide)) he h.2.2.1, BlkO.evo (not_hit hk (by decide)) he h.2.2.2⟩)⟩]) (by kernel_rfl) hz9175 hd9175 (by simp only [List.forall_mem_cons]; exact ⟨b9175_cA4606, b9175_A8186, b9175_cA4608, b9175_A8193, fun _ h => nomatch h⟩) ?_ ?_
            · refine sc (fun _ _ _ _ s _ => px (or_move (s.1.trans e9175_5))) ?_
              refine sc (fun _ _ _ f _ _ => px (or_k [(54, .pointer (some ⟨g4623, 0, none⟩))] rfl rfl ⟨f.1, trivial⟩ (by kernel_rfl))) ?_
              refine sc (fun _ _ _ f _ _ => px (or_field fo77_0 f.1 (by rfl))) ?_
              refine sc (fun _ _ _ f _ _ => px (or_field fo73_0 f.1 (by rfl))) ?_
              refine sc (fun _ _ _ f _ hE => px (or_load1 to70 f.1 (Blk.at_ (BlkO.evo (by decide) hE b9175_g4623).2 0 rfl))) ?_
              refine sc (fun _ _ _ _ s hE => px (or_load (l := [.int .i64 x9081.1, .int .i64 x9081.2]) ta25 (s.1.trans e9175_9) (Blk.cellsFrom (BlkO.evo (by decide) hE b9175_g9082).2 0 rfl) rfl)) ?_
              refine sc (fun _ _ _ _ s hE => px (or_load (l := [.int .i64 x9081.1, .int .i64 x9081.2]) ta25 (s.1.trans e9175_9) (Blk.cellsFrom (BlkO.evo (by decide) hE b9175_g9082).2 0 rfl) rfl)) ?_
              refine sc (fun _ _ _ f _ _ => px (or_k [(59, .agg #[.int .i64 x9081.1, .int .i64 x9081.2]), (60, .agg #[.int .i64 x9081.1, .int .i64 x9081.2])] rfl rfl ⟨f.1, f.2.1, trivial⟩ (by kernel_rfl))) ?_
              refine sc (fun _ _ _ f _ _ => px (or_lit (lab := 9185) (e := 80) (cs := #[.int .i64 x9081.1, .int .i64 x9081.2, .int .i64 x9081.1, .int .i64 x9081.2]) (F := E80) (or_new [(61, .agg #[.int .i64 x9081.1, .int .i64 x9081.2, .int .i64 x9081.1, .int .i64 x9081.2])] rfl rfl ⟨f.1, trivial⟩ (by kernel_rfl)) rfl rfl (show 1 ≤ maxLen by decide))) ?_
              refine sc (fun own a wx hf hsl hE => ?_) ?_
              · obtain ⟨(f_58 : a.eval (.tmp 58) = .pointer (some ⟨cA4606, 0, none⟩)), ⟨⟨A9184, cA9184⟩, (f_62 : a.eval (.tmp 62) = .slice A9184 [(x9081, x9081)].length cA9184), (b_A9184 : RwO own 9185 [] wx 80 R80 A9184 cA9184 [(x9081, x9081)])⟩, (b_cA4606 : BlkO own 8185 wx cA4606 106 #[.slice A8186 g8188.length c8187, .map (some cA4608), .slice A8193 g8195.length c8194]), (b_A8186 : RwO own 8189 [] wx 80 R80 A8186 c8187 g8188), (b_cA4608 : MpN own 8190 8192 [] wx cA4608 vv111 3 R3 g8191), (b_A8193 : RwO own 8196 [] wx 3 R3 A8193 c8194 g8195), -⟩ := hf
                exact px (or_call cf29 (args2 f_58 f_62) (rows_Index_Add_w _ (forth own (look0 [(8185, 1), (8189, 2), (8190, 3), (8192, 4), (8196, 5)])) (g8188, g8191, g8195) cA4606 106 A8186 c8187 cA4608 A8193 c8194 [(x9081, x9081)] A9184 cA9184 (look0_le rfl) (BlkO.forth_ (m := (look0 [(8185, 1), (8189, 2), (8190, 3), (8192, 4), (8196, 5)])) b_cA4606) (RwO.forth_ (m := (look0 [(8185, 1), (8189, 2), (8190, 3), (8192, 4), (8196, 5)])) b_A8186) (MpN.forth_ (m := (look0 [(8185, 1), (8189, 2), (8190, 3), (8192, 4), (8196, 5)])) b_cA4608) (RwO.forth_ (m := (look0 [(8185, 1), (8189, 2), (8190, 3), (8192, 4), (8196, 5)])) b_A8193) (RdO.forth_ (m := (look0 [(8185, 1), (8189, 2), (8190, 3), (8192, 4), (8196, 5)])) (RwO.rd b_A9184)) r9186 hr9186) (post_mems (m := (look0 [(8185, 1), (8189, 2), (8190, 3), (8192, 4), (8196, 5)])) (m' := (look0 [(1, 9193), (2, 9189), (3, 9190), (4, 9191), (5, 9192)])) (hm_of rfl) (fun own' w' a' x h1 h => ⟨x, h1, ⟨RwO.back_ h.1 (by decide) (.inl (Rep.fl_flat _)), MpN.back_ h.2.1 (by decide) (by decide) (.inl (Rep.fl_flat _)), RwO.back_ h.2.2.1 (by decide) (.inl (Rep.fl_flat _)), BlkO.back_ h.2.2.2 (by decide)⟩⟩)))
              exact steps_nil
            intro own9194 a9194 w9194 hd9194 hz9194 hk9194 hf9194 hE9194
            have e9194_5 := (hk9194 5 rfl).trans e9175_5
            have e9194_7 := (hk9194 7 rfl).trans e9175_7
            have e9194_8 := (hk9194 8 rfl).trans e9175_8
            have e9194_9 := (hk9194 9 rfl).trans e9175_9
            have e9194_18 := (hk9194 18 rfl).trans e9175_18
            have e9194_19 := (hk9194 19 rfl).trans e9175_19
            have e9194_20 := (hk9194 20 rfl).trans e9175_20
            have e9194_25 := (hk9194 25 rfl).trans e9175_25
            have e9194_26 := (hk9194 26 rfl).trans e9175_26
            have e9194_27 := (hk9194 27 rfl).trans e9175_27
            obtain ⟨⟨⟨⟨A9187, cA9187⟩, ⟨A9188, cA9188⟩⟩, (f_63 : a9194.eval (.tmp 63) = .int .i64 r9186.1), (b_A9187 : RwO own9194 9189 [] w9194 80 R80 A9187 cA9187 r9186.2.1), (b_cA4608 : MpN own9194 9190 9191 [] w9194 cA4608 vv111 3 R3 r9186.2.2.1), (b_A9188 : RwO own9194 9192 [] w9194 3 R3 A9188 cA9188 r9186.2.2.2), (b_cA4606 : BlkO own9194 9193 w9194 cA4606 106 #[.slice A9187 r9186.2.1.length cA9187, .map (some cA4608), .slice A9188 r9186.2.2.2.length cA9188])⟩, -⟩ := hf9194 [9] rfl
            have hX9194 := Evo.step hX9175 (fun _ => Nat.le_refl 0) hE9194 rfl
            have b9194_A4618 := RwO.evo rfl hE9194 b9175_A4618
            have b9194_g4621 := MpO.evo (by decide) hE9194 b9175_g4621
            have b9194_g7692 := BlkO.evo (by decide) hE9194 b9175_g7692
            have b9194_A7691 := RdO.evo rfl hE9194 b9175_A7691
            have b9194_Al2 := RdO.evo rfl hE9194 b9175_Al2
            have b9194_g9082 := BlkO.evo (by decide) hE9194 b9175_g9082
            have b9194_g4619 := MpO.evo (by decide) hE9194 b9175_g4619
            have b9194_g4623 := BlkO.evo (by decide) hE9194 b9175_g4623
            have b9194_A9173 := RwO.evo rfl hE9194 b9175_A9173
            have b9194_cA4606 := b_cA4606
            have b9194_cA4608 := b_cA4608
            have b9194_A9187 := b_A9187
            have b9194_A9188 := b_A9188
            exact (K9144 _ _ (rl [(9160, 9142), (9172, 9141), (9174, 9125), (9189, 9130), (9190, 9131), (9191, 9133), (9192, 9137), (9193, 9126)] own9194) _ _ _ _ _ A9187 cA9187 A9188 cA9188 A9173 cA9173 hd9194 hz9194 e9194_5 e9194_7 e9194_8 e9194_9 e9194_18 e9194_19 e9194_20 e9194_25 e9194_26 e9194_27 (Evo.rl_ hX9194 (fun _ => Nat.le_refl 0) rfl) (BlkO.rl_ (mm := [(9160, 9142), (9172, 9141), (9174, 9125), (9189, 9130), (9190, 9131), (9191, 9133), (9192, 9137), (9193, 9126)]) b9194_g4623) (BlkO.rl_ (mm := [(9160, 9142), (9172, 9141), (9174, 9125), (9189, 9130), (9190, 9131), (9191, 9133), (9192, 9137), (9193, 9126)]) b9194_cA4606) (RwO.rl_ (mm := [(9160, 9142), (9172, 9141), (9174, 9125), (9189, 9130), (9190, 9131), (9191, 9133), (9192, 9137), (9193, 9126)]) b9194_A9187) (MpN.rl_ (mm := [(9160, 9142), (9172, 9141), (9174, 9125), (9189, 9130), (9190, 9131), (9191, 9133), (9192, 9137), (9193, 9126)]) b9194_cA4608) (RwO.rl_ (mm := [(9160, 9142), (9172, 9141), (9174, 9125), (9189, 9130), (9190, 9131), (9191, 9133), (9192, 9137), (9193, 9126)]) b9194_A9188) (RwO.rl_ (mm := [(9160, 9142), (9172, 9141), (9174, 9125), (9189, 9130), (9190, 9131), (9191, 9133), (9192, 9137), (9193, 9126)]) b9194_A4618) (RwO.rl_ (mm := [(9160, 9142), (9172, 9141), (9174, 9125), (9189, 9130), (9190, 9131), (9191, 9133), (9192, 9137), (9193, 9126)]) b9194_A9173) (MpO.rl_ (mm := [(9160, 9142), (9172, 9141), (9174, 9125), (9189, 9130), (9190, 9131), (9191, 9133), (9192, 9137), (9193, 9126)]) b9194_g4619) (MpO.rl_ (mm := [(9160, 9142), (9172, 9141), (9174, 9125), (9189, 9130), (9190, 9131), (9191, 9133), (9192, 9137), (9193, 9126)]) b9194_g4621) (BlkO.rl_ (mm := [(9160, 9142), (9172, 9141), (9174, 9125), (9189, 9130), (9190, 9131), (9191, 9133), (9192, 9137), (9193, 9126)]) b9194_g7692) (RdO.rl_ (mm := [(9160, 9142), (9172, 9141), (9174, 9125), (9189, 9130), (9190, 9131), (9191, 9133), (9192, 9137), (9193, 9126)]) b9194_A7691) (BlkO.rl_ (mm := [(9160, 9142), (9172, 9141), (9174, 9125), (9189, 9130), (9190, 9131), (9191, 9133), (9192, 9137), (9193, 9126)]) b9194_g9082) (RdO.rl_ (mm := [(9160, 9142), (9172, 9141), (9174, 9125), (9189, 9130), (9190, 9131), (9191, 9133), (9192, 9137), (9193, 9126)]) b9194_Al2) hs)
          refine fl_skip ?_
          exact (K9144 _ _ (rl [(8184, 9125), (8185, 9126), (8189, 9130), (8190, 9131), (8192, 9133), (8196, 9137), (8200, 9141), (8201, 9142)] own9157) _ _ _ _ _ A8186 c8187 A8193 c8194 A8197 c8198 hd9157 hz9157 e9157_5 e9157_7 e9157_8 e9157_9 e9157_18 e9157_19 e9157_20 e9157_25 e9157_26 e9157_27 (Evo.rl_ hX9157 (fun _ => Nat.le_refl 0) rfl) (BlkO.rl_ (mm := [(8184, 9125), (8185, 9126), (8189, 9130), (8190, 9131), (8192, 9133), (8196, 9137), (8200, 9141), (8201, 9142)]) b9157_g4623) (BlkO.rl_ (mm := [(8184, 9125), (8185, 9126), (8189, 9130), (8190, 9131), (8192, 9133), (8196, 9137), (8200, 9141), (8201, 9142)]) b9157_cA4606) (RwO.rl_ (mm := [(8184, 9125), (8185, 9126), (8189, 9130), (8190, 9131), (8192, 9133), (8196, 9137), (8200, 9141), (8201, 9142)]) b9157_A8186) (MpN.rl_ (mm := [(8184, 9125), (8185, 9126), (8189, 9130), (8190, 9131), (8192, 9133), (8196, 9137), (8200, 9141), (8201, 9142)]) b9157_cA4608) (RwO.rl_ (mm := [(8184, 9125), (8185, 9126), (8189, 9130), (8190, 9131), (8192, 9133), (8196, 9137), (8200, 9141), (8201, 9142)]) b9157_A8193) (RwO.rl_ (mm := [(8184, 9125), (8185, 9126), (8189, 9130), (8190, 9131), (8192, 9133), (8196, 9137), (8200, 9141), (8201, 9142)]) b9157_A4618) (RwO.rl_ (mm := [(8184, 9125), (8185, 9126), (8189, 9130), (8190, 9131), (8192, 9133), (8196, 9137), (8200, 9141), (8201, 9142)]) b9157_A8197) (MpO.rl_ (mm := [(8184, 9125), (8185, 9126), (8189, 9130), (8190, 9131), (8192, 9133), (8196, 9137), (8200, 9141), (8201, 9142)]) b9157_g4619) (MpO.rl_ (mm := [(8184, 9125), (8185, 9126), (8189, 9130), (8190, 9131), (8192, 9133), (8196, 9137), (8200, 9141), (8201, 9142)]) b9157_g4621) (BlkO.rl_ (mm := [(8184, 9125), (8185, 9126), (8189, 9130), (8190, 9131), (8192, 9133), (8196, 9137), (8200, 9141), (8201, 9142)]) b9157_g7692) (RdO.rl_ (mm := [(8184, 9125), (8185, 9126), (8189, 9130), (8190, 9131), (8192, 9133), (8196, 9137), (8200, 9141), (8201, 9142)]) b9157_A7691) (BlkO.rl_ (mm := [(8184, 9125), (8185, 9126), (8189, 9130), (8190, 9131), (8192, 9133), (8196, 9137), (8200, 9141), (8201, 9142)]) b9157_g9082) (RdO.rl_ (mm := [(8184, 9125), (8185, 9126), (8189, 9130), (8190, 9131), (8192, 9133), (8196, 9137), (8200, 9141), (8201, 9142)]) b9157_Al2) hs)
        refine fl_exit ?_
        refine hp8703 _ _ _ rfl ?_
        replace hs := hz8700 _ hs
        refine hp8700 _ _ _ rfl ?_
        refine hx7697 _ _ ?_
        refine hn7689 _ _ ?_
        refine hn7688 _ _ ?_
        refine rg_plain (n := 91) (rs := []) (own0 := own8702) (K := [])
            (bs := [0, 1])
            (ds := [⟨[], [20], [], Fct.val 89 (.int .i64 (ad x6170 1))⟩,
            ⟨[0], [], [], Fct.val 20 (.int .i64 (ad x6170 1))⟩]) (by kernel_rfl) hz8702 hd8702 (fun _ h => nomatch h) ?_ ?_
        · refine sc (fun _ _ _ _ s _ => px (or_add (s.1.trans e8702_20) rfl rfl)) ?_
          refine sc (fun _ _ _ f _ _ => px (or_move f.1)) ?_
          exact steps_nil
        intro own9195 a9195 w9195 hd9195 hz9195 hk9195 hf9195 hE9195
        have e9195_5 := (hk9195 5 rfl).trans e8702_5
        have e9195_18 := (hk9195 18 rfl).trans e8702_18
        have e9195_19 := (hk9195 19 rfl).trans e8702_19
        obtain ⟨(f_20 : a9195.eval (.tmp 20) = .int .i64 (ad x6170 1)), -⟩ := hf9195 [1] rfl
        have e9195_20 := f_20
        have hX9195 := Evo.step hX8702 (fun _ => Nat.le_refl 0) hE9195 rfl
        have b9195_g4623 := BlkO.evo (by decide) hE9195 b8702_g4623
        have b9195_cA4606 := BlkO.evo (by decide) hE9195 b8702_cA4606
        have b9195_A8186 := RwO.evo rfl hE9195 b8702_A8186
        have b9195_cA4608 := MpN.evo rfl hE9195 b8702_cA4608
        have b9195_A8193 := RwO.evo rfl hE9195 b8702_A8193
        have b9195_A4618 := RwO.evo rfl hE9195 b8702_A4618
        have b9195_A8197 := RwO.evo rfl hE9195 b8702_A8197
        have b9195_g4619 := MpO.evo (by decide) hE9195 b8702_g4619
        have b9195_g4621 := MpO.evo (by decide) hE9195 b8702_g4621
        have b9195_Al2 := RdO.evo rfl hE9195 b8702_Al2
        exact hn7683 _ _ _ hs ⟨(rl [(8184, 6149), (8185, 6150), (8189, 6154), (8190, 6155), (8192, 6157), (8196, 6161), (8200, 6165), (8201, 6166), (8203, 6168)] own9195), A8186, c8187, A8193, c8194, A8197, c8198, hd9195, hz9195, e9195_5, e9195_18, e9195_19, e9195_20, (Evo.rl_ hX9195 (fun _ => Nat.le_refl 0) rfl), (BlkO.rl_ (mm := [(8184, 6149), (8185, 6150), (8189, 6154), (8190, 6155), (8192, 6157), (8196, 6161), (8200, 6165), (8201, 6166), (8203, 6168)]) b9195_g4623), (BlkO.rl_ (mm := [(8184, 6149), (8185, 6150), (8189, 6154), (8190, 6155), (8192, 6157), (8196, 6161), (8200, 6165), (8201, 6166), (8203, 6168)]) b9195_cA4606), (RwO.rl_ (mm := [(8184, 6149), (8185, 6150), (8189, 6154), (8190, 6155), (8192, 6157), (8196, 6161), (8200, 6165), (8201, 6166), (8203, 6168)]) b9195_A8186), (MpN.rl_ (mm := [(8184, 6149), (8185, 6150), (8189, 6154), (8190, 6155), (8192, 6157), (8196, 6161), (8200, 6165), (8201, 6166), (8203, 6168)]) b9195_cA4608), (RwO.rl_ (mm := [(8184, 6149), (8185, 6150), (8189, 6154), (8190, 6155), (8192, 6157), (8196, 6161), (8200, 6165), (8201, 6166), (8203, 6168)]) b9195_A8193), (RwO.rl_ (mm := [(8184, 6149), (8185, 6150), (8189, 6154), (8190, 6155), (8192, 6157), (8196, 6161), (8200, 6165), (8201, 6166), (8203, 6168)]) b9195_A4618), (RwO.rl_ (mm := [(8184, 6149), (8185, 6150), (8189, 6154), (8190, 6155), (8192, 6157), (8196, 6161), (8200, 6165), (8201, 6166), (8203, 6168)]) b9195_A8197), (MpO.rl_ (mm := [(8184, 6149), (8185, 6150), (8189, 6154), (8190, 6155), (8192, 6157), (8196, 6161), (8200, 6165), (8201, 6166), (8203, 6168)]) b9195_g4619), (MpO.rl_ (mm := [(8184, 6149), (8185, 6150), (8189, 6154), (8190, 6155), (8192, 6157), (8196, 6161), (8200, 6165), (8201, 6166), (8203, 6168)]) b9195_g4621), (RdO.rl_ (mm := [(8184, 6149), (8185, 6150), (8189, 6154), (8190, 6155), (8192, 6157), (8196, 6161), (8200, 6165), (8201, 6166), (8203, 6168)]) b9195_Al2)⟩
    refine fl_exit ?_
    refine hp7686 _ _ _ rfl ?_
    replace hs := hz7683 _ hs
    refine hp7683 _ _ _ rfl ?_
    refine hx4628 _ _ ?_
    refine hn4626 _ _ ?_
    refine rg_plain_seq (n := 91) (rs := []) (own0 := own7685) (K := [])
        (bs := [0, 1])
        (ds := [⟨[], [5], [], Fct.val 90 (.pointer (some ⟨g4623, 0, none⟩))⟩,
        ⟨[0], [], [], Fct.val 4 (.pointer (some ⟨g4623, 0, none⟩))⟩]) (by kernel_rfl) hz7685 hd7685 (fun _ h => nomatch h) ?_ ?_
    · refine sc (fun _ _ _ _ s _ => px (or_move (s.1.trans e7685_5))) ?_
      refine sc (fun _ _ _ f _ _ => px (or_assign f.1)) ?_
      exact steps_nil
    intro own9196 a9196 w9196 hd9196 hz9196 hk9196 hf9196 hE9196
    obtain ⟨(f_4 : a9196.eval (.tmp 4) = .pointer (some ⟨g4623, 0, none⟩)), -⟩ := hf9196 [1] rfl
    have e9196_4 := f_4
    have hX9196 := Evo.step hX7685 (fun _ => Nat.le_refl 0) hE9196 rfl
    have b9196_g4623 := BlkO.evo (by decide) hE9196 b7685_g4623
    have b9196_cA4606 := BlkO.evo (by decide) hE9196 b7685_cA4606
    have b9196_A6151 := RwO.evo rfl hE9196 b7685_A6151
    have b9196_cA4608 := MpN.evo rfl hE9196 b7685_cA4608
    have b9196_A6158 := RwO.evo rfl hE9196 b7685_A6158
    have b9196_A4618 := RwO.evo rfl hE9196 b7685_A4618
    have b9196_A6162 := RwO.evo rfl hE9196 b7685_A6162
    have b9196_g4619 := MpO.evo (by decide) hE9196 b7685_g4619
    have b9196_g4621 := MpO.evo (by decide) hE9196 b7685_g4621
    refine fl_ret ?_
    obtain rfl := osome hs
    exact hret _ _ _ _ (.inl rfl) hd9196 (results1_ rfl (RVal.tmp_ e9196_4)) ⟨(rl [(4617, 7), (6149, 1), (6150, 2), (6154, 3), (6155, 4), (6157, 5), (6161, 6), (6165, 8), (6166, 9), (6168, 10)] own9196), ((none, g4623), (none, cA4606), (A6151, c6152), (none, cA4608), (A6158, c6159), (A4618, cA4618), (A6162, c6163), (none, g4619), (none, g4621)), rfl, (Evo.rl_ hX9196 (fun _ => Nat.le_refl 0) rfl), (RwO.rl_ (mm := [(4617, 7), (6149, 1), (6150, 2), (6154, 3), (6155, 4), (6157, 5), (6161, 6), (6165, 8), (6166, 9), (6168, 10)]) b9196_A6151), (MpN.rl_ (mm := [(4617, 7), (6149, 1), (6150, 2), (6154, 3), (6155, 4), (6157, 5), (6161, 6), (6165, 8), (6166, 9), (6168, 10)]) b9196_cA4608), (RwO.rl_ (mm := [(4617, 7), (6149, 1), (6150, 2), (6154, 3), (6155, 4), (6157, 5), (6161, 6), (6165, 8), (6166, 9), (6168, 10)]) b9196_A6158), (BlkO.rl_ (mm := [(4617, 7), (6149, 1), (6150, 2), (6154, 3), (6155, 4), (6157, 5), (6161, 6), (6165, 8), (6166, 9), (6168, 10)]) b9196_cA4606), (RwO.rl_ (mm := [(4617, 7), (6149, 1), (6150, 2), (6154, 3), (6155, 4), (6157, 5), (6161, 6), (6165, 8), (6166, 9), (6168, 10)]) b9196_A4618), (RwO.rl_ (mm := [(4617, 7), (6149, 1), (6150, 2), (6154, 3), (6155, 4), (6157, 5), (6161, 6), (6165, 8), (6166, 9), (6168, 10)]) b9196_A6162), (MpO.rl_ (mm := [(4617, 7), (6149, 1), (6150, 2), (6154, 3), (6155, 4), (6157, 5), (6161, 6), (6165, 8), (6166, 9), (6168, 10)]) b9196_g4619), (MpO.rl_ (mm := [(4617, 7), (6149, 1), (6150, 2), (6154, 3), (6155, 4), (6157, 5), (6161, 6), (6165, 8), (6166, 9), (6168, 10)]) b9196_g4621), (BlkO.rl_ (mm := [(4617, 7), (6149, 1), (6150, 2), (6154, 3), (6155, 4), (6157, 5), (6161, 6), (6165, 8), (6166, 9), (6168, 10)]) b9196_g4623)⟩
theorem order_Find_w (w : World) (l1 : List Int) (Al1 : Option Addr) (cl1 : Nat) (n2 : Int) (hl1 : RdO (fun _ => 0) [0] w R3 Al1 cl1 l1) (r : Int × Bool) (hs : order_Find l1 n2 = some r) :
    Calls Try.prog 65 #[.slice Al1 l1.length cl1, .int .i64 n2] w fun e w' => ∃ own' : Own, e = .returned (.tuple #[.int .i64 r.1, .bool r.2]) ∧ Evo [] (fun _ => 0) own' w w' := by
  refine fl_enter (n := 42) rfl rfl rfl (Nat.le_of_ble_eq_true rfl) ?_
  intro a0 Q hd0 hz0 harg hret
  have ha0 := harg 0 _ rfl
  have ha1 := harg 1 _ rfl
  clear harg
  have hE0 : Evo [] (fun _ => 0) (fun _ => 0) w w := Evo.refl _ _ _
  refine rg_plain_seq (n := 42) (rs := []) (own0 := (fun _ => 0)) (K := [])
      (bs := [0, 1])
      (ds := [⟨[], [], [], Fct.val 4 (.int .i64 0)⟩,
      ⟨[], [], [], Fct.val 5 (.bool false)⟩]) (by kernel_rfl) hz0 hd0 (fun _ h => nomatch h) ?_ ?_
  · refine sc (fun _ _ _ _ _ _ => px (or_assign rfl)) ?_
    refine sc (fun _ _ _ _ _ _ => px (or_assign rfl)) ?_
    exact steps_nil
  intro own124 a124 w124 hd124 hz124 hk124 hf124 hE124
  have e124_0 := (hk124 0 rfl).trans ha0
  have e124_1 := (hk124 1 rfl).trans ha1
  have hX124 := Evo.step hE0 (fun _ => Nat.le_refl 0) hE124 rfl
  have b124_Al1 := RdO.evo rfl hE124 hl1
  refine fl_scope (S := (Int × Int)) (body := (fun s => order_Find_b1_0 l1 n2 s.1 s.2)) (z := r) (fun _ => 0) ?_ (fun s a wx => ((fun (s : Int × Int) => match s with | (low152, high153) => ∃ (ox : Own), a.defers = [] ∧ a.tmps.size = 42 ∧ a.eval (.tmp 0) = .slice Al1 l1.length cl1 ∧ a.eval (.tmp 1) = .int .i64 n2 ∧ a.eval (.tmp 6) = .int .i64 low152 ∧ a.eval (.tmp 7) = .int .i64 high153 ∧ Evo [] (fun _ => 0) ox w wx ∧ RdO ox [0] wx R3 Al1 cl1 l1) : ((Int × Int)) → Prop) s) ?_ ?_
  · intro s; rfl
  · intro Q181 hj181 hp181
    refine rg_plain_seq (n := 42) (rs := []) (own0 := own124) (K := [])
        (bs := [0, 1, 0, 7])
        (ds := [⟨[], [0], [], Fct.val 9 (.slice Al1 l1.length cl1)⟩,
        ⟨[0], [], [], Fct.val 10 (.int .i64 (l1.length : Int))⟩,
        ⟨[], [], [], Fct.val 6 (.int .i64 0)⟩,
        ⟨[1], [], [], Fct.val 7 (.int .i64 (l1.length : Int))⟩]) (by kernel_rfl) hz124 hd124 (fun _ h => nomatch h) ?_ ?_
    · refine sc (fun _ _ _ _ s _ => px (or_move (s.1.trans e124_0))) ?_
      refine sc (fun _ _ _ f _ _ => px (or_len tu22 f.1 rfl)) ?_
      refine sc (fun _ _ _ _ _ _ => px (or_assign rfl)) ?_
      refine sc (fun _ _ _ f _ _ => px (or_assign f.1)) ?_
      exact steps_nil
    intro own210 a210 w210 hd210 hz210 hk210 hf210 hE210
    have e210_0 := (hk210 0 rfl).trans e124_0
    have e210_1 := (hk210 1 rfl).trans e124_1
    obtain ⟨(f_6 : a210.eval (.tmp 6) = .int .i64 0), (f_7 : a210.eval (.tmp 7) = .int .i64 (l1.length : Int)), -⟩ := hf210 [2, 3] rfl
    have e210_6 := f_6
    have e210_7 := f_7
    have hX210 := Evo.step hX124 (fun _ => Nat.le_refl 0) hE210 rfl
    have b210_Al1 := RdO.evo rfl hE210 b124_Al1
    refine fl_seq (fun Q211 hn211 hp211 => ?_)
    refine fl_label ?_
    refine hn211 _ _ ?_
    refine fl_seq (fun Q212 hn212 hp212 => ?_)
    refine rg_plain_seq (n := 42) (rs := []) (own0 := own210) (K := [])
        (bs := [0, 0, 3])
        (ds := [⟨[], [6], [], Fct.val 11 (.int .i64 0)⟩,
        ⟨[], [7], [], Fct.val 12 (.int .i64 (l1.length : Int))⟩,
        ⟨[0, 1], [], [], Fct.val 13 (.bool (decide (0 = (l1.length : Int))))⟩]) (by kernel_rfl) hz210 hd210 (fun _ h => nomatch h) ?_ ?_
    · refine sc (fun _ _ _ _ s _ => px (or_move (s.1.trans e210_6))) ?_
      refine sc (fun _ _ _ _ s _ => px (or_move (s.1.trans e210_7))) ?_
      refine sc (fun _ _ _ f _ _ => px (or_eql f.1 f.2.1 rfl)) ?_
      exact steps_nil
    intro own213 a213 w213 hd213 hz213 hk213 hf213 hE213
    have e213_0 := (hk213 0 rfl).trans e210_0
    have e213_1 := (hk213 1 rfl).trans e210_1
    have e213_6 := (hk213 6 rfl).trans e210_6
    have e213_7 := (hk213 7 rfl).trans e210_7
    obtain ⟨(f_13 : a213.eval (.tmp 13) = .bool (decide (0 = (l1.length : Int)))), -⟩ := hf213 [2] rfl
    have e213_13 := f_13
    have hX213 := Evo.step hX210 (fun _ => Nat.le_refl 0) hE213 rfl
    have b213_Al1 := RdO.evo rfl hE213 b210_Al1
    refine fl_cond e213_13 hs (fun c214 hs => ?_) (fun c214 hs => ?_)
    · obtain ⟨x215, hx215, hs⟩ := obind hs
      obtain ⟨x216, hx216, hs⟩ := obind hs
      refine rg_draw_seq g_mixed (n := 42) (rs := []) (own0 := own213) (K := [])
          (bs := [0, 0, 0, 4, 14, 30, 62, 62, 254, 510, 62, 2046, 4094, 63, 16383])
          (ds := [⟨[], [6], [], Fct.val 14 (.int .i64 0)⟩,
          ⟨[], [6], [], Fct.val 15 (.int .i64 0)⟩,
          ⟨[], [0], [], Fct.val 16 (.slice Al1 l1.length cl1)⟩,
          ⟨[2], [], [], Fct.val 17 (.int .i64 (l1.length : Int))⟩,
          ⟨[1, 3], [], [], Fct.val 18 (.bool (decide (0 < (l1.length : Int))))⟩,
          ⟨[4], [], [], Fct.val 19 (.bool (decide (0 < (l1.length : Int))))⟩,
          ⟨[5], [0], [], Fct.cond (decide (0 < (l1.length : Int))) (some 20) (Fct.val 20 (.slice Al1 l1.length cl1))⟩,
          ⟨[5], [6], [], Fct.cond (decide (0 < (l1.length : Int))) (some 21) (Fct.val 21 (.int .i64 0))⟩,
          ⟨[5, 6, 7], [], [], Fct.cond (decide (0 < (l1.length : Int))) (some 22) (Fct.val 22 (.pointer (some ((adr Al1).add ((0 : Int).toNat * R3.s)))))⟩,
          ⟨[5, 8], [], [], Fct.cond (decide (0 < (l1.length : Int))) (some 23) (Fct.val 23 (.int .i64 x215))⟩,
          ⟨[5], [1], [], Fct.cond (decide (0 < (l1.length : Int))) (some 24) (Fct.val 24 (.int .i64 n2))⟩,
          ⟨[5, 9, 10], [], [], Fct.cond (decide (0 < (l1.length : Int))) (some 25) (Fct.val 25 (.bool (decide (x215 = n2))))⟩,
          ⟨[5, 11], [], [], Fct.val 26 (.bool x216)⟩,
          ⟨[0], [], [], Fct.val 4 (.int .i64 0)⟩,
          ⟨[12], [], [], Fct.val 5 (.bool x216)⟩]) (by kernel_rfl) hz213 hd213 (fun _ h => nomatch h) ?_ ?_
      · refine sc (fun _ _ _ _ s _ => px (or_move (s.1.trans e213_6))) ?_
        refine sc (fun _ _ _ _ s _ => px (or_move (s.1.trans e213_6))) ?_
        refine sc (fun _ _ _ _ s _ => px (or_move (s.1.trans e213_0))) ?_
        refine sc (fun _ _ _ f _ _ => px (or_len tu22 f.1 rfl)) ?_
        refine sc (fun _ _ _ f _ _ => px (or_lss f.1 f.2.1 rfl)) ?_
        refine sc (fun _ _ _ f _ _ => px (or_move f.1)) ?_
        refine sc (fun own a wx hf hsl hE => ?_) ?_
        · obtain ⟨(f_19 : a.eval (.tmp 19) = .bool (decide (0 < (l1.length : Int)))), -⟩ := hf
          obtain ⟨s_0, -⟩ := hsl
          refine sg_t rfl rfl rfl f_19 (fun hg => ?_)
          exact or_move (s_0.trans e213_0)
        refine sc (fun own a wx hf hsl hE => ?_) ?_
        · obtain ⟨(f_19 : a.eval (.tmp 19) = .bool (decide (0 < (l1.length : Int)))), -⟩ := hf
          obtain ⟨s_6, -⟩ := hsl
          refine sg_t rfl rfl rfl f_19 (fun hg => ?_)
          exact or_move (s_6.trans e213_6)
        refine sc (fun own a wx hf hsl hE => ?_) ?_
        · obtain ⟨(f_19 : a.eval (.tmp 19) = .bool (decide (0 < (l1.length : Int)))), c_20, c_21, -⟩ := hf
          refine sg_t rfl rfl rfl f_19 (fun hg => ?_)
          have f_20 : a.eval (.tmp 20) = .slice Al1 l1.length cl1 := c_20.1 hg
          have f_21 : a.eval (.tmp 21) = .int .i64 0 := c_21.1 hg
          exact or_index (R := R3) (l := l1) tl22 f_20 f_21 (RdO.some_ b213_Al1 (gd_t hx215 hg)) (gd_t hx215 hg)
        refine sc (fun own a wx hf hsl hE => ?_) ?_
        · obtain ⟨(f_19 : a.eval (.tmp 19) = .bool (decide (0 < (l1.length : Int)))), c_22, -⟩ := hf
          refine sg_t rfl rfl rfl f_19 (fun hg => ?_)
          have f_22 : a.eval (.tmp 22) = .pointer (some ((adr Al1).add ((0 : Int).toNat * R3.s))) := c_22.1 hg
          exact or_load1 to3 f_22 (CellsAt.zero (RdO.cells (F := E3) (RdO.evo rfl hE b213_Al1) (gd_t hx215 hg)) rfl)
        refine sc (fun own a wx hf hsl hE => ?_) ?_
        · obtain ⟨(f_19 : a.eval (.tmp 19) = .bool (decide (0 < (l1.length : Int)))), -⟩ := hf
          obtain ⟨s_1, -⟩ := hsl
          refine sg_t rfl rfl rfl f_19 (fun hg => ?_)
          exact or_move (s_1.trans e213_1)
        refine sc (fun own a wx hf hsl hE => ?_) ?_
        · obtain ⟨(f_19 : a.eval (.tmp 19) = .bool (decide (0 < (l1.length : Int)))), c_23, c_24, -⟩ := hf
          refine sg_t rfl rfl rfl f_19 (fun hg => ?_)
          have f_23 : a.eval (.tmp 23) = .int .i64 x215 := c_23.1 hg
          have f_24 : a.eval (.tmp 24) = .int .i64 n2 := c_24.1 hg
          exact or_eql f_23 f_24 rfl
        refine sc (fun own a wx hf hsl hE => ?_) ?_
        · obtain ⟨(f_19 : a.eval (.tmp 19) = .bool (decide (0 < (l1.length : Int)))), c_25, -⟩ := hf
          exact px (or_and f_19 (fun hx => c_25.1 hx) rfl (osome hx216).symm)
        refine sc (fun _ _ _ f _ _ => px (or_assign f.1)) ?_
        refine sc (fun _ _ _ f _ _ => px (or_assign f.1)) ?_
        exact steps_nil
      intro own217 a217 w217 hd217 hz217 hk217 hf217 hE217
      obtain ⟨(f_4 : a217.eval (.tmp 4) = .int .i64 0), (f_5 : a217.eval (.tmp 5) = .bool x216), -⟩ := hf217 [13, 14] rfl
      have e217_4 := f_4
      have e217_5 := f_5
      have hX217 := Evo.step hX213 (fun _ => Nat.le_refl 0) hE217 rfl
      refine fl_ret ?_
      refine hp212 _ _ _ rfl ?_
      refine hp181.leaves _ _ _ rfl ?_
      obtain rfl := osome hs
      exact hret _ _ _ _ (.inl rfl) hd217 (results2_ rfl (RVal.tmp_ e217_4) (RVal.tmp_ e217_5)) ⟨own217, rfl, hX217⟩
    refine fl_skip ?_
    refine hn212 _ _ ?_
    refine fl_seq (fun Q218 hn218 hp218 => ?_)
    have K228 : ∀ (a228 : Act) (w228 : World) (own228 : Own) (low226 : Int) (high227 : Int), a228.defers = [] → a228.tmps.size = 42 → a228.eval (.tmp 0) = .slice Al1 l1.length cl1 → a228.eval (.tmp 1) = .int .i64 n2 → a228.eval (.tmp 6) = .int .i64 low226 → a228.eval (.tmp 7) = .int .i64 high227 → Evo [] (fun _ => 0) own228 w w228 → RdO own228 [0] w228 R3 Al1 cl1 l1 → order_Find_k3 l1 n2 low226 high227 = some r → Q218 .normal a228 w228 := by
      intro a228 w228 own228 low226 high227 hd229 hz229 e229_0 e229_1 e229_6 e229_7 hE229 b229_Al1 hs
      refine hn218 _ _ ?_
      refine fl_goto ?_
      exact hj181 (low226, high227) _ _ (show loopO _ _ = _ from hs) ⟨own228, hd229, hz229, e229_0, e229_1, e229_6, e229_7, hE229, b229_Al1⟩
    obtain ⟨x230, hx230, hs⟩ := obind hs
    refine rg_plain_seq (n := 42) (rs := []) (own0 := own213) (K := [])
        (bs := [0, 0, 0, 6, 14, 31, 63])
        (ds := [⟨[], [6], [], Fct.val 27 (.int .i64 0)⟩,
        ⟨[], [7], [], Fct.val 28 (.int .i64 (l1.length : Int))⟩,
        ⟨[], [6], [], Fct.val 29 (.int .i64 0)⟩,
        ⟨[1, 2], [], [], Fct.val 30 (.int .i64 (sb (l1.length : Int) 0))⟩,
        ⟨[3], [], [], Fct.val 31 (.int .i64 x230)⟩,
        ⟨[0, 4], [], [], Fct.val 32 (.int .i64 (ad 0 x230))⟩,
        ⟨[5], [], [], Fct.val 8 (.int .i64 (ad 0 x230))⟩]) (by kernel_rfl) hz213 hd213 (fun _ h => nomatch h) ?_ ?_
    · refine sc (fun _ _ _ _ s _ => px (or_move (s.1.trans e213_6))) ?_
      refine sc (fun _ _ _ _ s _ => px (or_move (s.1.trans e213_7))) ?_
      refine sc (fun _ _ _ _ s _ => px (or_move (s.1.trans e213_6))) ?_
      refine sc (fun _ _ _ f _ _ => px (or_sub f.1 f.2.1 rfl)) ?_
      refine sc (fun _ _ _ f _ _ => px (or_quo f.1 rfl hx230)) ?_
      refine sc (fun _ _ _ f _ _ => px (or_add f.1 f.2.1 rfl)) ?_
      refine sc (fun _ _ _ f _ _ => px (or_assign f.1)) ?_
      exact steps_nil
    intro own231 a231 w231 hd231 hz231 hk231 hf231 hE231
    have e231_0 := (hk231 0 rfl).trans e213_0
    have e231_1 := (hk231 1 rfl).trans e213_1
    have e231_6 := (hk231 6 rfl).trans e213_6
    have e231_7 := (hk231 7 rfl).trans e213_7
    obtain ⟨(f_8 : a231.eval (.tmp 8) = .int .i64 (ad 0 x230)), -⟩ := hf231 [6] rfl
    have e231_8 := f_8
    have hX231 := Evo.step hX213 (fun _ => Nat.le_refl 0) hE231 rfl
    have b231_Al1 := RdO.evo rfl hE231 b213_Al1
    obtain ⟨x232, hx232, hs⟩ := obind hs
    refine rg_plain_seq (n := 42) (rs := []) (own0 := own231) (K := [])
        (bs := [0, 0, 3, 7, 0, 31])
        (ds := [⟨[], [0], [], Fct.val 33 (.slice Al1 l1.length cl1)⟩,
        ⟨[], [8], [], Fct.val 34 (.int .i64 (ad 0 x230))⟩,
        ⟨[0, 1], [], [], Fct.val 35 (.pointer (some ((adr Al1).add ((ad 0 x230 : Int).toNat * R3.s))))⟩,
        ⟨[2], [], [], Fct.val 36 (.int .i64 x232)⟩,
        ⟨[], [1], [], Fct.val 37 (.int .i64 n2)⟩,
        ⟨[3, 4], [], [], Fct.val 38 (.bool (decide (x232 < n2)))⟩]) (by kernel_rfl) hz231 hd231 (fun _ h => nomatch h) ?_ ?_
    · refine sc (fun _ _ _ _ s _ => px (or_move (s.1.trans e231_0))) ?_
      refine sc (fun _ _ _ _ s _ => px (or_move (s.1.trans e231_8))) ?_
      refine sc (fun _ _ _ f _ _ => px (or_index (R := R3) (l := l1) tl22 f.1 f.2.1 (RdO.some_ b231_Al1 hx232) hx232)) ?_
      refine sc (fun _ _ _ f _ hE => px (or_load1 to3 f.1 (CellsAt.zero (RdO.cells (F := E3) (RdO.evo rfl hE b231_Al1) hx232) rfl))) ?_
      refine sc (fun _ _ _ _ s _ => px (or_move (s.1.trans e231_1))) ?_
      refine sc (fun _ _ _ f _ _ => px (or_lss f.1 f.2.1 rfl)) ?_
      exact steps_nil
    intro own233 a233 w233 hd233 hz233 hk233 hf233 hE233
    have e233_0 := (hk233 0 rfl).trans e231_0
    have e233_1 := (hk233 1 rfl).trans e231_1
    have e233_6 := (hk233 6 rfl).trans e231_6
    have e233_7 := (hk233 7 rfl).trans e231_7
    have e233_8 := (hk233 8 rfl).trans e231_8
    obtain ⟨(f_38 : a233.eval (.tmp 38) = .bool (decide (x232 < n2))), -⟩ := hf233 [5] rfl
    have e233_38 := f_38
    have hX233 := Evo.step hX231 (fun _ => Nat.le_refl 0) hE233 rfl
    have b233_Al1 := RdO.evo rfl hE233 b231_Al1
    refine fl_cond e233_38 hs (fun c234 hs => ?_) (fun c234 hs => ?_)
    · refine rg_plain (n := 42) (rs := []) (own0 := own233) (K := [])
          (bs := [0, 1, 3])
          (ds := [⟨[], [8], [], Fct.val 39 (.int .i64 (ad 0 x230))⟩,
          ⟨[0], [], [], Fct.val 40 (.int .i64 (ad (ad 0 x230) 1))⟩,
          ⟨[1], [], [], Fct.val 6 (.int .i64 (ad (ad 0 x230) 1))⟩]) (by kernel_rfl) hz233 hd233 (fun _ h => nomatch h) ?_ ?_
      · refine sc (fun _ _ _ _ s _ => px (or_move (s.1.trans e233_8))) ?_
        refine sc (fun _ _ _ f _ _ => px (or_add f.1 rfl rfl)) ?_
        refine sc (fun _ _ _ f _ _ => px (or_assign f.1)) ?_
        exact steps_nil
      intro own235 a235 w235 hd235 hz235 hk235 hf235 hE235
      have e235_0 := (hk235 0 rfl).trans e233_0
      have e235_1 := (hk235 1 rfl).trans e233_1
      have e235_7 := (hk235 7 rfl).trans e233_7
      obtain ⟨(f_6 : a235.eval (.tmp 6) = .int .i64 (ad (ad 0 x230) 1)), -⟩ := hf235 [2] rfl
      have e235_6 := f_6
      have hX235 := Evo.step hX233 (fun _ => Nat.le_refl 0) hE235 rfl
      have b235_Al1 := RdO.evo rfl hE235 b233_Al1
      exact (K228 _ _ own235 _ _ hd235 hz235 e235_0 e235_1 e235_6 e235_7 hX235 b235_Al1 hs)
    refine rg_plain (n := 42) (rs := []) (own0 := own233) (K := [])
        (bs := [0, 1])
        (ds := [⟨[], [8], [], Fct.val 41 (.int .i64 (ad 0 x230))⟩,
        ⟨[0], [], [], Fct.val 7 (.int .i64 (ad 0 x230))⟩]) (by kernel_rfl) hz233 hd233 (fun _ h => nomatch h) ?_ ?_
    · refine sc (fun _ _ _ _ s _ => px (or_move (s.1.trans e233_8))) ?_
      refine sc (fun _ _ _ f _ _ => px (or_assign f.1)) ?_
      exact steps_nil
    intro own236 a236 w236 hd236 hz236 hk236 hf236 hE236
    have e236_0 := (hk236 0 rfl).trans e233_0
    have e236_1 := (hk236 1 rfl).trans e233_1
    have e236_6 := (hk236 6 rfl).trans e233_6
    obtain ⟨(f_7 : a236.eval (.tmp 7) = .int .i64 (ad 0 x230)), -⟩ := hf236 [1] rfl
    have e236_7 := f_7
    have hX236 := Evo.step hX233 (fun _ => Nat.le_refl 0) hE236 rfl
    have b236_Al1 := RdO.evo rfl hE236 b233_Al1
    exact (K228 _ _ own236 _ _ hd236 hz236 e236_0 e236_1 e236_6 e236_7 hX236 b236_Al1 hs)
  · rintro ⟨low152, high153⟩
    rintro zz181 a182 w182 ⟨own182, hd183, hz183, e183_0, e183_1, e183_6, e183_7, hE183, b183_Al1⟩ hs Q182 hj182 hp182 hz182
    have hs : order_Find_b1_0 l1 n2 low152 high153 = some zz181 := hs
    conv => arg 4; whnf
    refine fl_seq (fun Q184 hn184 hp184 => ?_)
    refine fl_skip ?_
    refine hn184 _ _ ?_
    refine fl_seq (fun Q185 hn185 hp185 => ?_)
    refine rg_plain_seq (n := 42) (rs := []) (own0 := own182) (K := [])
        (bs := [0, 0, 3])
        (ds := [⟨[], [6], [], Fct.val 11 (.int .i64 low152)⟩,
        ⟨[], [7], [], Fct.val 12 (.int .i64 high153)⟩,
        ⟨[0, 1], [], [], Fct.val 13 (.bool (decide (low152 = high153)))⟩]) (by kernel_rfl) hz183 hd183 (fun _ h => nomatch h) ?_ ?_
    · refine sc (fun _ _ _ _ s _ => px (or_move (s.1.trans e183_6))) ?_
      refine sc (fun _ _ _ _ s _ => px (or_move (s.1.trans e183_7))) ?_
      refine sc (fun _ _ _ f _ _ => px (or_eql f.1 f.2.1 rfl)) ?_
      exact steps_nil
    intro own186 a186 w186 hd186 hz186 hk186 hf186 hE186
    have e186_0 := (hk186 0 rfl).trans e183_0
    have e186_1 := (hk186 1 rfl).trans e183_1
    have e186_6 := (hk186 6 rfl).trans e183_6
    have e186_7 := (hk186 7 rfl).trans e183_7
    obtain ⟨(f_13 : a186.eval (.tmp 13) = .bool (decide (low152 = high153))), -⟩ := hf186 [2] rfl
    have e186_13 := f_13
    have hX186 := Evo.step hE183 (fun _ => Nat.le_refl 0) hE186 rfl
    have b186_Al1 := RdO.evo rfl hE186 b183_Al1
    refine fl_cond e186_13 hs (fun c187 hs => ?_) (fun c187 hs => ?_)
    · obtain ⟨x188, hx188, hs⟩ := obind hs
      obtain ⟨x189, hx189, hs⟩ := obind hs
      refine rg_draw_seq g_mixed (n := 42) (rs := []) (own0 := own186) (K := [])
          (bs := [0, 0, 0, 4, 14, 30, 62, 62, 254, 510, 62, 2046, 4094, 63, 16383])
          (ds := [⟨[], [6], [], Fct.val 14 (.int .i64 low152)⟩,
          ⟨[], [6], [], Fct.val 15 (.int .i64 low152)⟩,
          ⟨[], [0], [], Fct.val 16 (.slice Al1 l1.length cl1)⟩,
          ⟨[2], [], [], Fct.val 17 (.int .i64 (l1.length : Int))⟩,
          ⟨[1, 3], [], [], Fct.val 18 (.bool (decide (low152 < (l1.length : Int))))⟩,
          ⟨[4], [], [], Fct.val 19 (.bool (decide (low152 < (l1.length : Int))))⟩,
          ⟨[5], [0], [], Fct.cond (decide (low152 < (l1.length : Int))) (some 20) (Fct.val 20 (.slice Al1 l1.length cl1))⟩,
          ⟨[5], [6], [], Fct.cond (decide (low152 < (l1.length : Int))) (some 21) (Fct.val 21 (.int .i64 low152))⟩,
          ⟨[5, 6, 7], [], [], Fct.cond (decide (low152 < (l1.length : Int))) (some 22) (Fct.val 22 (.pointer (some ((adr Al1).add ((low152 : Int).toNat * R3.s)))))⟩,
          ⟨[5, 8], [], [], Fct.cond (decide (low152 < (l1.length : Int))) (some 23) (Fct.val 23 (.int .i64 x188))⟩,
          ⟨[5], [1], [], Fct.cond (decide (low152 < (l1.length : Int))) (some 24) (Fct.val 24 (.int .i64 n2))⟩,
          ⟨[5, 9, 10], [], [], Fct.cond (decide (low152 < (l1.length : Int))) (some 25) (Fct.val 25 (.bool (decide (x188 = n2))))⟩,
          ⟨[5, 11], [], [], Fct.val 26 (.bool x189)⟩,
          ⟨[0], [], [], Fct.val 4 (.int .i64 low152)⟩,
          ⟨[12], [], [], Fct.val 5 (.bool x189)⟩]) (by kernel_rfl) hz186 hd186 (fun _ h => nomatch h) ?_ ?_
      · refine sc (fun _ _ _ _ s _ => px (or_move (s.1.trans e186_6))) ?_
        refine sc (fun _ _ _ _ s _ => px (or_move (s.1.trans e186_6))) ?_
        refine sc (fun _ _ _ _ s _ => px (or_move (s.1.trans e186_0))) ?_
        refine sc (fun _ _ _ f _ _ => px (or_len tu22 f.1 rfl)) ?_
        refine sc (fun _ _ _ f _ _ => px (or_lss f.1 f.2.1 rfl)) ?_
        refine sc (fun _ _ _ f _ _ => px (or_move f.1)) ?_
        refine sc (fun own a wx hf hsl hE => ?_) ?_
        · obtain ⟨(f_19 : a.eval (.tmp 19) = .bool (decide (low152 < (l1.length : Int)))), -⟩ := hf
          obtain ⟨s_0, -⟩ := hsl
          refine sg_t rfl rfl rfl f_19 (fun hg => ?_)
          exact or_move (s_0.trans e186_0)
        refine sc (fun own a wx hf hsl hE => ?_) ?_
        · obtain ⟨(f_19 : a.eval (.tmp 19) = .bool (decide (low152 < (l1.length : Int)))), -⟩ := hf
          obtain ⟨s_6, -⟩ := hsl
          refine sg_t rfl rfl rfl f_19 (fun hg => ?_)
          exact or_move (s_6.trans e186_6)
        refine sc (fun own a wx hf hsl hE => ?_) ?_
        · obtain ⟨(f_19 : a.eval (.tmp 19) = .bool (decide (low152 < (l1.length : Int)))), c_20, c_21, -⟩ := hf
          refine sg_t rfl rfl rfl f_19 (fun hg => ?_)
          have f_20 : a.eval (.tmp 20) = .slice Al1 l1.length cl1 := c_20.1 hg
          have f_21 : a.eval (.tmp 21) = .int .i64 low152 := c_21.1 hg
          exact or_index (R := R3) (l := l1) tl22 f_20 f_21 (RdO.some_ b186_Al1 (gd_t hx188 hg)) (gd_t hx188 hg)
        refine sc (fun own a wx hf hsl hE => ?_) ?_
        · obtain ⟨(f_19 : a.eval (.tmp 19) = .bool (decide (low152 < (l1.length : Int)))), c_22, -⟩ := hf
          refine sg_t rfl rfl rfl f_19 (fun hg => ?_)
          have f_22 : a.eval (.tmp 22) = .pointer (some ((adr Al1).add ((low152 : Int).toNat * R3.s))) := c_22.1 hg
          exact or_load1 to3 f_22 (CellsAt.zero (RdO.cells (F := E3) (RdO.evo rfl hE b186_Al1) (gd_t hx188 hg)) rfl)
        refine sc (fun own a wx hf hsl hE => ?_) ?_
        · obtain ⟨(f_19 : a.eval (.tmp 19) = .bool (decide (low152 < (l1.length : Int)))), -⟩ := hf
          obtain ⟨s_1, -⟩ := hsl
          refine sg_t rfl rfl rfl f_19 (fun hg => ?_)
          exact or_move (s_1.trans e186_1)
        refine sc (fun own a wx hf hsl hE => ?_) ?_
        · obtain ⟨(f_19 : a.eval (.tmp 19) = .bool (decide (low152 < (l1.length : Int)))), c_23, c_24, -⟩ := hf
          refine sg_t rfl rfl rfl f_19 (fun hg => ?_)
          have f_23 : a.eval (.tmp 23) = .int .i64 x188 := c_23.1 hg
          have f_24 : a.eval (.tmp 24) = .int .i64 n2 := c_24.1 hg
          exact or_eql f_23 f_24 rfl
        refine sc (fun own a wx hf hsl hE => ?_) ?_
        · obtain ⟨(f_19 : a.eval (.tmp 19) = .bool (decide (low152 < (l1.length : Int)))), c_25, -⟩ := hf
          exact px (or_and f_19 (fun hx => c_25.1 hx) rfl (osome hx189).symm)
        refine sc (fun _ _ _ f _ _ => px (or_assign f.1)) ?_
        refine sc (fun _ _ _ f _ _ => px (or_assign f.1)) ?_
        exact steps_nil
      intro own190 a190 w190 hd190 hz190 hk190 hf190 hE190
      obtain ⟨(f_4 : a190.eval (.tmp 4) = .int .i64 low152), (f_5 : a190.eval (.tmp 5) = .bool x189), -⟩ := hf190 [13, 14] rfl
      have e190_4 := f_4
      have e190_5 := f_5
      have hX190 := Evo.step hX186 (fun _ => Nat.le_refl 0) hE190 rfl
      refine fl_ret ?_
      refine hp185 _ _ _ rfl ?_
      replace hs := hz182 _ hs
      refine hp182.leaves _ _ _ rfl ?_
      obtain rfl := osome hs
      exact hret _ _ _ _ (.inl rfl) hd190 (results2_ rfl (RVal.tmp_ e190_4) (RVal.tmp_ e190_5)) ⟨own190, rfl, hX190⟩
    refine fl_skip ?_
    refine hn185 _ _ ?_
    refine fl_seq (fun Q191 hn191 hp191 => ?_)
    have K201 : ∀ (a201 : Act) (w201 : World) (own201 : Own) (low199 : Int) (high200 : Int), a201.defers = [] → a201.tmps.size = 42 → a201.eval (.tmp 0) = .slice Al1 l1.length cl1 → a201.eval (.tmp 1) = .int .i64 n2 → a201.eval (.tmp 6) = .int .i64 low199 → a201.eval (.tmp 7) = .int .i64 high200 → Evo [] (fun _ => 0) own201 w w201 → RdO own201 [0] w201 R3 Al1 cl1 l1 → order_Find_k2 low199 high200 = some zz181 → Q191 .normal a201 w201 := by
      intro a201 w201 own201 low199 high200 hd202 hz202 e202_0 e202_1 e202_6 e202_7 hE202 b202_Al1 hs
      refine hn191 _ _ ?_
      refine fl_goto ?_
      exact hj182 (low199, high200) _ _ hs ⟨own201, hd202, hz202, e202_0, e202_1, e202_6, e202_7, hE202, b202_Al1⟩
    obtain ⟨x203, hx203, hs⟩ := obind hs
    refine rg_plain_seq (n := 42) (rs := []) (own0 := own186) (K := [])
        (bs := [0, 0, 0, 6, 14, 31, 63])
        (ds := [⟨[], [6], [], Fct.val 27 (.int .i64 low152)⟩,
        ⟨[], [7], [], Fct.val 28 (.int .i64 high153)⟩,
        ⟨[], [6], [], Fct.val 29 (.int .i64 low152)⟩,
        ⟨[1, 2], [], [], Fct.val 30 (.int .i64 (sb high153 low152))⟩,
        ⟨[3], [], [], Fct.val 31 (.int .i64 x203)⟩,
        ⟨[0, 4], [], [], Fct.val 32 (.int .i64 (ad low152 x203))⟩,
        ⟨[5], [], [], Fct.val 8 (.int .i64 (ad low152 x203))⟩]) (by kernel_rfl) hz186 hd186 (fun _ h => nomatch h) ?_ ?_
    · refine sc (fun _ _ _ _ s _ => px (or_move (s.1.trans e186_6))) ?_
      refine sc (fun _ _ _ _ s _ => px (or_move (s.1.trans e186_7))) ?_
      refine sc (fun _ _ _ _ s _ => px (or_move (s.1.trans e186_6))) ?_
      refine sc (fun _ _ _ f _ _ => px (or_sub f.1 f.2.1 rfl)) ?_
      refine sc (fun _ _ _ f _ _ => px (or_quo f.1 rfl hx203)) ?_
      refine sc (fun _ _ _ f _ _ => px (or_add f.1 f.2.1 rfl)) ?_
      refine sc (fun _ _ _ f _ _ => px (or_assign f.1)) ?_
      exact steps_nil
    intro own204 a204 w204 hd204 hz204 hk204 hf204 hE204
    have e204_0 := (hk204 0 rfl).trans e186_0
    have e204_1 := (hk204 1 rfl).trans e186_1
    have e204_6 := (hk204 6 rfl).trans e186_6
    have e204_7 := (hk204 7 rfl).trans e186_7
    obtain ⟨(f_8 : a204.eval (.tmp 8) = .int .i64 (ad low152 x203)), -⟩ := hf204 [6] rfl
    have e204_8 := f_8
    have hX204 := Evo.step hX186 (fun _ => Nat.le_refl 0) hE204 rfl
    have b204_Al1 := RdO.evo rfl hE204 b186_Al1
    obtain ⟨x205, hx205, hs⟩ := obind hs
    refine rg_plain_seq (n := 42) (rs := []) (own0 := own204) (K := [])
        (bs := [0, 0, 3, 7, 0, 31])
        (ds := [⟨[], [0], [], Fct.val 33 (.slice Al1 l1.length cl1)⟩,
        ⟨[], [8], [], Fct.val 34 (.int .i64 (ad low152 x203))⟩,
        ⟨[0, 1], [], [], Fct.val 35 (.pointer (some ((adr Al1).add ((ad low152 x203 : Int).toNat * R3.s))))⟩,
        ⟨[2], [], [], Fct.val 36 (.int .i64 x205)⟩,
        ⟨[], [1], [], Fct.val 37 (.int .i64 n2)⟩,
        ⟨[3, 4], [], [], Fct.val 38 (.bool (decide (x205 < n2)))⟩]) (by kernel_rfl) hz204 hd204 (fun _ h => nomatch h) ?_ ?_
    · refine sc (fun _ _ _ _ s _ => px (or_move (s.1.trans e204_0))) ?_
      refine sc (fun _ _ _ _ s _ => px (or_move (s.1.trans e204_8))) ?_
      refine sc (fun _ _ _ f _ _ => px (or_index (R := R3) (l := l1) tl22 f.1 f.2.1 (RdO.some_ b204_Al1 hx205) hx205)) ?_
      refine sc (fun _ _ _ f _ hE => px (or_load1 to3 f.1 (CellsAt.zero (RdO.cells (F := E3) (RdO.evo rfl hE b204_Al1) hx205) rfl))) ?_
      refine sc (fun _ _ _ _ s _ => px (or_move (s.1.trans e204_1))) ?_
      refine sc (fun _ _ _ f _ _ => px (or_lss f.1 f.2.1 rfl)) ?_
      exact steps_nil
    intro own206 a206 w206 hd206 hz206 hk206 hf206 hE206
    have e206_0 := (hk206 0 rfl).trans e204_0
    have e206_1 := (hk206 1 rfl).trans e204_1
    have e206_6 := (hk206 6 rfl).trans e204_6
    have e206_7 := (hk206 7 rfl).trans e204_7
    have e206_8 := (hk206 8 rfl).trans e204_8
    obtain ⟨(f_38 : a206.eval (.tmp 38) = .bool (decide (x205 < n2))), -⟩ := hf206 [5] rfl
    have e206_38 := f_38
    have hX206 := Evo.step hX204 (fun _ => Nat.le_refl 0) hE206 rfl
    have b206_Al1 := RdO.evo rfl hE206 b204_Al1
    refine fl_cond e206_38 hs (fun c207 hs => ?_) (fun c207 hs => ?_)
    · refine rg_plain (n := 42) (rs := []) (own0 := own206) (K := [])
          (bs := [0, 1, 3])
          (ds := [⟨[], [8], [], Fct.val 39 (.int .i64 (ad low152 x203))⟩,
          ⟨[0], [], [], Fct.val 40 (.int .i64 (ad (ad low152 x203) 1))⟩,
          ⟨[1], [], [], Fct.val 6 (.int .i64 (ad (ad low152 x203) 1))⟩]) (by kernel_rfl) hz206 hd206 (fun _ h => nomatch h) ?_ ?_
      · refine sc (fun _ _ _ _ s _ => px (or_move (s.1.trans e206_8))) ?_
        refine sc (fun _ _ _ f _ _ => px (or_add f.1 rfl rfl)) ?_
        refine sc (fun _ _ _ f _ _ => px (or_assign f.1)) ?_
        exact steps_nil
      intro own208 a208 w208 hd208 hz208 hk208 hf208 hE208
      have e208_0 := (hk208 0 rfl).trans e206_0
      have e208_1 := (hk208 1 rfl).trans e206_1
      have e208_7 := (hk208 7 rfl).trans e206_7
      obtain ⟨(f_6 : a208.eval (.tmp 6) = .int .i64 (ad (ad low152 x203) 1)), -⟩ := hf208 [2] rfl
      have e208_6 := f_6
      have hX208 := Evo.step hX206 (fun _ => Nat.le_refl 0) hE208 rfl
      have b208_Al1 := RdO.evo rfl hE208 b206_Al1
      exact (K201 _ _ own208 _ _ hd208 hz208 e208_0 e208_1 e208_6 e208_7 hX208 b208_Al1 hs)
    refine rg_plain (n := 42) (rs := []) (own0 := own206) (K := [])
        (bs := [0, 1])
        (ds := [⟨[], [8], [], Fct.val 41 (.int .i64 (ad low152 x203))⟩,
        ⟨[0], [], [], Fct.val 7 (.int .i64 (ad low152 x203))⟩]) (by kernel_rfl) hz206 hd206 (fun _ h => nomatch h) ?_ ?_
    · refine sc (fun _ _ _ _ s _ => px (or_move (s.1.trans e206_8))) ?_
      refine sc (fun _ _ _ f _ _ => px (or_assign f.1)) ?_
      exact steps_nil
    intro own209 a209 w209 hd209 hz209 hk209 hf209 hE209
    have e209_0 := (hk209 0 rfl).trans e206_0
    have e209_1 := (hk209 1 rfl).trans e206_1
    have e209_6 := (hk209 6 rfl).trans e206_6
    obtain ⟨(f_7 : a209.eval (.tmp 7) = .int .i64 (ad low152 x203)), -⟩ := hf209 [1] rfl
    have e209_7 := f_7
    have hX209 := Evo.step hX206 (fun _ => Nat.le_refl 0) hE209 rfl
    have b209_Al1 := RdO.evo rfl hE209 b206_Al1
    exact (K201 _ _ own209 _ _ hd209 hz209 e209_0 e209_1 e209_6 e209_7 hX209 b209_Al1 hs)
theorem order_Strips_w (w : World) (l1 : List Int) (Al1 : Option Addr) (cl1 : Nat) (n2 : Int) (hl1 : RdO (fun _ => 0) [0] w R3 Al1 cl1 l1) (r : Int × Int) (hs : order_Strips l1 n2 = some r) :
    Calls Try.prog 53 #[.slice Al1 l1.length cl1, .int .i64 n2] w fun e w' => ∃ own' : Own, e = .returned (.tuple #[.int .i64 r.1, .int .i64 r.2]) ∧ Evo [] (fun _ => 0) own' w w' := by
  refine fl_enter (n := 35) rfl rfl rfl (Nat.le_of_ble_eq_true rfl) ?_
  intro a0 Q hd0 hz0 harg hret
  have ha0 := harg 0 _ rfl
  have ha1 := harg 1 _ rfl
  clear harg
  have hE0 : Evo [] (fun _ => 0) (fun _ => 0) w w := Evo.refl _ _ _
  refine rg_plain_seq (n := 35) (rs := []) (own0 := (fun _ => 0)) (K := [])
      (bs := [0, 1])
      (ds := [⟨[], [], [], Fct.val 4 (.int .i64 0)⟩,
      ⟨[], [], [], Fct.val 5 (.int .i64 0)⟩]) (by kernel_rfl) hz0 hd0 (fun _ h => nomatch h) ?_ ?_
  · refine sc (fun _ _ _ _ _ _ => px (or_assign rfl)) ?_
    refine sc (fun _ _ _ _ _ _ => px (or_assign rfl)) ?_
    exact steps_nil
  intro own44 a44 w44 hd44 hz44 hk44 hf44 hE44
  have e44_0 := (hk44 0 rfl).trans ha0
  have e44_1 := (hk44 1 rfl).trans ha1
  have hX44 := Evo.step hE0 (fun _ => Nat.le_refl 0) hE44 rfl
  have b44_Al1 := RdO.evo rfl hE44 hl1
  obtain ⟨r45, hr45, hs⟩ := obind hs
  refine rg_plain_seq (n := 35) (rs := []) (own0 := own44) (K := [])
      (bs := [0, 0, 3, 7, 15, 15, 31, 127])
      (ds := [⟨[], [0], [], Fct.val 10 (.slice Al1 l1.length cl1)⟩,
      ⟨[], [1], [], Fct.val 11 (.int .i64 n2)⟩,
      ⟨[0, 1], [], [], Fct.val 12 (.tuple #[.int .i64 r45.1, .bool r45.2])⟩,
      ⟨[2], [], [], Fct.val 9 (.tuple #[.int .i64 r45.1, .bool r45.2])⟩,
      ⟨[3], [], [], Fct.val 13 (.int .i64 r45.1)⟩,
      ⟨[3], [], [], Fct.val 14 (.bool r45.2)⟩,
      ⟨[4], [], [], Fct.val 6 (.int .i64 r45.1)⟩,
      ⟨[5], [], [], Fct.val 7 (.bool r45.2)⟩]) (by kernel_rfl) hz44 hd44 (fun _ h => nomatch h) ?_ ?_
  · refine sc (fun _ _ _ _ s _ => px (or_move (s.1.trans e44_0))) ?_
    refine sc (fun _ _ _ _ s _ => px (or_move (s.1.trans e44_1))) ?_
    refine sc (fun _ _ _ f _ hE => px (or_call cf65 (args2 f.1 f.2.1) (order_Find_w _ l1 Al1 cl1 n2 (RdO.zero (RdO.evo rfl hE b44_Al1)) r45 hr45) post_val)) ?_
    refine sc (fun _ _ _ f _ _ => px (or_move f.1)) ?_
    refine sc (fun _ _ _ f _ _ => px (or_k [(9, .tuple #[.int .i64 r45.1, .bool r45.2])] rfl rfl ⟨f.1, trivial⟩ (by kernel_rfl))) ?_
    refine sc (fun _ _ _ f _ _ => px (or_k [(9, .tuple #[.int .i64 r45.1, .bool r45.2])] rfl rfl ⟨f.1, trivial⟩ (by kernel_rfl))) ?_
    refine sc (fun _ _ _ f _ _ => px (or_assign f.1)) ?_
    refine sc (fun _ _ _ f _ _ => px (or_assign f.1)) ?_
    exact steps_nil
  intro own46 a46 w46 hd46 hz46 hk46 hf46 hE46
  have e46_0 := (hk46 0 rfl).trans e44_0
  have e46_1 := (hk46 1 rfl).trans e44_1
  obtain ⟨(f_6 : a46.eval (.tmp 6) = .int .i64 r45.1), (f_7 : a46.eval (.tmp 7) = .bool r45.2), -⟩ := hf46 [6, 7] rfl
  have e46_6 := f_6
  have e46_7 := f_7
  have hX46 := Evo.step hX44 (fun _ => Nat.le_refl 0) hE46 rfl
  have b46_Al1 := RdO.evo rfl hE46 b44_Al1
  refine rg_plain_seq (n := 35) (rs := []) (own0 := own46) (K := [])
      (bs := [0, 1])
      (ds := [⟨[], [6], [], Fct.val 15 (.int .i64 r45.1)⟩,
      ⟨[0], [], [], Fct.val 8 (.int .i64 r45.1)⟩]) (by kernel_rfl) hz46 hd46 (fun _ h => nomatch h) ?_ ?_
  · refine sc (fun _ _ _ _ s _ => px (or_move (s.1.trans e46_6))) ?_
    refine sc (fun _ _ _ f _ _ => px (or_assign f.1)) ?_
    exact steps_nil
  intro own47 a47 w47 hd47 hz47 hk47 hf47 hE47
  have e47_0 := (hk47 0 rfl).trans e46_0
  have e47_1 := (hk47 1 rfl).trans e46_1
  have e47_6 := (hk47 6 rfl).trans e46_6
  have e47_7 := (hk47 7 rfl).trans e46_7
  obtain ⟨(f_8 : a47.eval (.tmp 8) = .int .i64 r45.1), -⟩ := hf47 [1] rfl
  have e47_8 := f_8
  have hX47 := Evo.step hX46 (fun _ => Nat.le_refl 0) hE47 rfl
  have b47_Al1 := RdO.evo rfl hE47 b46_Al1
  refine fl_seq (fun Q48 hn48 hp48 => ?_)
  refine fl_block (fun Q49 hn49 hx49 hp49 => ?_)
  refine fl_loop (body := (fun s => order_Strips_b1 l1 n2 r45 s)) (z := r) (show loopO _ _ = _ from hs) (fun (last58 : Int) a wx => ∃ (ox : Own), a.defers = [] ∧ a.tmps.size = 35 ∧ a.eval (.tmp 0) = .slice Al1 l1.length cl1 ∧ a.eval (.tmp 1) = .int .i64 n2 ∧ a.eval (.tmp 6) = .int .i64 r45.1 ∧ a.eval (.tmp 7) = .bool r45.2 ∧ a.eval (.tmp 8) = .int .i64 last58 ∧ Evo [] (fun _ => 0) ox w wx ∧ RdO ox [0] wx R3 Al1 cl1 l1) ?_ ?_
  · exact ⟨own47, hd47, hz47, e47_0, e47_1, e47_6, e47_7, e47_8, hX47, b47_Al1⟩
  · rintro last58 zz67 a67 w67 ⟨own67, hd68, hz68, e68_0, e68_1, e68_6, e68_7, e68_8, hE68, b68_Al1⟩ hs Q67 hn67 hp67 hz67
    have hs : order_Strips_b1 l1 n2 r45 last58 = some zz67 := hs
    refine fl_seq (fun Q69 hn69 hp69 => ?_)
    obtain ⟨x70, hx70, hs⟩ := obind hs
    obtain ⟨x71, hx71, hs⟩ := obind hs
    refine rg_plain_seq (n := 35) (rs := []) (own0 := own67) (K := [])
        (bs := [0, 1, 3, 3, 11, 31, 63, 127, 255, 255, 1023, 2047, 255, 8191, 16383])
        (ds := [⟨[], [7], [], Fct.val 16 (.bool r45.2)⟩,
        ⟨[0], [], [], Fct.val 17 (.bool r45.2)⟩,
        ⟨[1], [8], [], Fct.cond r45.2 (some 18) (Fct.val 18 (.int .i64 last58))⟩,
        ⟨[1], [0], [], Fct.cond r45.2 (some 19) (Fct.val 19 (.slice Al1 l1.length cl1))⟩,
        ⟨[1, 3], [], [], Fct.cond r45.2 (some 20) (Fct.val 20 (.int .i64 (l1.length : Int)))⟩,
        ⟨[1, 2, 4], [], [], Fct.cond r45.2 (some 21) (Fct.val 21 (.bool (decide (last58 < (l1.length : Int)))))⟩,
        ⟨[1, 5], [], [], Fct.val 22 (.bool x70)⟩,
        ⟨[6], [], [], Fct.val 23 (.bool x70)⟩,
        ⟨[7], [0], [], Fct.cond x70 (some 24) (Fct.val 24 (.slice Al1 l1.length cl1))⟩,
        ⟨[7], [8], [], Fct.cond x70 (some 25) (Fct.val 25 (.int .i64 last58))⟩,
        ⟨[7, 8, 9], [], [], Fct.cond x70 (some 26) (Fct.val 26 (.pointer (some ((adr Al1).add ((last58 : Int).toNat * R3.s)))))⟩,
        ⟨[7, 10], [], [], Fct.cond x70 (some 27) (Fct.val 27 (.int .i64 x71))⟩,
        ⟨[7], [1], [], Fct.cond x70 (some 28) (Fct.val 28 (.int .i64 n2))⟩,
        ⟨[7, 11, 12], [], [], Fct.cond x70 (some 29) (Fct.val 29 (.bool (decide (x71 = n2))))⟩,
        ⟨[7, 13], [], [], Fct.val 30 (.bool (x70 && (decide (x71 = n2))))⟩]) (by kernel_rfl) hz68 hd68 (fun _ h => nomatch h) ?_ ?_
    · refine sc (fun _ _ _ _ s _ => px (or_move (s.1.trans e68_7))) ?_
      refine sc (fun _ _ _ f _ _ => px (or_move f.1)) ?_
      refine sc (fun own a wx hf hsl hE => ?_) ?_
      · obtain ⟨(f_17 : a.eval (.tmp 17) = .bool r45.2), -⟩ := hf
        obtain ⟨s_8, -⟩ := hsl
        refine sg_t rfl rfl rfl f_17 (fun hg => ?_)
        exact or_move (s_8.trans e68_8)
      refine sc (fun own a wx hf hsl hE => ?_) ?_
      · obtain ⟨(f_17 : a.eval (.tmp 17) = .bool r45.2), -⟩ := hf
        obtain ⟨s_0, -⟩ := hsl
        refine sg_t rfl rfl rfl f_17 (fun hg => ?_)
        exact or_move (s_0.trans e68_0)
      refine sc (fun own a wx hf hsl hE => ?_) ?_
      · obtain ⟨(f_17 : a.eval (.tmp 17) = .bool r45.2), c_19, -⟩ := hf
        refine sg_t rfl rfl rfl f_17 (fun hg => ?_)
        have f_19 : a.eval (.tmp 19) = .slice Al1 l1.length cl1 := c_19.1 hg
        exact or_len tu22 f_19 rfl
      refine sc (fun own a wx hf hsl hE => ?_) ?_
      · obtain ⟨(f_17 : a.eval (.tmp 17) = .bool r45.2), c_18, c_20, -⟩ := hf
        refine sg_t rfl rfl rfl f_17 (fun hg => ?_)
        have f_18 : a.eval (.tmp 18) = .int .i64 last58 := c_18.1 hg
        have f_20 : a.eval (.tmp 20) = .int .i64 (l1.length : Int) := c_20.1 hg
        exact or_lss f_18 f_20 rfl
      refine sc (fun own a wx hf hsl hE => ?_) ?_
      · obtain ⟨(f_17 : a.eval (.tmp 17) = .bool r45.2), c_21, -⟩ := hf
        exact px (or_and f_17 (fun hx => c_21.1 hx) rfl (osome hx70).symm)
      refine sc (fun _ _ _ f _ _ => px (or_move f.1)) ?_
      refine sc (fun own a wx hf hsl hE => ?_) ?_
      · obtain ⟨(f_23 : a.eval (.tmp 23) = .bool x70), -⟩ := hf
        obtain ⟨s_0, -⟩ := hsl
        refine sg_t rfl rfl rfl f_23 (fun hg => ?_)
        exact or_move (s_0.trans e68_0)
      refine sc (fun own a wx hf hsl hE => ?_) ?_
      · obtain ⟨(f_23 : a.eval (.tmp 23) = .bool x70), -⟩ := hf
        obtain ⟨s_8, -⟩ := hsl
        refine sg_t rfl rfl rfl f_23 (fun hg => ?_)
        exact or_move (s_8.trans e68_8)
      refine sc (fun own a wx hf hsl hE => ?_) ?_
      · obtain ⟨(f_23 : a.eval (.tmp 23) = .bool x70), c_24, c_25, -⟩ := hf
        refine sg_t rfl rfl rfl f_23 (fun hg => ?_)
        have f_24 : a.eval (.tmp 24) = .slice Al1 l1.length cl1 := c_24.1 hg
        have f_25 : a.eval (.tmp 25) = .int .i64 last58 := c_25.1 hg
        exact or_index (R := R3) (l := l1) tl22 f_24 f_25 (RdO.some_ b68_Al1 (gd_t hx71 hg)) (gd_t hx71 hg)
      refine sc (fun own a wx hf hsl hE => ?_) ?_
      · obtain ⟨(f_23 : a.eval (.tmp 23) = .bool x70), c_26, -⟩ := hf
        refine sg_t rfl rfl rfl f_23 (fun hg => ?_)
        have f_26 : a.eval (.tmp 26) = .pointer (some ((adr Al1).add ((last58 : Int).toNat * R3.s))) := c_26.1 hg
        exact or_load1 to3 f_26 (CellsAt.zero (RdO.cells (F := E3) (RdO.evo rfl hE b68_Al1) (gd_t hx71 hg)) rfl)
      refine sc (fun own a wx hf hsl hE => ?_) ?_
      · obtain ⟨(f_23 : a.eval (.tmp 23) = .bool x70), -⟩ := hf
        obtain ⟨s_1, -⟩ := hsl
        refine sg_t rfl rfl rfl f_23 (fun hg => ?_)
        exact or_move (s_1.trans e68_1)
      refine sc (fun own a wx hf hsl hE => ?_) ?_
      · obtain ⟨(f_23 : a.eval (.tmp 23) = .bool x70), c_27, c_28, -⟩ := hf
        refine sg_t rfl rfl rfl f_23 (fun hg => ?_)
        have f_27 : a.eval (.tmp 27) = .int .i64 x71 := c_27.1 hg
        have f_28 : a.eval (.tmp 28) = .int .i64 n2 := c_28.1 hg
        exact or_eql f_27 f_28 rfl
      refine sc (fun own a wx hf hsl hE => ?_) ?_
      · obtain ⟨(f_23 : a.eval (.tmp 23) = .bool x70), c_29, -⟩ := hf
        exact px (or_and f_23 (fun hx => c_29.1 hx) rfl rfl)
      exact steps_nil
    intro own72 a72 w72 hd72 hz72 hk72 hf72 hE72
    have e72_0 := (hk72 0 rfl).trans e68_0
    have e72_1 := (hk72 1 rfl).trans e68_1
    have e72_6 := (hk72 6 rfl).trans e68_6
    have e72_7 := (hk72 7 rfl).trans e68_7
    have e72_8 := (hk72 8 rfl).trans e68_8
    obtain ⟨(f_30 : a72.eval (.tmp 30) = .bool (x70 && (decide (x71 = n2)))), -⟩ := hf72 [14] rfl
    have e72_30 := f_30
    have hX72 := Evo.step hE68 (fun _ => Nat.le_refl 0) hE72 rfl
    have b72_Al1 := RdO.evo rfl hE72 b68_Al1
    refine fl_cond e72_30 hs (fun c73 hs => ?_) (fun c73 hs => ?_)
    · refine fl_skip ?_
      refine hn69 _ _ ?_
      refine fl_block (fun Q74 hn74 hx74 hp74 => ?_)
      refine rg_plain (n := 35) (rs := []) (own0 := own72) (K := [])
          (bs := [0, 1, 3])
          (ds := [⟨[], [8], [], Fct.val 31 (.int .i64 last58)⟩,
          ⟨[0], [], [], Fct.val 32 (.int .i64 (ad last58 1))⟩,
          ⟨[1], [], [], Fct.val 8 (.int .i64 (ad last58 1))⟩]) (by kernel_rfl) hz72 hd72 (fun _ h => nomatch h) ?_ ?_
      · refine sc (fun _ _ _ _ s _ => px (or_move (s.1.trans e72_8))) ?_
        refine sc (fun _ _ _ f _ _ => px (or_add f.1 rfl rfl)) ?_
        refine sc (fun _ _ _ f _ _ => px (or_assign f.1)) ?_
        exact steps_nil
      intro own75 a75 w75 hd75 hz75 hk75 hf75 hE75
      have e75_0 := (hk75 0 rfl).trans e72_0
      have e75_1 := (hk75 1 rfl).trans e72_1
      have e75_6 := (hk75 6 rfl).trans e72_6
      have e75_7 := (hk75 7 rfl).trans e72_7
      obtain ⟨(f_8 : a75.eval (.tmp 8) = .int .i64 (ad last58 1)), -⟩ := hf75 [2] rfl
      have e75_8 := f_8
      have hX75 := Evo.step hX72 (fun _ => Nat.le_refl 0) hE75 rfl
      have b75_Al1 := RdO.evo rfl hE75 b72_Al1
      refine hn74 _ _ ?_
      exact hn67 _ _ _ hs ⟨own75, hd75, hz75, e75_0, e75_1, e75_6, e75_7, e75_8, hX75, b75_Al1⟩
    refine fl_exit ?_
    refine hp69 _ _ _ rfl ?_
    replace hs := hz67 _ hs
    refine hp67 _ _ _ rfl ?_
    refine hx49 _ _ ?_
    refine hn48 _ _ ?_
    refine rg_plain_seq (n := 35) (rs := []) (own0 := own72) (K := [])
        (bs := [0, 0, 1, 7])
        (ds := [⟨[], [6], [], Fct.val 33 (.int .i64 r45.1)⟩,
        ⟨[], [8], [], Fct.val 34 (.int .i64 last58)⟩,
        ⟨[0], [], [], Fct.val 4 (.int .i64 r45.1)⟩,
        ⟨[1], [], [], Fct.val 5 (.int .i64 last58)⟩]) (by kernel_rfl) hz72 hd72 (fun _ h => nomatch h) ?_ ?_
    · refine sc (fun _ _ _ _ s _ => px (or_move (s.1.trans e72_6))) ?_
      refine sc (fun _ _ _ _ s _ => px (or_move (s.1.trans e72_8))) ?_
      refine sc (fun _ _ _ f _ _ => px (or_assign f.1)) ?_
      refine sc (fun _ _ _ f _ _ => px (or_assign f.1)) ?_
      exact steps_nil
    intro own76 a76 w76 hd76 hz76 hk76 hf76 hE76
    obtain ⟨(f_4 : a76.eval (.tmp 4) = .int .i64 r45.1), (f_5 : a76.eval (.tmp 5) = .int .i64 last58), -⟩ := hf76 [2, 3] rfl
    have e76_4 := f_4
    have e76_5 := f_5
    have hX76 := Evo.step hX72 (fun _ => Nat.le_refl 0) hE76 rfl
    refine fl_ret ?_
    obtain rfl := osome hs
    exact hret _ _ _ _ (.inl rfl) hd76 (results2_ rfl (RVal.tmp_ e76_4) (RVal.tmp_ e76_5)) ⟨own76, rfl, hX76⟩
theorem order_Common_w (w : World) (l1 : List Int) (Al1 : Option Addr) (cl1 : Nat) (x2 : Int) (b3 : Int) (hl1 : RdO (fun _ => 0) [0] w R3 Al1 cl1 l1) (r : Bool) (hs : order_Common l1 x2 b3 = some r) :
    Calls Try.prog 33 #[.slice Al1 l1.length cl1, .int .i64 x2, .int .i64 b3] w fun e w' => ∃ own' : Own, e = .returned (.bool r) ∧ Evo [] (fun _ => 0) own' w w' := by
  refine fl_enter (n := 31) rfl rfl rfl (Nat.le_of_ble_eq_true rfl) ?_
  intro a0 Q hd0 hz0 harg hret
  have ha0 := harg 0 _ rfl
  have ha1 := harg 1 _ rfl
  have ha2 := harg 2 _ rfl
  clear harg
  have hE0 : Evo [] (fun _ => 0) (fun _ => 0) w w := Evo.refl _ _ _
  refine rg_plain_seq (n := 31) (rs := []) (own0 := (fun _ => 0)) (K := [])
      (bs := [0])
      (ds := [⟨[], [], [], Fct.val 6 (.bool false)⟩]) (by kernel_rfl) hz0 hd0 (fun _ h => nomatch h) ?_ ?_
  · refine sc (fun _ _ _ _ _ _ => px (or_assign rfl)) ?_
    exact steps_nil
  intro own18 a18 w18 hd18 hz18 hk18 hf18 hE18
  have e18_0 := (hk18 0 rfl).trans ha0
  have e18_1 := (hk18 1 rfl).trans ha1
  have e18_2 := (hk18 2 rfl).trans ha2
  have hX18 := Evo.step hE0 (fun _ => Nat.le_refl 0) hE18 rfl
  have b18_Al1 := RdO.evo rfl hE18 hl1
  obtain ⟨r19, hr19, hs⟩ := obind hs
  refine rg_plain_seq (n := 31) (rs := []) (own0 := own18) (K := [])
      (bs := [0, 0, 3, 7, 15, 15, 31, 127])
      (ds := [⟨[], [0], [], Fct.val 12 (.slice Al1 l1.length cl1)⟩,
      ⟨[], [1], [], Fct.val 13 (.int .i64 x2)⟩,
      ⟨[0, 1], [], [], Fct.val 14 (.tuple #[.int .i64 r19.1, .int .i64 r19.2])⟩,
      ⟨[2], [], [], Fct.val 11 (.tuple #[.int .i64 r19.1, .int .i64 r19.2])⟩,
      ⟨[3], [], [], Fct.val 15 (.int .i64 r19.1)⟩,
      ⟨[3], [], [], Fct.val 16 (.int .i64 r19.2)⟩,
      ⟨[4], [], [], Fct.val 7 (.int .i64 r19.1)⟩,
      ⟨[5], [], [], Fct.val 8 (.int .i64 r19.2)⟩]) (by kernel_rfl) hz18 hd18 (fun _ h => nomatch h) ?_ ?_
  · refine sc (fun _ _ _ _ s _ => px (or_move (s.1.trans e18_0))) ?_
    refine sc (fun _ _ _ _ s _ => px (or_move (s.1.trans e18_1))) ?_
    refine sc (fun _ _ _ f _ hE => px (or_call cf53 (args2 f.1 f.2.1) (order_Strips_w _ l1 Al1 cl1 x2 (RdO.zero (RdO.evo rfl hE b18_Al1)) r19 hr19) post_val)) ?_
    refine sc (fun _ _ _ f _ _ => px (or_move f.1)) ?_
    refine sc (fun _ _ _ f _ _ => px (or_k [(11, .tuple #[.int .i64 r19.1, .int .i64 r19.2])] rfl rfl ⟨f.1, trivial⟩ (by kernel_rfl))) ?_
    refine sc (fun _ _ _ f _ _ => px (or_k [(11, .tuple #[.int .i64 r19.1, .int .i64 r19.2])] rfl rfl ⟨f.1, trivial⟩ (by kernel_rfl))) ?_
    refine sc (fun _ _ _ f _ _ => px (or_assign f.1)) ?_
    refine sc (fun _ _ _ f _ _ => px (or_assign f.1)) ?_
    exact steps_nil
  intro own20 a20 w20 hd20 hz20 hk20 hf20 hE20
  have e20_0 := (hk20 0 rfl).trans e18_0
  have e20_2 := (hk20 2 rfl).trans e18_2
  obtain ⟨(f_7 : a20.eval (.tmp 7) = .int .i64 r19.1), (f_8 : a20.eval (.tmp 8) = .int .i64 r19.2), -⟩ := hf20 [6, 7] rfl
  have e20_7 := f_7
  have e20_8 := f_8
  have hX20 := Evo.step hX18 (fun _ => Nat.le_refl 0) hE20 rfl
  have b20_Al1 := RdO.evo rfl hE20 b18_Al1
  obtain ⟨r21, hr21, hs⟩ := obind hs
  refine rg_plain_seq (n := 31) (rs := []) (own0 := own20) (K := [])
      (bs := [0, 0, 3, 7, 15, 15, 31, 127])
      (ds := [⟨[], [0], [], Fct.val 18 (.slice Al1 l1.length cl1)⟩,
      ⟨[], [2], [], Fct.val 19 (.int .i64 b3)⟩,
      ⟨[0, 1], [], [], Fct.val 20 (.tuple #[.int .i64 r21.1, .int .i64 r21.2])⟩,
      ⟨[2], [], [], Fct.val 17 (.tuple #[.int .i64 r21.1, .int .i64 r21.2])⟩,
      ⟨[3], [], [], Fct.val 21 (.int .i64 r21.1)⟩,
      ⟨[3], [], [], Fct.val 22 (.int .i64 r21.2)⟩,
      ⟨[4], [], [], Fct.val 9 (.int .i64 r21.1)⟩,
      ⟨[5], [], [], Fct.val 10 (.int .i64 r21.2)⟩]) (by kernel_rfl) hz20 hd20 (fun _ h => nomatch h) ?_ ?_
  · refine sc (fun _ _ _ _ s _ => px (or_move (s.1.trans e20_0))) ?_
    refine sc (fun _ _ _ _ s _ => px (or_move (s.1.trans e20_2))) ?_
    refine sc (fun _ _ _ f _ hE => px (or_call cf53 (args2 f.1 f.2.1) (order_Strips_w _ l1 Al1 cl1 b3 (RdO.zero (RdO.evo rfl hE b20_Al1)) r21 hr21) post_val)) ?_
    refine sc (fun _ _ _ f _ _ => px (or_move f.1)) ?_
    refine sc (fun _ _ _ f _ _ => px (or_k [(17, .tuple #[.int .i64 r21.1, .int .i64 r21.2])] rfl rfl ⟨f.1, trivial⟩ (by kernel_rfl))) ?_
    refine sc (fun _ _ _ f _ _ => px (or_k [(17, .tuple #[.int .i64 r21.1, .int .i64 r21.2])] rfl rfl ⟨f.1, trivial⟩ (by kernel_rfl))) ?_
    refine sc (fun _ _ _ f _ _ => px (or_assign f.1)) ?_
    refine sc (fun _ _ _ f _ _ => px (or_assign f.1)) ?_
    exact steps_nil
  intro own22 a22 w22 hd22 hz22 hk22 hf22 hE22
  have e22_7 := (hk22 7 rfl).trans e20_7
  have e22_8 := (hk22 8 rfl).trans e20_8
  obtain ⟨(f_9 : a22.eval (.tmp 9) = .int .i64 r21.1), (f_10 : a22.eval (.tmp 10) = .int .i64 r21.2), -⟩ := hf22 [6, 7] rfl
  have e22_9 := f_9
  have e22_10 := f_10
  have hX22 := Evo.step hX20 (fun _ => Nat.le_refl 0) hE22 rfl
  obtain ⟨x23, hx23, hs⟩ := obind hs
  refine rg_plain_seq (n := 31) (rs := []) (own0 := own22) (K := [])
      (bs := [0, 0, 3, 7, 15, 15, 63, 127, 255])
      (ds := [⟨[], [7], [], Fct.val 23 (.int .i64 r19.1)⟩,
      ⟨[], [10], [], Fct.val 24 (.int .i64 r21.2)⟩,
      ⟨[0, 1], [], [], Fct.val 25 (.bool (decide (r19.1 ≤ r21.2)))⟩,
      ⟨[2], [], [], Fct.val 26 (.bool (decide (r19.1 ≤ r21.2)))⟩,
      ⟨[3], [9], [], Fct.cond (decide (r19.1 ≤ r21.2)) (some 27) (Fct.val 27 (.int .i64 r21.1))⟩,
      ⟨[3], [8], [], Fct.cond (decide (r19.1 ≤ r21.2)) (some 28) (Fct.val 28 (.int .i64 r19.2))⟩,
      ⟨[3, 4, 5], [], [], Fct.cond (decide (r19.1 ≤ r21.2)) (some 29) (Fct.val 29 (.bool (decide (r21.1 ≤ r19.2))))⟩,
      ⟨[3, 6], [], [], Fct.val 30 (.bool x23)⟩,
      ⟨[7], [], [], Fct.val 6 (.bool x23)⟩]) (by kernel_rfl) hz22 hd22 (fun _ h => nomatch h) ?_ ?_
  · refine sc (fun _ _ _ _ s _ => px (or_move (s.1.trans e22_7))) ?_
    refine sc (fun _ _ _ _ s _ => px (or_move (s.1.trans e22_10))) ?_
    refine sc (fun _ _ _ f _ _ => px (or_leq f.1 f.2.1 rfl)) ?_
    refine sc (fun _ _ _ f _ _ => px (or_move f.1)) ?_
    refine sc (fun own a wx hf hsl hE => ?_) ?_
    · obtain ⟨(f_26 : a.eval (.tmp 26) = .bool (decide (r19.1 ≤ r21.2))), -⟩ := hf
      obtain ⟨s_9, -⟩ := hsl
      refine sg_t rfl rfl rfl f_26 (fun hg => ?_)
      exact or_move (s_9.trans e22_9)
    refine sc (fun own a wx hf hsl hE => ?_) ?_
    · obtain ⟨(f_26 : a.eval (.tmp 26) = .bool (decide (r19.1 ≤ r21.2))), -⟩ := hf
      obtain ⟨s_8, -⟩ := hsl
      refine sg_t rfl rfl rfl f_26 (fun hg => ?_)
      exact or_move (s_8.trans e22_8)
    refine sc (fun own a wx hf hsl hE => ?_) ?_
    · obtain ⟨(f_26 : a.eval (.tmp 26) = .bool (decide (r19.1 ≤ r21.2))), c_27, c_28, -⟩ := hf
      refine sg_t rfl rfl rfl f_26 (fun hg => ?_)
      have f_27 : a.eval (.tmp 27) = .int .i64 r21.1 := c_27.1 hg
      have f_28 : a.eval (.tmp 28) = .int .i64 r19.2 := c_28.1 hg
      exact or_leq f_27 f_28 rfl
    refine sc (fun own a wx hf hsl hE => ?_) ?_
    · obtain ⟨(f_26 : a.eval (.tmp 26) = .bool (decide (r19.1 ≤ r21.2))), c_29, -⟩ := hf
      exact px (or_and f_26 (fun hx => c_29.1 hx) rfl (osome hx23).symm)
    refine sc (fun _ _ _ f _ _ => px (or_assign f.1)) ?_
    exact steps_nil
  intro own24 a24 w24 hd24 hz24 hk24 hf24 hE24
  obtain ⟨(f_6 : a24.eval (.tmp 6) = .bool x23), -⟩ := hf24 [8] rfl
  have e24_6 := f_6
  have hX24 := Evo.step hX22 (fun _ => Nat.le_refl 0) hE24 rfl
  refine fl_ret ?_
  obtain rfl := (osome hs).symm
  exact hret _ _ _ _ (.inl rfl) hd24 (results1_ rfl (RVal.tmp_ e24_6)) ⟨own24, rfl, hX24⟩
end Go.Proofs.Ytoccfdohlefifaa
