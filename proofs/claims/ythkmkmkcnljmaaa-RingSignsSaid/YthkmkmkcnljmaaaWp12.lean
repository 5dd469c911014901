/-
  Chapter 03. The walks.
-/
import Derived.Test.YthkmkmkcnljmaaaWp4
import Derived.Test.YthkmkmkcnljmaaaWp5
import Derived.Test.YthkmkmkcnljmaaaWp7
import Derived.Test.YthkmkmkcnljmaaaSp12
namespace Go.Proofs.Ythkmkmkcnljmaaa
open Go.RowKit
set_option linter.unusedVariables false
set_option maxHeartbeats 2000000 in
theorem law03_RingSigns_w (w : World) (l1 : List (Int × Int)) (Al1 : Option Addr) (cl1 : Nat) (p2 : Int × Int) (x3 : Int × Int) (b4 : Int × Int) (hl1 : RdO (fun _ => 0) [0] w R32 Al1 cl1 l1) (r : Bool) (hs : law03_RingSigns l1 p2 x3 b4 = some r) :
    Calls Try.prog 6 #[.slice Al1 l1.length cl1, .agg #[.int .i64 p2.1, .int .i64 p2.2], .agg #[.int .i64 x3.1, .int .i64 x3.2], .agg #[.int .i64 b4.1, .int .i64 b4.2]] w fun e w' => ∃ own' : Own, e = .returned (.bool r) ∧ Evo [] (fun _ => 0) own' w w' := by
  refine fl_enter (n := 114) rfl rfl rfl (Nat.le_of_ble_eq_true rfl) ?_
  intro a0 Q hd0 hz0 harg hret
  have ha0 := harg 0 _ rfl
  have ha1 := harg 1 _ rfl
  have ha2 := harg 2 _ rfl
  have ha3 := harg 3 _ rfl
  clear harg
  have hE0 : Evo [] (fun _ => 0) (fun _ => 0) w w := Evo.refl _ _ _
  refine rg_plain_seq (n := 114) (rs := []) (own0 := (fun _ => 0)) (K := [])
      (bs := [0, 0, 0, 0])
      (ds := [⟨[], [1], [], Fct.blk 54 5 (fun g => .pointer (some ⟨g, 0, none⟩)) 32 #[.int .i64 p2.1, .int .i64 p2.2]⟩,
      ⟨[], [2], [], Fct.blk 56 6 (fun g => .pointer (some ⟨g, 0, none⟩)) 32 #[.int .i64 x3.1, .int .i64 x3.2]⟩,
      ⟨[], [3], [], Fct.blk 58 7 (fun g => .pointer (some ⟨g, 0, none⟩)) 32 #[.int .i64 b4.1, .int .i64 b4.2]⟩,
      ⟨[], [], [], Fct.val 8 (.bool false)⟩]) (by kernel_rfl) hz0 hd0 (fun _ h => nomatch h) ?_ ?_
  · refine steps_cons (fun own a wx hf hsl hE => ?_) ?_
    · obtain ⟨s_1, -⟩ := hsl
      exact sg_plain rfl rfl (or_new [(1, .agg #[.int .i64 p2.1, .int .i64 p2.2])] rfl rfl ⟨(s_1.trans ha1), trivial⟩ (by kernel_rfl))
    refine steps_cons (fun own a wx hf hsl hE => ?_) ?_
    · obtain ⟨s_2, -⟩ := hsl
      exact sg_plain rfl rfl (or_new [(2, .agg #[.int .i64 x3.1, .int .i64 x3.2])] rfl rfl ⟨(s_2.trans ha2), trivial⟩ (by kernel_rfl))
    refine steps_cons (fun own a wx hf hsl hE => ?_) ?_
    · obtain ⟨s_3, -⟩ := hsl
      exact sg_plain rfl rfl (or_new [(3, .agg #[.int .i64 b4.1, .int .i64 b4.2])] rfl rfl ⟨(s_3.trans ha3), trivial⟩ (by kernel_rfl))
    refine steps_cons (fun own a wx hf hsl hE => ?_) ?_
    · exact sg_plain rfl rfl (or_assign rfl)
    exact steps_nil
  intro own59 a59 w59 hd59 hz59 hk59 hf59 hE59
  have e59_0 : a59.eval (.tmp 0) = .slice Al1 l1.length cl1 := (hk59 0 rfl).trans ha0
  obtain ⟨⟨g53, (f_5 : a59.eval (.tmp 5) = .pointer (some ⟨g53, 0, none⟩)), (b_g53 : BlkO own59 54 w59 g53 32 #[.int .i64 p2.1, .int .i64 p2.2])⟩, ⟨g55, (f_6 : a59.eval (.tmp 6) = .pointer (some ⟨g55, 0, none⟩)), (b_g55 : BlkO own59 56 w59 g55 32 #[.int .i64 x3.1, .int .i64 x3.2])⟩, ⟨g57, (f_7 : a59.eval (.tmp 7) = .pointer (some ⟨g57, 0, none⟩)), (b_g57 : BlkO own59 58 w59 g57 32 #[.int .i64 b4.1, .int .i64 b4.2])⟩, -⟩ := hf59 [0, 1, 2] rfl
  have e59_5 := f_5
  have e59_6 := f_6
  have e59_7 := f_7
  have hX59 := Evo.step hE0 (fun _ => Nat.le_refl 0) hE59 rfl
  have b59_Al1 := RdO.evo rfl hE59 hl1
  have b59_g53 := b_g53
  have b59_g55 := b_g55
  have b59_g57 := b_g57
  obtain ⟨r60, hr60, hs⟩ := obind hs
  refine rg_plain_seq (n := 114) (rs := []) (own0 := own59) (K := [])
      (bs := [0, 1, 3])
      (ds := [⟨[], [0], [], Fct.val 21 (.slice Al1 l1.length cl1)⟩,
      ⟨[0], [], [], Fct.mems [62, 63, 0] 22 (fun (x : Option Addr × Nat) => .slice x.1 r60.length x.2) (fun (x : Option Addr × Nat) own w => RdO own [62, 63, 0] w R32 x.1 x.2 r60) (fun hk he h => RdO.evo (hits_sub hk (by decide)) he h)⟩,
      ⟨[1], [], [], Fct.rel [0, 22] (fun l => ∀ (A61 : Option Addr) (cA61 : Nat), l.getD 1 undef = .slice A61 r60.length cA61 → l.getD 0 undef = .slice A61 r60.length cA61)⟩]) (by kernel_rfl) hz59 hd59 (fun _ h => nomatch h) ?_ ?_
  · refine steps_cons (fun own a wx hf hsl hE => ?_) ?_
    · obtain ⟨s_0, -⟩ := hsl
      exact sg_plain rfl rfl (or_move (s_0.trans e59_0))
    refine steps_cons (fun own a wx hf hsl hE => ?_) ?_
    · obtain ⟨(f_21 : a.eval (.tmp 21) = .slice Al1 l1.length cl1), -⟩ := hf
      exact sg_plain rfl rfl (or_call cf8 (args1 f_21) (law03_Cut_w _ (forth own (inL [0])) l1 Al1 cl1 inL_le (RdO.alias_ (La := [0]) (RdO.evo rfl hE b59_Al1) (by decide)) r60 hr60) (post_alias (La := [0]) (m' := (look0 [(1, 62), (2, 63)])) (fun own' w' a' x ho hsz h1 h => ⟨x, h1, RdO.backN_ ho hsz h (by decide) (by decide) (by decide)⟩)))
    refine steps_cons (fun own a wx hf hsl hE => ?_) ?_
    · obtain ⟨⟨⟨A61, cA61⟩, (f_22 : a.eval (.tmp 22) = .slice A61 r60.length cA61), (b_A61 : RdO own [62, 63, 0] wx R32 A61 cA61 r60)⟩, -⟩ := hf
      exact sg_plain rfl rfl (or_mono (f := Fct.val 0 (.slice A61 r60.length cA61)) (or_assign f_22) (fun own' a' w' v' hp h => fun _ _ h0' => by cases (f_22.symm.trans ((hp.2 22 (by decide)).symm.trans h0')); exact h))
    exact steps_nil
  intro own64 a64 w64 hd64 hz64 hk64 hf64 hE64
  have e64_5 : a64.eval (.tmp 5) = .pointer (some ⟨g53, 0, none⟩) := (hk64 5 rfl).trans e59_5
  have e64_6 : a64.eval (.tmp 6) = .pointer (some ⟨g55, 0, none⟩) := (hk64 6 rfl).trans e59_6
  have e64_7 : a64.eval (.tmp 7) = .pointer (some ⟨g57, 0, none⟩) := (hk64 7 rfl).trans e59_7
  obtain ⟨⟨⟨A61, cA61⟩, (f_22 : a64.eval (.tmp 22) = .slice A61 r60.length cA61), (b_A61 : RdO own64 [62, 63, 0] w64 R32 A61 cA61 r60)⟩, (q_0 : ∀ (A61 : Option Addr) (cA61 : Nat), a64.eval (.tmp 22) = .slice A61 r60.length cA61 → a64.eval (.tmp 0) = .slice A61 r60.length cA61), -⟩ := hf64 [1, 2] rfl
  have f_0 := q_0 _ _ f_22
  have e64_0 := f_0
  have hX64 := Evo.step hX59 (fun _ => Nat.le_refl 0) hE64 rfl
  have b64_g53 := BlkO.evo (by decide) hE64 b59_g53
  have b64_g55 := BlkO.evo (by decide) hE64 b59_g55
  have b64_g57 := BlkO.evo (by decide) hE64 b59_g57
  have b64_A61 := b_A61
  obtain ⟨r65, hr65, hs⟩ := obind hs
  obtain ⟨r68, hr68, hs⟩ := obind hs
  refine rg_plain_seq (n := 114) (rs := []) (own0 := own64) (K := [])
      (bs := [0, 1, 0, 7, 15, 31])
      (ds := [⟨[], [0], [], Fct.val 23 (.slice A61 r60.length cA61)⟩,
      ⟨[0], [], [], Fct.row 67 [] 24 32 R32 r65⟩,
      ⟨[], [0], [], Fct.val 25 (.slice A61 r60.length cA61)⟩,
      ⟨[2], [], [], Fct.row 70 [] 26 32 R32 r68⟩,
      ⟨[1], [], [], Fct.rel [9, 24] (fun l => ∀ (A66 : Option Addr) (cA66 : Nat), l.getD 1 undef = .slice A66 r65.length cA66 → l.getD 0 undef = .slice A66 r65.length cA66)⟩,
      ⟨[3], [], [], Fct.rel [10, 26] (fun l => ∀ (A69 : Option Addr) (cA69 : Nat), l.getD 1 undef = .slice A69 r68.length cA69 → l.getD 0 undef = .slice A69 r68.length cA69)⟩]) (by kernel_rfl) hz64 hd64 (fun _ h => nomatch h) ?_ ?_
  · refine steps_cons (fun own a wx hf hsl hE => ?_) ?_
    · obtain ⟨s_0, -⟩ := hsl
      exact sg_plain rfl rfl (or_move (s_0.trans e64_0))
    refine steps_cons (fun own a wx hf hsl hE => ?_) ?_
    · obtain ⟨(f_23 : a.eval (.tmp 23) = .slice A61 r60.length cA61), -⟩ := hf
      exact sg_plain rfl rfl (or_call cf21 (args1 f_23) (ring_Turned_w _ r60 A61 cA61 (RdO.zero (RdO.evo rfl hE b64_A61)) r65 hr65) (post_row (m' := (look0 [(1, 67)])) (.inl (Rep.fl_flat _)) rfl rfl (fun _ => rfl)))
    refine steps_cons (fun own a wx hf hsl hE => ?_) ?_
    · obtain ⟨s_0, -⟩ := hsl
      exact sg_plain rfl rfl (or_move (s_0.trans e64_0))
    refine steps_cons (fun own a wx hf hsl hE => ?_) ?_
    · obtain ⟨(f_25 : a.eval (.tmp 25) = .slice A61 r60.length cA61), -⟩ := hf
      exact sg_plain rfl rfl (or_call cf22 (args1 f_25) (ring_First_w _ r60 A61 cA61 (RdO.zero (RdO.evo rfl hE b64_A61)) r68 hr68) (post_row (m' := (look0 [(1, 70)])) (.inl (Rep.fl_flat _)) rfl rfl (fun _ => rfl)))
    refine steps_cons (fun own a wx hf hsl hE => ?_) ?_
    · obtain ⟨⟨⟨A66, cA66⟩, (f_24 : a.eval (.tmp 24) = .slice A66 r65.length cA66), (b_A66 : RwO own 67 [] wx 32 R32 A66 cA66 r65)⟩, -⟩ := hf
      exact sg_plain rfl rfl (or_mono (f := Fct.val 9 (.slice A66 r65.length cA66)) (or_assign f_24) (fun own' a' w' v' hp h => fun _ _ h0' => by cases (f_24.symm.trans ((hp.2 24 (by decide)).symm.trans h0')); exact h))
    refine steps_cons (fun own a wx hf hsl hE => ?_) ?_
    · obtain ⟨⟨⟨A69, cA69⟩, (f_26 : a.eval (.tmp 26) = .slice A69 r68.length cA69), (b_A69 : RwO own 70 [] wx 32 R32 A69 cA69 r68)⟩, -⟩ := hf
      exact sg_plain rfl rfl (or_mono (f := Fct.val 10 (.slice A69 r68.length cA69)) (or_assign f_26) (fun own' a' w' v' hp h => fun _ _ h0' => by cases (f_26.symm.trans ((hp.2 26 (by decide)).symm.trans h0')); exact h))
    exact steps_nil
  intro own71 a71 w71 hd71 hz71 hk71 hf71 hE71
  have e71_0 : a71.eval (.tmp 0) = .slice A61 r60.length cA61 := (hk71 0 rfl).trans e64_0
  have e71_5 : a71.eval (.tmp 5) = .pointer (some ⟨g53, 0, none⟩) := (hk71 5 rfl).trans e64_5
  have e71_6 : a71.eval (.tmp 6) = .pointer (some ⟨g55, 0, none⟩) := (hk71 6 rfl).trans e64_6
  have e71_7 : a71.eval (.tmp 7) = .pointer (some ⟨g57, 0, none⟩) := (hk71 7 rfl).trans e64_7
  obtain ⟨⟨⟨A66, cA66⟩, (f_24 : a71.eval (.tmp 24) = .slice A66 r65.length cA66), (b_A66 : RwO own71 67 [] w71 32 R32 A66 cA66 r65)⟩, (q_9 : ∀ (A66 : Option Addr) (cA66 : Nat), a71.eval (.tmp 24) = .slice A66 r65.length cA66 → a71.eval (.tmp 9) = .slice A66 r65.length cA66), ⟨⟨A69, cA69⟩, (f_26 : a71.eval (.tmp 26) = .slice A69 r68.length cA69), (b_A69 : RwO own71 70 [] w71 32 R32 A69 cA69 r68)⟩, (q_10 : ∀ (A69 : Option Addr) (cA69 : Nat), a71.eval (.tmp 26) = .slice A69 r68.length cA69 → a71.eval (.tmp 10) = .slice A69 r68.length cA69), -⟩ := hf71 [1, 4, 3, 5] rfl
  have f_9 := q_9 _ _ f_24
  have f_10 := q_10 _ _ f_26
  have e71_9 := f_9
  have e71_10 := f_10
  have hX71 := Evo.step hX64 (fun _ => Nat.le_refl 0) hE71 rfl
  have b71_g53 := BlkO.evo (by decide) hE71 b64_g53
  have b71_g55 := BlkO.evo (by decide) hE71 b64_g55
  have b71_g57 := BlkO.evo (by decide) hE71 b64_g57
  have b71_A61 := RdO.evo rfl hE71 b64_A61
  have b71_A66 := b_A66
  have b71_A69 := b_A69
  obtain ⟨r72, hr72, hs⟩ := obind hs
  refine rg_plain_seq (n := 114) (rs := []) (own0 := own71) (K := [])
      (bs := [0, 0, 3, 7, 15, 15, 31, 127])
      (ds := [⟨[], [0], [], Fct.val 28 (.slice A61 r60.length cA61)⟩,
      ⟨[], [5], [], Fct.val 29 (.agg #[.int .i64 p2.1, .int .i64 p2.2])⟩,
      ⟨[0, 1], [], [], Fct.val 30 (.tuple #[.int .i64 r72.1, .bool r72.2])⟩,
      ⟨[2], [], [], Fct.val 27 (.tuple #[.int .i64 r72.1, .bool r72.2])⟩,
      ⟨[3], [], [], Fct.val 31 (.int .i64 r72.1)⟩,
      ⟨[3], [], [], Fct.val 32 (.bool r72.2)⟩,
      ⟨[4], [], [], Fct.val 11 (.int .i64 r72.1)⟩,
      ⟨[5], [], [], Fct.val 12 (.bool r72.2)⟩]) (by kernel_rfl) hz71 hd71 (fun _ h => nomatch h) ?_ ?_
  · refine steps_cons (fun own a wx hf hsl hE => ?_) ?_
    · obtain ⟨s_0, -⟩ := hsl
      exact sg_plain rfl rfl (or_move (s_0.trans e71_0))
    refine steps_cons (fun own a wx hf hsl hE => ?_) ?_
    · obtain ⟨s_5, -⟩ := hsl
      exact sg_plain rfl rfl (or_load (l := [.int .i64 p2.1, .int .i64 p2.2]) ta32 (s_5.trans e71_5) (Blk.cellsFrom (BlkO.evo (by decide) hE b71_g53).2 0 rfl) rfl)
    refine steps_cons (fun own a wx hf hsl hE => ?_) ?_
    · obtain ⟨(f_28 : a.eval (.tmp 28) = .slice A61 r60.length cA61), (f_29 : a.eval (.tmp 29) = .agg #[.int .i64 p2.1, .int .i64 p2.2]), -⟩ := hf
      exact sg_plain rfl rfl (or_call cf16 (args2 f_28 f_29) (ring_Winding_w _ r60 A61 cA61 p2 (RdO.zero (RdO.evo rfl hE b71_A61)) r72 hr72) post_val)
    refine steps_cons (fun own a wx hf hsl hE => ?_) ?_
    · obtain ⟨(f_30 : a.eval (.tmp 30) = .tuple #[.int .i64 r72.1, .bool r72.2]), -⟩ := hf
      exact sg_plain rfl rfl (or_move f_30)
    refine steps_cons (fun own a wx hf hsl hE => ?_) ?_
    · obtain ⟨(f_27 : a.eval (.tmp 27) = .tuple #[.int .i64 r72.1, .bool r72.2]), -⟩ := hf
      exact sg_plain rfl rfl (or_k [(27, .tuple #[.int .i64 r72.1, .bool r72.2])] rfl rfl ⟨f_27, trivial⟩ (by kernel_rfl))
    refine steps_cons (fun own a wx hf hsl hE => ?_) ?_
    · obtain ⟨(f_27 : a.eval (.tmp 27) = .tuple #[.int .i64 r72.1, .bool r72.2]), -⟩ := hf
      exact sg_plain rfl rfl (or_k [(27, .tuple #[.int .i64 r72.1, .bool r72.2])] rfl rfl ⟨f_27, trivial⟩ (by kernel_rfl))
    refine steps_cons (fun own a wx hf hsl hE => ?_) ?_
    · obtain ⟨(f_31 : a.eval (.tmp 31) = .int .i64 r72.1), -⟩ := hf
      exact sg_plain rfl rfl (or_assign f_31)
    refine steps_cons (fun own a wx hf hsl hE => ?_) ?_
    · obtain ⟨(f_32 : a.eval (.tmp 32) = .bool r72.2), -⟩ := hf
      exact sg_plain rfl rfl (or_assign f_32)
    exact steps_nil
  intro own73 a73 w73 hd73 hz73 hk73 hf73 hE73
  have e73_0 : a73.eval (.tmp 0) = .slice A61 r60.length cA61 := (hk73 0 rfl).trans e71_0
  have e73_5 : a73.eval (.tmp 5) = .pointer (some ⟨g53, 0, none⟩) := (hk73 5 rfl).trans e71_5
  have e73_6 : a73.eval (.tmp 6) = .pointer (some ⟨g55, 0, none⟩) := (hk73 6 rfl).trans e71_6
  have e73_7 : a73.eval (.tmp 7) = .pointer (some ⟨g57, 0, none⟩) := (hk73 7 rfl).trans e71_7
  have e73_9 : a73.eval (.tmp 9) = .slice A66 r65.length cA66 := (hk73 9 rfl).trans e71_9
  have e73_10 : a73.eval (.tmp 10) = .slice A69 r68.length cA69 := (hk73 10 rfl).trans e71_10
  obtain ⟨(f_11 : a73.eval (.tmp 11) = .int .i64 r72.1), (f_12 : a73.eval (.tmp 12) = .bool r72.2), -⟩ := hf73 [6, 7] rfl
  have e73_11 := f_11
  have e73_12 := f_12
  have hX73 := Evo.step hX71 (fun _ => Nat.le_refl 0) hE73 rfl
  have b73_g53 := BlkO.evo (by decide) hE73 b71_g53
  have b73_g55 := BlkO.evo (by decide) hE73 b71_g55
  have b73_g57 := BlkO.evo (by decide) hE73 b71_g57
  have b73_A61 := RdO.evo rfl hE73 b71_A61
  have b73_A66 := RwO.evo rfl hE73 b71_A66
  have b73_A69 := RwO.evo rfl hE73 b71_A69
  obtain ⟨r74, hr74, hs⟩ := obind hs
  refine rg_plain_seq (n := 114) (rs := []) (own0 := own73) (K := [])
      (bs := [0, 0, 3, 7, 15, 15, 31, 127])
      (ds := [⟨[], [9], [], Fct.val 34 (.slice A66 r65.length cA66)⟩,
      ⟨[], [5], [], Fct.val 35 (.agg #[.int .i64 p2.1, .int .i64 p2.2])⟩,
      ⟨[0, 1], [], [], Fct.val 36 (.tuple #[.int .i64 r74.1, .bool r74.2])⟩,
      ⟨[2], [], [], Fct.val 33 (.tuple #[.int .i64 r74.1, .bool r74.2])⟩,
      ⟨[3], [], [], Fct.val 37 (.int .i64 r74.1)⟩,
      ⟨[3], [], [], Fct.val 38 (.bool r74.2)⟩,
      ⟨[4], [], [], Fct.val 13 (.int .i64 r74.1)⟩,
      ⟨[5], [], [], Fct.val 14 (.bool r74.2)⟩]) (by kernel_rfl) hz73 hd73 (fun _ h => nomatch h) ?_ ?_
  · refine steps_cons (fun own a wx hf hsl hE => ?_) ?_
    · obtain ⟨s_9, -⟩ := hsl
      exact sg_plain rfl rfl (or_move (s_9.trans e73_9))
    refine steps_cons (fun own a wx hf hsl hE => ?_) ?_
    · obtain ⟨s_5, -⟩ := hsl
      exact sg_plain rfl rfl (or_load (l := [.int .i64 p2.1, .int .i64 p2.2]) ta32 (s_5.trans e73_5) (Blk.cellsFrom (BlkO.evo (by decide) hE b73_g53).2 0 rfl) rfl)
    refine steps_cons (fun own a wx hf hsl hE => ?_) ?_
    · obtain ⟨(f_34 : a.eval (.tmp 34) = .slice A66 r65.length cA66), (f_35 : a.eval (.tmp 35) = .agg #[.int .i64 p2.1, .int .i64 p2.2]), -⟩ := hf
      exact sg_plain rfl rfl (or_call cf16 (args2 f_34 f_35) (ring_Winding_w _ r65 A66 cA66 p2 (RdO.zero (RwO.rd (RwO.evo rfl hE b73_A66))) r74 hr74) post_val)
    refine steps_cons (fun own a wx hf hsl hE => ?_) ?_
    · obtain ⟨(f_36 : a.eval (.tmp 36) = .tuple #[.int .i64 r74.1, .bool r74.2]), -⟩ := hf
      exact sg_plain rfl rfl (or_move f_36)
    refine steps_cons (fun own a wx hf hsl hE => ?_) ?_
    · obtain ⟨(f_33 : a.eval (.tmp 33) = .tuple #[.int .i64 r74.1, .bool r74.2]), -⟩ := hf
      exact sg_plain rfl rfl (or_k [(33, .tuple #[.int .i64 r74.1, .bool r74.2])] rfl rfl ⟨f_33, trivial⟩ (by kernel_rfl))
    refine steps_cons (fun own a wx hf hsl hE => ?_) ?_
    · obtain ⟨(f_33 : a.eval (.tmp 33) = .tuple #[.int .i64 r74.1, .bool r74.2]), -⟩ := hf
      exact sg_plain rfl rfl (or_k [(33, .tuple #[.int .i64 r74.1, .bool r74.2])] rfl rfl ⟨f_33, trivial⟩ (by kernel_rfl))
    refine steps_cons (fun own a wx hf hsl hE => ?_) ?_
    · obtain ⟨(f_37 : a.eval (.tmp 37) = .int .i64 r74.1), -⟩ := hf
      exact sg_plain rfl rfl (or_assign f_37)
    refine steps_cons (fun own a wx hf hsl hE => ?_) ?_
    · obtain ⟨(f_38 : a.eval (.tmp 38) = .bool r74.2), -⟩ := hf
      exact sg_plain rfl rfl (or_assign f_38)
    exact steps_nil
  intro own75 a75 w75 hd75 hz75 hk75 hf75 hE75
  have e75_0 : a75.eval (.tmp 0) = .slice A61 r60.length cA61 := (hk75 0 rfl).trans e73_0
  have e75_5 : a75.eval (.tmp 5) = .pointer (some ⟨g53, 0, none⟩) := (hk75 5 rfl).trans e73_5
  have e75_6 : a75.eval (.tmp 6) = .pointer (some ⟨g55, 0, none⟩) := (hk75 6 rfl).trans e73_6
  have e75_7 : a75.eval (.tmp 7) = .pointer (some ⟨g57, 0, none⟩) := (hk75 7 rfl).trans e73_7
  have e75_9 : a75.eval (.tmp 9) = .slice A66 r65.length cA66 := (hk75 9 rfl).trans e73_9
  have e75_10 : a75.eval (.tmp 10) = .slice A69 r68.length cA69 := (hk75 10 rfl).trans e73_10
  have e75_11 : a75.eval (.tmp 11) = .int .i64 r72.1 := (hk75 11 rfl).trans e73_11
  have e75_12 : a75.eval (.tmp 12) = .bool r72.2 := (hk75 12 rfl).trans e73_12
  obtain ⟨(f_13 : a75.eval (.tmp 13) = .int .i64 r74.1), (f_14 : a75.eval (.tmp 14) = .bool r74.2), -⟩ := hf75 [6, 7] rfl
  have e75_13 := f_13
  have e75_14 := f_14
  have hX75 := Evo.step hX73 (fun _ => Nat.le_refl 0) hE75 rfl
  have b75_g53 := BlkO.evo (by decide) hE75 b73_g53
  have b75_g55 := BlkO.evo (by decide) hE75 b73_g55
  have b75_g57 := BlkO.evo (by decide) hE75 b73_g57
  have b75_A61 := RdO.evo rfl hE75 b73_A61
  have b75_A66 := RwO.evo rfl hE75 b73_A66
  have b75_A69 := RwO.evo rfl hE75 b73_A69
  obtain ⟨r76, hr76, hs⟩ := obind hs
  refine rg_plain_seq (n := 114) (rs := []) (own0 := own75) (K := [])
      (bs := [0, 0, 3, 7, 15, 15, 31, 127])
      (ds := [⟨[], [10], [], Fct.val 40 (.slice A69 r68.length cA69)⟩,
      ⟨[], [5], [], Fct.val 41 (.agg #[.int .i64 p2.1, .int .i64 p2.2])⟩,
      ⟨[0, 1], [], [], Fct.val 42 (.tuple #[.int .i64 r76.1, .bool r76.2])⟩,
      ⟨[2], [], [], Fct.val 39 (.tuple #[.int .i64 r76.1, .bool r76.2])⟩,
      ⟨[3], [], [], Fct.val 43 (.int .i64 r76.1)⟩,
      ⟨[3], [], [], Fct.val 44 (.bool r76.2)⟩,
      ⟨[4], [], [], Fct.val 15 (.int .i64 r76.1)⟩,
      ⟨[5], [], [], Fct.val 16 (.bool r76.2)⟩]) (by kernel_rfl) hz75 hd75 (fun _ h => nomatch h) ?_ ?_
  · refine steps_cons (fun own a wx hf hsl hE => ?_) ?_
    · obtain ⟨s_10, -⟩ := hsl
      exact sg_plain rfl rfl (or_move (s_10.trans e75_10))
    refine steps_cons (fun own a wx hf hsl hE => ?_) ?_
    · obtain ⟨s_5, -⟩ := hsl
      exact sg_plain rfl rfl (or_load (l := [.int .i64 p2.1, .int .i64 p2.2]) ta32 (s_5.trans e75_5) (Blk.cellsFrom (BlkO.evo (by decide) hE b75_g53).2 0 rfl) rfl)
    refine steps_cons (fun own a wx hf hsl hE => ?_) ?_
    · obtain ⟨(f_40 : a.eval (.tmp 40) = .slice A69 r68.length cA69), (f_41 : a.eval (.tmp 41) = .agg #[.int .i64 p2.1, .int .i64 p2.2]), -⟩ := hf
      exact sg_plain rfl rfl (or_call cf16 (args2 f_40 f_41) (ring_Winding_w _ r68 A69 cA69 p2 (RdO.zero (RwO.rd (RwO.evo rfl hE b75_A69))) r76 hr76) post_val)
    refine steps_cons (fun own a wx hf hsl hE => ?_) ?_
    · obtain ⟨(f_42 : a.eval (.tmp 42) = .tuple #[.int .i64 r76.1, .bool r76.2]), -⟩ := hf
      exact sg_plain rfl rfl (or_move f_42)
    refine steps_cons (fun own a wx hf hsl hE => ?_) ?_
    · obtain ⟨(f_39 : a.eval (.tmp 39) = .tuple #[.int .i64 r76.1, .bool r76.2]), -⟩ := hf
      exact sg_plain rfl rfl (or_k [(39, .tuple #[.int .i64 r76.1, .bool r76.2])] rfl rfl ⟨f_39, trivial⟩ (by kernel_rfl))
    refine steps_cons (fun own a wx hf hsl hE => ?_) ?_
    · obtain ⟨(f_39 : a.eval (.tmp 39) = .tuple #[.int .i64 r76.1, .bool r76.2]), -⟩ := hf
      exact sg_plain rfl rfl (or_k [(39, .tuple #[.int .i64 r76.1, .bool r76.2])] rfl rfl ⟨f_39, trivial⟩ (by kernel_rfl))
    refine steps_cons (fun own a wx hf hsl hE => ?_) ?_
    · obtain ⟨(f_43 : a.eval (.tmp 43) = .int .i64 r76.1), -⟩ := hf
      exact sg_plain rfl rfl (or_assign f_43)
    refine steps_cons (fun own a wx hf hsl hE => ?_) ?_
    · obtain ⟨(f_44 : a.eval (.tmp 44) = .bool r76.2), -⟩ := hf
      exact sg_plain rfl rfl (or_assign f_44)
    exact steps_nil
  intro own77 a77 w77 hd77 hz77 hk77 hf77 hE77
  have e77_0 : a77.eval (.tmp 0) = .slice A61 r60.length cA61 := (hk77 0 rfl).trans e75_0
  have e77_6 : a77.eval (.tmp 6) = .pointer (some ⟨g55, 0, none⟩) := (hk77 6 rfl).trans e75_6
  have e77_7 : a77.eval (.tmp 7) = .pointer (some ⟨g57, 0, none⟩) := (hk77 7 rfl).trans e75_7
  have e77_9 : a77.eval (.tmp 9) = .slice A66 r65.length cA66 := (hk77 9 rfl).trans e75_9
  have e77_10 : a77.eval (.tmp 10) = .slice A69 r68.length cA69 := (hk77 10 rfl).trans e75_10
  have e77_11 : a77.eval (.tmp 11) = .int .i64 r72.1 := (hk77 11 rfl).trans e75_11
  have e77_12 : a77.eval (.tmp 12) = .bool r72.2 := (hk77 12 rfl).trans e75_12
  have e77_13 : a77.eval (.tmp 13) = .int .i64 r74.1 := (hk77 13 rfl).trans e75_13
  have e77_14 : a77.eval (.tmp 14) = .bool r74.2 := (hk77 14 rfl).trans e75_14
  obtain ⟨(f_15 : a77.eval (.tmp 15) = .int .i64 r76.1), (f_16 : a77.eval (.tmp 16) = .bool r76.2), -⟩ := hf77 [6, 7] rfl
  have e77_15 := f_15
  have e77_16 := f_16
  have hX77 := Evo.step hX75 (fun _ => Nat.le_refl 0) hE77 rfl
  have b77_g55 := BlkO.evo (by decide) hE77 b75_g55
  have b77_g57 := BlkO.evo (by decide) hE77 b75_g57
  have b77_A61 := RdO.evo rfl hE77 b75_A61
  have b77_A66 := RwO.evo rfl hE77 b75_A66
  have b77_A69 := RwO.evo rfl hE77 b75_A69
  obtain ⟨r78, hr78, hs⟩ := obind hs
  refine rg_plain_seq (n := 114) (rs := []) (own0 := own77) (K := [])
      (bs := [0, 0, 0, 7, 15, 31, 31, 63, 255])
      (ds := [⟨[], [0], [], Fct.val 46 (.slice A61 r60.length cA61)⟩,
      ⟨[], [6], [], Fct.val 47 (.agg #[.int .i64 x3.1, .int .i64 x3.2])⟩,
      ⟨[], [7], [], Fct.val 48 (.agg #[.int .i64 b4.1, .int .i64 b4.2])⟩,
      ⟨[0, 1, 2], [], [], Fct.val 49 (.tuple #[.int .i64 r78.1, .bool r78.2])⟩,
      ⟨[3], [], [], Fct.val 45 (.tuple #[.int .i64 r78.1, .bool r78.2])⟩,
      ⟨[4], [], [], Fct.val 50 (.int .i64 r78.1)⟩,
      ⟨[4], [], [], Fct.val 51 (.bool r78.2)⟩,
      ⟨[5], [], [], Fct.val 17 (.int .i64 r78.1)⟩,
      ⟨[6], [], [], Fct.val 18 (.bool r78.2)⟩]) (by kernel_rfl) hz77 hd77 (fun _ h => nomatch h) ?_ ?_
  · refine steps_cons (fun own a wx hf hsl hE => ?_) ?_
    · obtain ⟨s_0, -⟩ := hsl
      exact sg_plain rfl rfl (or_move (s_0.trans e77_0))
    refine steps_cons (fun own a wx hf hsl hE => ?_) ?_
    · obtain ⟨s_6, -⟩ := hsl
      exact sg_plain rfl rfl (or_load (l := [.int .i64 x3.1, .int .i64 x3.2]) ta32 (s_6.trans e77_6) (Blk.cellsFrom (BlkO.evo (by decide) hE b77_g55).2 0 rfl) rfl)
    refine steps_cons (fun own a wx hf hsl hE => ?_) ?_
    · obtain ⟨s_7, -⟩ := hsl
      exact sg_plain rfl rfl (or_load (l := [.int .i64 b4.1, .int .i64 b4.2]) ta32 (s_7.trans e77_7) (Blk.cellsFrom (BlkO.evo (by decide) hE b77_g57).2 0 rfl) rfl)
    refine steps_cons (fun own a wx hf hsl hE => ?_) ?_
    · obtain ⟨(f_46 : a.eval (.tmp 46) = .slice A61 r60.length cA61), (f_47 : a.eval (.tmp 47) = .agg #[.int .i64 x3.1, .int .i64 x3.2]), (f_48 : a.eval (.tmp 48) = .agg #[.int .i64 b4.1, .int .i64 b4.2]), -⟩ := hf
      exact sg_plain rfl rfl (or_call cf17 (args3 f_46 f_47 f_48) (ring_Beside_w _ r60 A61 cA61 x3 b4 (RdO.zero (RdO.evo rfl hE b77_A61)) r78 hr78) post_val)
    refine steps_cons (fun own a wx hf hsl hE => ?_) ?_
    · obtain ⟨(f_49 : a.eval (.tmp 49) = .tuple #[.int .i64 r78.1, .bool r78.2]), -⟩ := hf
      exact sg_plain rfl rfl (or_move f_49)
    refine steps_cons (fun own a wx hf hsl hE => ?_) ?_
    · obtain ⟨(f_45 : a.eval (.tmp 45) = .tuple #[.int .i64 r78.1, .bool r78.2]), -⟩ := hf
      exact sg_plain rfl rfl (or_k [(45, .tuple #[.int .i64 r78.1, .bool r78.2])] rfl rfl ⟨f_45, trivial⟩ (by kernel_rfl))
    refine steps_cons (fun own a wx hf hsl hE => ?_) ?_
    · obtain ⟨(f_45 : a.eval (.tmp 45) = .tuple #[.int .i64 r78.1, .bool r78.2]), -⟩ := hf
      exact sg_plain rfl rfl (or_k [(45, .tuple #[.int .i64 r78.1, .bool r78.2])] rfl rfl ⟨f_45, trivial⟩ (by kernel_rfl))
    refine steps_cons (fun own a wx hf hsl hE => ?_) ?_
    · obtain ⟨(f_50 : a.eval (.tmp 50) = .int .i64 r78.1), -⟩ := hf
      exact sg_plain rfl rfl (or_assign f_50)
    refine steps_cons (fun own a wx hf hsl hE => ?_) ?_
    · obtain ⟨(f_51 : a.eval (.tmp 51) = .bool r78.2), -⟩ := hf
      exact sg_plain rfl rfl (or_assign f_51)
    exact steps_nil
  intro own79 a79 w79 hd79 hz79 hk79 hf79 hE79
  have e79_0 : a79.eval (.tmp 0) = .slice A61 r60.length cA61 := (hk79 0 rfl).trans e77_0
  have e79_6 : a79.eval (.tmp 6) = .pointer (some ⟨g55, 0, none⟩) := (hk79 6 rfl).trans e77_6
  have e79_7 : a79.eval (.tmp 7) = .pointer (some ⟨g57, 0, none⟩) := (hk79 7 rfl).trans e77_7
  have e79_9 : a79.eval (.tmp 9) = .slice A66 r65.length cA66 := (hk79 9 rfl).trans e77_9
  have e79_10 : a79.eval (.tmp 10) = .slice A69 r68.length cA69 := (hk79 10 rfl).trans e77_10
  have e79_11 : a79.eval (.tmp 11) = .int .i64 r72.1 := (hk79 11 rfl).trans e77_11
  have e79_12 : a79.eval (.tmp 12) = .bool r72.2 := (hk79 12 rfl).trans e77_12
  have e79_13 : a79.eval (.tmp 13) = .int .i64 r74.1 := (hk79 13 rfl).trans e77_13
  have e79_14 : a79.eval (.tmp 14) = .bool r74.2 := (hk79 14 rfl).trans e77_14
  have e79_15 : a79.eval (.tmp 15) = .int .i64 r76.1 := (hk79 15 rfl).trans e77_15
  have e79_16 : a79.eval (.tmp 16) = .bool r76.2 := (hk79 16 rfl).trans e77_16
  obtain ⟨(f_17 : a79.eval (.tmp 17) = .int .i64 r78.1), (f_18 : a79.eval (.tmp 18) = .bool r78.2), -⟩ := hf79 [7, 8] rfl
  have e79_17 := f_17
  have e79_18 := f_18
  have hX79 := Evo.step hX77 (fun _ => Nat.le_refl 0) hE79 rfl
  have b79_g55 := BlkO.evo (by decide) hE79 b77_g55
  have b79_g57 := BlkO.evo (by decide) hE79 b77_g57
  have b79_A61 := RdO.evo rfl hE79 b77_A61
  have b79_A66 := RwO.evo rfl hE79 b77_A66
  have b79_A69 := RwO.evo rfl hE79 b77_A69
  obtain ⟨r80, hr80, hs⟩ := obind hs
  refine rg_plain_seq (n := 114) (rs := []) (own0 := own79) (K := [])
      (bs := [0, 0, 0, 7, 15, 31, 31, 63, 255])
      (ds := [⟨[], [9], [], Fct.val 53 (.slice A66 r65.length cA66)⟩,
      ⟨[], [6], [], Fct.val 54 (.agg #[.int .i64 x3.1, .int .i64 x3.2])⟩,
      ⟨[], [7], [], Fct.val 55 (.agg #[.int .i64 b4.1, .int .i64 b4.2])⟩,
      ⟨[0, 1, 2], [], [], Fct.val 56 (.tuple #[.int .i64 r80.1, .bool r80.2])⟩,
      ⟨[3], [], [], Fct.val 52 (.tuple #[.int .i64 r80.1, .bool r80.2])⟩,
      ⟨[4], [], [], Fct.val 57 (.int .i64 r80.1)⟩,
      ⟨[4], [], [], Fct.val 58 (.bool r80.2)⟩,
      ⟨[5], [], [], Fct.val 19 (.int .i64 r80.1)⟩,
      ⟨[6], [], [], Fct.val 20 (.bool r80.2)⟩]) (by kernel_rfl) hz79 hd79 (fun _ h => nomatch h) ?_ ?_
  · refine steps_cons (fun own a wx hf hsl hE => ?_) ?_
    · obtain ⟨s_9, -⟩ := hsl
      exact sg_plain rfl rfl (or_move (s_9.trans e79_9))
    refine steps_cons (fun own a wx hf hsl hE => ?_) ?_
    · obtain ⟨s_6, -⟩ := hsl
      exact sg_plain rfl rfl (or_load (l := [.int .i64 x3.1, .int .i64 x3.2]) ta32 (s_6.trans e79_6) (Blk.cellsFrom (BlkO.evo (by decide) hE b79_g55).2 0 rfl) rfl)
    refine steps_cons (fun own a wx hf hsl hE => ?_) ?_
    · obtain ⟨s_7, -⟩ := hsl
      exact sg_plain rfl rfl (or_load (l := [.int .i64 b4.1, .int .i64 b4.2]) ta32 (s_7.trans e79_7) (Blk.cellsFrom (BlkO.evo (by decide) hE b79_g57).2 0 rfl) rfl)
    refine steps_cons (fun own a wx hf hsl hE => ?_) ?_
    · obtain ⟨(f_53 : a.eval (.tmp 53) = .slice A66 r65.length cA66), (f_54 : a.eval (.tmp 54) = .agg #[.int .i64 x3.1, .int .i64 x3.2]), (f_55 : a.eval (.tmp 55) = .agg #[.int .i64 b4.1, .int .i64 b4.2]), -⟩ := hf
      exact sg_plain rfl rfl (or_call cf17 (args3 f_53 f_54 f_55) (ring_Beside_w _ r65 A66 cA66 x3 b4 (RdO.zero (RwO.rd (RwO.evo rfl hE b79_A66))) r80 hr80) post_val)
    refine steps_cons (fun own a wx hf hsl hE => ?_) ?_
    · obtain ⟨(f_56 : a.eval (.tmp 56) = .tuple #[.int .i64 r80.1, .bool r80.2]), -⟩ := hf
      exact sg_plain rfl rfl (or_move f_56)
    refine steps_cons (fun own a wx hf hsl hE => ?_) ?_
    · obtain ⟨(f_52 : a.eval (.tmp 52) = .tuple #[.int .i64 r80.1, .bool r80.2]), -⟩ := hf
      exact sg_plain rfl rfl (or_k [(52, .tuple #[.int .i64 r80.1, .bool r80.2])] rfl rfl ⟨f_52, trivial⟩ (by kernel_rfl))
    refine steps_cons (fun own a wx hf hsl hE => ?_) ?_
    · obtain ⟨(f_52 : a.eval (.tmp 52) = .tuple #[.int .i64 r80.1, .bool r80.2]), -⟩ := hf
      exact sg_plain rfl rfl (or_k [(52, .tuple #[.int .i64 r80.1, .bool r80.2])] rfl rfl ⟨f_52, trivial⟩ (by kernel_rfl))
    refine steps_cons (fun own a wx hf hsl hE => ?_) ?_
    · obtain ⟨(f_57 : a.eval (.tmp 57) = .int .i64 r80.1), -⟩ := hf
      exact sg_plain rfl rfl (or_assign f_57)
    refine steps_cons (fun own a wx hf hsl hE => ?_) ?_
    · obtain ⟨(f_58 : a.eval (.tmp 58) = .bool r80.2), -⟩ := hf
      exact sg_plain rfl rfl (or_assign f_58)
    exact steps_nil
  intro own81 a81 w81 hd81 hz81 hk81 hf81 hE81
  have e81_0 : a81.eval (.tmp 0) = .slice A61 r60.length cA61 := (hk81 0 rfl).trans e79_0
  have e81_9 : a81.eval (.tmp 9) = .slice A66 r65.length cA66 := (hk81 9 rfl).trans e79_9
  have e81_10 : a81.eval (.tmp 10) = .slice A69 r68.length cA69 := (hk81 10 rfl).trans e79_10
  have e81_11 : a81.eval (.tmp 11) = .int .i64 r72.1 := (hk81 11 rfl).trans e79_11
  have e81_12 : a81.eval (.tmp 12) = .bool r72.2 := (hk81 12 rfl).trans e79_12
  have e81_13 : a81.eval (.tmp 13) = .int .i64 r74.1 := (hk81 13 rfl).trans e79_13
  have e81_14 : a81.eval (.tmp 14) = .bool r74.2 := (hk81 14 rfl).trans e79_14
  have e81_15 : a81.eval (.tmp 15) = .int .i64 r76.1 := (hk81 15 rfl).trans e79_15
  have e81_16 : a81.eval (.tmp 16) = .bool r76.2 := (hk81 16 rfl).trans e79_16
  have e81_17 : a81.eval (.tmp 17) = .int .i64 r78.1 := (hk81 17 rfl).trans e79_17
  have e81_18 : a81.eval (.tmp 18) = .bool r78.2 := (hk81 18 rfl).trans e79_18
  obtain ⟨(f_19 : a81.eval (.tmp 19) = .int .i64 r80.1), (f_20 : a81.eval (.tmp 20) = .bool r80.2), -⟩ := hf81 [7, 8] rfl
  have e81_19 := f_19
  have e81_20 := f_20
  have hX81 := Evo.step hX79 (fun _ => Nat.le_refl 0) hE81 rfl
  have b81_A61 := RdO.evo rfl hE81 b79_A61
  have b81_A66 := RwO.evo rfl hE81 b79_A66
  have b81_A69 := RwO.evo rfl hE81 b79_A69
  obtain ⟨r82, hr82, hs⟩ := obind hs
  obtain ⟨r83, hr83, hs⟩ := obind hs
  obtain ⟨r84, hr84, hs⟩ := obind hs
  obtain ⟨r85, hr85, hs⟩ := obind hs
  obtain ⟨r86, hr86, hs⟩ := obind hs
  obtain ⟨x87, hx87, hs⟩ := obind hs
  obtain ⟨x88, hx88, hs⟩ := obind hs
  obtain ⟨x89, hx89, hs⟩ := obind hs
  obtain ⟨x90, hx90, hs⟩ := obind hs
  obtain ⟨r91, hr91, hs⟩ := obind hs
  obtain ⟨r92, hr92, hs⟩ := obind hs
  obtain ⟨x93, hx93, hs⟩ := obind hs
  refine rg_plain_seq (n := 114) (rs := []) (own0 := own81) (K := [])
      (bs := [0, 1, 3, 7, 3, 31, 63, 127, 255, 511, 1023, 2047, 1023, 8191, 16383, 32767, 65535, 131071, 131071, 393215, 1048575, 2097151, 4194303, 8388607, 8388607, 33554431, 67108863, 134217727, 268435455, 268435455, 1073741823, 2147483647, 4294967295, 8589934591, 8589934591, 34359738367, 68719476735, 137438953471, 274877906943, 274877906943, 824633720831, 2199023255551, 4398046511103, 8796093022207, 17592186044415, 17592186044415, 70368744177663, 140737488355327, 281474976710655, 562949953421311, 1125899906842623, 562949953421311, 4503599627370495, 9007199254740991, 18014398509481983, 36028797018963967])
      (ds := [⟨[], [], [], Fct.val 59 (.bool r82)⟩,
      ⟨[0], [], [], Fct.val 60 (.bool r82)⟩,
      ⟨[1], [9], [], Fct.cond r82 (some 61) (Fct.val 61 (.slice A66 r65.length cA66))⟩,
      ⟨[1, 2], [], [], Fct.cond r82 (some 62) (Fct.val 62 (.int .i64 r83))⟩,
      ⟨[1], [0], [], Fct.cond r82 (some 63) (Fct.val 63 (.slice A61 r60.length cA61))⟩,
      ⟨[1, 4], [], [], Fct.cond r82 (some 64) (Fct.val 64 (.int .i64 r84))⟩,
      ⟨[1, 5], [], [], Fct.cond r82 (some 65) (Fct.val 65 (.int .i64 (ng r84)))⟩,
      ⟨[1, 3, 6], [], [], Fct.cond r82 (some 66) (Fct.val 66 (.bool (decide (r83 = (ng r84)))))⟩,
      ⟨[1, 7], [], [], Fct.val 67 (.bool (r82 && (decide (r83 = (ng r84)))))⟩,
      ⟨[8], [], [], Fct.val 68 (.bool (r82 && (decide (r83 = (ng r84)))))⟩,
      ⟨[9], [10], [], Fct.cond (r82 && (decide (r83 = (ng r84)))) (some 69) (Fct.val 69 (.slice A69 r68.length cA69))⟩,
      ⟨[9, 10], [], [], Fct.cond (r82 && (decide (r83 = (ng r84)))) (some 70) (Fct.val 70 (.int .i64 r85))⟩,
      ⟨[9], [0], [], Fct.cond (r82 && (decide (r83 = (ng r84)))) (some 71) (Fct.val 71 (.slice A61 r60.length cA61))⟩,
      ⟨[9, 12], [], [], Fct.cond (r82 && (decide (r83 = (ng r84)))) (some 72) (Fct.val 72 (.int .i64 r86))⟩,
      ⟨[9, 11, 13], [], [], Fct.cond (r82 && (decide (r83 = (ng r84)))) (some 73) (Fct.val 73 (.bool (decide (r85 = r86))))⟩,
      ⟨[9, 14], [], [], Fct.val 74 (.bool x87)⟩,
      ⟨[15], [], [], Fct.val 75 (.bool x87)⟩,
      ⟨[16], [13], [], Fct.cond x87 (some 76) (Fct.val 76 (.int .i64 r74.1))⟩,
      ⟨[16], [11], [], Fct.cond x87 (some 77) (Fct.val 77 (.int .i64 r72.1))⟩,
      ⟨[16, 18], [], [], Fct.cond x87 (some 78) (Fct.val 78 (.int .i64 (ng r72.1)))⟩,
      ⟨[16, 17, 19], [], [], Fct.cond x87 (some 79) (Fct.val 79 (.bool (decide (r74.1 = (ng r72.1)))))⟩,
      ⟨[16, 20], [], [], Fct.val 80 (.bool x88)⟩,
      ⟨[21], [], [], Fct.val 81 (.bool x88)⟩,
      ⟨[22], [15], [], Fct.cond x88 (some 82) (Fct.val 82 (.int .i64 r76.1))⟩,
      ⟨[22], [11], [], Fct.cond x88 (some 83) (Fct.val 83 (.int .i64 r72.1))⟩,
      ⟨[22, 23, 24], [], [], Fct.cond x88 (some 84) (Fct.val 84 (.bool (decide (r76.1 = r72.1))))⟩,
      ⟨[22, 25], [], [], Fct.val 85 (.bool (x88 && (decide (r76.1 = r72.1))))⟩,
      ⟨[26], [], [], Fct.val 86 (.bool (x88 && (decide (r76.1 = r72.1))))⟩,
      ⟨[27], [14], [], Fct.cond (x88 && (decide (r76.1 = r72.1))) (some 87) (Fct.val 87 (.bool r74.2))⟩,
      ⟨[27], [12], [], Fct.cond (x88 && (decide (r76.1 = r72.1))) (some 88) (Fct.val 88 (.bool r72.2))⟩,
      ⟨[27, 28, 29], [], [], Fct.cond (x88 && (decide (r76.1 = r72.1))) (some 89) (Fct.val 89 (.bool (r74.2 == r72.2)))⟩,
      ⟨[27, 30], [], [], Fct.val 90 (.bool x89)⟩,
      ⟨[31], [], [], Fct.val 91 (.bool x89)⟩,
      ⟨[32], [16], [], Fct.cond x89 (some 92) (Fct.val 92 (.bool r76.2))⟩,
      ⟨[32], [12], [], Fct.cond x89 (some 93) (Fct.val 93 (.bool r72.2))⟩,
      ⟨[32, 33, 34], [], [], Fct.cond x89 (some 94) (Fct.val 94 (.bool (r76.2 == r72.2)))⟩,
      ⟨[32, 35], [], [], Fct.val 95 (.bool (x89 && (r76.2 == r72.2)))⟩,
      ⟨[36], [], [], Fct.val 96 (.bool (x89 && (r76.2 == r72.2)))⟩,
      ⟨[37], [19], [], Fct.cond (x89 && (r76.2 == r72.2)) (some 97) (Fct.val 97 (.int .i64 r80.1))⟩,
      ⟨[37], [17], [], Fct.cond (x89 && (r76.2 == r72.2)) (some 98) (Fct.val 98 (.int .i64 r78.1))⟩,
      ⟨[37, 39], [], [], Fct.cond (x89 && (r76.2 == r72.2)) (some 99) (Fct.val 99 (.int .i64 (ng r78.1)))⟩,
      ⟨[37, 38, 40], [], [], Fct.cond (x89 && (r76.2 == r72.2)) (some 100) (Fct.val 100 (.bool (decide (r80.1 = (ng r78.1)))))⟩,
      ⟨[37, 41], [], [], Fct.val 101 (.bool x90)⟩,
      ⟨[42], [], [], Fct.val 102 (.bool x90)⟩,
      ⟨[43], [18], [], Fct.cond x90 (some 103) (Fct.val 103 (.bool r78.2))⟩,
      ⟨[43], [20], [], Fct.cond x90 (some 104) (Fct.val 104 (.bool r80.2))⟩,
      ⟨[43, 44, 45], [], [], Fct.cond x90 (some 105) (Fct.val 105 (.bool (r78.2 == r80.2)))⟩,
      ⟨[43, 46], [], [], Fct.val 106 (.bool (x90 && (r78.2 == r80.2)))⟩,
      ⟨[47], [], [], Fct.val 107 (.bool (x90 && (r78.2 == r80.2)))⟩,
      ⟨[48], [9], [], Fct.cond (x90 && (r78.2 == r80.2)) (some 108) (Fct.val 108 (.slice A66 r65.length cA66))⟩,
      ⟨[48, 49], [], [], Fct.cond (x90 && (r78.2 == r80.2)) (some 109) (Fct.val 109 (.bool r91))⟩,
      ⟨[48], [0], [], Fct.cond (x90 && (r78.2 == r80.2)) (some 110) (Fct.val 110 (.slice A61 r60.length cA61))⟩,
      ⟨[48, 51], [], [], Fct.cond (x90 && (r78.2 == r80.2)) (some 111) (Fct.val 111 (.bool r92))⟩,
      ⟨[48, 50, 52], [], [], Fct.cond (x90 && (r78.2 == r80.2)) (some 112) (Fct.val 112 (.bool (r91 == r92)))⟩,
      ⟨[48, 53], [], [], Fct.val 113 (.bool x93)⟩,
      ⟨[54], [], [], Fct.val 8 (.bool x93)⟩]) (by kernel_rfl) hz81 hd81 (fun _ h => nomatch h) ?_ ?_
  · refine steps_cons (fun own a wx hf hsl hE => ?_) ?_
    · exact sg_plain rfl rfl (or_call cf12 (args0) (law03_known_w _   r82 hr82) post_val)
    refine steps_cons (fun own a wx hf hsl hE => ?_) ?_
    · obtain ⟨(f_59 : a.eval (.tmp 59) = .bool r82), -⟩ := hf
      exact sg_plain rfl rfl (or_move f_59)
    refine steps_cons (fun own a wx hf hsl hE => ?_) ?_
    · obtain ⟨(f_60 : a.eval (.tmp 60) = .bool r82), -⟩ := hf
      obtain ⟨s_9, -⟩ := hsl
      refine sg_t rfl rfl rfl f_60 (fun hg => ?_)
      exact or_move (s_9.trans e81_9)
    refine steps_cons (fun own a wx hf hsl hE => ?_) ?_
    · obtain ⟨(f_60 : a.eval (.tmp 60) = .bool r82), c_61, -⟩ := hf
      refine sg_t rfl rfl rfl f_60 (fun hg => ?_)
      have f_61 : a.eval (.tmp 61) = .slice A66 r65.length cA66 := c_61.1 hg
      exact or_call cf13 (args1 f_61) (ring_Area_w _ r65 A66 cA66 (RdO.zero (RwO.rd (RwO.evo rfl hE b81_A66))) r83 (gd_t hr83 hg)) post_val
    refine steps_cons (fun own a wx hf hsl hE => ?_) ?_
    · obtain ⟨(f_60 : a.eval (.tmp 60) = .bool r82), -⟩ := hf
      obtain ⟨s_0, -⟩ := hsl
      refine sg_t rfl rfl rfl f_60 (fun hg => ?_)
      exact or_move (s_0.trans e81_0)
    refine steps_cons (fun own a wx hf hsl hE => ?_) ?_
    · obtain ⟨(f_60 : a.eval (.tmp 60) = .bool r82), c_63, -⟩ := hf
      refine sg_t rfl rfl rfl f_60 (fun hg => ?_)
      have f_63 : a.eval (.tmp 63) = .slice A61 r60.length cA61 := c_63.1 hg
      exact or_call cf13 (args1 f_63) (ring_Area_w _ r60 A61 cA61 (RdO.zero (RdO.evo rfl hE b81_A61)) r84 (gd_t hr84 hg)) post_val
    refine steps_cons (fun own a wx hf hsl hE => ?_) ?_
    · obtain ⟨(f_60 : a.eval (.tmp 60) = .bool r82), c_64, -⟩ := hf
      refine sg_t rfl rfl rfl f_60 (fun hg => ?_)
      have f_64 : a.eval (.tmp 64) = .int .i64 r84 := c_64.1 hg
      exact or_neg f_64 rfl
    refine steps_cons (fun own a wx hf hsl hE => ?_) ?_
    · obtain ⟨(f_60 : a.eval (.tmp 60) = .bool r82), c_62, c_65, -⟩ := hf
      refine sg_t rfl rfl rfl f_60 (fun hg => ?_)
      have f_62 : a.eval (.tmp 62) = .int .i64 r83 := c_62.1 hg
      have f_65 : a.eval (.tmp 65) = .int .i64 (ng r84) := c_65.1 hg
      exact or_eql f_62 f_65 rfl
    refine steps_cons (fun own a wx hf hsl hE => ?_) ?_
    · obtain ⟨(f_60 : a.eval (.tmp 60) = .bool r82), c_66, -⟩ := hf
      exact sg_plain rfl rfl (or_and f_60 (fun hx => c_66.1 hx) rfl rfl)
    refine steps_cons (fun own a wx hf hsl hE => ?_) ?_
    · obtain ⟨(f_67 : a.eval (.tmp 67) = .bool (r82 && (decide (r83 = (ng r84))))), -⟩ := hf
      exact sg_plain rfl rfl (or_move f_67)
    refine steps_cons (fun own a wx hf hsl hE => ?_) ?_
    · obtain ⟨(f_68 : a.eval (.tmp 68) = .bool (r82 && (decide (r83 = (ng r84))))), -⟩ := hf
      obtain ⟨s_10, -⟩ := hsl
      refine sg_t rfl rfl rfl f_68 (fun hg => ?_)
      exact or_move (s_10.trans e81_10)
    refine steps_cons (fun own a wx hf hsl hE => ?_) ?_
    · obtain ⟨(f_68 : a.eval (.tmp 68) = .bool (r82 && (decide (r83 = (ng r84))))), c_69, -⟩ := hf
      refine sg_t rfl rfl rfl f_68 (fun hg => ?_)
      have f_69 : a.eval (.tmp 69) = .slice A69 r68.length cA69 := c_69.1 hg
      exact or_call cf13 (args1 f_69) (ring_Area_w _ r68 A69 cA69 (RdO.zero (RwO.rd (RwO.evo rfl hE b81_A69))) r85 (gd_t hr85 hg)) post_val
    refine steps_cons (fun own a wx hf hsl hE => ?_) ?_
    · obtain ⟨(f_68 : a.eval (.tmp 68) = .bool (r82 && (decide (r83 = (ng r84))))), -⟩ := hf
      obtain ⟨s_0, -⟩ := hsl
      refine sg_t rfl rfl rfl f_68 (fun hg => ?_)
      exact or_move (s_0.trans e81_0)
    refine steps_cons (fun own a wx hf hsl hE => ?_) ?_
    · obtain ⟨(f_68 : a.eval (.tmp 68) = .bool (r82 && (decide (r83 = (ng r84))))), c_71, -⟩ := hf
      refine sg_t rfl rfl rfl f_68 (fun hg => ?_)
      have f_71 : a.eval (.tmp 71) = .slice A61 r60.length cA61 := c_71.1 hg
      exact or_call cf13 (args1 f_71) (ring_Area_w _ r60 A61 cA61 (RdO.zero (RdO.evo rfl hE b81_A61)) r86 (gd_t hr86 hg)) post_val
    refine steps_cons (fun own a wx hf hsl hE => ?_) ?_
    · obtain ⟨(f_68 : a.eval (.tmp 68) = .bool (r82 && (decide (r83 = (ng r84))))), c_70, c_72, -⟩ := hf
      refine sg_t rfl rfl rfl f_68 (fun hg => ?_)
      have f_70 : a.eval (.tmp 70) = .int .i64 r85 := c_70.1 hg
      have f_72 : a.eval (.tmp 72) = .int .i64 r86 := c_72.1 hg
      exact or_eql f_70 f_72 rfl
    refine steps_cons (fun own a wx hf hsl hE => ?_) ?_
    · obtain ⟨(f_68 : a.eval (.tmp 68) = .bool (r82 && (decide (r83 = (ng r84))))), c_73, -⟩ := hf
      exact sg_plain rfl rfl (or_and f_68 (fun hx => c_73.1 hx) rfl (osome hx87).symm)
    refine steps_cons (fun own a wx hf hsl hE => ?_) ?_
    · obtain ⟨(f_74 : a.eval (.tmp 74) = .bool x87), -⟩ := hf
      exact sg_plain rfl rfl (or_move f_74)
    refine steps_cons (fun own a wx hf hsl hE => ?_) ?_
    · obtain ⟨(f_75 : a.eval (.tmp 75) = .bool x87), -⟩ := hf
      obtain ⟨s_13, -⟩ := hsl
      refine sg_t rfl rfl rfl f_75 (fun hg => ?_)
      exact or_move (s_13.trans e81_13)
    refine steps_cons (fun own a wx hf hsl hE => ?_) ?_
    · obtain ⟨(f_75 : a.eval (.tmp 75) = .bool x87), -⟩ := hf
      obtain ⟨s_11, -⟩ := hsl
      refine sg_t rfl rfl rfl f_75 (fun hg => ?_)
      exact or_move (s_11.trans e81_11)
    refine steps_cons (fun own a wx hf hsl hE => ?_) ?_
    · obtain ⟨(f_75 : a.eval (.tmp 75) = .bool x87), c_77, -⟩ := hf
      refine sg_t rfl rfl rfl f_75 (fun hg => ?_)
      have f_77 : a.eval (.tmp 77) = .int .i64 r72.1 := c_77.1 hg
      exact or_neg f_77 rfl
    refine steps_cons (fun own a wx hf hsl hE => ?_) ?_
    · obtain ⟨(f_75 : a.eval (.tmp 75) = .bool x87), c_76, c_78, -⟩ := hf
      refine sg_t rfl rfl rfl f_75 (fun hg => ?_)
      have f_76 : a.eval (.tmp 76) = .int .i64 r74.1 := c_76.1 hg
      have f_78 : a.eval (.tmp 78) = .int .i64 (ng r72.1) := c_78.1 hg
      exact or_eql f_76 f_78 rfl
    refine steps_cons (fun own a wx hf hsl hE => ?_) ?_
    · obtain ⟨(f_75 : a.eval (.tmp 75) = .bool x87), c_79, -⟩ := hf
      exact sg_plain rfl rfl (or_and f_75 (fun hx => c_79.1 hx) rfl (osome hx88).symm)
    refine steps_cons (fun own a wx hf hsl hE => ?_) ?_
    · obtain ⟨(f_80 : a.eval (.tmp 80) = .bool x88), -⟩ := hf
      exact sg_plain rfl rfl (or_move f_80)
    refine steps_cons (fun own a wx hf hsl hE => ?_) ?_
    · obtain ⟨(f_81 : a.eval (.tmp 81) = .bool x88), -⟩ := hf
      obtain ⟨s_15, -⟩ := hsl
      refine sg_t rfl rfl rfl f_81 (fun hg => ?_)
      exact or_move (s_15.trans e81_15)
    refine steps_cons (fun own a wx hf hsl hE => ?_) ?_
    · obtain ⟨(f_81 : a.eval (.tmp 81) = .bool x88), -⟩ := hf
      obtain ⟨s_11, -⟩ := hsl
      refine sg_t rfl rfl rfl f_81 (fun hg => ?_)
      exact or_move (s_11.trans e81_11)
    refine steps_cons (fun own a wx hf hsl hE => ?_) ?_
    · obtain ⟨(f_81 : a.eval (.tmp 81) = .bool x88), c_82, c_83, -⟩ := hf
      refine sg_t rfl rfl rfl f_81 (fun hg => ?_)
      have f_82 : a.eval (.tmp 82) = .int .i64 r76.1 := c_82.1 hg
      have f_83 : a.eval (.tmp 83) = .int .i64 r72.1 := c_83.1 hg
      exact or_eql f_82 f_83 rfl
    refine steps_cons (fun own a wx hf hsl hE => ?_) ?_
    · obtain ⟨(f_81 : a.eval (.tmp 81) = .bool x88), c_84, -⟩ := hf
      exact sg_plain rfl rfl (or_and f_81 (fun hx => c_84.1 hx) rfl rfl)
    refine steps_cons (fun own a wx hf hsl hE => ?_) ?_
    · obtain ⟨(f_85 : a.eval (.tmp 85) = .bool (x88 && (decide (r76.1 = r72.1)))), -⟩ := hf
      exact sg_plain rfl rfl (or_move f_85)
    refine steps_cons (fun own a wx hf hsl hE => ?_) ?_
    · obtain ⟨(f_86 : a.eval (.tmp 86) = .bool (x88 && (decide (r76.1 = r72.1)))), -⟩ := hf
      obtain ⟨s_14, -⟩ := hsl
      refine sg_t rfl rfl rfl f_86 (fun hg => ?_)
      exact or_move (s_14.trans e81_14)
    refine steps_cons (fun own a wx hf hsl hE => ?_) ?_
    · obtain ⟨(f_86 : a.eval (.tmp 86) = .bool (x88 && (decide (r76.1 = r72.1)))), -⟩ := hf
      obtain ⟨s_12, -⟩ := hsl
      refine sg_t rfl rfl rfl f_86 (fun hg => ?_)
      exact or_move (s_12.trans e81_12)
    refine steps_cons (fun own a wx hf hsl hE => ?_) ?_
    · obtain ⟨(f_86 : a.eval (.tmp 86) = .bool (x88 && (decide (r76.1 = r72.1)))), c_87, c_88, -⟩ := hf
      refine sg_t rfl rfl rfl f_86 (fun hg => ?_)
      have f_87 : a.eval (.tmp 87) = .bool r74.2 := c_87.1 hg
      have f_88 : a.eval (.tmp 88) = .bool r72.2 := c_88.1 hg
      exact or_eqlb tb4 f_87 f_88 rfl
    refine steps_cons (fun own a wx hf hsl hE => ?_) ?_
    · obtain ⟨(f_86 : a.eval (.tmp 86) = .bool (x88 && (decide (r76.1 = r72.1)))), c_89, -⟩ := hf
      exact sg_plain rfl rfl (or_and f_86 (fun hx => c_89.1 hx) rfl (osome hx89).symm)
    refine steps_cons (fun own a wx hf hsl hE => ?_) ?_
    · obtain ⟨(f_90 : a.eval (.tmp 90) = .bool x89), -⟩ := hf
      exact sg_plain rfl rfl (or_move f_90)
    refine steps_cons (fun own a wx hf hsl hE => ?_) ?_
    · obtain ⟨(f_91 : a.eval (.tmp 91) = .bool x89), -⟩ := hf
      obtain ⟨s_16, -⟩ := hsl
      refine sg_t rfl rfl rfl f_91 (fun hg => ?_)
      exact or_move (s_16.trans e81_16)
    refine steps_cons (fun own a wx hf hsl hE => ?_) ?_
    · obtain ⟨(f_91 : a.eval (.tmp 91) = .bool x89), -⟩ := hf
      obtain ⟨s_12, -⟩ := hsl
      refine sg_t rfl rfl rfl f_91 (fun hg => ?_)
      exact or_move (s_12.trans e81_12)
    refine steps_cons (fun own a wx hf hsl hE => ?_) ?_
    · obtain ⟨(f_91 : a.eval (.tmp 91) = .bool x89), c_92, c_93, -⟩ := hf
      refine sg_t rfl rfl rfl f_91 (fun hg => ?_)
      have f_92 : a.eval (.tmp 92) = .bool r76.2 := c_92.1 hg
      have f_93 : a.eval (.tmp 93) = .bool r72.2 := c_93.1 hg
      exact or_eqlb tb4 f_92 f_93 rfl
    refine steps_cons (fun own a wx hf hsl hE => ?_) ?_
    · obtain ⟨(f_91 : a.eval (.tmp 91) = .bool x89), c_94, -⟩ := hf
      exact sg_plain rfl rfl (or_and f_91 (fun hx => c_94.1 hx) rfl rfl)
    refine steps_cons (fun own a wx hf hsl hE => ?_) ?_
    · obtain ⟨(f_95 : a.eval (.tmp 95) = .bool (x89 && (r76.2 == r72.2))), -⟩ := hf
      exact sg_plain rfl rfl (or_move f_95)
    refine steps_cons (fun own a wx hf hsl hE => ?_) ?_
    · obtain ⟨(f_96 : a.eval (.tmp 96) = .bool (x89 && (r76.2 == r72.2))), -⟩ := hf
      obtain ⟨s_19, -⟩ := hsl
      refine sg_t rfl rfl rfl f_96 (fun hg => ?_)
      exact or_move (s_19.trans e81_19)
    refine steps_cons (fun own a wx hf hsl hE => ?_) ?_
    · obtain ⟨(f_96 : a.eval (.tmp 96) = .bool (x89 && (r76.2 == r72.2))), -⟩ := hf
      obtain ⟨s_17, -⟩ := hsl
      refine sg_t rfl rfl rfl f_96 (fun hg => ?_)
      exact or_move (s_17.trans e81_17)
    refine steps_cons (fun own a wx hf hsl hE => ?_) ?_
    · obtain ⟨(f_96 : a.eval (.tmp 96) = .bool (x89 && (r76.2 == r72.2))), c_98, -⟩ := hf
      refine sg_t rfl rfl rfl f_96 (fun hg => ?_)
      have f_98 : a.eval (.tmp 98) = .int .i64 r78.1 := c_98.1 hg
      exact or_neg f_98 rfl
    refine steps_cons (fun own a wx hf hsl hE => ?_) ?_
    · obtain ⟨(f_96 : a.eval (.tmp 96) = .bool (x89 && (r76.2 == r72.2))), c_97, c_99, -⟩ := hf
      refine sg_t rfl rfl rfl f_96 (fun hg => ?_)
      have f_97 : a.eval (.tmp 97) = .int .i64 r80.1 := c_97.1 hg
      have f_99 : a.eval (.tmp 99) = .int .i64 (ng r78.1) := c_99.1 hg
      exact or_eql f_97 f_99 rfl
    refine steps_cons (fun own a wx hf hsl hE => ?_) ?_
    · obtain ⟨(f_96 : a.eval (.tmp 96) = .bool (x89 && (r76.2 == r72.2))), c_100, -⟩ := hf
      exact sg_plain rfl rfl (or_and f_96 (fun hx => c_100.1 hx) rfl (osome hx90).symm)
    refine steps_cons (fun own a wx hf hsl hE => ?_) ?_
    · obtain ⟨(f_101 : a.eval (.tmp 101) = .bool x90), -⟩ := hf
      exact sg_plain rfl rfl (or_move f_101)
    refine steps_cons (fun own a wx hf hsl hE => ?_) ?_
    · obtain ⟨(f_102 : a.eval (.tmp 102) = .bool x90), -⟩ := hf
      obtain ⟨s_18, -⟩ := hsl
      refine sg_t rfl rfl rfl f_102 (fun hg => ?_)
      exact or_move (s_18.trans e81_18)
    refine steps_cons (fun own a wx hf hsl hE => ?_) ?_
    · obtain ⟨(f_102 : a.eval (.tmp 102) = .bool x90), -⟩ := hf
      obtain ⟨s_20, -⟩ := hsl
      refine sg_t rfl rfl rfl f_102 (fun hg => ?_)
      exact or_move (s_20.trans e81_20)
    refine steps_cons (fun own a wx hf hsl hE => ?_) ?_
    · obtain ⟨(f_102 : a.eval (.tmp 102) = .bool x90), c_103, c_104, -⟩ := hf
      refine sg_t rfl rfl rfl f_102 (fun hg => ?_)
      have f_103 : a.eval (.tmp 103) = .bool r78.2 := c_103.1 hg
      have f_104 : a.eval (.tmp 104) = .bool r80.2 := c_104.1 hg
      exact or_eqlb tb4 f_103 f_104 rfl
    refine steps_cons (fun own a wx hf hsl hE => ?_) ?_
    · obtain ⟨(f_102 : a.eval (.tmp 102) = .bool x90), c_105, -⟩ := hf
      exact sg_plain rfl rfl (or_and f_102 (fun hx => c_105.1 hx) rfl rfl)
    refine steps_cons (fun own a wx hf hsl hE => ?_) ?_
    · obtain ⟨(f_106 : a.eval (.tmp 106) = .bool (x90 && (r78.2 == r80.2))), -⟩ := hf
      exact sg_plain rfl rfl (or_move f_106)
    refine steps_cons (fun own a wx hf hsl hE => ?_) ?_
    · obtain ⟨(f_107 : a.eval (.tmp 107) = .bool (x90 && (r78.2 == r80.2))), -⟩ := hf
      obtain ⟨s_9, -⟩ := hsl
      refine sg_t rfl rfl rfl f_107 (fun hg => ?_)
      exact or_move (s_9.trans e81_9)
    refine steps_cons (fun own a wx hf hsl hE => ?_) ?_
    · obtain ⟨(f_107 : a.eval (.tmp 107) = .bool (x90 && (r78.2 == r80.2))), c_108, -⟩ := hf
      refine sg_t rfl rfl rfl f_107 (fun hg => ?_)
      have f_108 : a.eval (.tmp 108) = .slice A66 r65.length cA66 := c_108.1 hg
      exact or_call cf14 (args1 f_108) (ring_Simple_w _ r65 A66 cA66 (RdO.zero (RwO.rd (RwO.evo rfl hE b81_A66))) r91 (gd_t hr91 hg)) post_val
    refine steps_cons (fun own a wx hf hsl hE => ?_) ?_
    · obtain ⟨(f_107 : a.eval (.tmp 107) = .bool (x90 && (r78.2 == r80.2))), -⟩ := hf
      obtain ⟨s_0, -⟩ := hsl
      refine sg_t rfl rfl rfl f_107 (fun hg => ?_)
      exact or_move (s_0.trans e81_0)
    refine steps_cons (fun own a wx hf hsl hE => ?_) ?_
    · obtain ⟨(f_107 : a.eval (.tmp 107) = .bool (x90 && (r78.2 == r80.2))), c_110, -⟩ := hf
      refine sg_t rfl rfl rfl f_107 (fun hg => ?_)
      have f_110 : a.eval (.tmp 110) = .slice A61 r60.length cA61 := c_110.1 hg
      exact or_call cf14 (args1 f_110) (ring_Simple_w _ r60 A61 cA61 (RdO.zero (RdO.evo rfl hE b81_A61)) r92 (gd_t hr92 hg)) post_val
    refine steps_cons (fun own a wx hf hsl hE => ?_) ?_
    · obtain ⟨(f_107 : a.eval (.tmp 107) = .bool (x90 && (r78.2 == r80.2))), c_109, c_111, -⟩ := hf
      refine sg_t rfl rfl rfl f_107 (fun hg => ?_)
      have f_109 : a.eval (.tmp 109) = .bool r91 := c_109.1 hg
      have f_111 : a.eval (.tmp 111) = .bool r92 := c_111.1 hg
      exact or_eqlb tb4 f_109 f_111 rfl
    refine steps_cons (fun own a wx hf hsl hE => ?_) ?_
    · obtain ⟨(f_107 : a.eval (.tmp 107) = .bool (x90 && (r78.2 == r80.2))), c_112, -⟩ := hf
      exact sg_plain rfl rfl (or_and f_107 (fun hx => c_112.1 hx) rfl (osome hx93).symm)
    refine steps_cons (fun own a wx hf hsl hE => ?_) ?_
    · obtain ⟨(f_113 : a.eval (.tmp 113) = .bool x93), -⟩ := hf
      exact sg_plain rfl rfl (or_assign f_113)
    exact steps_nil
  intro own94 a94 w94 hd94 hz94 hk94 hf94 hE94
  obtain ⟨(f_8 : a94.eval (.tmp 8) = .bool x93), -⟩ := hf94 [55] rfl
  have e94_8 := f_8
  have hX94 := Evo.step hX81 (fun _ => Nat.le_refl 0) hE94 rfl
  refine fl_ret ?_
  obtain rfl := (osome hs).symm
  exact hret _ _ _ _ (.inl rfl) hd94 (results1_ rfl (RVal.tmp_ e94_8)) ⟨own94, rfl, hX94⟩

end Go.Proofs.Ythkmkmkcnljmaaa
