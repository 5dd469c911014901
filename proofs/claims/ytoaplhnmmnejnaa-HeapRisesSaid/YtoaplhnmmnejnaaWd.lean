/-
  The laws of the heap. The walks.
-/
import Derived.Test.YtoaplhnmmnejnaaWc
import Derived.Test.YtoaplhnmmnejnaaSd
namespace Go.Proofs.Ytoaplhnmmnejnaa
open Go.RowKit
set_option linter.unusedVariables false
theorem law05_known_w (w : World) (r : Bool) (hs : law05_known = some r) :
    Calls Try.prog 10 #[] w fun e w' => ∃ own' : Own, e = .returned (.bool r) ∧ Evo [] (fun _ => 0) own' w w' := by
  refine fl_enter (n := 24) rfl rfl rfl (Nat.le_of_ble_eq_true rfl) ?_
  intro a0 Q hd0 hz0 harg hret
  clear harg
  have hE0 : Evo [] (fun _ => 0) (fun _ => 0) w w := Evo.refl _ _ _
  refine rg_plain_seq (n := 24) (rs := []) (own0 := (fun _ => 0)) (K := [])
      (bs := [0])
      (ds := [⟨[], [], [], Fct.val 0 (.bool false)⟩]) (by kernel_rfl) hz0 hd0 (fun _ h => nomatch h) ?_ ?_
  · refine steps_cons (fun own a wx hf hsl hE => ?_) ?_
    · exact sg_plain rfl rfl (or_assign rfl)
    exact steps_nil
  intro own34 a34 w34 hd34 hz34 hk34 hf34 hE34
  have hX34 := Evo.step hE0 (fun _ => Nat.le_refl 0) hE34 rfl
  refine rg_plain_seq (n := 24) (rs := []) (own0 := own34) (K := [])
      (bs := [0])
      (ds := [⟨[], [], [], Fct.blk 36 1 (fun g => .pointer (some ⟨g, 0, none⟩)) 26 #[.slice none 0 0]⟩]) (by kernel_rfl) hz34 hd34 (fun _ h => nomatch h) ?_ ?_
  · refine steps_cons (fun own a wx hf hsl hE => ?_) ?_
    · exact sg_plain rfl rfl (or_new [] rfl rfl trivial (by kernel_rfl))
    exact steps_nil
  intro own37 a37 w37 hd37 hz37 hk37 hf37 hE37
  obtain ⟨⟨g35, (f_1 : a37.eval (.tmp 1) = .pointer (some ⟨g35, 0, none⟩)), (b_g35 : BlkO own37 36 w37 g35 26 #[.slice none 0 0])⟩, -⟩ := hf37 [0] rfl
  have e37_1 := f_1
  have hX37 := Evo.step hX34 (fun _ => Nat.le_refl 0) hE37 rfl
  have b37_g35 := b_g35
  obtain ⟨r42, hr42, hs⟩ := obind hs
  refine rg_plain_seq (n := 24) (rs := [Fct.at_ 36 g35 26 #[.slice none 0 0]]) (own0 := own37) (K := [36])
      (bs := [0, 0, 0, 7, 15, 31])
      (ds := [⟨[], [], [], Fct.val 5 (.agg #[.int .i64 2, .int .i64 0, .int .i64 0])⟩,
      ⟨[], [], [], Fct.val 6 (.agg #[.int .i64 1, .int .i64 5, .int .i64 0])⟩,
      ⟨[], [], [], Fct.val 7 (.agg #[.int .i64 1, .int .i64 4, .int .i64 9])⟩,
      ⟨[0, 1, 2], [], [], Fct.row 41 [] 8 30 R30 [(2, 0, 0), (1, 5, 0), (1, 4, 9)]⟩,
      ⟨[3, 6], [1], [36], Fct.mems [44, 45] 9 (fun (x : Option Addr × Nat) => .int .i64 r42.1) (fun (x : Option Addr × Nat) own w => RwO own 44 [] w 30 R30 x.1 x.2 r42.2 ∧ BlkO own 45 w g35 26 #[.slice x.1 r42.2.length x.2]) (fun hk he h => ⟨RwO.evo (hits_sub hk (by decide)) he h.1, BlkO.evo (not_hit hk (by decide)) he h.2⟩)⟩,
      ⟨[4], [], [], Fct.val 2 (.int .i64 r42.1)⟩]) (by kernel_rfl) hz37 hd37 (by simp only [List.forall_mem_cons]; exact ⟨b37_g35, fun _ h => nomatch h⟩) ?_ ?_
  · refine steps_cons (fun own a wx hf hsl hE => ?_) ?_
    · exact sg_plain rfl rfl (or_k [] rfl rfl trivial (by kernel_rfl))
    refine steps_cons (fun own a wx hf hsl hE => ?_) ?_
    · exact sg_plain rfl rfl (or_k [] rfl rfl trivial (by kernel_rfl))
    refine steps_cons (fun own a wx hf hsl hE => ?_) ?_
    · exact sg_plain rfl rfl (or_k [] rfl rfl trivial (by kernel_rfl))
    refine steps_cons (fun own a wx hf hsl hE => ?_) ?_
    · obtain ⟨(f_5 : a.eval (.tmp 5) = .agg #[.int .i64 2, .int .i64 0, .int .i64 0]), (f_6 : a.eval (.tmp 6) = .agg #[.int .i64 1, .int .i64 5, .int .i64 0]), (f_7 : a.eval (.tmp 7) = .agg #[.int .i64 1, .int .i64 4, .int .i64 9]), -⟩ := hf
      exact sg_plain rfl rfl (or_lit (lab := 41) (e := 30) (cs := #[.int .i64 2, .int .i64 0, .int .i64 0, .int .i64 1, .int .i64 5, .int .i64 0, .int .i64 1, .int .i64 4, .int .i64 9]) (F := E30) (or_new [(5, .agg #[.int .i64 2, .int .i64 0, .int .i64 0]), (6, .agg #[.int .i64 1, .int .i64 5, .int .i64 0]), (7, .agg #[.int .i64 1, .int .i64 4, .int .i64 9])] rfl rfl ⟨f_5, f_6, f_7, trivial⟩ (by kernel_rfl)) rfl rfl (show 3 ≤ maxLen by decide))
    refine steps_cons (fun own a wx hf hsl hE => ?_) ?_
    · obtain ⟨⟨⟨A40, cA40⟩, (f_8 : a.eval (.tmp 8) = .slice A40 [(2, 0, 0), (1, 5, 0), (1, 4, 9)].length cA40), (b_A40 : RwO own 41 [] wx 30 R30 A40 cA40 [(2, 0, 0), (1, 5, 0), (1, 4, 9)])⟩, (b_g35 : BlkO own 36 wx g35 26 #[.slice none 0 0]), -⟩ := hf
      obtain ⟨s_1, -⟩ := hsl
      exact sg_plain rfl rfl (or_call cf6 (args2 (s_1.trans e37_1) f_8) (heap_Heap_Push_w _ (forth own (look0 [(36, 1)])) [] g35 26 none 0 [(2, 0, 0), (1, 5, 0), (1, 4, 9)] A40 cA40 (look0_le rfl) (BlkO.forth_ (m := (look0 [(36, 1)])) b_g35) RwO.nil_ (RdO.forth_ (m := (look0 [(36, 1)])) (RwO.rd b_A40)) r42 hr42) (post_mems (m := (look0 [(36, 1)])) (m' := (look0 [(1, 45), (2, 44)])) (hm_of rfl) (fun own' w' a' x h1 h => ⟨x, h1, ⟨RwO.back_ h.1 (by decide) (.inl (Rep.fl_flat _)), BlkO.back_ h.2 (by decide)⟩⟩)))
    refine steps_cons (fun own a wx hf hsl hE => ?_) ?_
    · obtain ⟨⟨⟨A43, cA43⟩, (f_9 : a.eval (.tmp 9) = .int .i64 r42.1), (b_A43 : RwO own 44 [] wx 30 R30 A43 cA43 r42.2), (b_g35 : BlkO own 45 wx g35 26 #[.slice A43 r42.2.length cA43])⟩, -⟩ := hf
      exact sg_plain rfl rfl (or_assign f_9)
    exact steps_nil
  intro own46 a46 w46 hd46 hz46 hk46 hf46 hE46
  have e46_1 : a46.eval (.tmp 1) = .pointer (some ⟨g35, 0, none⟩) := (hk46 1 rfl).trans e37_1
  obtain ⟨(f_2 : a46.eval (.tmp 2) = .int .i64 r42.1), ⟨⟨A43, cA43⟩, (f_9 : a46.eval (.tmp 9) = .int .i64 r42.1), (b_A43 : RwO own46 44 [] w46 30 R30 A43 cA43 r42.2), (b_g35 : BlkO own46 45 w46 g35 26 #[.slice A43 r42.2.length cA43])⟩, -⟩ := hf46 [5, 4] rfl
  have e46_2 := f_2
  have hX46 := Evo.step hX37 (fun _ => Nat.le_refl 0) hE46 rfl
  have b46_g35 := b_g35
  have b46_A43 := b_A43
  obtain ⟨r47, hr47, hs⟩ := obind hs
  refine rg_plain_seq (n := 24) (rs := [Fct.at_ 45 g35 26 #[.slice A43 r42.2.length cA43], Fct.rowAt 44 [] 30 R30 A43 cA43 r42.2]) (own0 := own46) (K := [45, 44, 52])
      (bs := [0, 1, 3, 3, 0, 23, 63])
      (ds := [⟨[7, 8], [1], [45, 44], Fct.mems [49, 50] 11 (fun (x : Option Addr × Nat) => .tuple #[.agg #[.int .i64 r47.1.1, .int .i64 r47.1.2.1, .int .i64 r47.1.2.2], .bool r47.2.1]) (fun (x : Option Addr × Nat) own w => RwO own 49 [] w 30 R30 x.1 x.2 r47.2.2 ∧ BlkO own 50 w g35 26 #[.slice x.1 r47.2.2.length x.2]) (fun hk he h => ⟨RwO.evo (hits_sub hk (by decide)) he h.1, BlkO.evo (not_hit hk (by decide)) he h.2⟩)⟩,
      ⟨[0], [], [], Fct.val 10 (.tuple #[.agg #[.int .i64 r47.1.1, .int .i64 r47.1.2.1, .int .i64 r47.1.2.2], .bool r47.2.1])⟩,
      ⟨[1], [], [], Fct.val 12 (.agg #[.int .i64 r47.1.1, .int .i64 r47.1.2.1, .int .i64 r47.1.2.2])⟩,
      ⟨[1], [], [], Fct.val 13 (.bool r47.2.1)⟩,
      ⟨[], [], [], Fct.blk 52 3 (fun g => .pointer (some ⟨g, 0, none⟩)) 30 #[.int .i64 0, .int .i64 0, .int .i64 0]⟩,
      ⟨[4, 2], [], [52], Fct.blk 53 3 (fun g => .pointer (some ⟨g, 0, none⟩)) 30 #[.int .i64 r47.1.1, .int .i64 r47.1.2.1, .int .i64 r47.1.2.2]⟩,
      ⟨[3], [], [], Fct.val 4 (.bool r47.2.1)⟩]) (by kernel_rfl) hz46 hd46 (by simp only [List.forall_mem_cons]; exact ⟨b46_g35, b46_A43, fun _ h => nomatch h⟩) ?_ ?_
  · refine steps_cons (fun own a wx hf hsl hE => ?_) ?_
    · obtain ⟨(b_g35 : BlkO own 45 wx g35 26 #[.slice A43 r42.2.length cA43]), (b_A43 : RwO own 44 [] wx 30 R30 A43 cA43 r42.2), -⟩ := hf
      obtain ⟨s_1, -⟩ := hsl
      exact sg_plain rfl rfl (or_call cf8 (args1 (s_1.trans e46_1)) (heap_Heap_Pop_w _ (forth own (look0 [(44, 2), (45, 1)])) r42.2 g35 26 A43 cA43 (look0_le rfl) (BlkO.forth_ (m := (look0 [(44, 2), (45, 1)])) b_g35) (RwO.forth_ (m := (look0 [(44, 2), (45, 1)])) b_A43) r47 hr47) (post_mems (m := (look0 [(44, 2), (45, 1)])) (m' := (look0 [(1, 50), (2, 49)])) (hm_of rfl) (fun own' w' a' x h1 h => ⟨x, h1, ⟨RwO.back_ h.1 (by decide) (.inl (Rep.fl_flat _)), BlkO.back_ h.2 (by decide)⟩⟩)))
    refine steps_cons (fun own a wx hf hsl hE => ?_) ?_
    · obtain ⟨⟨⟨A48, cA48⟩, (f_11 : a.eval (.tmp 11) = .tuple #[.agg #[.int .i64 r47.1.1, .int .i64 r47.1.2.1, .int .i64 r47.1.2.2], .bool r47.2.1]), (b_A48 : RwO own 49 [] wx 30 R30 A48 cA48 r47.2.2), (b_g35 : BlkO own 50 wx g35 26 #[.slice A48 r47.2.2.length cA48])⟩, -⟩ := hf
      exact sg_plain rfl rfl (or_move f_11)
    refine steps_cons (fun own a wx hf hsl hE => ?_) ?_
    · obtain ⟨(f_10 : a.eval (.tmp 10) = .tuple #[.agg #[.int .i64 r47.1.1, .int .i64 r47.1.2.1, .int .i64 r47.1.2.2], .bool r47.2.1]), -⟩ := hf
      exact sg_plain rfl rfl (or_k [(10, .tuple #[.agg #[.int .i64 r47.1.1, .int .i64 r47.1.2.1, .int .i64 r47.1.2.2], .bool r47.2.1])] rfl rfl ⟨f_10, trivial⟩ (by kernel_rfl))
    refine steps_cons (fun own a wx hf hsl hE => ?_) ?_
    · obtain ⟨(f_10 : a.eval (.tmp 10) = .tuple #[.agg #[.int .i64 r47.1.1, .int .i64 r47.1.2.1, .int .i64 r47.1.2.2], .bool r47.2.1]), -⟩ := hf
      exact sg_plain rfl rfl (or_k [(10, .tuple #[.agg #[.int .i64 r47.1.1, .int .i64 r47.1.2.1, .int .i64 r47.1.2.2], .bool r47.2.1])] rfl rfl ⟨f_10, trivial⟩ (by kernel_rfl))
    refine steps_cons (fun own a wx hf hsl hE => ?_) ?_
    · exact sg_plain rfl rfl (or_new [] rfl rfl trivial (by kernel_rfl))
    refine steps_cons (fun own a wx hf hsl hE => ?_) ?_
    · obtain ⟨⟨g51, (f_3 : a.eval (.tmp 3) = .pointer (some ⟨g51, 0, none⟩)), (b_g51 : BlkO own 52 wx g51 30 #[.int .i64 0, .int .i64 0, .int .i64 0])⟩, (f_12 : a.eval (.tmp 12) = .agg #[.int .i64 r47.1.1, .int .i64 r47.1.2.1, .int .i64 r47.1.2.2]), -⟩ := hf
      exact sg_plain rfl rfl (or_store (l := #[.int .i64 r47.1.1, .int .i64 r47.1.2.1, .int .i64 r47.1.2.2]) (lab := 52) (lab2 := 53) ts30 f_3 f_12 b_g51 (by simp) (by kernel_rfl) (mem_of rfl) (by decide) (by kernel_rfl) (fun own' a' w' ha hb => ⟨_, (ha 3).trans f_3, hb⟩))
    refine steps_cons (fun own a wx hf hsl hE => ?_) ?_
    · obtain ⟨(f_13 : a.eval (.tmp 13) = .bool r47.2.1), -⟩ := hf
      exact sg_plain rfl rfl (or_assign f_13)
    exact steps_nil
  intro own54 a54 w54 hd54 hz54 hk54 hf54 hE54
  have e54_2 : a54.eval (.tmp 2) = .int .i64 r42.1 := (hk54 2 rfl).trans e46_2
  obtain ⟨⟨g51, (f_3 : a54.eval (.tmp 3) = .pointer (some ⟨g51, 0, none⟩)), (b_g51 : BlkO own54 53 w54 g51 30 #[.int .i64 r47.1.1, .int .i64 r47.1.2.1, .int .i64 r47.1.2.2])⟩, (f_4 : a54.eval (.tmp 4) = .bool r47.2.1), -⟩ := hf54 [5, 6] rfl
  have e54_3 := f_3
  have e54_4 := f_4
  have hX54 := Evo.step hX46 (fun _ => Nat.le_refl 0) hE54 rfl
  have b54_g51 := b_g51
  obtain ⟨x55, hx55, hs⟩ := obind hs
  refine rg_plain_seq (n := 24) (rs := []) (own0 := own54) (K := [])
      (bs := [0, 1, 3, 7, 15, 31, 63, 63, 255, 511, 1023])
      (ds := [⟨[], [2], [], Fct.val 14 (.int .i64 r42.1)⟩,
      ⟨[0], [], [], Fct.val 15 (.bool (decide (r42.1 = 3)))⟩,
      ⟨[1], [], [], Fct.val 16 (.bool (decide (r42.1 = 3)))⟩,
      ⟨[2], [4], [], Fct.cond (decide (r42.1 = 3)) (some 17) (Fct.val 17 (.bool r47.2.1))⟩,
      ⟨[2, 3], [], [], Fct.val 18 (.bool ((decide (r42.1 = 3)) && r47.2.1))⟩,
      ⟨[4], [], [], Fct.val 19 (.bool ((decide (r42.1 = 3)) && r47.2.1))⟩,
      ⟨[5], [3], [], Fct.cond ((decide (r42.1 = 3)) && r47.2.1) (some 20) (Fct.val 20 (.agg #[.int .i64 r47.1.1, .int .i64 r47.1.2.1, .int .i64 r47.1.2.2]))⟩,
      ⟨[5], [], [], Fct.cond ((decide (r42.1 = 3)) && r47.2.1) (some 21) (Fct.val 21 (.agg #[.int .i64 1, .int .i64 4, .int .i64 9]))⟩,
      ⟨[5, 6, 7], [], [], Fct.cond ((decide (r42.1 = 3)) && r47.2.1) (some 22) (Fct.val 22 (.bool (decide (r47.1 = (1, 4, 9)))))⟩,
      ⟨[5, 8], [], [], Fct.val 23 (.bool x55)⟩,
      ⟨[9], [], [], Fct.val 0 (.bool x55)⟩]) (by kernel_rfl) hz54 hd54 (fun _ h => nomatch h) ?_ ?_
  · refine steps_cons (fun own a wx hf hsl hE => ?_) ?_
    · obtain ⟨s_2, -⟩ := hsl
      exact sg_plain rfl rfl (or_move (s_2.trans e54_2))
    refine steps_cons (fun own a wx hf hsl hE => ?_) ?_
    · obtain ⟨(f_14 : a.eval (.tmp 14) = .int .i64 r42.1), -⟩ := hf
      exact sg_plain rfl rfl (or_eql f_14 rfl rfl)
    refine steps_cons (fun own a wx hf hsl hE => ?_) ?_
    · obtain ⟨(f_15 : a.eval (.tmp 15) = .bool (decide (r42.1 = 3))), -⟩ := hf
      exact sg_plain rfl rfl (or_move f_15)
    refine steps_cons (fun own a wx hf hsl hE => ?_) ?_
    · obtain ⟨(f_16 : a.eval (.tmp 16) = .bool (decide (r42.1 = 3))), -⟩ := hf
      obtain ⟨s_4, -⟩ := hsl
      refine sg_t rfl rfl rfl f_16 (fun hg => ?_)
      exact or_move (s_4.trans e54_4)
    refine steps_cons (fun own a wx hf hsl hE => ?_) ?_
    · obtain ⟨(f_16 : a.eval (.tmp 16) = .bool (decide (r42.1 = 3))), c_17, -⟩ := hf
      exact sg_plain rfl rfl (or_and f_16 (fun hx => c_17.1 hx) rfl rfl)
    refine steps_cons (fun own a wx hf hsl hE => ?_) ?_
    · obtain ⟨(f_18 : a.eval (.tmp 18) = .bool ((decide (r42.1 = 3)) && r47.2.1)), -⟩ := hf
      exact sg_plain rfl rfl (or_move f_18)
    refine steps_cons (fun own a wx hf hsl hE => ?_) ?_
    · obtain ⟨(f_19 : a.eval (.tmp 19) = .bool ((decide (r42.1 = 3)) && r47.2.1)), -⟩ := hf
      obtain ⟨s_3, -⟩ := hsl
      refine sg_t rfl rfl rfl f_19 (fun hg => ?_)
      exact or_load (l := [.int .i64 r47.1.1, .int .i64 r47.1.2.1, .int .i64 r47.1.2.2]) ta30 (s_3.trans e54_3) (Blk.cellsFrom (BlkO.evo (by decide) hE b54_g51).2 0 rfl) rfl
    refine steps_cons (fun own a wx hf hsl hE => ?_) ?_
    · obtain ⟨(f_19 : a.eval (.tmp 19) = .bool ((decide (r42.1 = 3)) && r47.2.1)), -⟩ := hf
      refine sg_t rfl rfl rfl f_19 (fun hg => ?_)
      exact or_k [] rfl rfl trivial (by kernel_rfl)
    refine steps_cons (fun own a wx hf hsl hE => ?_) ?_
    · obtain ⟨(f_19 : a.eval (.tmp 19) = .bool ((decide (r42.1 = 3)) && r47.2.1)), c_20, c_21, -⟩ := hf
      refine sg_t rfl rfl rfl f_19 (fun hg => ?_)
      have f_20 : a.eval (.tmp 20) = .agg #[.int .i64 r47.1.1, .int .i64 r47.1.2.1, .int .i64 r47.1.2.2] := c_20.1 hg
      have f_21 : a.eval (.tmp 21) = .agg #[.int .i64 1, .int .i64 4, .int .i64 9] := c_21.1 hg
      exact or_eqlA sg30 f_20 f_21 (se30 r47.1.1 r47.1.2.1 r47.1.2.2 1 4 9 _) rfl
    refine steps_cons (fun own a wx hf hsl hE => ?_) ?_
    · obtain ⟨(f_19 : a.eval (.tmp 19) = .bool ((decide (r42.1 = 3)) && r47.2.1)), c_22, -⟩ := hf
      exact sg_plain rfl rfl (or_and f_19 (fun hx => c_22.1 hx) rfl (osome hx55).symm)
    refine steps_cons (fun own a wx hf hsl hE => ?_) ?_
    · obtain ⟨(f_23 : a.eval (.tmp 23) = .bool x55), -⟩ := hf
      exact sg_plain rfl rfl (or_assign f_23)
    exact steps_nil
  intro own56 a56 w56 hd56 hz56 hk56 hf56 hE56
  obtain ⟨(f_0 : a56.eval (.tmp 0) = .bool x55), -⟩ := hf56 [10] rfl
  have e56_0 := f_0
  have hX56 := Evo.step hX54 (fun _ => Nat.le_refl 0) hE56 rfl
  refine fl_ret ?_
  obtain rfl := osome hs
  exact hret _ _ _ _ (.inl rfl) hd56 (results1_ rfl (RVal.tmp_ e56_0)) ⟨own56, rfl, hX56⟩

theorem law05_HeapNil_w (w : World) (x1 : Int × Int × Int) (r : Bool) (hs : law05_HeapNil x1 = some r) :
    Calls Try.prog 5 #[.agg #[.int .i64 x1.1, .int .i64 x1.2.1, .int .i64 x1.2.2]] w fun e w' => ∃ own' : Own, e = .returned (.bool r) ∧ Evo [] (fun _ => 0) own' w w' := by
  refine fl_enter (n := 62) rfl rfl rfl (Nat.le_of_ble_eq_true rfl) ?_
  intro a0 Q hd0 hz0 harg hret
  have ha0 := harg 0 _ rfl
  clear harg
  have hE0 : Evo [] (fun _ => 0) (fun _ => 0) w w := Evo.refl _ _ _
  refine rg_plain_seq (n := 62) (rs := []) (own0 := (fun _ => 0)) (K := [])
      (bs := [0, 0])
      (ds := [⟨[], [0], [], Fct.blk 37 1 (fun g => .pointer (some ⟨g, 0, none⟩)) 30 #[.int .i64 x1.1, .int .i64 x1.2.1, .int .i64 x1.2.2]⟩,
      ⟨[], [], [], Fct.val 2 (.bool false)⟩]) (by kernel_rfl) hz0 hd0 (fun _ h => nomatch h) ?_ ?_
  · refine steps_cons (fun own a wx hf hsl hE => ?_) ?_
    · obtain ⟨s_0, -⟩ := hsl
      exact sg_plain rfl rfl (or_new [(0, .agg #[.int .i64 x1.1, .int .i64 x1.2.1, .int .i64 x1.2.2])] rfl rfl ⟨(s_0.trans ha0), trivial⟩ (by kernel_rfl))
    refine steps_cons (fun own a wx hf hsl hE => ?_) ?_
    · exact sg_plain rfl rfl (or_assign rfl)
    exact steps_nil
  intro own38 a38 w38 hd38 hz38 hk38 hf38 hE38
  obtain ⟨⟨g36, (f_1 : a38.eval (.tmp 1) = .pointer (some ⟨g36, 0, none⟩)), (b_g36 : BlkO own38 37 w38 g36 30 #[.int .i64 x1.1, .int .i64 x1.2.1, .int .i64 x1.2.2])⟩, -⟩ := hf38 [0] rfl
  have e38_1 := f_1
  have hX38 := Evo.step hE0 (fun _ => Nat.le_refl 0) hE38 rfl
  have b38_g36 := b_g36
  refine rg_plain_seq (n := 62) (rs := []) (own0 := own38) (K := [])
      (bs := [0])
      (ds := [⟨[], [], [], Fct.val 3 (.pointer none)⟩]) (by kernel_rfl) hz38 hd38 (fun _ h => nomatch h) ?_ ?_
  · refine steps_cons (fun own a wx hf hsl hE => ?_) ?_
    · exact sg_plain rfl rfl (or_assign rfl)
    exact steps_nil
  intro own39 a39 w39 hd39 hz39 hk39 hf39 hE39
  have e39_1 : a39.eval (.tmp 1) = .pointer (some ⟨g36, 0, none⟩) := (hk39 1 rfl).trans e38_1
  obtain ⟨(f_3 : a39.eval (.tmp 3) = .pointer none), -⟩ := hf39 [0] rfl
  have e39_3 := f_3
  have hX39 := Evo.step hX38 (fun _ => Nat.le_refl 0) hE39 rfl
  have b39_g36 := BlkO.evo (by decide) hE39 b38_g36
  refine rg_plain_seq (n := 62) (rs := []) (own0 := own39) (K := [41])
      (bs := [0, 1, 3, 7, 7, 0, 47, 127])
      (ds := [⟨[], [3], [], Fct.val 9 (.pointer none)⟩,
      ⟨[0], [], [], Fct.val 10 (.tuple #[.agg #[.int .i64 ((((0, 0, 0), false).1).1), .int .i64 ((((0, 0, 0), false).1).2.1), .int .i64 ((((0, 0, 0), false).1).2.2)], .bool (((0, 0, 0), false).2)])⟩,
      ⟨[1], [], [], Fct.val 8 (.tuple #[.agg #[.int .i64 ((((0, 0, 0), false).1).1), .int .i64 ((((0, 0, 0), false).1).2.1), .int .i64 ((((0, 0, 0), false).1).2.2)], .bool (((0, 0, 0), false).2)])⟩,
      ⟨[2], [], [], Fct.val 11 (.agg #[.int .i64 ((((0, 0, 0), false).1).1), .int .i64 ((((0, 0, 0), false).1).2.1), .int .i64 ((((0, 0, 0), false).1).2.2)])⟩,
      ⟨[2], [], [], Fct.val 12 (.bool (((0, 0, 0), false).2))⟩,
      ⟨[], [], [], Fct.blk 41 4 (fun g => .pointer (some ⟨g, 0, none⟩)) 30 #[.int .i64 0, .int .i64 0, .int .i64 0]⟩,
      ⟨[5, 3], [], [41], Fct.blk 42 4 (fun g => .pointer (some ⟨g, 0, none⟩)) 30 #[.int .i64 ((((0, 0, 0), false).1).1), .int .i64 ((((0, 0, 0), false).1).2.1), .int .i64 ((((0, 0, 0), false).1).2.2)]⟩,
      ⟨[4], [], [], Fct.val 5 (.bool (((0, 0, 0), false).2))⟩]) (by kernel_rfl) hz39 hd39 (fun _ h => nomatch h) ?_ ?_
  · refine steps_cons (fun own a wx hf hsl hE => ?_) ?_
    · obtain ⟨s_3, -⟩ := hsl
      exact sg_plain rfl rfl (or_move (s_3.trans e39_3))
    refine steps_cons (fun own a wx hf hsl hE => ?_) ?_
    · obtain ⟨(f_9 : a.eval (.tmp 9) = .pointer none), -⟩ := hf
      exact sg_plain rfl rfl (or_call cf8 (args1 f_9) (heap_PopNil_w _   ((0, 0, 0), false) rfl) post_val)
    refine steps_cons (fun own a wx hf hsl hE => ?_) ?_
    · obtain ⟨(f_10 : a.eval (.tmp 10) = .tuple #[.agg #[.int .i64 ((((0, 0, 0), false).1).1), .int .i64 ((((0, 0, 0), false).1).2.1), .int .i64 ((((0, 0, 0), false).1).2.2)], .bool (((0, 0, 0), false).2)]), -⟩ := hf
      exact sg_plain rfl rfl (or_move f_10)
    refine steps_cons (fun own a wx hf hsl hE => ?_) ?_
    · obtain ⟨(f_8 : a.eval (.tmp 8) = .tuple #[.agg #[.int .i64 ((((0, 0, 0), false).1).1), .int .i64 ((((0, 0, 0), false).1).2.1), .int .i64 ((((0, 0, 0), false).1).2.2)], .bool (((0, 0, 0), false).2)]), -⟩ := hf
      exact sg_plain rfl rfl (or_k [(8, .tuple #[.agg #[.int .i64 ((((0, 0, 0), false).1).1), .int .i64 ((((0, 0, 0), false).1).2.1), .int .i64 ((((0, 0, 0), false).1).2.2)], .bool (((0, 0, 0), false).2)])] rfl rfl ⟨f_8, trivial⟩ (by kernel_rfl))
    refine steps_cons (fun own a wx hf hsl hE => ?_) ?_
    · obtain ⟨(f_8 : a.eval (.tmp 8) = .tuple #[.agg #[.int .i64 ((((0, 0, 0), false).1).1), .int .i64 ((((0, 0, 0), false).1).2.1), .int .i64 ((((0, 0, 0), false).1).2.2)], .bool (((0, 0, 0), false).2)]), -⟩ := hf
      exact sg_plain rfl rfl (or_k [(8, .tuple #[.agg #[.int .i64 ((((0, 0, 0), false).1).1), .int .i64 ((((0, 0, 0), false).1).2.1), .int .i64 ((((0, 0, 0), false).1).2.2)], .bool (((0, 0, 0), false).2)])] rfl rfl ⟨f_8, trivial⟩ (by kernel_rfl))
    refine steps_cons (fun own a wx hf hsl hE => ?_) ?_
    · exact sg_plain rfl rfl (or_new [] rfl rfl trivial (by kernel_rfl))
    refine steps_cons (fun own a wx hf hsl hE => ?_) ?_
    · obtain ⟨⟨g40, (f_4 : a.eval (.tmp 4) = .pointer (some ⟨g40, 0, none⟩)), (b_g40 : BlkO own 41 wx g40 30 #[.int .i64 0, .int .i64 0, .int .i64 0])⟩, (f_11 : a.eval (.tmp 11) = .agg #[.int .i64 ((((0, 0, 0), false).1).1), .int .i64 ((((0, 0, 0), false).1).2.1), .int .i64 ((((0, 0, 0), false).1).2.2)]), -⟩ := hf
      exact sg_plain rfl rfl (or_store (l := #[.int .i64 ((((0, 0, 0), false).1).1), .int .i64 ((((0, 0, 0), false).1).2.1), .int .i64 ((((0, 0, 0), false).1).2.2)]) (lab := 41) (lab2 := 42) ts30 f_4 f_11 b_g40 (by simp) (by kernel_rfl) (mem_of rfl) (by decide) (by kernel_rfl) (fun own' a' w' ha hb => ⟨_, (ha 4).trans f_4, hb⟩))
    refine steps_cons (fun own a wx hf hsl hE => ?_) ?_
    · obtain ⟨(f_12 : a.eval (.tmp 12) = .bool (((0, 0, 0), false).2)), -⟩ := hf
      exact sg_plain rfl rfl (or_assign f_12)
    exact steps_nil
  intro own43 a43 w43 hd43 hz43 hk43 hf43 hE43
  have e43_1 : a43.eval (.tmp 1) = .pointer (some ⟨g36, 0, none⟩) := (hk43 1 rfl).trans e39_1
  have e43_3 : a43.eval (.tmp 3) = .pointer none := (hk43 3 rfl).trans e39_3
  obtain ⟨⟨g40, (f_4 : a43.eval (.tmp 4) = .pointer (some ⟨g40, 0, none⟩)), (b_g40 : BlkO own43 42 w43 g40 30 #[.int .i64 ((((0, 0, 0), false).1).1), .int .i64 ((((0, 0, 0), false).1).2.1), .int .i64 ((((0, 0, 0), false).1).2.2)])⟩, (f_5 : a43.eval (.tmp 5) = .bool (((0, 0, 0), false).2)), -⟩ := hf43 [6, 7] rfl
  have e43_4 := f_4
  have e43_5 := f_5
  have hX43 := Evo.step hX39 (fun _ => Nat.le_refl 0) hE43 rfl
  have b43_g36 := BlkO.evo (by decide) hE43 b39_g36
  have b43_g40 := b_g40
  refine rg_plain_seq (n := 62) (rs := []) (own0 := own43) (K := [45])
      (bs := [0, 1, 3, 7, 7, 0, 47, 127])
      (ds := [⟨[], [3], [], Fct.val 14 (.pointer none)⟩,
      ⟨[0], [], [], Fct.val 15 (.tuple #[.agg #[.int .i64 ((((0, 0, 0), false).1).1), .int .i64 ((((0, 0, 0), false).1).2.1), .int .i64 ((((0, 0, 0), false).1).2.2)], .bool (((0, 0, 0), false).2)])⟩,
      ⟨[1], [], [], Fct.val 13 (.tuple #[.agg #[.int .i64 ((((0, 0, 0), false).1).1), .int .i64 ((((0, 0, 0), false).1).2.1), .int .i64 ((((0, 0, 0), false).1).2.2)], .bool (((0, 0, 0), false).2)])⟩,
      ⟨[2], [], [], Fct.val 16 (.agg #[.int .i64 ((((0, 0, 0), false).1).1), .int .i64 ((((0, 0, 0), false).1).2.1), .int .i64 ((((0, 0, 0), false).1).2.2)])⟩,
      ⟨[2], [], [], Fct.val 17 (.bool (((0, 0, 0), false).2))⟩,
      ⟨[], [], [], Fct.blk 45 6 (fun g => .pointer (some ⟨g, 0, none⟩)) 30 #[.int .i64 0, .int .i64 0, .int .i64 0]⟩,
      ⟨[5, 3], [], [45], Fct.blk 46 6 (fun g => .pointer (some ⟨g, 0, none⟩)) 30 #[.int .i64 ((((0, 0, 0), false).1).1), .int .i64 ((((0, 0, 0), false).1).2.1), .int .i64 ((((0, 0, 0), false).1).2.2)]⟩,
      ⟨[4], [], [], Fct.val 7 (.bool (((0, 0, 0), false).2))⟩]) (by kernel_rfl) hz43 hd43 (fun _ h => nomatch h) ?_ ?_
  · refine steps_cons (fun own a wx hf hsl hE => ?_) ?_
    · obtain ⟨s_3, -⟩ := hsl
      exact sg_plain rfl rfl (or_move (s_3.trans e43_3))
    refine steps_cons (fun own a wx hf hsl hE => ?_) ?_
    · obtain ⟨(f_14 : a.eval (.tmp 14) = .pointer none), -⟩ := hf
      exact sg_plain rfl rfl (or_call cf15 (args1 f_14) (heap_TopNil_w _   ((0, 0, 0), false) rfl) post_val)
    refine steps_cons (fun own a wx hf hsl hE => ?_) ?_
    · obtain ⟨(f_15 : a.eval (.tmp 15) = .tuple #[.agg #[.int .i64 ((((0, 0, 0), false).1).1), .int .i64 ((((0, 0, 0), false).1).2.1), .int .i64 ((((0, 0, 0), false).1).2.2)], .bool (((0, 0, 0), false).2)]), -⟩ := hf
      exact sg_plain rfl rfl (or_move f_15)
    refine steps_cons (fun own a wx hf hsl hE => ?_) ?_
    · obtain ⟨(f_13 : a.eval (.tmp 13) = .tuple #[.agg #[.int .i64 ((((0, 0, 0), false).1).1), .int .i64 ((((0, 0, 0), false).1).2.1), .int .i64 ((((0, 0, 0), false).1).2.2)], .bool (((0, 0, 0), false).2)]), -⟩ := hf
      exact sg_plain rfl rfl (or_k [(13, .tuple #[.agg #[.int .i64 ((((0, 0, 0), false).1).1), .int .i64 ((((0, 0, 0), false).1).2.1), .int .i64 ((((0, 0, 0), false).1).2.2)], .bool (((0, 0, 0), false).2)])] rfl rfl ⟨f_13, trivial⟩ (by kernel_rfl))
    refine steps_cons (fun own a wx hf hsl hE => ?_) ?_
    · obtain ⟨(f_13 : a.eval (.tmp 13) = .tuple #[.agg #[.int .i64 ((((0, 0, 0), false).1).1), .int .i64 ((((0, 0, 0), false).1).2.1), .int .i64 ((((0, 0, 0), false).1).2.2)], .bool (((0, 0, 0), false).2)]), -⟩ := hf
      exact sg_plain rfl rfl (or_k [(13, .tuple #[.agg #[.int .i64 ((((0, 0, 0), false).1).1), .int .i64 ((((0, 0, 0), false).1).2.1), .int .i64 ((((0, 0, 0), false).1).2.2)], .bool (((0, 0, 0), false).2)])] rfl rfl ⟨f_13, trivial⟩ (by kernel_rfl))
    refine steps_cons (fun own a wx hf hsl hE => ?_) ?_
    · exact sg_plain rfl rfl (or_new [] rfl rfl trivial (by kernel_rfl))
    refine steps_cons (fun own a wx hf hsl hE => ?_) ?_
    · obtain ⟨⟨g44, (f_6 : a.eval (.tmp 6) = .pointer (some ⟨g44, 0, none⟩)), (b_g44 : BlkO own 45 wx g44 30 #[.int .i64 0, .int .i64 0, .int .i64 0])⟩, (f_16 : a.eval (.tmp 16) = .agg #[.int .i64 ((((0, 0, 0), false).1).1), .int .i64 ((((0, 0, 0), false).1).2.1), .int .i64 ((((0, 0, 0), false).1).2.2)]), -⟩ := hf
      exact sg_plain rfl rfl (or_store (l := #[.int .i64 ((((0, 0, 0), false).1).1), .int .i64 ((((0, 0, 0), false).1).2.1), .int .i64 ((((0, 0, 0), false).1).2.2)]) (lab := 45) (lab2 := 46) ts30 f_6 f_16 b_g44 (by simp) (by kernel_rfl) (mem_of rfl) (by decide) (by kernel_rfl) (fun own' a' w' ha hb => ⟨_, (ha 6).trans f_6, hb⟩))
    refine steps_cons (fun own a wx hf hsl hE => ?_) ?_
    · obtain ⟨(f_17 : a.eval (.tmp 17) = .bool (((0, 0, 0), false).2)), -⟩ := hf
      exact sg_plain rfl rfl (or_assign f_17)
    exact steps_nil
  intro own47 a47 w47 hd47 hz47 hk47 hf47 hE47
  have e47_1 : a47.eval (.tmp 1) = .pointer (some ⟨g36, 0, none⟩) := (hk47 1 rfl).trans e43_1
  have e47_3 : a47.eval (.tmp 3) = .pointer none := (hk47 3 rfl).trans e43_3
  have e47_4 : a47.eval (.tmp 4) = .pointer (some ⟨g40, 0, none⟩) := (hk47 4 rfl).trans e43_4
  have e47_5 : a47.eval (.tmp 5) = .bool (((0, 0, 0), false).2) := (hk47 5 rfl).trans e43_5
  obtain ⟨⟨g44, (f_6 : a47.eval (.tmp 6) = .pointer (some ⟨g44, 0, none⟩)), (b_g44 : BlkO own47 46 w47 g44 30 #[.int .i64 ((((0, 0, 0), false).1).1), .int .i64 ((((0, 0, 0), false).1).2.1), .int .i64 ((((0, 0, 0), false).1).2.2)])⟩, (f_7 : a47.eval (.tmp 7) = .bool (((0, 0, 0), false).2)), -⟩ := hf47 [6, 7] rfl
  have e47_6 := f_6
  have e47_7 := f_7
  have hX47 := Evo.step hX43 (fun _ => Nat.le_refl 0) hE47 rfl
  have b47_g36 := BlkO.evo (by decide) hE47 b43_g36
  have b47_g40 := BlkO.evo (by decide) hE47 b43_g40
  have b47_g44 := b_g44
  obtain ⟨r48, hr48, hs⟩ := obind hs
  obtain ⟨x51, hx51, hs⟩ := obind hs
  obtain ⟨x52, hx52, hs⟩ := obind hs
  obtain ⟨r55, hr55, hs⟩ := obind hs
  obtain ⟨x56, hx56, hs⟩ := obind hs
  obtain ⟨x59, hx59, hs⟩ := obind hs
  refine rg_plain_seq (n := 62) (rs := []) (own0 := own47) (K := [])
      (bs := [0, 1, 3, 3, 11, 31, 63, 127, 255, 511, 511, 2047, 4095, 8191, 16383, 32767, 65535, 131071, 262143, 262143, 1048575, 2097151, 4194303, 8388607, 16777215, 33554431, 67108863, 134217727, 134217727, 402653183, 1073741823, 2147483647, 4294967295, 8589934591, 17179869183, 34359738367, 68719476735, 137438953471, 274877906943, 549755813887, 1099511627775, 2199023255551, 4398046511103, 8796093022207, 17592186044415])
      (ds := [⟨[], [], [], Fct.val 18 (.bool r48)⟩,
      ⟨[0], [], [], Fct.val 19 (.bool r48)⟩,
      ⟨[1], [3], [], Fct.cond r48 (some 20) (Fct.val 20 (.pointer none))⟩,
      ⟨[1], [1], [], Fct.cond r48 (some 21) (Fct.val 21 (.agg #[.int .i64 x1.1, .int .i64 x1.2.1, .int .i64 x1.2.2]))⟩,
      ⟨[1, 3], [], [], Fct.cond r48 (some 22) (Fct.row 50 [] 22 30 R30 [x1])⟩,
      ⟨[1, 2, 4], [], [], Fct.cond r48 (some 23) (Fct.val 23 (.int .i64 0))⟩,
      ⟨[1, 5], [], [], Fct.cond r48 (some 24) (Fct.val 24 (.bool true))⟩,
      ⟨[1, 6], [], [], Fct.val 25 (.bool (r48 && true))⟩,
      ⟨[7], [], [], Fct.val 26 (.bool (r48 && true))⟩,
      ⟨[8], [4], [], Fct.cond (r48 && true) (some 27) (Fct.val 27 (.agg #[.int .i64 ((((0, 0, 0), false).1).1), .int .i64 ((((0, 0, 0), false).1).2.1), .int .i64 ((((0, 0, 0), false).1).2.2)]))⟩,
      ⟨[8], [], [], Fct.cond (r48 && true) (some 28) (Fct.val 28 (.agg #[.int .i64 0, .int .i64 0, .int .i64 0]))⟩,
      ⟨[8, 9, 10], [], [], Fct.cond (r48 && true) (some 29) (Fct.val 29 (.bool (decide ((((0, 0, 0), false).1) = (0, 0, 0)))))⟩,
      ⟨[8, 11], [], [], Fct.val 30 (.bool x51)⟩,
      ⟨[12], [], [], Fct.val 31 (.bool x51)⟩,
      ⟨[13], [5], [], Fct.cond x51 (some 32) (Fct.val 32 (.bool (((0, 0, 0), false).2)))⟩,
      ⟨[13, 14], [], [], Fct.cond x51 (some 33) (Fct.val 33 (.bool (!(((0, 0, 0), false).2))))⟩,
      ⟨[13, 15], [], [], Fct.val 34 (.bool (x51 && (!(((0, 0, 0), false).2))))⟩,
      ⟨[16], [], [], Fct.val 35 (.bool (x51 && (!(((0, 0, 0), false).2))))⟩,
      ⟨[17], [6], [], Fct.cond (x51 && (!(((0, 0, 0), false).2))) (some 36) (Fct.val 36 (.agg #[.int .i64 ((((0, 0, 0), false).1).1), .int .i64 ((((0, 0, 0), false).1).2.1), .int .i64 ((((0, 0, 0), false).1).2.2)]))⟩,
      ⟨[17], [], [], Fct.cond (x51 && (!(((0, 0, 0), false).2))) (some 37) (Fct.val 37 (.agg #[.int .i64 0, .int .i64 0, .int .i64 0]))⟩,
      ⟨[17, 18, 19], [], [], Fct.cond (x51 && (!(((0, 0, 0), false).2))) (some 38) (Fct.val 38 (.bool (decide ((((0, 0, 0), false).1) = (0, 0, 0)))))⟩,
      ⟨[17, 20], [], [], Fct.val 39 (.bool x52)⟩,
      ⟨[21], [], [], Fct.val 40 (.bool x52)⟩,
      ⟨[22], [7], [], Fct.cond x52 (some 41) (Fct.val 41 (.bool (((0, 0, 0), false).2)))⟩,
      ⟨[22, 23], [], [], Fct.cond x52 (some 42) (Fct.val 42 (.bool (!(((0, 0, 0), false).2))))⟩,
      ⟨[22, 24], [], [], Fct.val 43 (.bool (x52 && (!(((0, 0, 0), false).2))))⟩,
      ⟨[25], [], [], Fct.val 44 (.bool (x52 && (!(((0, 0, 0), false).2))))⟩,
      ⟨[26], [3], [], Fct.cond (x52 && (!(((0, 0, 0), false).2))) (some 45) (Fct.val 45 (.pointer none))⟩,
      ⟨[26], [1], [], Fct.cond (x52 && (!(((0, 0, 0), false).2))) (some 46) (Fct.val 46 (.agg #[.int .i64 x1.1, .int .i64 x1.2.1, .int .i64 x1.2.2]))⟩,
      ⟨[26, 28], [], [], Fct.cond (x52 && (!(((0, 0, 0), false).2))) (some 47) (Fct.row 54 [] 47 30 R30 [x1])⟩,
      ⟨[26, 27, 29], [], [], Fct.cond (x52 && (!(((0, 0, 0), false).2))) (some 48) (Fct.val 48 (.int .i64 r55))⟩,
      ⟨[26, 30], [], [], Fct.cond (x52 && (!(((0, 0, 0), false).2))) (some 49) (Fct.val 49 (.bool (decide (r55 = 0))))⟩,
      ⟨[26, 31], [], [], Fct.val 50 (.bool x56)⟩,
      ⟨[32], [], [], Fct.val 51 (.bool x56)⟩,
      ⟨[33], [3], [], Fct.cond x56 (some 52) (Fct.val 52 (.pointer none))⟩,
      ⟨[33, 34], [], [], Fct.cond x56 (some 53) (Fct.val 53 (.int .i64 0))⟩,
      ⟨[33, 35], [], [], Fct.cond x56 (some 54) (Fct.val 54 (.bool true))⟩,
      ⟨[33, 36], [], [], Fct.val 55 (.bool (x56 && true))⟩,
      ⟨[37], [], [], Fct.val 56 (.bool (x56 && true))⟩,
      ⟨[38], [3], [], Fct.cond (x56 && true) (some 57) (Fct.val 57 (.pointer none))⟩,
      ⟨[38, 39], [], [], Fct.cond (x56 && true) (some 58) (Fct.row 58 [] 58 30 R30 ([] : List (Int × Int × Int)))⟩,
      ⟨[38, 40], [], [], Fct.cond (x56 && true) (some 59) (Fct.val 59 (.int .i64 (([] : List (Int × Int × Int)).length : Int)))⟩,
      ⟨[38, 41], [], [], Fct.cond (x56 && true) (some 60) (Fct.val 60 (.bool (decide ((([] : List (Int × Int × Int)).length : Int) = 0))))⟩,
      ⟨[38, 42], [], [], Fct.val 61 (.bool x59)⟩,
      ⟨[43], [], [], Fct.val 2 (.bool x59)⟩]) (by kernel_rfl) hz47 hd47 (fun _ h => nomatch h) ?_ ?_
  · refine steps_cons (fun own a wx hf hsl hE => ?_) ?_
    · exact sg_plain rfl rfl (or_call cf10 (args0) (law05_known_w _   r48 hr48) post_val)
    refine steps_cons (fun own a wx hf hsl hE => ?_) ?_
    · obtain ⟨(f_18 : a.eval (.tmp 18) = .bool r48), -⟩ := hf
      exact sg_plain rfl rfl (or_move f_18)
    refine steps_cons (fun own a wx hf hsl hE => ?_) ?_
    · obtain ⟨(f_19 : a.eval (.tmp 19) = .bool r48), -⟩ := hf
      obtain ⟨s_3, -⟩ := hsl
      refine sg_t rfl rfl rfl f_19 (fun hg => ?_)
      exact or_move (s_3.trans e47_3)
    refine steps_cons (fun own a wx hf hsl hE => ?_) ?_
    · obtain ⟨(f_19 : a.eval (.tmp 19) = .bool r48), -⟩ := hf
      obtain ⟨s_1, -⟩ := hsl
      refine sg_t rfl rfl rfl f_19 (fun hg => ?_)
      exact or_load (l := [.int .i64 x1.1, .int .i64 x1.2.1, .int .i64 x1.2.2]) ta30 (s_1.trans e47_1) (Blk.cellsFrom (BlkO.evo (by decide) hE b47_g36).2 0 rfl) rfl
    refine steps_cons (fun own a wx hf hsl hE => ?_) ?_
    · obtain ⟨(f_19 : a.eval (.tmp 19) = .bool r48), c_21, -⟩ := hf
      refine sg_t rfl rfl rfl f_19 (fun hg => ?_)
      have f_21 : a.eval (.tmp 21) = .agg #[.int .i64 x1.1, .int .i64 x1.2.1, .int .i64 x1.2.2] := c_21.1 hg
      exact or_lit (lab := 50) (e := 30) (cs := #[.int .i64 x1.1, .int .i64 x1.2.1, .int .i64 x1.2.2]) (F := E30) (or_new [(21, .agg #[.int .i64 x1.1, .int .i64 x1.2.1, .int .i64 x1.2.2])] rfl rfl ⟨f_21, trivial⟩ (by kernel_rfl)) rfl rfl (show 1 ≤ maxLen by decide)
    refine steps_cons (fun own a wx hf hsl hE => ?_) ?_
    · obtain ⟨(f_19 : a.eval (.tmp 19) = .bool r48), c_20, c_22, -⟩ := hf
      refine sg_t rfl rfl rfl f_19 (fun hg => ?_)
      have f_20 : a.eval (.tmp 20) = .pointer none := c_20.1 hg
      obtain ⟨⟨A49, cA49⟩, (f_22 : a.eval (.tmp 22) = .slice A49 [x1].length cA49), (b_A49 : RwO own 50 [] wx 30 R30 A49 cA49 [x1])⟩ := c_22.1 hg
      exact or_call cf6 (args2 f_20 f_22) (heap_PushNil_w _ [x1] A49 cA49 (RdO.zero (RwO.rd b_A49)) 0 rfl) post_val
    refine steps_cons (fun own a wx hf hsl hE => ?_) ?_
    · obtain ⟨(f_19 : a.eval (.tmp 19) = .bool r48), c_23, -⟩ := hf
      refine sg_t rfl rfl rfl f_19 (fun hg => ?_)
      have f_23 : a.eval (.tmp 23) = .int .i64 0 := c_23.1 hg
      exact or_eql f_23 rfl (by decide)
    refine steps_cons (fun own a wx hf hsl hE => ?_) ?_
    · obtain ⟨(f_19 : a.eval (.tmp 19) = .bool r48), c_24, -⟩ := hf
      exact sg_plain rfl rfl (or_and f_19 (fun hx => c_24.1 hx) rfl rfl)
    refine steps_cons (fun own a wx hf hsl hE => ?_) ?_
    · obtain ⟨(f_25 : a.eval (.tmp 25) = .bool (r48 && true)), -⟩ := hf
      exact sg_plain rfl rfl (or_move f_25)
    refine steps_cons (fun own a wx hf hsl hE => ?_) ?_
    · obtain ⟨(f_26 : a.eval (.tmp 26) = .bool (r48 && true)), -⟩ := hf
      obtain ⟨s_4, -⟩ := hsl
      refine sg_t rfl rfl rfl f_26 (fun hg => ?_)
      exact or_load (l := [.int .i64 ((((0, 0, 0), false).1).1), .int .i64 ((((0, 0, 0), false).1).2.1), .int .i64 ((((0, 0, 0), false).1).2.2)]) ta30 (s_4.trans e47_4) (Blk.cellsFrom (BlkO.evo (by decide) hE b47_g40).2 0 rfl) rfl
    refine steps_cons (fun own a wx hf hsl hE => ?_) ?_
    · obtain ⟨(f_26 : a.eval (.tmp 26) = .bool (r48 && true)), -⟩ := hf
      refine sg_t rfl rfl rfl f_26 (fun hg => ?_)
      exact or_k [] rfl rfl trivial (by kernel_rfl)
    refine steps_cons (fun own a wx hf hsl hE => ?_) ?_
    · obtain ⟨(f_26 : a.eval (.tmp 26) = .bool (r48 && true)), c_27, c_28, -⟩ := hf
      refine sg_t rfl rfl rfl f_26 (fun hg => ?_)
      have f_27 : a.eval (.tmp 27) = .agg #[.int .i64 ((((0, 0, 0), false).1).1), .int .i64 ((((0, 0, 0), false).1).2.1), .int .i64 ((((0, 0, 0), false).1).2.2)] := c_27.1 hg
      have f_28 : a.eval (.tmp 28) = .agg #[.int .i64 0, .int .i64 0, .int .i64 0] := c_28.1 hg
      exact or_eqlA sg30 f_27 f_28 (se30 ((((0, 0, 0), false).1).1) ((((0, 0, 0), false).1).2.1) ((((0, 0, 0), false).1).2.2) 0 0 0 _) rfl
    refine steps_cons (fun own a wx hf hsl hE => ?_) ?_
    · obtain ⟨(f_26 : a.eval (.tmp 26) = .bool (r48 && true)), c_29, -⟩ := hf
      exact sg_plain rfl rfl (or_and f_26 (fun hx => c_29.1 hx) rfl (osome hx51).symm)
    refine steps_cons (fun own a wx hf hsl hE => ?_) ?_
    · obtain ⟨(f_30 : a.eval (.tmp 30) = .bool x51), -⟩ := hf
      exact sg_plain rfl rfl (or_move f_30)
    refine steps_cons (fun own a wx hf hsl hE => ?_) ?_
    · obtain ⟨(f_31 : a.eval (.tmp 31) = .bool x51), -⟩ := hf
      obtain ⟨s_5, -⟩ := hsl
      refine sg_t rfl rfl rfl f_31 (fun hg => ?_)
      exact or_move (s_5.trans e47_5)
    refine steps_cons (fun own a wx hf hsl hE => ?_) ?_
    · obtain ⟨(f_31 : a.eval (.tmp 31) = .bool x51), c_32, -⟩ := hf
      refine sg_t rfl rfl rfl f_31 (fun hg => ?_)
      have f_32 : a.eval (.tmp 32) = .bool (((0, 0, 0), false).2) := c_32.1 hg
      exact or_not f_32 rfl
    refine steps_cons (fun own a wx hf hsl hE => ?_) ?_
    · obtain ⟨(f_31 : a.eval (.tmp 31) = .bool x51), c_33, -⟩ := hf
      exact sg_plain rfl rfl (or_and f_31 (fun hx => c_33.1 hx) rfl rfl)
    refine steps_cons (fun own a wx hf hsl hE => ?_) ?_
    · obtain ⟨(f_34 : a.eval (.tmp 34) = .bool (x51 && (!(((0, 0, 0), false).2)))), -⟩ := hf
      exact sg_plain rfl rfl (or_move f_34)
    refine steps_cons (fun own a wx hf hsl hE => ?_) ?_
    · obtain ⟨(f_35 : a.eval (.tmp 35) = .bool (x51 && (!(((0, 0, 0), false).2)))), -⟩ := hf
      obtain ⟨s_6, -⟩ := hsl
      refine sg_t rfl rfl rfl f_35 (fun hg => ?_)
      exact or_load (l := [.int .i64 ((((0, 0, 0), false).1).1), .int .i64 ((((0, 0, 0), false).1).2.1), .int .i64 ((((0, 0, 0), false).1).2.2)]) ta30 (s_6.trans e47_6) (Blk.cellsFrom (BlkO.evo (by decide) hE b47_g44).2 0 rfl) rfl
    refine steps_cons (fun own a wx hf hsl hE => ?_) ?_
    · obtain ⟨(f_35 : a.eval (.tmp 35) = .bool (x51 && (!(((0, 0, 0), false).2)))), -⟩ := hf
      refine sg_t rfl rfl rfl f_35 (fun hg => ?_)
      exact or_k [] rfl rfl trivial (by kernel_rfl)
    refine steps_cons (fun own a wx hf hsl hE => ?_) ?_
    · obtain ⟨(f_35 : a.eval (.tmp 35) = .bool (x51 && (!(((0, 0, 0), false).2)))), c_36, c_37, -⟩ := hf
      refine sg_t rfl rfl rfl f_35 (fun hg => ?_)
      have f_36 : a.eval (.tmp 36) = .agg #[.int .i64 ((((0, 0, 0), false).1).1), .int .i64 ((((0, 0, 0), false).1).2.1), .int .i64 ((((0, 0, 0), false).1).2.2)] := c_36.1 hg
      have f_37 : a.eval (.tmp 37) = .agg #[.int .i64 0, .int .i64 0, .int .i64 0] := c_37.1 hg
      exact or_eqlA sg30 f_36 f_37 (se30 ((((0, 0, 0), false).1).1) ((((0, 0, 0), false).1).2.1) ((((0, 0, 0), false).1).2.2) 0 0 0 _) rfl
    refine steps_cons (fun own a wx hf hsl hE => ?_) ?_
    · obtain ⟨(f_35 : a.eval (.tmp 35) = .bool (x51 && (!(((0, 0, 0), false).2)))), c_38, -⟩ := hf
      exact sg_plain rfl rfl (or_and f_35 (fun hx => c_38.1 hx) rfl (osome hx52).symm)
    refine steps_cons (fun own a wx hf hsl hE => ?_) ?_
    · obtain ⟨(f_39 : a.eval (.tmp 39) = .bool x52), -⟩ := hf
      exact sg_plain rfl rfl (or_move f_39)
    refine steps_cons (fun own a wx hf hsl hE => ?_) ?_
    · obtain ⟨(f_40 : a.eval (.tmp 40) = .bool x52), -⟩ := hf
      obtain ⟨s_7, -⟩ := hsl
      refine sg_t rfl rfl rfl f_40 (fun hg => ?_)
      exact or_move (s_7.trans e47_7)
    refine steps_cons (fun own a wx hf hsl hE => ?_) ?_
    · obtain ⟨(f_40 : a.eval (.tmp 40) = .bool x52), c_41, -⟩ := hf
      refine sg_t rfl rfl rfl f_40 (fun hg => ?_)
      have f_41 : a.eval (.tmp 41) = .bool (((0, 0, 0), false).2) := c_41.1 hg
      exact or_not f_41 rfl
    refine steps_cons (fun own a wx hf hsl hE => ?_) ?_
    · obtain ⟨(f_40 : a.eval (.tmp 40) = .bool x52), c_42, -⟩ := hf
      exact sg_plain rfl rfl (or_and f_40 (fun hx => c_42.1 hx) rfl rfl)
    refine steps_cons (fun own a wx hf hsl hE => ?_) ?_
    · obtain ⟨(f_43 : a.eval (.tmp 43) = .bool (x52 && (!(((0, 0, 0), false).2)))), -⟩ := hf
      exact sg_plain rfl rfl (or_move f_43)
    refine steps_cons (fun own a wx hf hsl hE => ?_) ?_
    · obtain ⟨(f_44 : a.eval (.tmp 44) = .bool (x52 && (!(((0, 0, 0), false).2)))), -⟩ := hf
      obtain ⟨s_3, -⟩ := hsl
      refine sg_t rfl rfl rfl f_44 (fun hg => ?_)
      exact or_move (s_3.trans e47_3)
    refine steps_cons (fun own a wx hf hsl hE => ?_) ?_
    · obtain ⟨(f_44 : a.eval (.tmp 44) = .bool (x52 && (!(((0, 0, 0), false).2)))), -⟩ := hf
      obtain ⟨s_1, -⟩ := hsl
      refine sg_t rfl rfl rfl f_44 (fun hg => ?_)
      exact or_load (l := [.int .i64 x1.1, .int .i64 x1.2.1, .int .i64 x1.2.2]) ta30 (s_1.trans e47_1) (Blk.cellsFrom (BlkO.evo (by decide) hE b47_g36).2 0 rfl) rfl
    refine steps_cons (fun own a wx hf hsl hE => ?_) ?_
    · obtain ⟨(f_44 : a.eval (.tmp 44) = .bool (x52 && (!(((0, 0, 0), false).2)))), c_46, -⟩ := hf
      refine sg_t rfl rfl rfl f_44 (fun hg => ?_)
      have f_46 : a.eval (.tmp 46) = .agg #[.int .i64 x1.1, .int .i64 x1.2.1, .int .i64 x1.2.2] := c_46.1 hg
      exact or_lit (lab := 54) (e := 30) (cs := #[.int .i64 x1.1, .int .i64 x1.2.1, .int .i64 x1.2.2]) (F := E30) (or_new [(46, .agg #[.int .i64 x1.1, .int .i64 x1.2.1, .int .i64 x1.2.2])] rfl rfl ⟨f_46, trivial⟩ (by kernel_rfl)) rfl rfl (show 1 ≤ maxLen by decide)
    refine steps_cons (fun own a wx hf hsl hE => ?_) ?_
    · obtain ⟨(f_44 : a.eval (.tmp 44) = .bool (x52 && (!(((0, 0, 0), false).2)))), c_45, c_47, -⟩ := hf
      refine sg_t rfl rfl rfl f_44 (fun hg => ?_)
      have f_45 : a.eval (.tmp 45) = .pointer none := c_45.1 hg
      obtain ⟨⟨A53, cA53⟩, (f_47 : a.eval (.tmp 47) = .slice A53 [x1].length cA53), (b_A53 : RwO own 54 [] wx 30 R30 A53 cA53 [x1])⟩ := c_47.1 hg
      exact or_call cf13 (args2 f_45 f_47) (heap_DropNil_w _ [x1] A53 cA53 (RdO.zero (RwO.rd b_A53)) r55 (gd_t hr55 hg)) post_val
    refine steps_cons (fun own a wx hf hsl hE => ?_) ?_
    · obtain ⟨(f_44 : a.eval (.tmp 44) = .bool (x52 && (!(((0, 0, 0), false).2)))), c_48, -⟩ := hf
      refine sg_t rfl rfl rfl f_44 (fun hg => ?_)
      have f_48 : a.eval (.tmp 48) = .int .i64 r55 := c_48.1 hg
      exact or_eql f_48 rfl rfl
    refine steps_cons (fun own a wx hf hsl hE => ?_) ?_
    · obtain ⟨(f_44 : a.eval (.tmp 44) = .bool (x52 && (!(((0, 0, 0), false).2)))), c_49, -⟩ := hf
      exact sg_plain rfl rfl (or_and f_44 (fun hx => c_49.1 hx) rfl (osome hx56).symm)
    refine steps_cons (fun own a wx hf hsl hE => ?_) ?_
    · obtain ⟨(f_50 : a.eval (.tmp 50) = .bool x56), -⟩ := hf
      exact sg_plain rfl rfl (or_move f_50)
    refine steps_cons (fun own a wx hf hsl hE => ?_) ?_
    · obtain ⟨(f_51 : a.eval (.tmp 51) = .bool x56), -⟩ := hf
      obtain ⟨s_3, -⟩ := hsl
      refine sg_t rfl rfl rfl f_51 (fun hg => ?_)
      exact or_move (s_3.trans e47_3)
    refine steps_cons (fun own a wx hf hsl hE => ?_) ?_
    · obtain ⟨(f_51 : a.eval (.tmp 51) = .bool x56), c_52, -⟩ := hf
      refine sg_t rfl rfl rfl f_51 (fun hg => ?_)
      have f_52 : a.eval (.tmp 52) = .pointer none := c_52.1 hg
      exact or_call cf11 (args1 f_52) (heap_LenNil_w _   0 rfl) post_val
    refine steps_cons (fun own a wx hf hsl hE => ?_) ?_
    · obtain ⟨(f_51 : a.eval (.tmp 51) = .bool x56), c_53, -⟩ := hf
      refine sg_t rfl rfl rfl f_51 (fun hg => ?_)
      have f_53 : a.eval (.tmp 53) = .int .i64 0 := c_53.1 hg
      exact or_eql f_53 rfl (by decide)
    refine steps_cons (fun own a wx hf hsl hE => ?_) ?_
    · obtain ⟨(f_51 : a.eval (.tmp 51) = .bool x56), c_54, -⟩ := hf
      exact sg_plain rfl rfl (or_and f_51 (fun hx => c_54.1 hx) rfl rfl)
    refine steps_cons (fun own a wx hf hsl hE => ?_) ?_
    · obtain ⟨(f_55 : a.eval (.tmp 55) = .bool (x56 && true)), -⟩ := hf
      exact sg_plain rfl rfl (or_move f_55)
    refine steps_cons (fun own a wx hf hsl hE => ?_) ?_
    · obtain ⟨(f_56 : a.eval (.tmp 56) = .bool (x56 && true)), -⟩ := hf
      obtain ⟨s_3, -⟩ := hsl
      refine sg_t rfl rfl rfl f_56 (fun hg => ?_)
      exact or_move (s_3.trans e47_3)
    refine steps_cons (fun own a wx hf hsl hE => ?_) ?_
    · obtain ⟨(f_56 : a.eval (.tmp 56) = .bool (x56 && true)), c_57, -⟩ := hf
      refine sg_t rfl rfl rfl f_56 (fun hg => ?_)
      have f_57 : a.eval (.tmp 57) = .pointer none := c_57.1 hg
      exact or_call cf17 (args1 f_57) (heap_AllNil_w _   ([] : List (Int × Int × Int)) rfl) (post_row (m' := (look0 [(1, 58)])) (.inl (Rep.fl_flat _)) rfl rfl (fun _ => rfl))
    refine steps_cons (fun own a wx hf hsl hE => ?_) ?_
    · obtain ⟨(f_56 : a.eval (.tmp 56) = .bool (x56 && true)), c_58, -⟩ := hf
      refine sg_t rfl rfl rfl f_56 (fun hg => ?_)
      obtain ⟨⟨A57, cA57⟩, (f_58 : a.eval (.tmp 58) = .slice A57 ([] : List (Int × Int × Int)).length cA57), (b_A57 : RwO own 58 [] wx 30 R30 A57 cA57 ([] : List (Int × Int × Int)))⟩ := c_58.1 hg
      exact or_len tu22 f_58 rfl
    refine steps_cons (fun own a wx hf hsl hE => ?_) ?_
    · obtain ⟨(f_56 : a.eval (.tmp 56) = .bool (x56 && true)), c_59, -⟩ := hf
      refine sg_t rfl rfl rfl f_56 (fun hg => ?_)
      have f_59 : a.eval (.tmp 59) = .int .i64 (([] : List (Int × Int × Int)).length : Int) := c_59.1 hg
      exact or_eql f_59 rfl rfl
    refine steps_cons (fun own a wx hf hsl hE => ?_) ?_
    · obtain ⟨(f_56 : a.eval (.tmp 56) = .bool (x56 && true)), c_60, -⟩ := hf
      exact sg_plain rfl rfl (or_and f_56 (fun hx => c_60.1 hx) rfl (osome hx59).symm)
    refine steps_cons (fun own a wx hf hsl hE => ?_) ?_
    · obtain ⟨(f_61 : a.eval (.tmp 61) = .bool x59), -⟩ := hf
      exact sg_plain rfl rfl (or_assign f_61)
    exact steps_nil
  intro own60 a60 w60 hd60 hz60 hk60 hf60 hE60
  obtain ⟨(f_2 : a60.eval (.tmp 2) = .bool x59), -⟩ := hf60 [44] rfl
  have e60_2 := f_2
  have hX60 := Evo.step hX47 (fun _ => Nat.le_refl 0) hE60 rfl
  refine fl_ret ?_
  obtain rfl := osome hs
  exact hret _ _ _ _ (.inl rfl) hd60 (results1_ rfl (RVal.tmp_ e60_2)) ⟨own60, rfl, hX60⟩

theorem law05_HeapRises_w (w : World) (l1 : List (Int × Int × Int)) (Al1 : Option Addr) (cl1 : Nat) (hl1 : RdO (fun _ => 0) [0] w R30 Al1 cl1 l1) (r : Bool) (hs : law05_HeapRises l1 = some r) :
    Calls Try.prog 3 #[.slice Al1 l1.length cl1] w fun e w' => ∃ own' : Own, e = .returned (.bool r) ∧ Evo [] (fun _ => 0) own' w w' := by
  refine fl_enter (n := 91) rfl rfl rfl (Nat.le_of_ble_eq_true rfl) ?_
  intro a0 Q hd0 hz0 harg hret
  have ha0 := harg 0 _ rfl
  clear harg
  have hE0 : Evo [] (fun _ => 0) (fun _ => 0) w w := Evo.refl _ _ _
  refine rg_plain_seq (n := 91) (rs := []) (own0 := (fun _ => 0)) (K := [])
      (bs := [0])
      (ds := [⟨[], [], [], Fct.val 2 (.bool false)⟩]) (by kernel_rfl) hz0 hd0 (fun _ h => nomatch h) ?_ ?_
  · refine steps_cons (fun own a wx hf hsl hE => ?_) ?_
    · exact sg_plain rfl rfl (or_assign rfl)
    exact steps_nil
  intro own871 a871 w871 hd871 hz871 hk871 hf871 hE871
  have e871_0 : a871.eval (.tmp 0) = .slice Al1 l1.length cl1 := (hk871 0 rfl).trans ha0
  have hX871 := Evo.step hE0 (fun _ => Nat.le_refl 0) hE871 rfl
  have b871_Al1 := RdO.evo rfl hE871 hl1
  obtain ⟨x872, hx872, hs⟩ := obind hs
  refine rg_plain_seq (n := 91) (rs := []) (own0 := own871) (K := [])
      (bs := [0, 0, 2, 6, 15, 31])
      (ds := [⟨[], [0], [], Fct.val 11 (.slice Al1 l1.length cl1)⟩,
      ⟨[], [0], [], Fct.val 12 (.slice Al1 l1.length cl1)⟩,
      ⟨[1], [], [], Fct.val 13 (.int .i64 (l1.length : Int))⟩,
      ⟨[2], [], [], Fct.val 14 (.int .i64 (mn (l1.length : Int) 100))⟩,
      ⟨[0, 3], [], [], Fct.view [0] 15 R30 x872⟩,
      ⟨[4], [], [], Fct.rel [0, 15] (fun l => ∀ (A873 : Option Addr) (cA873 : Nat), l.getD 1 undef = .slice A873 x872.length cA873 → l.getD 0 undef = .slice A873 x872.length cA873)⟩]) (by kernel_rfl) hz871 hd871 (fun _ h => nomatch h) ?_ ?_
  · refine steps_cons (fun own a wx hf hsl hE => ?_) ?_
    · obtain ⟨s_0, -⟩ := hsl
      exact sg_plain rfl rfl (or_move (s_0.trans e871_0))
    refine steps_cons (fun own a wx hf hsl hE => ?_) ?_
    · obtain ⟨s_0, -⟩ := hsl
      exact sg_plain rfl rfl (or_move (s_0.trans e871_0))
    refine steps_cons (fun own a wx hf hsl hE => ?_) ?_
    · obtain ⟨(f_12 : a.eval (.tmp 12) = .slice Al1 l1.length cl1), -⟩ := hf
      exact sg_plain rfl rfl (or_len tu22 f_12 rfl)
    refine steps_cons (fun own a wx hf hsl hE => ?_) ?_
    · obtain ⟨(f_13 : a.eval (.tmp 13) = .int .i64 (l1.length : Int)), -⟩ := hf
      exact sg_plain rfl rfl (or_min f_13 rfl)
    refine steps_cons (fun own a wx hf hsl hE => ?_) ?_
    · obtain ⟨(f_11 : a.eval (.tmp 11) = .slice Al1 l1.length cl1), (f_14 : a.eval (.tmp 14) = .int .i64 (mn (l1.length : Int) 100)), -⟩ := hf
      exact sg_plain rfl rfl (or_view (R := R30) (l := l1) (L := [0]) tu22 ts30 f_11 Bnd.none_ (Bnd.some_ f_14) Bnd.none_ (RdO.evo rfl hE b871_Al1) hx872 (.inl rfl) (by simp))
    refine steps_cons (fun own a wx hf hsl hE => ?_) ?_
    · obtain ⟨⟨⟨A873, cA873⟩, (f_15 : a.eval (.tmp 15) = .slice A873 x872.length cA873), (b_A873 : RdO own [0] wx R30 A873 cA873 x872)⟩, -⟩ := hf
      exact sg_plain rfl rfl (or_mono (f := Fct.val 0 (.slice A873 x872.length cA873)) (or_assign f_15) (fun own' a' w' v' hp h => fun _ _ h0' => by cases (f_15.symm.trans ((hp.2 15 (by decide)).symm.trans h0')); exact h))
    exact steps_nil
  intro own874 a874 w874 hd874 hz874 hk874 hf874 hE874
  obtain ⟨⟨⟨A873, cA873⟩, (f_15 : a874.eval (.tmp 15) = .slice A873 x872.length cA873), (b_A873 : RdO own874 [0] w874 R30 A873 cA873 x872)⟩, (q_0 : ∀ (A873 : Option Addr) (cA873 : Nat), a874.eval (.tmp 15) = .slice A873 x872.length cA873 → a874.eval (.tmp 0) = .slice A873 x872.length cA873), -⟩ := hf874 [4, 5] rfl
  have f_0 := q_0 _ _ f_15
  have e874_0 := f_0
  have hX874 := Evo.step hX871 (fun _ => Nat.le_refl 0) hE874 rfl
  have b874_A873 := b_A873
  refine rg_plain_seq (n := 91) (rs := []) (own0 := own874) (K := [])
      (bs := [0])
      (ds := [⟨[], [], [], Fct.blk 876 3 (fun g => .pointer (some ⟨g, 0, none⟩)) 26 #[.slice none 0 0]⟩]) (by kernel_rfl) hz874 hd874 (fun _ h => nomatch h) ?_ ?_
  · refine steps_cons (fun own a wx hf hsl hE => ?_) ?_
    · exact sg_plain rfl rfl (or_new [] rfl rfl trivial (by kernel_rfl))
    exact steps_nil
  intro own877 a877 w877 hd877 hz877 hk877 hf877 hE877
  have e877_0 : a877.eval (.tmp 0) = .slice A873 x872.length cA873 := (hk877 0 rfl).trans e874_0
  obtain ⟨⟨g875, (f_3 : a877.eval (.tmp 3) = .pointer (some ⟨g875, 0, none⟩)), (b_g875 : BlkO own877 876 w877 g875 26 #[.slice none 0 0])⟩, -⟩ := hf877 [0] rfl
  have e877_3 := f_3
  have hX877 := Evo.step hX874 (fun _ => Nat.le_refl 0) hE877 rfl
  have b877_A873 := RdO.evo rfl hE877 b874_A873
  have b877_g875 := b_g875
  obtain ⟨r878, hr878, hs⟩ := obind hs
  refine rg_plain_seq (n := 91) (rs := [Fct.at_ 876 g875 26 #[.slice none 0 0]]) (own0 := own877) (K := [876])
      (bs := [0, 1])
      (ds := [⟨[], [0], [], Fct.val 16 (.slice A873 x872.length cA873)⟩,
      ⟨[0, 2], [3], [876], Fct.mems [880, 881] 17 (fun (x : Option Addr × Nat) => .int .i64 r878.1) (fun (x : Option Addr × Nat) own w => RwO own 880 [] w 30 R30 x.1 x.2 r878.2 ∧ BlkO own 881 w g875 26 #[.slice x.1 r878.2.length x.2]) (fun hk he h => ⟨RwO.evo (hits_sub hk (by decide)) he h.1, BlkO.evo (not_hit hk (by decide)) he h.2⟩)⟩]) (by kernel_rfl) hz877 hd877 (by simp only [List.forall_mem_cons]; exact ⟨b877_g875, fun _ h => nomatch h⟩) ?_ ?_
  · refine steps_cons (fun own a wx hf hsl hE => ?_) ?_
    · obtain ⟨s_0, -⟩ := hsl
      exact sg_plain rfl rfl (or_move (s_0.trans e877_0))
    refine steps_cons (fun own a wx hf hsl hE => ?_) ?_
    · obtain ⟨(f_16 : a.eval (.tmp 16) = .slice A873 x872.length cA873), (b_g875 : BlkO own 876 wx g875 26 #[.slice none 0 0]), -⟩ := hf
      obtain ⟨s_3, -⟩ := hsl
      exact sg_plain rfl rfl (or_call cf6 (args2 (s_3.trans e877_3) f_16) (heap_Heap_Push_w _ (forth own (look0 [(876, 1)])) [] g875 26 none 0 x872 A873 cA873 (look0_le rfl) (BlkO.forth_ (m := (look0 [(876, 1)])) b_g875) RwO.nil_ (RdO.forth_ (m := (look0 [(876, 1)])) (RdO.evo rfl hE b877_A873)) r878 hr878) (post_mems (m := (look0 [(876, 1)])) (m' := (look0 [(1, 881), (2, 880)])) (hm_of rfl) (fun own' w' a' x h1 h => ⟨x, h1, ⟨RwO.back_ h.1 (by decide) (.inl (Rep.fl_flat _)), BlkO.back_ h.2 (by decide)⟩⟩)))
    exact steps_nil
  intro own882 a882 w882 hd882 hz882 hk882 hf882 hE882
  have e882_0 : a882.eval (.tmp 0) = .slice A873 x872.length cA873 := (hk882 0 rfl).trans e877_0
  have e882_3 : a882.eval (.tmp 3) = .pointer (some ⟨g875, 0, none⟩) := (hk882 3 rfl).trans e877_3
  obtain ⟨⟨⟨A879, cA879⟩, (f_17 : a882.eval (.tmp 17) = .int .i64 r878.1), (b_A879 : RwO own882 880 [] w882 30 R30 A879 cA879 r878.2), (b_g875 : BlkO own882 881 w882 g875 26 #[.slice A879 r878.2.length cA879])⟩, -⟩ := hf882 [1] rfl
  have hX882 := Evo.step hX877 (fun _ => Nat.le_refl 0) hE882 rfl
  have b882_A873 := RdO.evo rfl hE882 b877_A873
  have b882_g875 := b_g875
  have b882_A879 := b_A879
  obtain ⟨r883, hr883, hs⟩ := obind hs
  refine rg_plain_seq (n := 91) (rs := []) (own0 := own882) (K := [])
      (bs := [0, 1, 3])
      (ds := [⟨[], [0], [], Fct.val 18 (.slice A873 x872.length cA873)⟩,
      ⟨[0], [], [], Fct.row 885 [] 19 30 R30 r883⟩,
      ⟨[1], [], [], Fct.rel [4, 19] (fun l => ∀ (A884 : Option Addr) (cA884 : Nat), l.getD 1 undef = .slice A884 r883.length cA884 → l.getD 0 undef = .slice A884 r883.length cA884)⟩]) (by kernel_rfl) hz882 hd882 (fun _ h => nomatch h) ?_ ?_
  · refine steps_cons (fun own a wx hf hsl hE => ?_) ?_
    · obtain ⟨s_0, -⟩ := hsl
      exact sg_plain rfl rfl (or_move (s_0.trans e882_0))
    refine steps_cons (fun own a wx hf hsl hE => ?_) ?_
    · obtain ⟨(f_18 : a.eval (.tmp 18) = .slice A873 x872.length cA873), -⟩ := hf
      exact sg_plain rfl rfl (or_call cf7 (args1 f_18) (heap_Sort_w _ x872 A873 cA873 (RdO.zero (RdO.evo rfl hE b882_A873)) r883 hr883) (post_row (m' := (look0 [(1, 885)])) (.inl (Rep.fl_flat _)) rfl rfl (fun _ => rfl)))
    refine steps_cons (fun own a wx hf hsl hE => ?_) ?_
    · obtain ⟨⟨⟨A884, cA884⟩, (f_19 : a.eval (.tmp 19) = .slice A884 r883.length cA884), (b_A884 : RwO own 885 [] wx 30 R30 A884 cA884 r883)⟩, -⟩ := hf
      exact sg_plain rfl rfl (or_mono (f := Fct.val 4 (.slice A884 r883.length cA884)) (or_assign f_19) (fun own' a' w' v' hp h => fun _ _ h0' => by cases (f_19.symm.trans ((hp.2 19 (by decide)).symm.trans h0')); exact h))
    exact steps_nil
  intro own886 a886 w886 hd886 hz886 hk886 hf886 hE886
  have e886_0 : a886.eval (.tmp 0) = .slice A873 x872.length cA873 := (hk886 0 rfl).trans e882_0
  have e886_3 : a886.eval (.tmp 3) = .pointer (some ⟨g875, 0, none⟩) := (hk886 3 rfl).trans e882_3
  obtain ⟨⟨⟨A884, cA884⟩, (f_19 : a886.eval (.tmp 19) = .slice A884 r883.length cA884), (b_A884 : RwO own886 885 [] w886 30 R30 A884 cA884 r883)⟩, (q_4 : ∀ (A884 : Option Addr) (cA884 : Nat), a886.eval (.tmp 19) = .slice A884 r883.length cA884 → a886.eval (.tmp 4) = .slice A884 r883.length cA884), -⟩ := hf886 [1, 2] rfl
  have f_4 := q_4 _ _ f_19
  have e886_4 := f_4
  have hX886 := Evo.step hX882 (fun _ => Nat.le_refl 0) hE886 rfl
  have b886_A873 := RdO.evo rfl hE886 b882_A873
  have b886_g875 := BlkO.evo (by decide) hE886 b882_g875
  have b886_A879 := RwO.evo rfl hE886 b882_A879
  have b886_A884 := b_A884
  refine fl_seq (fun Q887 hn887 hp887 => ?_)
  refine rg_plain_seq (n := 91) (rs := []) (own0 := own886) (K := [])
      (bs := [0, 1, 0, 4, 15])
      (ds := [⟨[], [4], [], Fct.val 20 (.slice A884 r883.length cA884)⟩,
      ⟨[0], [], [], Fct.val 21 (.int .i64 (r883.length : Int))⟩,
      ⟨[], [0], [], Fct.val 22 (.slice A873 x872.length cA873)⟩,
      ⟨[2], [], [], Fct.val 23 (.int .i64 (x872.length : Int))⟩,
      ⟨[1, 3], [], [], Fct.val 24 (.bool (!decide ((r883.length : Int) = (x872.length : Int))))⟩]) (by kernel_rfl) hz886 hd886 (fun _ h => nomatch h) ?_ ?_
  · refine steps_cons (fun own a wx hf hsl hE => ?_) ?_
    · obtain ⟨s_4, -⟩ := hsl
      exact sg_plain rfl rfl (or_move (s_4.trans e886_4))
    refine steps_cons (fun own a wx hf hsl hE => ?_) ?_
    · obtain ⟨(f_20 : a.eval (.tmp 20) = .slice A884 r883.length cA884), -⟩ := hf
      exact sg_plain rfl rfl (or_len tu22 f_20 rfl)
    refine steps_cons (fun own a wx hf hsl hE => ?_) ?_
    · obtain ⟨s_0, -⟩ := hsl
      exact sg_plain rfl rfl (or_move (s_0.trans e886_0))
    refine steps_cons (fun own a wx hf hsl hE => ?_) ?_
    · obtain ⟨(f_22 : a.eval (.tmp 22) = .slice A873 x872.length cA873), -⟩ := hf
      exact sg_plain rfl rfl (or_len tu22 f_22 rfl)
    refine steps_cons (fun own a wx hf hsl hE => ?_) ?_
    · obtain ⟨(f_21 : a.eval (.tmp 21) = .int .i64 (r883.length : Int)), (f_23 : a.eval (.tmp 23) = .int .i64 (x872.length : Int)), -⟩ := hf
      exact sg_plain rfl rfl (or_neq f_21 f_23 rfl)
    exact steps_nil
  intro own888 a888 w888 hd888 hz888 hk888 hf888 hE888
  have e888_0 : a888.eval (.tmp 0) = .slice A873 x872.length cA873 := (hk888 0 rfl).trans e886_0
  have e888_3 : a888.eval (.tmp 3) = .pointer (some ⟨g875, 0, none⟩) := (hk888 3 rfl).trans e886_3
  have e888_4 : a888.eval (.tmp 4) = .slice A884 r883.length cA884 := (hk888 4 rfl).trans e886_4
  obtain ⟨(f_24 : a888.eval (.tmp 24) = .bool (!decide ((r883.length : Int) = (x872.length : Int)))), -⟩ := hf888 [4] rfl
  have e888_24 := f_24
  have hX888 := Evo.step hX886 (fun _ => Nat.le_refl 0) hE888 rfl
  have b888_A873 := RdO.evo rfl hE888 b886_A873
  have b888_g875 := BlkO.evo (by decide) hE888 b886_g875
  have b888_A879 := RwO.evo rfl hE888 b886_A879
  have b888_A884 := RwO.evo rfl hE888 b886_A884
  refine fl_cond e888_24 hs (fun c889 hs => ?_) (fun c889 hs => ?_)
  · refine rg_plain_seq (n := 91) (rs := []) (own0 := own888) (K := [])
        (bs := [0])
        (ds := [⟨[], [], [], Fct.val 2 (.bool false)⟩]) (by kernel_rfl) hz888 hd888 (fun _ h => nomatch h) ?_ ?_
    · refine steps_cons (fun own a wx hf hsl hE => ?_) ?_
      · exact sg_plain rfl rfl (or_assign rfl)
      exact steps_nil
    intro own890 a890 w890 hd890 hz890 hk890 hf890 hE890
    obtain ⟨(f_2 : a890.eval (.tmp 2) = .bool false), -⟩ := hf890 [0] rfl
    have e890_2 := f_2
    have hX890 := Evo.step hX888 (fun _ => Nat.le_refl 0) hE890 rfl
    refine fl_ret ?_
    refine hp887 _ _ _ rfl ?_
    obtain rfl := osome hs
    exact hret _ _ _ _ (.inl rfl) hd890 (results1_ rfl (RVal.tmp_ e890_2)) ⟨own890, rfl, hX890⟩
  refine fl_skip ?_
  refine hn887 _ _ ?_
  refine fl_seq (fun Q891 hn891 hp891 => ?_)
  refine rg_plain_seq (n := 91) (rs := []) (own0 := own888) (K := [])
      (bs := [0])
      (ds := [⟨[], [], [], Fct.val 5 (.int .i64 0)⟩]) (by kernel_rfl) hz888 hd888 (fun _ h => nomatch h) ?_ ?_
  · refine steps_cons (fun own a wx hf hsl hE => ?_) ?_
    · exact sg_plain rfl rfl (or_assign rfl)
    exact steps_nil
  intro own892 a892 w892 hd892 hz892 hk892 hf892 hE892
  have e892_0 : a892.eval (.tmp 0) = .slice A873 x872.length cA873 := (hk892 0 rfl).trans e888_0
  have e892_3 : a892.eval (.tmp 3) = .pointer (some ⟨g875, 0, none⟩) := (hk892 3 rfl).trans e888_3
  have e892_4 : a892.eval (.tmp 4) = .slice A884 r883.length cA884 := (hk892 4 rfl).trans e888_4
  obtain ⟨(f_5 : a892.eval (.tmp 5) = .int .i64 0), -⟩ := hf892 [0] rfl
  have e892_5 := f_5
  have hX892 := Evo.step hX888 (fun _ => Nat.le_refl 0) hE892 rfl
  have b892_A873 := RdO.evo rfl hE892 b888_A873
  have b892_g875 := BlkO.evo (by decide) hE892 b888_g875
  have b892_A879 := RwO.evo rfl hE892 b888_A879
  have b892_A884 := RwO.evo rfl hE892 b888_A884
  refine fl_block (fun Q893 hn893 hx893 hp893 => ?_)
  refine fl_loop (body := (fun s => law05_HeapRises_b1 x872 r883 s.1 s.2)) (z := r) (show loopO _ _ = _ from hs) (fun (s : (List (Int × Int × Int)) × Int) a wx => match s with | (h1172, i1174) => ∃ (ox : Own) (A1170 : Option Addr) (c1171 : Nat), a.defers = [] ∧ a.tmps.size = 91 ∧ a.eval (.tmp 0) = .slice A873 x872.length cA873 ∧ a.eval (.tmp 3) = .pointer (some ⟨g875, 0, none⟩) ∧ a.eval (.tmp 4) = .slice A884 r883.length cA884 ∧ a.eval (.tmp 5) = .int .i64 i1174 ∧ Evo [] (fun _ => 0) ox w wx ∧ RdO ox [0] wx R30 A873 cA873 x872 ∧ BlkO ox 1169 wx g875 26 #[.slice A1170 h1172.length c1171] ∧ RwO ox 1173 [] wx 30 R30 A1170 c1171 h1172 ∧ RwO ox 885 [] wx 30 R30 A884 cA884 r883) ?_ ?_
  · exact ⟨(rl [(880, 1173), (881, 1169)] own892), A879, cA879, hd892, hz892, e892_0, e892_3, e892_4, e892_5, (Evo.rl_ hX892 (fun _ => Nat.le_refl 0) rfl), (RdO.rl_ (mm := [(880, 1173), (881, 1169)]) b892_A873), (BlkO.rl_ (mm := [(880, 1173), (881, 1169)]) b892_g875), (RwO.rl_ (mm := [(880, 1173), (881, 1169)]) b892_A879), (RwO.rl_ (mm := [(880, 1173), (881, 1169)]) b892_A884)⟩
  · rintro ⟨h1172, i1174⟩ zz1451 a1451 w1451 ⟨own1451, A1170, c1171, hd1452, hz1452, e1452_0, e1452_3, e1452_4, e1452_5, hE1452, b1452_A873, b1452_g875, b1452_A1170, b1452_A884⟩ hs Q1451 hn1451 hp1451 hz1451
    have hs : law05_HeapRises_b1 x872 r883 h1172 i1174 = some zz1451 := hs
    refine fl_seq (fun Q1453 hn1453 hp1453 => ?_)
    refine rg_plain_seq (n := 91) (rs := []) (own0 := own1451) (K := [])
        (bs := [0, 0, 2, 7])
        (ds := [⟨[], [5], [], Fct.val 25 (.int .i64 i1174)⟩,
        ⟨[], [4], [], Fct.val 26 (.slice A884 r883.length cA884)⟩,
        ⟨[1], [], [], Fct.val 27 (.int .i64 (r883.length : Int))⟩,
        ⟨[0, 2], [], [], Fct.val 28 (.bool (decide (i1174 < (r883.length : Int))))⟩]) (by kernel_rfl) hz1452 hd1452 (fun _ h => nomatch h) ?_ ?_
    · refine steps_cons (fun own a wx hf hsl hE => ?_) ?_
      · obtain ⟨s_5, -⟩ := hsl
        exact sg_plain rfl rfl (or_move (s_5.trans e1452_5))
      refine steps_cons (fun own a wx hf hsl hE => ?_) ?_
      · obtain ⟨s_4, -⟩ := hsl
        exact sg_plain rfl rfl (or_move (s_4.trans e1452_4))
      refine steps_cons (fun own a wx hf hsl hE => ?_) ?_
      · obtain ⟨(f_26 : a.eval (.tmp 26) = .slice A884 r883.length cA884), -⟩ := hf
        exact sg_plain rfl rfl (or_len tu22 f_26 rfl)
      refine steps_cons (fun own a wx hf hsl hE => ?_) ?_
      · obtain ⟨(f_25 : a.eval (.tmp 25) = .int .i64 i1174), (f_27 : a.eval (.tmp 27) = .int .i64 (r883.length : Int)), -⟩ := hf
        exact sg_plain rfl rfl (or_lss f_25 f_27 rfl)
      exact steps_nil
    intro own1454 a1454 w1454 hd1454 hz1454 hk1454 hf1454 hE1454
    have e1454_0 : a1454.eval (.tmp 0) = .slice A873 x872.length cA873 := (hk1454 0 rfl).trans e1452_0
    have e1454_3 : a1454.eval (.tmp 3) = .pointer (some ⟨g875, 0, none⟩) := (hk1454 3 rfl).trans e1452_3
    have e1454_4 : a1454.eval (.tmp 4) = .slice A884 r883.length cA884 := (hk1454 4 rfl).trans e1452_4
    have e1454_5 : a1454.eval (.tmp 5) = .int .i64 i1174 := (hk1454 5 rfl).trans e1452_5
    obtain ⟨(f_28 : a1454.eval (.tmp 28) = .bool (decide (i1174 < (r883.length : Int)))), -⟩ := hf1454 [3] rfl
    have e1454_28 := f_28
    have hX1454 := Evo.step hE1452 (fun _ => Nat.le_refl 0) hE1454 rfl
    have b1454_A873 := RdO.evo rfl hE1454 b1452_A873
    have b1454_g875 := BlkO.evo (by decide) hE1454 b1452_g875
    have b1454_A1170 := RwO.evo rfl hE1454 b1452_A1170
    have b1454_A884 := RwO.evo rfl hE1454 b1452_A884
    refine fl_cond e1454_28 hs (fun c1455 hs => ?_) (fun c1455 hs => ?_)
    · refine fl_skip ?_
      refine hn1453 _ _ ?_
      refine fl_seq (fun Q1456 hn1456 hp1456 => ?_)
      refine fl_block (fun Q1457 hn1457 hx1457 hp1457 => ?_)
      obtain ⟨r1458, hr1458, hs⟩ := obind hs
      refine rg_plain_seq (n := 91) (rs := [Fct.at_ 1169 g875 26 #[.slice A1170 h1172.length c1171], Fct.rowAt 1173 [] 30 R30 A1170 c1171 h1172]) (own0 := own1454) (K := [1169, 1173, 1463])
          (bs := [0, 1, 3, 3, 0, 23, 63])
          (ds := [⟨[7, 8], [3], [1169, 1173], Fct.mems [1460, 1461] 32 (fun (x : Option Addr × Nat) => .tuple #[.agg #[.int .i64 r1458.1.1, .int .i64 r1458.1.2.1, .int .i64 r1458.1.2.2], .bool r1458.2.1]) (fun (x : Option Addr × Nat) own w => RwO own 1460 [] w 30 R30 x.1 x.2 r1458.2.2 ∧ BlkO own 1461 w g875 26 #[.slice x.1 r1458.2.2.length x.2]) (fun hk he h => ⟨RwO.evo (hits_sub hk (by decide)) he h.1, BlkO.evo (not_hit hk (by decide)) he h.2⟩)⟩,
          ⟨[0], [], [], Fct.val 31 (.tuple #[.agg #[.int .i64 r1458.1.1, .int .i64 r1458.1.2.1, .int .i64 r1458.1.2.2], .bool r1458.2.1])⟩,
          ⟨[1], [], [], Fct.val 33 (.agg #[.int .i64 r1458.1.1, .int .i64 r1458.1.2.1, .int .i64 r1458.1.2.2])⟩,
          ⟨[1], [], [], Fct.val 34 (.bool r1458.2.1)⟩,
          ⟨[], [], [], Fct.blk 1463 6 (fun g => .pointer (some ⟨g, 0, none⟩)) 30 #[.int .i64 0, .int .i64 0, .int .i64 0]⟩,
          ⟨[4, 2], [], [1463], Fct.blk 1464 6 (fun g => .pointer (some ⟨g, 0, none⟩)) 30 #[.int .i64 r1458.1.1, .int .i64 r1458.1.2.1, .int .i64 r1458.1.2.2]⟩,
          ⟨[3], [], [], Fct.val 7 (.bool r1458.2.1)⟩]) (by kernel_rfl) hz1454 hd1454 (by simp only [List.forall_mem_cons]; exact ⟨b1454_g875, b1454_A1170, fun _ h => nomatch h⟩) ?_ ?_
      · refine steps_cons (fun own a wx hf hsl hE => ?_) ?_
        · obtain ⟨(b_g875 : BlkO own 1169 wx g875 26 #[.slice A1170 h1172.length c1171]), (b_A1170 : RwO own 1173 [] wx 30 R30 A1170 c1171 h1172), -⟩ := hf
          obtain ⟨s_3, -⟩ := hsl
          exact sg_plain rfl rfl (or_call cf8 (args1 (s_3.trans e1454_3)) (heap_Heap_Pop_w _ (forth own (look0 [(1169, 1), (1173, 2)])) h1172 g875 26 A1170 c1171 (look0_le rfl) (BlkO.forth_ (m := (look0 [(1169, 1), (1173, 2)])) b_g875) (RwO.forth_ (m := (look0 [(1169, 1), (1173, 2)])) b_A1170) r1458 hr1458) (post_mems (m := (look0 [(1169, 1), (1173, 2)])) (m' := (look0 [(1, 1461), (2, 1460)])) (hm_of rfl) (fun own' w' a' x h1 h => ⟨x, h1, ⟨RwO.back_ h.1 (by decide) (.inl (Rep.fl_flat _)), BlkO.back_ h.2 (by decide)⟩⟩)))
        refine steps_cons (fun own a wx hf hsl hE => ?_) ?_
        · obtain ⟨⟨⟨A1459, cA1459⟩, (f_32 : a.eval (.tmp 32) = .tuple #[.agg #[.int .i64 r1458.1.1, .int .i64 r1458.1.2.1, .int .i64 r1458.1.2.2], .bool r1458.2.1]), (b_A1459 : RwO own 1460 [] wx 30 R30 A1459 cA1459 r1458.2.2), (b_g875 : BlkO own 1461 wx g875 26 #[.slice A1459 r1458.2.2.length cA1459])⟩, -⟩ := hf
          exact sg_plain rfl rfl (or_move f_32)
        refine steps_cons (fun own a wx hf hsl hE => ?_) ?_
        · obtain ⟨(f_31 : a.eval (.tmp 31) = .tuple #[.agg #[.int .i64 r1458.1.1, .int .i64 r1458.1.2.1, .int .i64 r1458.1.2.2], .bool r1458.2.1]), -⟩ := hf
          exact sg_plain rfl rfl (or_k [(31, .tuple #[.agg #[.int .i64 r1458.1.1, .int .i64 r1458.1.2.1, .int .i64 r1458.1.2.2], .bool r1458.2.1])] rfl rfl ⟨f_31, trivial⟩ (by kernel_rfl))
        refine steps_cons (fun own a wx hf hsl hE => ?_) ?_
        · obtain ⟨(f_31 : a.eval (.tmp 31) = .tuple #[.agg #[.int .i64 r1458.1.1, .int .i64 r1458.1.2.1, .int .i64 r1458.1.2.2], .bool r1458.2.1]), -⟩ := hf
          exact sg_plain rfl rfl (or_k [(31, .tuple #[.agg #[.int .i64 r1458.1.1, .int .i64 r1458.1.2.1, .int .i64 r1458.1.2.2], .bool r1458.2.1])] rfl rfl ⟨f_31, trivial⟩ (by kernel_rfl))
        refine steps_cons (fun own a wx hf hsl hE => ?_) ?_
        · exact sg_plain rfl rfl (or_new [] rfl rfl trivial (by kernel_rfl))
        refine steps_cons (fun own a wx hf hsl hE => ?_) ?_
        · obtain ⟨⟨g1462, (f_6 : a.eval (.tmp 6) = .pointer (some ⟨g1462, 0, none⟩)), (b_g1462 : BlkO own 1463 wx g1462 30 #[.int .i64 0, .int .i64 0, .int .i64 0])⟩, (f_33 : a.eval (.tmp 33) = .agg #[.int .i64 r1458.1.1, .int .i64 r1458.1.2.1, .int .i64 r1458.1.2.2]), -⟩ := hf
          exact sg_plain rfl rfl (or_store (l := #[.int .i64 r1458.1.1, .int .i64 r1458.1.2.1, .int .i64 r1458.1.2.2]) (lab := 1463) (lab2 := 1464) ts30 f_6 f_33 b_g1462 (by simp) (by kernel_rfl) (mem_of rfl) (by decide) (by kernel_rfl) (fun own' a' w' ha hb => ⟨_, (ha 6).trans f_6, hb⟩))
        refine steps_cons (fun own a wx hf hsl hE => ?_) ?_
        · obtain ⟨(f_34 : a.eval (.tmp 34) = .bool r1458.2.1), -⟩ := hf
          exact sg_plain rfl rfl (or_assign f_34)
        exact steps_nil
      intro own1465 a1465 w1465 hd1465 hz1465 hk1465 hf1465 hE1465
      have e1465_0 : a1465.eval (.tmp 0) = .slice A873 x872.length cA873 := (hk1465 0 rfl).trans e1454_0
      have e1465_3 : a1465.eval (.tmp 3) = .pointer (some ⟨g875, 0, none⟩) := (hk1465 3 rfl).trans e1454_3
      have e1465_4 : a1465.eval (.tmp 4) = .slice A884 r883.length cA884 := (hk1465 4 rfl).trans e1454_4
      have e1465_5 : a1465.eval (.tmp 5) = .int .i64 i1174 := (hk1465 5 rfl).trans e1454_5
      obtain ⟨⟨g1462, (f_6 : a1465.eval (.tmp 6) = .pointer (some ⟨g1462, 0, none⟩)), (b_g1462 : BlkO own1465 1464 w1465 g1462 30 #[.int .i64 r1458.1.1, .int .i64 r1458.1.2.1, .int .i64 r1458.1.2.2])⟩, (f_7 : a1465.eval (.tmp 7) = .bool r1458.2.1), ⟨⟨A1459, cA1459⟩, (f_32 : a1465.eval (.tmp 32) = .tuple #[.agg #[.int .i64 r1458.1.1, .int .i64 r1458.1.2.1, .int .i64 r1458.1.2.2], .bool r1458.2.1]), (b_A1459 : RwO own1465 1460 [] w1465 30 R30 A1459 cA1459 r1458.2.2), (b_g875 : BlkO own1465 1461 w1465 g875 26 #[.slice A1459 r1458.2.2.length cA1459])⟩, -⟩ := hf1465 [5, 6, 0] rfl
      have e1465_6 := f_6
      have e1465_7 := f_7
      have hX1465 := Evo.step hX1454 (fun _ => Nat.le_refl 0) hE1465 rfl
      have b1465_A873 := RdO.evo rfl hE1465 b1454_A873
      have b1465_A884 := RwO.evo rfl hE1465 b1454_A884
      have b1465_g875 := b_g875
      have b1465_A1459 := b_A1459
      have b1465_g1462 := b_g1462
      refine fl_seq (fun Q1466 hn1466 hp1466 => ?_)
      obtain ⟨x1467, hx1467, hs⟩ := obind hs
      obtain ⟨x1468, hx1468, hs⟩ := obind hs
      obtain ⟨x1469, hx1469, hs⟩ := obind hs
      obtain ⟨x1470, hx1470, hs⟩ := obind hs
      obtain ⟨r1471, hr1471, hs⟩ := obind hs
      obtain ⟨x1472, hx1472, hs⟩ := obind hs
      refine rg_draw_seq g_mixed (n := 91) (rs := []) (own0 := own1465) (K := [])
          (bs := [0, 1, 3, 7, 7, 7, 55, 119, 255, 511, 1023, 2047, 4095, 8191, 16383, 16383, 65535, 131071, 16383, 16383, 540671, 1851391, 3948543, 8388607, 16777215, 33554431])
          (ds := [⟨[], [7], [], Fct.val 35 (.bool r1458.2.1)⟩,
          ⟨[0], [], [], Fct.val 36 (.bool (!r1458.2.1))⟩,
          ⟨[1], [], [], Fct.val 37 (.bool (!r1458.2.1))⟩,
          ⟨[2], [6], [], Fct.cond (!(!r1458.2.1)) (some 38) (Fct.val 38 (.agg #[.int .i64 r1458.1.1, .int .i64 r1458.1.2.1, .int .i64 r1458.1.2.2]))⟩,
          ⟨[2], [4], [], Fct.cond (!(!r1458.2.1)) (some 39) (Fct.val 39 (.slice A884 r883.length cA884))⟩,
          ⟨[2], [5], [], Fct.cond (!(!r1458.2.1)) (some 40) (Fct.val 40 (.int .i64 i1174))⟩,
          ⟨[2, 4, 5], [], [], Fct.cond (!(!r1458.2.1)) (some 41) (Fct.val 41 (.pointer (some ((adr A884).add ((i1174 : Int).toNat * R30.s)))))⟩,
          ⟨[2, 6], [], [], Fct.cond (!(!r1458.2.1)) (some 42) (Fct.val 42 (.agg #[.int .i64 x1467.1, .int .i64 x1467.2.1, .int .i64 x1467.2.2]))⟩,
          ⟨[2, 3, 7], [], [], Fct.cond (!(!r1458.2.1)) (some 43) (Fct.val 43 (.bool (!decide (r1458.1 = x1467))))⟩,
          ⟨[2, 8], [], [], Fct.val 44 (.bool x1468)⟩,
          ⟨[9], [], [], Fct.val 45 (.bool x1468)⟩,
          ⟨[10], [5], [], Fct.cond (!x1468) (some 46) (Fct.val 46 (.int .i64 i1174))⟩,
          ⟨[10, 11], [], [], Fct.cond (!x1468) (some 47) (Fct.val 47 (.bool (decide (0 < i1174))))⟩,
          ⟨[10, 12], [], [], Fct.cond (!x1468) (some 48) (Fct.val 48 (.bool (decide (0 < i1174))))⟩,
          ⟨[13], [4], [], Fct.cond ((!x1468) && (decide (0 < i1174))) (some 49) (Fct.val 49 (.slice A884 r883.length cA884))⟩,
          ⟨[13], [5], [], Fct.cond ((!x1468) && (decide (0 < i1174))) (some 50) (Fct.val 50 (.int .i64 i1174))⟩,
          ⟨[13, 14, 15], [], [], Fct.cond ((!x1468) && (decide (0 < i1174))) (some 51) (Fct.val 51 (.pointer (some ((adr A884).add ((i1174 : Int).toNat * R30.s)))))⟩,
          ⟨[13, 16], [], [], Fct.cond ((!x1468) && (decide (0 < i1174))) (some 52) (Fct.val 52 (.agg #[.int .i64 x1469.1, .int .i64 x1469.2.1, .int .i64 x1469.2.2]))⟩,
          ⟨[13], [4], [], Fct.cond ((!x1468) && (decide (0 < i1174))) (some 53) (Fct.val 53 (.slice A884 r883.length cA884))⟩,
          ⟨[13], [5], [], Fct.cond ((!x1468) && (decide (0 < i1174))) (some 54) (Fct.val 54 (.int .i64 i1174))⟩,
          ⟨[13, 19], [], [], Fct.cond ((!x1468) && (decide (0 < i1174))) (some 55) (Fct.val 55 (.int .i64 (sb i1174 1)))⟩,
          ⟨[13, 18, 20], [], [], Fct.cond ((!x1468) && (decide (0 < i1174))) (some 56) (Fct.val 56 (.pointer (some ((adr A884).add ((sb i1174 1 : Int).toNat * R30.s)))))⟩,
          ⟨[13, 21], [], [], Fct.cond ((!x1468) && (decide (0 < i1174))) (some 57) (Fct.val 57 (.agg #[.int .i64 x1470.1, .int .i64 x1470.2.1, .int .i64 x1470.2.2]))⟩,
          ⟨[13, 17, 22], [], [], Fct.cond ((!x1468) && (decide (0 < i1174))) (some 58) (Fct.val 58 (.bool r1471))⟩,
          ⟨[10, 13, 23], [], [], Fct.cond (!x1468) (some 59) (Fct.val 59 (.bool ((decide (0 < i1174)) && r1471)))⟩,
          ⟨[10, 24], [], [], Fct.val 60 (.bool x1472)⟩]) (by kernel_rfl) hz1465 hd1465 (fun _ h => nomatch h) ?_ ?_
      · refine steps_cons (fun own a wx hf hsl hE => ?_) ?_
        · obtain ⟨s_7, -⟩ := hsl
          exact sg_plain rfl rfl (or_move (s_7.trans e1465_7))
        refine steps_cons (fun own a wx hf hsl hE => ?_) ?_
        · obtain ⟨(f_35 : a.eval (.tmp 35) = .bool r1458.2.1), -⟩ := hf
          exact sg_plain rfl rfl (or_not f_35 rfl)
        refine steps_cons (fun own a wx hf hsl hE => ?_) ?_
        · obtain ⟨(f_36 : a.eval (.tmp 36) = .bool (!r1458.2.1)), -⟩ := hf
          exact sg_plain rfl rfl (or_move f_36)
        refine steps_cons (fun own a wx hf hsl hE => ?_) ?_
        · obtain ⟨(f_37 : a.eval (.tmp 37) = .bool (!r1458.2.1)), -⟩ := hf
          obtain ⟨s_6, -⟩ := hsl
          refine sg_f rfl rfl rfl f_37 (fun hg => ?_)
          exact or_load (l := [.int .i64 r1458.1.1, .int .i64 r1458.1.2.1, .int .i64 r1458.1.2.2]) ta30 (s_6.trans e1465_6) (Blk.cellsFrom (BlkO.evo (by decide) hE b1465_g1462).2 0 rfl) rfl
        refine steps_cons (fun own a wx hf hsl hE => ?_) ?_
        · obtain ⟨(f_37 : a.eval (.tmp 37) = .bool (!r1458.2.1)), -⟩ := hf
          obtain ⟨s_4, -⟩ := hsl
          refine sg_f rfl rfl rfl f_37 (fun hg => ?_)
          exact or_move (s_4.trans e1465_4)
        refine steps_cons (fun own a wx hf hsl hE => ?_) ?_
        · obtain ⟨(f_37 : a.eval (.tmp 37) = .bool (!r1458.2.1)), -⟩ := hf
          obtain ⟨s_5, -⟩ := hsl
          refine sg_f rfl rfl rfl f_37 (fun hg => ?_)
          exact or_move (s_5.trans e1465_5)
        refine steps_cons (fun own a wx hf hsl hE => ?_) ?_
        · obtain ⟨(f_37 : a.eval (.tmp 37) = .bool (!r1458.2.1)), c_39, c_40, -⟩ := hf
          refine sg_f rfl rfl rfl f_37 (fun hg => ?_)
          have f_39 : a.eval (.tmp 39) = .slice A884 r883.length cA884 := c_39.1 hg
          have f_40 : a.eval (.tmp 40) = .int .i64 i1174 := c_40.1 hg
          exact or_index (R := R30) (l := r883) tl22 f_39 f_40 (RdO.some_ (RwO.rd b1465_A884) (gd_t hx1467 hg)) (gd_t hx1467 hg)
        refine steps_cons (fun own a wx hf hsl hE => ?_) ?_
        · obtain ⟨(f_37 : a.eval (.tmp 37) = .bool (!r1458.2.1)), c_41, -⟩ := hf
          refine sg_f rfl rfl rfl f_37 (fun hg => ?_)
          have f_41 : a.eval (.tmp 41) = .pointer (some ((adr A884).add ((i1174 : Int).toNat * R30.s))) := c_41.1 hg
          exact or_load (l := E30.f x1467) ta30 f_41 (RdO.cells (F := E30) (RwO.rd (RwO.evo rfl hE b1465_A884)) (gd_t hx1467 hg)) rfl
        refine steps_cons (fun own a wx hf hsl hE => ?_) ?_
        · obtain ⟨(f_37 : a.eval (.tmp 37) = .bool (!r1458.2.1)), c_38, c_42, -⟩ := hf
          refine sg_f rfl rfl rfl f_37 (fun hg => ?_)
          have f_38 : a.eval (.tmp 38) = .agg #[.int .i64 r1458.1.1, .int .i64 r1458.1.2.1, .int .i64 r1458.1.2.2] := c_38.1 hg
          have f_42 : a.eval (.tmp 42) = .agg #[.int .i64 x1467.1, .int .i64 x1467.2.1, .int .i64 x1467.2.2] := c_42.1 hg
          exact or_neqA sg30 f_38 f_42 (sn30 r1458.1.1 r1458.1.2.1 r1458.1.2.2 x1467.1 x1467.2.1 x1467.2.2 _) rfl
        refine steps_cons (fun own a wx hf hsl hE => ?_) ?_
        · obtain ⟨(f_37 : a.eval (.tmp 37) = .bool (!r1458.2.1)), c_43, -⟩ := hf
          exact sg_plain rfl rfl (or_or f_37 rfl (fun hx => c_43.1 hx) (osome hx1468).symm)
        refine steps_cons (fun own a wx hf hsl hE => ?_) ?_
        · obtain ⟨(f_44 : a.eval (.tmp 44) = .bool x1468), -⟩ := hf
          exact sg_plain rfl rfl (or_move f_44)
        refine steps_cons (fun own a wx hf hsl hE => ?_) ?_
        · obtain ⟨(f_45 : a.eval (.tmp 45) = .bool x1468), -⟩ := hf
          obtain ⟨s_5, -⟩ := hsl
          refine sg_f rfl rfl rfl f_45 (fun hg => ?_)
          exact or_move (s_5.trans e1465_5)
        refine steps_cons (fun own a wx hf hsl hE => ?_) ?_
        · obtain ⟨(f_45 : a.eval (.tmp 45) = .bool x1468), c_46, -⟩ := hf
          refine sg_f rfl rfl rfl f_45 (fun hg => ?_)
          have f_46 : a.eval (.tmp 46) = .int .i64 i1174 := c_46.1 hg
          exact or_gtr f_46 rfl rfl
        refine steps_cons (fun own a wx hf hsl hE => ?_) ?_
        · obtain ⟨(f_45 : a.eval (.tmp 45) = .bool x1468), c_47, -⟩ := hf
          refine sg_f rfl rfl rfl f_45 (fun hg => ?_)
          have f_47 : a.eval (.tmp 47) = .bool (decide (0 < i1174)) := c_47.1 hg
          exact or_move f_47
        refine steps_cons (fun own a wx hf hsl hE => ?_) ?_
        · obtain ⟨c_48, -⟩ := hf
          obtain ⟨s_4, -⟩ := hsl
          refine sg_tc rfl rfl rfl c_48 (fun hg => ?_)
          have f_48 : a.eval (.tmp 48) = .bool (decide (0 < i1174)) := c_48.1 (gL hg)
          exact or_move (s_4.trans e1465_4)
        refine steps_cons (fun own a wx hf hsl hE => ?_) ?_
        · obtain ⟨c_48, -⟩ := hf
          obtain ⟨s_5, -⟩ := hsl
          refine sg_tc rfl rfl rfl c_48 (fun hg => ?_)
          have f_48 : a.eval (.tmp 48) = .bool (decide (0 < i1174)) := c_48.1 (gL hg)
          exact or_move (s_5.trans e1465_5)
        refine steps_cons (fun own a wx hf hsl hE => ?_) ?_
        · obtain ⟨c_48, c_49, c_50, -⟩ := hf
          refine sg_tc rfl rfl rfl c_48 (fun hg => ?_)
          have f_48 : a.eval (.tmp 48) = .bool (decide (0 < i1174)) := c_48.1 (gL hg)
          have f_49 : a.eval (.tmp 49) = .slice A884 r883.length cA884 := c_49.1 hg
          have f_50 : a.eval (.tmp 50) = .int .i64 i1174 := c_50.1 hg
          exact or_index (R := R30) (l := r883) tl22 f_49 f_50 (RdO.some_ (RwO.rd b1465_A884) (gd_t hx1469 hg)) (gd_t hx1469 hg)
        refine steps_cons (fun own a wx hf hsl hE => ?_) ?_
        · obtain ⟨c_48, c_51, -⟩ := hf
          refine sg_tc rfl rfl rfl c_48 (fun hg => ?_)
          have f_48 : a.eval (.tmp 48) = .bool (decide (0 < i1174)) := c_48.1 (gL hg)
          have f_51 : a.eval (.tmp 51) = .pointer (some ((adr A884).add ((i1174 : Int).toNat * R30.s))) := c_51.1 hg
          exact or_load (l := E30.f x1469) ta30 f_51 (RdO.cells (F := E30) (RwO.rd (RwO.evo rfl hE b1465_A884)) (gd_t hx1469 hg)) rfl
        refine steps_cons (fun own a wx hf hsl hE => ?_) ?_
        · obtain ⟨c_48, -⟩ := hf
          obtain ⟨s_4, -⟩ := hsl
          refine sg_tc rfl rfl rfl c_48 (fun hg => ?_)
          have f_48 : a.eval (.tmp 48) = .bool (decide (0 < i1174)) := c_48.1 (gL hg)
          exact or_move (s_4.trans e1465_4)
        refine steps_cons (fun own a wx hf hsl hE => ?_) ?_
        · obtain ⟨c_48, -⟩ := hf
          obtain ⟨s_5, -⟩ := hsl
          refine sg_tc rfl rfl rfl c_48 (fun hg => ?_)
          have f_48 : a.eval (.tmp 48) = .bool (decide (0 < i1174)) := c_48.1 (gL hg)
          exact or_move (s_5.trans e1465_5)
        refine steps_cons (fun own a wx hf hsl hE => ?_) ?_
        · obtain ⟨c_48, c_54, -⟩ := hf
          refine sg_tc rfl rfl rfl c_48 (fun hg => ?_)
          have f_48 : a.eval (.tmp 48) = .bool (decide (0 < i1174)) := c_48.1 (gL hg)
          have f_54 : a.eval (.tmp 54) = .int .i64 i1174 := c_54.1 hg
          exact or_sub f_54 rfl rfl
        refine steps_cons (fun own a wx hf hsl hE => ?_) ?_
        · obtain ⟨c_48, c_53, c_55, -⟩ := hf
          refine sg_tc rfl rfl rfl c_48 (fun hg => ?_)
          have f_48 : a.eval (.tmp 48) = .bool (decide (0 < i1174)) := c_48.1 (gL hg)
          have f_53 : a.eval (.tmp 53) = .slice A884 r883.length cA884 := c_53.1 hg
          have f_55 : a.eval (.tmp 55) = .int .i64 (sb i1174 1) := c_55.1 hg
          exact or_index (R := R30) (l := r883) tl22 f_53 f_55 (RdO.some_ (RwO.rd b1465_A884) (gd_t hx1470 hg)) (gd_t hx1470 hg)
        refine steps_cons (fun own a wx hf hsl hE => ?_) ?_
        · obtain ⟨c_48, c_56, -⟩ := hf
          refine sg_tc rfl rfl rfl c_48 (fun hg => ?_)
          have f_48 : a.eval (.tmp 48) = .bool (decide (0 < i1174)) := c_48.1 (gL hg)
          have f_56 : a.eval (.tmp 56) = .pointer (some ((adr A884).add ((sb i1174 1 : Int).toNat * R30.s))) := c_56.1 hg
          exact or_load (l := E30.f x1470) ta30 f_56 (RdO.cells (F := E30) (RwO.rd (RwO.evo rfl hE b1465_A884)) (gd_t hx1470 hg)) rfl
        refine steps_cons (fun own a wx hf hsl hE => ?_) ?_
        · obtain ⟨c_48, c_52, c_57, -⟩ := hf
          refine sg_tc rfl rfl rfl c_48 (fun hg => ?_)
          have f_48 : a.eval (.tmp 48) = .bool (decide (0 < i1174)) := c_48.1 (gL hg)
          have f_52 : a.eval (.tmp 52) = .agg #[.int .i64 x1469.1, .int .i64 x1469.2.1, .int .i64 x1469.2.2] := c_52.1 hg
          have f_57 : a.eval (.tmp 57) = .agg #[.int .i64 x1470.1, .int .i64 x1470.2.1, .int .i64 x1470.2.2] := c_57.1 hg
          exact or_call cf9 (args2 f_52 f_57) (heap_Less_w _ x1469 x1470  r1471 (gd_t hr1471 hg)) post_val
        refine steps_cons (fun own a wx hf hsl hE => ?_) ?_
        · obtain ⟨(f_45 : a.eval (.tmp 45) = .bool x1468), c_48, c_58, -⟩ := hf
          refine sg_f rfl rfl rfl f_45 (fun hg => ?_)
          have f_48 : a.eval (.tmp 48) = .bool (decide (0 < i1174)) := c_48.1 hg
          exact or_and f_48 (fun hx => c_58.1 (gI hg hx)) rfl rfl
        refine steps_cons (fun own a wx hf hsl hE => ?_) ?_
        · obtain ⟨(f_45 : a.eval (.tmp 45) = .bool x1468), c_59, -⟩ := hf
          exact sg_plain rfl rfl (or_or f_45 rfl (fun hx => c_59.1 hx) (osome hx1472).symm)
        exact steps_nil
      intro own1473 a1473 w1473 hd1473 hz1473 hk1473 hf1473 hE1473
      have e1473_0 : a1473.eval (.tmp 0) = .slice A873 x872.length cA873 := (hk1473 0 rfl).trans e1465_0
      have e1473_3 : a1473.eval (.tmp 3) = .pointer (some ⟨g875, 0, none⟩) := (hk1473 3 rfl).trans e1465_3
      have e1473_4 : a1473.eval (.tmp 4) = .slice A884 r883.length cA884 := (hk1473 4 rfl).trans e1465_4
      have e1473_5 : a1473.eval (.tmp 5) = .int .i64 i1174 := (hk1473 5 rfl).trans e1465_5
      have e1473_6 : a1473.eval (.tmp 6) = .pointer (some ⟨g1462, 0, none⟩) := (hk1473 6 rfl).trans e1465_6
      obtain ⟨(f_60 : a1473.eval (.tmp 60) = .bool x1472), -⟩ := hf1473 [25] rfl
      have e1473_60 := f_60
      have hX1473 := Evo.step hX1465 (fun _ => Nat.le_refl 0) hE1473 rfl
      have b1473_A873 := RdO.evo rfl hE1473 b1465_A873
      have b1473_A884 := RwO.evo rfl hE1473 b1465_A884
      have b1473_g875 := BlkO.evo (by decide) hE1473 b1465_g875
      have b1473_A1459 := RwO.evo rfl hE1473 b1465_A1459
      have b1473_g1462 := BlkO.evo (by decide) hE1473 b1465_g1462
      refine fl_cond e1473_60 hs (fun c1474 hs => ?_) (fun c1474 hs => ?_)
      · refine rg_plain_seq (n := 91) (rs := []) (own0 := own1473) (K := [])
            (bs := [0])
            (ds := [⟨[], [], [], Fct.val 2 (.bool false)⟩]) (by kernel_rfl) hz1473 hd1473 (fun _ h => nomatch h) ?_ ?_
        · refine steps_cons (fun own a wx hf hsl hE => ?_) ?_
          · exact sg_plain rfl rfl (or_assign rfl)
          exact steps_nil
        intro own1475 a1475 w1475 hd1475 hz1475 hk1475 hf1475 hE1475
        obtain ⟨(f_2 : a1475.eval (.tmp 2) = .bool false), -⟩ := hf1475 [0] rfl
        have e1475_2 := f_2
        have hX1475 := Evo.step hX1473 (fun _ => Nat.le_refl 0) hE1475 rfl
        refine fl_ret ?_
        refine hp1466 _ _ _ rfl ?_
        refine hp1457 _ _ _ rfl ?_
        refine hp1456 _ _ _ rfl ?_
        replace hs := hz1451 _ hs
        refine hp1451 _ _ _ rfl ?_
        refine hp893 _ _ _ rfl ?_
        refine hp891 _ _ _ rfl ?_
        obtain rfl := osome hs
        exact hret _ _ _ _ (.inl rfl) hd1475 (results1_ rfl (RVal.tmp_ e1475_2)) ⟨own1475, rfl, hX1475⟩
      refine fl_skip ?_
      refine hn1466 _ _ ?_
      refine rg_plain_seq (n := 91) (rs := []) (own0 := own1473) (K := [])
          (bs := [0, 1])
          (ds := [⟨[], [], [], Fct.val 8 (.int .i64 0)⟩,
          ⟨[], [], [], Fct.val 9 (.int .i64 0)⟩]) (by kernel_rfl) hz1473 hd1473 (fun _ h => nomatch h) ?_ ?_
      · refine steps_cons (fun own a wx hf hsl hE => ?_) ?_
        · exact sg_plain rfl rfl (or_assign rfl)
        refine steps_cons (fun own a wx hf hsl hE => ?_) ?_
        · exact sg_plain rfl rfl (or_assign rfl)
        exact steps_nil
      intro own1476 a1476 w1476 hd1476 hz1476 hk1476 hf1476 hE1476
      have e1476_0 : a1476.eval (.tmp 0) = .slice A873 x872.length cA873 := (hk1476 0 rfl).trans e1473_0
      have e1476_3 : a1476.eval (.tmp 3) = .pointer (some ⟨g875, 0, none⟩) := (hk1476 3 rfl).trans e1473_3
      have e1476_4 : a1476.eval (.tmp 4) = .slice A884 r883.length cA884 := (hk1476 4 rfl).trans e1473_4
      have e1476_5 : a1476.eval (.tmp 5) = .int .i64 i1174 := (hk1476 5 rfl).trans e1473_5
      have e1476_6 : a1476.eval (.tmp 6) = .pointer (some ⟨g1462, 0, none⟩) := (hk1476 6 rfl).trans e1473_6
      obtain ⟨(f_8 : a1476.eval (.tmp 8) = .int .i64 0), (f_9 : a1476.eval (.tmp 9) = .int .i64 0), -⟩ := hf1476 [0, 1] rfl
      have e1476_8 := f_8
      have e1476_9 := f_9
      have hX1476 := Evo.step hX1473 (fun _ => Nat.le_refl 0) hE1476 rfl
      have b1476_A873 := RdO.evo rfl hE1476 b1473_A873
      have b1476_A884 := RwO.evo rfl hE1476 b1473_A884
      have b1476_g875 := BlkO.evo (by decide) hE1476 b1473_g875
      have b1476_A1459 := RwO.evo rfl hE1476 b1473_A1459
      have b1476_g1462 := BlkO.evo (by decide) hE1476 b1473_g1462
      refine fl_seq (fun Q1477 hn1477 hp1477 => ?_)
      refine rg_plain_seq (n := 91) (rs := []) (own0 := own1476) (K := [])
          (bs := [0])
          (ds := [⟨[], [], [], Fct.val 10 (.int .i64 0)⟩]) (by kernel_rfl) hz1476 hd1476 (fun _ h => nomatch h) ?_ ?_
      · refine steps_cons (fun own a wx hf hsl hE => ?_) ?_
        · exact sg_plain rfl rfl (or_assign rfl)
        exact steps_nil
      intro own1478 a1478 w1478 hd1478 hz1478 hk1478 hf1478 hE1478
      have e1478_0 : a1478.eval (.tmp 0) = .slice A873 x872.length cA873 := (hk1478 0 rfl).trans e1476_0
      have e1478_3 : a1478.eval (.tmp 3) = .pointer (some ⟨g875, 0, none⟩) := (hk1478 3 rfl).trans e1476_3
      have e1478_4 : a1478.eval (.tmp 4) = .slice A884 r883.length cA884 := (hk1478 4 rfl).trans e1476_4
      have e1478_5 : a1478.eval (.tmp 5) = .int .i64 i1174 := (hk1478 5 rfl).trans e1476_5
      have e1478_6 : a1478.eval (.tmp 6) = .pointer (some ⟨g1462, 0, none⟩) := (hk1478 6 rfl).trans e1476_6
      have e1478_8 : a1478.eval (.tmp 8) = .int .i64 0 := (hk1478 8 rfl).trans e1476_8
      have e1478_9 : a1478.eval (.tmp 9) = .int .i64 0 := (hk1478 9 rfl).trans e1476_9
      obtain ⟨(f_10 : a1478.eval (.tmp 10) = .int .i64 0), -⟩ := hf1478 [0] rfl
      have e1478_10 := f_10
      have hX1478 := Evo.step hX1476 (fun _ => Nat.le_refl 0) hE1478 rfl
      have b1478_A873 := RdO.evo rfl hE1478 b1476_A873
      have b1478_A884 := RwO.evo rfl hE1478 b1476_A884
      have b1478_g875 := BlkO.evo (by decide) hE1478 b1476_g875
      have b1478_A1459 := RwO.evo rfl hE1478 b1476_A1459
      have b1478_g1462 := BlkO.evo (by decide) hE1478 b1476_g1462
      refine fl_block (fun Q1479 hn1479 hx1479 hp1479 => ?_)
      refine fl_loop (body := (fun s => law05_HeapRises_b2 x872 r883 i1174 r1458 s.1 s.2.1 s.2.2)) (z := zz1451) (show loopO _ _ = _ from hs) (fun (s : Int × Int × Int) a wx => match s with | (x1560, y1561, k1562) => ∃ (ox : Own), a.defers = [] ∧ a.tmps.size = 91 ∧ a.eval (.tmp 0) = .slice A873 x872.length cA873 ∧ a.eval (.tmp 3) = .pointer (some ⟨g875, 0, none⟩) ∧ a.eval (.tmp 4) = .slice A884 r883.length cA884 ∧ a.eval (.tmp 5) = .int .i64 i1174 ∧ a.eval (.tmp 6) = .pointer (some ⟨g1462, 0, none⟩) ∧ a.eval (.tmp 8) = .int .i64 x1560 ∧ a.eval (.tmp 9) = .int .i64 y1561 ∧ a.eval (.tmp 10) = .int .i64 k1562 ∧ Evo [] (fun _ => 0) ox w wx ∧ RdO ox [0] wx R30 A873 cA873 x872 ∧ BlkO ox 1461 wx g875 26 #[.slice A1459 r1458.2.2.length cA1459] ∧ RwO ox 1460 [] wx 30 R30 A1459 cA1459 r1458.2.2 ∧ RwO ox 885 [] wx 30 R30 A884 cA884 r883 ∧ BlkO ox 1464 wx g1462 30 #[.int .i64 r1458.1.1, .int .i64 r1458.1.2.1, .int .i64 r1458.1.2.2]) ?_ ?_
      · exact ⟨own1478, hd1478, hz1478, e1478_0, e1478_3, e1478_4, e1478_5, e1478_6, e1478_8, e1478_9, e1478_10, hX1478, b1478_A873, b1478_g875, b1478_A1459, b1478_A884, b1478_g1462⟩
      · rintro ⟨x1560, y1561, k1562⟩ zz1643 a1643 w1643 ⟨own1643, hd1644, hz1644, e1644_0, e1644_3, e1644_4, e1644_5, e1644_6, e1644_8, e1644_9, e1644_10, hE1644, b1644_A873, b1644_g875, b1644_A1459, b1644_A884, b1644_g1462⟩ hs Q1643 hn1643 hp1643 hz1643
        have hs : law05_HeapRises_b2 x872 r883 i1174 r1458 x1560 y1561 k1562 = some zz1643 := hs
        refine fl_seq (fun Q1645 hn1645 hp1645 => ?_)
        refine rg_plain_seq (n := 91) (rs := []) (own0 := own1643) (K := [])
            (bs := [0, 0, 2, 7])
            (ds := [⟨[], [10], [], Fct.val 61 (.int .i64 k1562)⟩,
            ⟨[], [0], [], Fct.val 62 (.slice A873 x872.length cA873)⟩,
            ⟨[1], [], [], Fct.val 63 (.int .i64 (x872.length : Int))⟩,
            ⟨[0, 2], [], [], Fct.val 64 (.bool (decide (k1562 < (x872.length : Int))))⟩]) (by kernel_rfl) hz1644 hd1644 (fun _ h => nomatch h) ?_ ?_
        · refine steps_cons (fun own a wx hf hsl hE => ?_) ?_
          · obtain ⟨s_10, -⟩ := hsl
            exact sg_plain rfl rfl (or_move (s_10.trans e1644_10))
          refine steps_cons (fun own a wx hf hsl hE => ?_) ?_
          · obtain ⟨s_0, -⟩ := hsl
            exact sg_plain rfl rfl (or_move (s_0.trans e1644_0))
          refine steps_cons (fun own a wx hf hsl hE => ?_) ?_
          · obtain ⟨(f_62 : a.eval (.tmp 62) = .slice A873 x872.length cA873), -⟩ := hf
            exact sg_plain rfl rfl (or_len tu22 f_62 rfl)
          refine steps_cons (fun own a wx hf hsl hE => ?_) ?_
          · obtain ⟨(f_61 : a.eval (.tmp 61) = .int .i64 k1562), (f_63 : a.eval (.tmp 63) = .int .i64 (x872.length : Int)), -⟩ := hf
            exact sg_plain rfl rfl (or_lss f_61 f_63 rfl)
          exact steps_nil
        intro own1646 a1646 w1646 hd1646 hz1646 hk1646 hf1646 hE1646
        have e1646_0 : a1646.eval (.tmp 0) = .slice A873 x872.length cA873 := (hk1646 0 rfl).trans e1644_0
        have e1646_3 : a1646.eval (.tmp 3) = .pointer (some ⟨g875, 0, none⟩) := (hk1646 3 rfl).trans e1644_3
        have e1646_4 : a1646.eval (.tmp 4) = .slice A884 r883.length cA884 := (hk1646 4 rfl).trans e1644_4
        have e1646_5 : a1646.eval (.tmp 5) = .int .i64 i1174 := (hk1646 5 rfl).trans e1644_5
        have e1646_6 : a1646.eval (.tmp 6) = .pointer (some ⟨g1462, 0, none⟩) := (hk1646 6 rfl).trans e1644_6
        have e1646_8 : a1646.eval (.tmp 8) = .int .i64 x1560 := (hk1646 8 rfl).trans e1644_8
        have e1646_9 : a1646.eval (.tmp 9) = .int .i64 y1561 := (hk1646 9 rfl).trans e1644_9
        have e1646_10 : a1646.eval (.tmp 10) = .int .i64 k1562 := (hk1646 10 rfl).trans e1644_10
        obtain ⟨(f_64 : a1646.eval (.tmp 64) = .bool (decide (k1562 < (x872.length : Int)))), -⟩ := hf1646 [3] rfl
        have e1646_64 := f_64
        have hX1646 := Evo.step hE1644 (fun _ => Nat.le_refl 0) hE1646 rfl
        have b1646_A873 := RdO.evo rfl hE1646 b1644_A873
        have b1646_g875 := BlkO.evo (by decide) hE1646 b1644_g875
        have b1646_A1459 := RwO.evo rfl hE1646 b1644_A1459
        have b1646_A884 := RwO.evo rfl hE1646 b1644_A884
        have b1646_g1462 := BlkO.evo (by decide) hE1646 b1644_g1462
        refine fl_cond e1646_64 hs (fun c1647 hs => ?_) (fun c1647 hs => ?_)
        · refine fl_skip ?_
          refine hn1645 _ _ ?_
          refine fl_seq (fun Q1648 hn1648 hp1648 => ?_)
          refine fl_block (fun Q1686 hn1686 hx1686 hp1686 => ?_)
          have K1705 : ∀ (a1705 : Act) (w1705 : World) (own1705 : Own) (x1703 : Int) (y1704 : Int), a1705.defers = [] → a1705.tmps.size = 91 → a1705.eval (.tmp 0) = .slice A873 x872.length cA873 → a1705.eval (.tmp 3) = .pointer (some ⟨g875, 0, none⟩) → a1705.eval (.tmp 4) = .slice A884 r883.length cA884 → a1705.eval (.tmp 5) = .int .i64 i1174 → a1705.eval (.tmp 6) = .pointer (some ⟨g1462, 0, none⟩) → a1705.eval (.tmp 8) = .int .i64 x1703 → a1705.eval (.tmp 9) = .int .i64 y1704 → a1705.eval (.tmp 10) = .int .i64 k1562 → Evo [] (fun _ => 0) own1705 w w1705 → RdO own1705 [0] w1705 R30 A873 cA873 x872 → BlkO own1705 1461 w1705 g875 26 #[.slice A1459 r1458.2.2.length cA1459] → RwO own1705 1460 [] w1705 30 R30 A1459 cA1459 r1458.2.2 → RwO own1705 885 [] w1705 30 R30 A884 cA884 r883 → BlkO own1705 1464 w1705 g1462 30 #[.int .i64 r1458.1.1, .int .i64 r1458.1.2.1, .int .i64 r1458.1.2.2] → law05_HeapRises_k3 k1562 x1703 y1704 = some zz1643 → (Q1686 .normal a1705 w1705 ∧ Q1686 (.exit 3) a1705 w1705) := by
            intro a1705 w1705 own1705 x1703 y1704 hd1706 hz1706 e1706_0 e1706_3 e1706_4 e1706_5 e1706_6 e1706_8 e1706_9 e1706_10 hE1706 b1706_A873 b1706_g875 b1706_A1459 b1706_A884 b1706_g1462 hs
            refine and_both (hn1686 _ _) (hx1686 _ _) ?_
            refine hn1648 _ _ ?_
            refine rg_plain (n := 91) (rs := []) (own0 := own1705) (K := [])
                (bs := [0, 1, 3])
                (ds := [⟨[], [10], [], Fct.val 65 (.int .i64 k1562)⟩,
                ⟨[0], [], [], Fct.val 66 (.int .i64 (ad k1562 1))⟩,
                ⟨[1], [], [], Fct.val 10 (.int .i64 (ad k1562 1))⟩]) (by kernel_rfl) hz1706 hd1706 (fun _ h => nomatch h) ?_ ?_
            · refine steps_cons (fun own a wx hf hsl hE => ?_) ?_
              · obtain ⟨s_10, -⟩ := hsl
                exact sg_plain rfl rfl (or_move (s_10.trans e1706_10))
              refine steps_cons (fun own a wx hf hsl hE => ?_) ?_
              · obtain ⟨(f_65 : a.eval (.tmp 65) = .int .i64 k1562), -⟩ := hf
                exact sg_plain rfl rfl (or_add f_65 rfl rfl)
              refine steps_cons (fun own a wx hf hsl hE => ?_) ?_
              · obtain ⟨(f_66 : a.eval (.tmp 66) = .int .i64 (ad k1562 1)), -⟩ := hf
                exact sg_plain rfl rfl (or_assign f_66)
              exact steps_nil
            intro own1707 a1707 w1707 hd1707 hz1707 hk1707 hf1707 hE1707
            have e1707_0 : a1707.eval (.tmp 0) = .slice A873 x872.length cA873 := (hk1707 0 rfl).trans e1706_0
            have e1707_3 : a1707.eval (.tmp 3) = .pointer (some ⟨g875, 0, none⟩) := (hk1707 3 rfl).trans e1706_3
            have e1707_4 : a1707.eval (.tmp 4) = .slice A884 r883.length cA884 := (hk1707 4 rfl).trans e1706_4
            have e1707_5 : a1707.eval (.tmp 5) = .int .i64 i1174 := (hk1707 5 rfl).trans e1706_5
            have e1707_6 : a1707.eval (.tmp 6) = .pointer (some ⟨g1462, 0, none⟩) := (hk1707 6 rfl).trans e1706_6
            have e1707_8 : a1707.eval (.tmp 8) = .int .i64 x1703 := (hk1707 8 rfl).trans e1706_8
            have e1707_9 : a1707.eval (.tmp 9) = .int .i64 y1704 := (hk1707 9 rfl).trans e1706_9
            obtain ⟨(f_10 : a1707.eval (.tmp 10) = .int .i64 (ad k1562 1)), -⟩ := hf1707 [2] rfl
            have e1707_10 := f_10
            have hX1707 := Evo.step hE1706 (fun _ => Nat.le_refl 0) hE1707 rfl
            have b1707_A873 := RdO.evo rfl hE1707 b1706_A873
            have b1707_g875 := BlkO.evo (by decide) hE1707 b1706_g875
            have b1707_A1459 := RwO.evo rfl hE1707 b1706_A1459
            have b1707_A884 := RwO.evo rfl hE1707 b1706_A884
            have b1707_g1462 := BlkO.evo (by decide) hE1707 b1706_g1462
            exact hn1643 _ _ _ hs ⟨own1707, hd1707, hz1707, e1707_0, e1707_3, e1707_4, e1707_5, e1707_6, e1707_8, e1707_9, e1707_10, hX1707, b1707_A873, b1707_g875, b1707_A1459, b1707_A884, b1707_g1462⟩
          refine fl_seq (fun Q1708 hn1708 hp1708 => ?_)
          have K1714 : ∀ (a1714 : Act) (w1714 : World) (own1714 : Own) (x1713 : Int), a1714.defers = [] → a1714.tmps.size = 91 → a1714.eval (.tmp 0) = .slice A873 x872.length cA873 → a1714.eval (.tmp 3) = .pointer (some ⟨g875, 0, none⟩) → a1714.eval (.tmp 4) = .slice A884 r883.length cA884 → a1714.eval (.tmp 5) = .int .i64 i1174 → a1714.eval (.tmp 6) = .pointer (some ⟨g1462, 0, none⟩) → a1714.eval (.tmp 8) = .int .i64 x1713 → a1714.eval (.tmp 9) = .int .i64 y1561 → a1714.eval (.tmp 10) = .int .i64 k1562 → Evo [] (fun _ => 0) own1714 w w1714 → RdO own1714 [0] w1714 R30 A873 cA873 x872 → BlkO own1714 1461 w1714 g875 26 #[.slice A1459 r1458.2.2.length cA1459] → RwO own1714 1460 [] w1714 30 R30 A1459 cA1459 r1458.2.2 → RwO own1714 885 [] w1714 30 R30 A884 cA884 r883 → BlkO own1714 1464 w1714 g1462 30 #[.int .i64 r1458.1.1, .int .i64 r1458.1.2.1, .int .i64 r1458.1.2.2] → law05_HeapRises_k4 r883 r1458 y1561 k1562 x1713 = some zz1643 → Q1708 .normal a1714 w1714 := by
            intro a1714 w1714 own1714 x1713 hd1715 hz1715 e1715_0 e1715_3 e1715_4 e1715_5 e1715_6 e1715_8 e1715_9 e1715_10 hE1715 b1715_A873 b1715_g875 b1715_A1459 b1715_A884 b1715_g1462 hs
            refine hn1708 _ _ ?_
            obtain ⟨x1716, hx1716, hs⟩ := obind hs
            refine rg_draw_seq g_mixed (n := 91) (rs := []) (own0 := own1714) (K := [])
                (bs := [0, 0, 3, 7, 0, 31])
                (ds := [⟨[], [4], [], Fct.val 75 (.slice A884 r883.length cA884)⟩,
                ⟨[], [10], [], Fct.val 76 (.int .i64 k1562)⟩,
                ⟨[0, 1], [], [], Fct.val 77 (.pointer (some ((adr A884).add ((k1562 : Int).toNat * R30.s))))⟩,
                ⟨[2], [], [], Fct.val 78 (.agg #[.int .i64 x1716.1, .int .i64 x1716.2.1, .int .i64 x1716.2.2])⟩,
                ⟨[], [6], [], Fct.val 79 (.agg #[.int .i64 r1458.1.1, .int .i64 r1458.1.2.1, .int .i64 r1458.1.2.2])⟩,
                ⟨[3, 4], [], [], Fct.val 80 (.bool (decide (x1716 = r1458.1)))⟩]) (by kernel_rfl) hz1715 hd1715 (fun _ h => nomatch h) ?_ ?_
            · refine steps_cons (fun own a wx hf hsl hE => ?_) ?_
              · obtain ⟨s_4, -⟩ := hsl
                exact sg_plain rfl rfl (or_move (s_4.trans e1715_4))
              refine steps_cons (fun own a wx hf hsl hE => ?_) ?_
              · obtain ⟨s_10, -⟩ := hsl
                exact sg_plain rfl rfl (or_move (s_10.trans e1715_10))
              refine steps_cons (fun own a wx hf hsl hE => ?_) ?_
              · obtain ⟨(f_75 : a.eval (.tmp 75) = .slice A884 r883.length cA884), (f_76 : a.eval (.tmp 76) = .int .i64 k1562), -⟩ := hf
                exact sg_plain rfl rfl (or_index (R := R30) (l := r883) tl22 f_75 f_76 (RdO.some_ (RwO.rd b1715_A884) hx1716) hx1716)
              refine steps_cons (fun own a wx hf hsl hE => ?_) ?_
              · obtain ⟨(f_77 : a.eval (.tmp 77) = .pointer (some ((adr A884).add ((k1562 : Int).toNat * R30.s)))), -⟩ := hf
                exact sg_plain rfl rfl (or_load (l := E30.f x1716) ta30 f_77 (RdO.cells (F := E30) (RwO.rd (RwO.evo rfl hE b1715_A884)) hx1716) rfl)
              refine steps_cons (fun own a wx hf hsl hE => ?_) ?_
              · obtain ⟨s_6, -⟩ := hsl
                exact sg_plain rfl rfl (or_load (l := [.int .i64 r1458.1.1, .int .i64 r1458.1.2.1, .int .i64 r1458.1.2.2]) ta30 (s_6.trans e1715_6) (Blk.cellsFrom (BlkO.evo (by decide) hE b1715_g1462).2 0 rfl) rfl)
              refine steps_cons (fun own a wx hf hsl hE => ?_) ?_
              · obtain ⟨(f_78 : a.eval (.tmp 78) = .agg #[.int .i64 x1716.1, .int .i64 x1716.2.1, .int .i64 x1716.2.2]), (f_79 : a.eval (.tmp 79) = .agg #[.int .i64 r1458.1.1, .int .i64 r1458.1.2.1, .int .i64 r1458.1.2.2]), -⟩ := hf
                exact sg_plain rfl rfl (or_eqlA sg30 f_78 f_79 (se30 x1716.1 x1716.2.1 x1716.2.2 r1458.1.1 r1458.1.2.1 r1458.1.2.2 _) rfl)
              exact steps_nil
            intro own1717 a1717 w1717 hd1717 hz1717 hk1717 hf1717 hE1717
            have e1717_0 : a1717.eval (.tmp 0) = .slice A873 x872.length cA873 := (hk1717 0 rfl).trans e1715_0
            have e1717_3 : a1717.eval (.tmp 3) = .pointer (some ⟨g875, 0, none⟩) := (hk1717 3 rfl).trans e1715_3
            have e1717_4 : a1717.eval (.tmp 4) = .slice A884 r883.length cA884 := (hk1717 4 rfl).trans e1715_4
            have e1717_5 : a1717.eval (.tmp 5) = .int .i64 i1174 := (hk1717 5 rfl).trans e1715_5
            have e1717_6 : a1717.eval (.tmp 6) = .pointer (some ⟨g1462, 0, none⟩) := (hk1717 6 rfl).trans e1715_6
            have e1717_8 : a1717.eval (.tmp 8) = .int .i64 x1713 := (hk1717 8 rfl).trans e1715_8
            have e1717_9 : a1717.eval (.tmp 9) = .int .i64 y1561 := (hk1717 9 rfl).trans e1715_9
            have e1717_10 : a1717.eval (.tmp 10) = .int .i64 k1562 := (hk1717 10 rfl).trans e1715_10
            obtain ⟨(f_80 : a1717.eval (.tmp 80) = .bool (decide (x1716 = r1458.1))), -⟩ := hf1717 [5] rfl
            have e1717_80 := f_80
            have hX1717 := Evo.step hE1715 (fun _ => Nat.le_refl 0) hE1717 rfl
            have b1717_A873 := RdO.evo rfl hE1717 b1715_A873
            have b1717_g875 := BlkO.evo (by decide) hE1717 b1715_g875
            have b1717_A1459 := RwO.evo rfl hE1717 b1715_A1459
            have b1717_A884 := RwO.evo rfl hE1717 b1715_A884
            have b1717_g1462 := BlkO.evo (by decide) hE1717 b1715_g1462
            refine fl_cond e1717_80 hs (fun c1718 hs => ?_) (fun c1718 hs => ?_)
            · refine rg_plain (n := 91) (rs := []) (own0 := own1717) (K := [])
                  (bs := [0, 1, 3])
                  (ds := [⟨[], [9], [], Fct.val 81 (.int .i64 y1561)⟩,
                  ⟨[0], [], [], Fct.val 82 (.int .i64 (ad y1561 1))⟩,
                  ⟨[1], [], [], Fct.val 9 (.int .i64 (ad y1561 1))⟩]) (by kernel_rfl) hz1717 hd1717 (fun _ h => nomatch h) ?_ ?_
              · refine steps_cons (fun own a wx hf hsl hE => ?_) ?_
                · obtain ⟨s_9, -⟩ := hsl
                  exact sg_plain rfl rfl (or_move (s_9.trans e1717_9))
                refine steps_cons (fun own a wx hf hsl hE => ?_) ?_
                · obtain ⟨(f_81 : a.eval (.tmp 81) = .int .i64 y1561), -⟩ := hf
                  exact sg_plain rfl rfl (or_add f_81 rfl rfl)
                refine steps_cons (fun own a wx hf hsl hE => ?_) ?_
                · obtain ⟨(f_82 : a.eval (.tmp 82) = .int .i64 (ad y1561 1)), -⟩ := hf
                  exact sg_plain rfl rfl (or_assign f_82)
                exact steps_nil
              intro own1719 a1719 w1719 hd1719 hz1719 hk1719 hf1719 hE1719
              have e1719_0 : a1719.eval (.tmp 0) = .slice A873 x872.length cA873 := (hk1719 0 rfl).trans e1717_0
              have e1719_3 : a1719.eval (.tmp 3) = .pointer (some ⟨g875, 0, none⟩) := (hk1719 3 rfl).trans e1717_3
              have e1719_4 : a1719.eval (.tmp 4) = .slice A884 r883.length cA884 := (hk1719 4 rfl).trans e1717_4
              have e1719_5 : a1719.eval (.tmp 5) = .int .i64 i1174 := (hk1719 5 rfl).trans e1717_5
              have e1719_6 : a1719.eval (.tmp 6) = .pointer (some ⟨g1462, 0, none⟩) := (hk1719 6 rfl).trans e1717_6
              have e1719_8 : a1719.eval (.tmp 8) = .int .i64 x1713 := (hk1719 8 rfl).trans e1717_8
              have e1719_10 : a1719.eval (.tmp 10) = .int .i64 k1562 := (hk1719 10 rfl).trans e1717_10
              obtain ⟨(f_9 : a1719.eval (.tmp 9) = .int .i64 (ad y1561 1)), -⟩ := hf1719 [2] rfl
              have e1719_9 := f_9
              have hX1719 := Evo.step hX1717 (fun _ => Nat.le_refl 0) hE1719 rfl
              have b1719_A873 := RdO.evo rfl hE1719 b1717_A873
              have b1719_g875 := BlkO.evo (by decide) hE1719 b1717_g875
              have b1719_A1459 := RwO.evo rfl hE1719 b1717_A1459
              have b1719_A884 := RwO.evo rfl hE1719 b1717_A884
              have b1719_g1462 := BlkO.evo (by decide) hE1719 b1717_g1462
              exact (K1705 _ _ own1719 _ _ hd1719 hz1719 e1719_0 e1719_3 e1719_4 e1719_5 e1719_6 e1719_8 e1719_9 e1719_10 hX1719 b1719_A873 b1719_g875 b1719_A1459 b1719_A884 b1719_g1462 hs).1
            refine fl_skip ?_
            exact (K1705 _ _ own1717 _ _ hd1717 hz1717 e1717_0 e1717_3 e1717_4 e1717_5 e1717_6 e1717_8 e1717_9 e1717_10 hX1717 b1717_A873 b1717_g875 b1717_A1459 b1717_A884 b1717_g1462 hs).1
          obtain ⟨x1720, hx1720, hs⟩ := obind hs
          refine rg_draw_seq g_mixed (n := 91) (rs := []) (own0 := own1646) (K := [])
              (bs := [0, 0, 3, 7, 0, 31])
              (ds := [⟨[], [0], [], Fct.val 67 (.slice A873 x872.length cA873)⟩,
              ⟨[], [10], [], Fct.val 68 (.int .i64 k1562)⟩,
              ⟨[0, 1], [], [], Fct.val 69 (.pointer (some ((adr A873).add ((k1562 : Int).toNat * R30.s))))⟩,
              ⟨[2], [], [], Fct.val 70 (.agg #[.int .i64 x1720.1, .int .i64 x1720.2.1, .int .i64 x1720.2.2])⟩,
              ⟨[], [6], [], Fct.val 71 (.agg #[.int .i64 r1458.1.1, .int .i64 r1458.1.2.1, .int .i64 r1458.1.2.2])⟩,
              ⟨[3, 4], [], [], Fct.val 72 (.bool (decide (x1720 = r1458.1)))⟩]) (by kernel_rfl) hz1646 hd1646 (fun _ h => nomatch h) ?_ ?_
          · refine steps_cons (fun own a wx hf hsl hE => ?_) ?_
            · obtain ⟨s_0, -⟩ := hsl
              exact sg_plain rfl rfl (or_move (s_0.trans e1646_0))
            refine steps_cons (fun own a wx hf hsl hE => ?_) ?_
            · obtain ⟨s_10, -⟩ := hsl
              exact sg_plain rfl rfl (or_move (s_10.trans e1646_10))
            refine steps_cons (fun own a wx hf hsl hE => ?_) ?_
            · obtain ⟨(f_67 : a.eval (.tmp 67) = .slice A873 x872.length cA873), (f_68 : a.eval (.tmp 68) = .int .i64 k1562), -⟩ := hf
              exact sg_plain rfl rfl (or_index (R := R30) (l := x872) tl22 f_67 f_68 (RdO.some_ b1646_A873 hx1720) hx1720)
            refine steps_cons (fun own a wx hf hsl hE => ?_) ?_
            · obtain ⟨(f_69 : a.eval (.tmp 69) = .pointer (some ((adr A873).add ((k1562 : Int).toNat * R30.s)))), -⟩ := hf
              exact sg_plain rfl rfl (or_load (l := E30.f x1720) ta30 f_69 (RdO.cells (F := E30) (RdO.evo rfl hE b1646_A873) hx1720) rfl)
            refine steps_cons (fun own a wx hf hsl hE => ?_) ?_
            · obtain ⟨s_6, -⟩ := hsl
              exact sg_plain rfl rfl (or_load (l := [.int .i64 r1458.1.1, .int .i64 r1458.1.2.1, .int .i64 r1458.1.2.2]) ta30 (s_6.trans e1646_6) (Blk.cellsFrom (BlkO.evo (by decide) hE b1646_g1462).2 0 rfl) rfl)
            refine steps_cons (fun own a wx hf hsl hE => ?_) ?_
            · obtain ⟨(f_70 : a.eval (.tmp 70) = .agg #[.int .i64 x1720.1, .int .i64 x1720.2.1, .int .i64 x1720.2.2]), (f_71 : a.eval (.tmp 71) = .agg #[.int .i64 r1458.1.1, .int .i64 r1458.1.2.1, .int .i64 r1458.1.2.2]), -⟩ := hf
              exact sg_plain rfl rfl (or_eqlA sg30 f_70 f_71 (se30 x1720.1 x1720.2.1 x1720.2.2 r1458.1.1 r1458.1.2.1 r1458.1.2.2 _) rfl)
            exact steps_nil
          intro own1721 a1721 w1721 hd1721 hz1721 hk1721 hf1721 hE1721
          have e1721_0 : a1721.eval (.tmp 0) = .slice A873 x872.length cA873 := (hk1721 0 rfl).trans e1646_0
          have e1721_3 : a1721.eval (.tmp 3) = .pointer (some ⟨g875, 0, none⟩) := (hk1721 3 rfl).trans e1646_3
          have e1721_4 : a1721.eval (.tmp 4) = .slice A884 r883.length cA884 := (hk1721 4 rfl).trans e1646_4
          have e1721_5 : a1721.eval (.tmp 5) = .int .i64 i1174 := (hk1721 5 rfl).trans e1646_5
          have e1721_6 : a1721.eval (.tmp 6) = .pointer (some ⟨g1462, 0, none⟩) := (hk1721 6 rfl).trans e1646_6
          have e1721_8 : a1721.eval (.tmp 8) = .int .i64 x1560 := (hk1721 8 rfl).trans e1646_8
          have e1721_9 : a1721.eval (.tmp 9) = .int .i64 y1561 := (hk1721 9 rfl).trans e1646_9
          have e1721_10 : a1721.eval (.tmp 10) = .int .i64 k1562 := (hk1721 10 rfl).trans e1646_10
          obtain ⟨(f_72 : a1721.eval (.tmp 72) = .bool (decide (x1720 = r1458.1))), -⟩ := hf1721 [5] rfl
          have e1721_72 := f_72
          have hX1721 := Evo.step hX1646 (fun _ => Nat.le_refl 0) hE1721 rfl
          have b1721_A873 := RdO.evo rfl hE1721 b1646_A873
          have b1721_g875 := BlkO.evo (by decide) hE1721 b1646_g875
          have b1721_A1459 := RwO.evo rfl hE1721 b1646_A1459
          have b1721_A884 := RwO.evo rfl hE1721 b1646_A884
          have b1721_g1462 := BlkO.evo (by decide) hE1721 b1646_g1462
          refine fl_cond e1721_72 hs (fun c1722 hs => ?_) (fun c1722 hs => ?_)
          · refine rg_plain (n := 91) (rs := []) (own0 := own1721) (K := [])
                (bs := [0, 1, 3])
                (ds := [⟨[], [8], [], Fct.val 73 (.int .i64 x1560)⟩,
                ⟨[0], [], [], Fct.val 74 (.int .i64 (ad x1560 1))⟩,
                ⟨[1], [], [], Fct.val 8 (.int .i64 (ad x1560 1))⟩]) (by kernel_rfl) hz1721 hd1721 (fun _ h => nomatch h) ?_ ?_
            · refine steps_cons (fun own a wx hf hsl hE => ?_) ?_
              · obtain ⟨s_8, -⟩ := hsl
                exact sg_plain rfl rfl (or_move (s_8.trans e1721_8))
              refine steps_cons (fun own a wx hf hsl hE => ?_) ?_
              · obtain ⟨(f_73 : a.eval (.tmp 73) = .int .i64 x1560), -⟩ := hf
                exact sg_plain rfl rfl (or_add f_73 rfl rfl)
              refine steps_cons (fun own a wx hf hsl hE => ?_) ?_
              · obtain ⟨(f_74 : a.eval (.tmp 74) = .int .i64 (ad x1560 1)), -⟩ := hf
                exact sg_plain rfl rfl (or_assign f_74)
              exact steps_nil
            intro own1723 a1723 w1723 hd1723 hz1723 hk1723 hf1723 hE1723
            have e1723_0 : a1723.eval (.tmp 0) = .slice A873 x872.length cA873 := (hk1723 0 rfl).trans e1721_0
            have e1723_3 : a1723.eval (.tmp 3) = .pointer (some ⟨g875, 0, none⟩) := (hk1723 3 rfl).trans e1721_3
            have e1723_4 : a1723.eval (.tmp 4) = .slice A884 r883.length cA884 := (hk1723 4 rfl).trans e1721_4
            have e1723_5 : a1723.eval (.tmp 5) = .int .i64 i1174 := (hk1723 5 rfl).trans e1721_5
            have e1723_6 : a1723.eval (.tmp 6) = .pointer (some ⟨g1462, 0, none⟩) := (hk1723 6 rfl).trans e1721_6
            have e1723_9 : a1723.eval (.tmp 9) = .int .i64 y1561 := (hk1723 9 rfl).trans e1721_9
            have e1723_10 : a1723.eval (.tmp 10) = .int .i64 k1562 := (hk1723 10 rfl).trans e1721_10
            obtain ⟨(f_8 : a1723.eval (.tmp 8) = .int .i64 (ad x1560 1)), -⟩ := hf1723 [2] rfl
            have e1723_8 := f_8
            have hX1723 := Evo.step hX1721 (fun _ => Nat.le_refl 0) hE1723 rfl
            have b1723_A873 := RdO.evo rfl hE1723 b1721_A873
            have b1723_g875 := BlkO.evo (by decide) hE1723 b1721_g875
            have b1723_A1459 := RwO.evo rfl hE1723 b1721_A1459
            have b1723_A884 := RwO.evo rfl hE1723 b1721_A884
            have b1723_g1462 := BlkO.evo (by decide) hE1723 b1721_g1462
            exact (K1714 _ _ own1723 _ hd1723 hz1723 e1723_0 e1723_3 e1723_4 e1723_5 e1723_6 e1723_8 e1723_9 e1723_10 hX1723 b1723_A873 b1723_g875 b1723_A1459 b1723_A884 b1723_g1462 hs)
          refine fl_skip ?_
          exact (K1714 _ _ own1721 _ hd1721 hz1721 e1721_0 e1721_3 e1721_4 e1721_5 e1721_6 e1721_8 e1721_9 e1721_10 hX1721 b1721_A873 b1721_g875 b1721_A1459 b1721_A884 b1721_g1462 hs)
        refine fl_exit ?_
        refine hp1645 _ _ _ rfl ?_
        replace hs := hz1643 _ hs
        refine hp1643 _ _ _ rfl ?_
        refine hx1479 _ _ ?_
        refine hn1477 _ _ ?_
        refine rg_plain_seq (n := 91) (rs := []) (own0 := own1646) (K := [])
            (bs := [0, 0, 3])
            (ds := [⟨[], [8], [], Fct.val 83 (.int .i64 x1560)⟩,
            ⟨[], [9], [], Fct.val 84 (.int .i64 y1561)⟩,
            ⟨[0, 1], [], [], Fct.val 85 (.bool (!decide (x1560 = y1561)))⟩]) (by kernel_rfl) hz1646 hd1646 (fun _ h => nomatch h) ?_ ?_
        · refine steps_cons (fun own a wx hf hsl hE => ?_) ?_
          · obtain ⟨s_8, -⟩ := hsl
            exact sg_plain rfl rfl (or_move (s_8.trans e1646_8))
          refine steps_cons (fun own a wx hf hsl hE => ?_) ?_
          · obtain ⟨s_9, -⟩ := hsl
            exact sg_plain rfl rfl (or_move (s_9.trans e1646_9))
          refine steps_cons (fun own a wx hf hsl hE => ?_) ?_
          · obtain ⟨(f_83 : a.eval (.tmp 83) = .int .i64 x1560), (f_84 : a.eval (.tmp 84) = .int .i64 y1561), -⟩ := hf
            exact sg_plain rfl rfl (or_neq f_83 f_84 rfl)
          exact steps_nil
        intro own1724 a1724 w1724 hd1724 hz1724 hk1724 hf1724 hE1724
        have e1724_0 : a1724.eval (.tmp 0) = .slice A873 x872.length cA873 := (hk1724 0 rfl).trans e1646_0
        have e1724_3 : a1724.eval (.tmp 3) = .pointer (some ⟨g875, 0, none⟩) := (hk1724 3 rfl).trans e1646_3
        have e1724_4 : a1724.eval (.tmp 4) = .slice A884 r883.length cA884 := (hk1724 4 rfl).trans e1646_4
        have e1724_5 : a1724.eval (.tmp 5) = .int .i64 i1174 := (hk1724 5 rfl).trans e1646_5
        obtain ⟨(f_85 : a1724.eval (.tmp 85) = .bool (!decide (x1560 = y1561))), -⟩ := hf1724 [2] rfl
        have e1724_85 := f_85
        have hX1724 := Evo.step hX1646 (fun _ => Nat.le_refl 0) hE1724 rfl
        have b1724_A873 := RdO.evo rfl hE1724 b1646_A873
        have b1724_g875 := BlkO.evo (by decide) hE1724 b1646_g875
        have b1724_A1459 := RwO.evo rfl hE1724 b1646_A1459
        have b1724_A884 := RwO.evo rfl hE1724 b1646_A884
        refine fl_cond e1724_85 hs (fun c1725 hs => ?_) (fun c1725 hs => ?_)
        · refine rg_plain_seq (n := 91) (rs := []) (own0 := own1724) (K := [])
              (bs := [0])
              (ds := [⟨[], [], [], Fct.val 2 (.bool false)⟩]) (by kernel_rfl) hz1724 hd1724 (fun _ h => nomatch h) ?_ ?_
          · refine steps_cons (fun own a wx hf hsl hE => ?_) ?_
            · exact sg_plain rfl rfl (or_assign rfl)
            exact steps_nil
          intro own1726 a1726 w1726 hd1726 hz1726 hk1726 hf1726 hE1726
          obtain ⟨(f_2 : a1726.eval (.tmp 2) = .bool false), -⟩ := hf1726 [0] rfl
          have e1726_2 := f_2
          have hX1726 := Evo.step hX1724 (fun _ => Nat.le_refl 0) hE1726 rfl
          refine fl_ret ?_
          refine hp1457 _ _ _ rfl ?_
          refine hp1456 _ _ _ rfl ?_
          replace hs := hz1451 _ hs
          refine hp1451 _ _ _ rfl ?_
          refine hp893 _ _ _ rfl ?_
          refine hp891 _ _ _ rfl ?_
          obtain rfl := osome hs
          exact hret _ _ _ _ (.inl rfl) hd1726 (results1_ rfl (RVal.tmp_ e1726_2)) ⟨own1726, rfl, hX1726⟩
        refine fl_skip ?_
        refine hn1457 _ _ ?_
        refine hn1456 _ _ ?_
        refine rg_plain (n := 91) (rs := []) (own0 := own1724) (K := [])
            (bs := [0, 1, 3])
            (ds := [⟨[], [5], [], Fct.val 29 (.int .i64 i1174)⟩,
            ⟨[0], [], [], Fct.val 30 (.int .i64 (ad i1174 1))⟩,
            ⟨[1], [], [], Fct.val 5 (.int .i64 (ad i1174 1))⟩]) (by kernel_rfl) hz1724 hd1724 (fun _ h => nomatch h) ?_ ?_
        · refine steps_cons (fun own a wx hf hsl hE => ?_) ?_
          · obtain ⟨s_5, -⟩ := hsl
            exact sg_plain rfl rfl (or_move (s_5.trans e1724_5))
          refine steps_cons (fun own a wx hf hsl hE => ?_) ?_
          · obtain ⟨(f_29 : a.eval (.tmp 29) = .int .i64 i1174), -⟩ := hf
            exact sg_plain rfl rfl (or_add f_29 rfl rfl)
          refine steps_cons (fun own a wx hf hsl hE => ?_) ?_
          · obtain ⟨(f_30 : a.eval (.tmp 30) = .int .i64 (ad i1174 1)), -⟩ := hf
            exact sg_plain rfl rfl (or_assign f_30)
          exact steps_nil
        intro own1727 a1727 w1727 hd1727 hz1727 hk1727 hf1727 hE1727
        have e1727_0 : a1727.eval (.tmp 0) = .slice A873 x872.length cA873 := (hk1727 0 rfl).trans e1724_0
        have e1727_3 : a1727.eval (.tmp 3) = .pointer (some ⟨g875, 0, none⟩) := (hk1727 3 rfl).trans e1724_3
        have e1727_4 : a1727.eval (.tmp 4) = .slice A884 r883.length cA884 := (hk1727 4 rfl).trans e1724_4
        obtain ⟨(f_5 : a1727.eval (.tmp 5) = .int .i64 (ad i1174 1)), -⟩ := hf1727 [2] rfl
        have e1727_5 := f_5
        have hX1727 := Evo.step hX1724 (fun _ => Nat.le_refl 0) hE1727 rfl
        have b1727_A873 := RdO.evo rfl hE1727 b1724_A873
        have b1727_g875 := BlkO.evo (by decide) hE1727 b1724_g875
        have b1727_A1459 := RwO.evo rfl hE1727 b1724_A1459
        have b1727_A884 := RwO.evo rfl hE1727 b1724_A884
        exact hn1451 _ _ _ hs ⟨(rl [(1460, 1173), (1461, 1169)] own1727), A1459, cA1459, hd1727, hz1727, e1727_0, e1727_3, e1727_4, e1727_5, (Evo.rl_ hX1727 (fun _ => Nat.le_refl 0) rfl), (RdO.rl_ (mm := [(1460, 1173), (1461, 1169)]) b1727_A873), (BlkO.rl_ (mm := [(1460, 1173), (1461, 1169)]) b1727_g875), (RwO.rl_ (mm := [(1460, 1173), (1461, 1169)]) b1727_A1459), (RwO.rl_ (mm := [(1460, 1173), (1461, 1169)]) b1727_A884)⟩
    refine fl_exit ?_
    refine hp1453 _ _ _ rfl ?_
    replace hs := hz1451 _ hs
    refine hp1451 _ _ _ rfl ?_
    refine hx893 _ _ ?_
    refine hn891 _ _ ?_
    obtain ⟨r1728, hr1728, hs⟩ := obind hs
    obtain ⟨r1729, hr1729, hs⟩ := obind hs
    refine rg_plain_seq (n := 91) (rs := []) (own0 := own1454) (K := [])
        (bs := [0, 1, 3, 7, 15, 31])
        (ds := [⟨[], [], [], Fct.val 86 (.bool r1728)⟩,
        ⟨[0], [], [], Fct.val 87 (.bool r1728)⟩,
        ⟨[1], [3], [], Fct.cond r1728 (some 88) (Fct.val 88 (.int .i64 r1729))⟩,
        ⟨[1, 2], [], [], Fct.cond r1728 (some 89) (Fct.val 89 (.bool (decide (r1729 = 0))))⟩,
        ⟨[1, 3], [], [], Fct.val 90 (.bool (r1728 && (decide (r1729 = 0))))⟩,
        ⟨[4], [], [], Fct.val 2 (.bool (r1728 && (decide (r1729 = 0))))⟩]) (by kernel_rfl) hz1454 hd1454 (fun _ h => nomatch h) ?_ ?_
    · refine steps_cons (fun own a wx hf hsl hE => ?_) ?_
      · exact sg_plain rfl rfl (or_call cf10 (args0) (law05_known_w _   r1728 hr1728) post_val)
      refine steps_cons (fun own a wx hf hsl hE => ?_) ?_
      · obtain ⟨(f_86 : a.eval (.tmp 86) = .bool r1728), -⟩ := hf
        exact sg_plain rfl rfl (or_move f_86)
      refine steps_cons (fun own a wx hf hsl hE => ?_) ?_
      · obtain ⟨(f_87 : a.eval (.tmp 87) = .bool r1728), -⟩ := hf
        obtain ⟨s_3, -⟩ := hsl
        refine sg_t rfl rfl rfl f_87 (fun hg => ?_)
        exact or_call cf11 (args1 (s_3.trans e1454_3)) (heap_Heap_Len_w _ h1172 g875 26 A1170 c1171 (BlkO.zero_ (BlkO.evo (by decide) hE b1454_g875)) (RdO.zero (RwO.rd (RwO.evo rfl hE b1454_A1170))) r1729 (gd_t hr1729 hg)) post_val
      refine steps_cons (fun own a wx hf hsl hE => ?_) ?_
      · obtain ⟨(f_87 : a.eval (.tmp 87) = .bool r1728), c_88, -⟩ := hf
        refine sg_t rfl rfl rfl f_87 (fun hg => ?_)
        have f_88 : a.eval (.tmp 88) = .int .i64 r1729 := c_88.1 hg
        exact or_eql f_88 rfl rfl
      refine steps_cons (fun own a wx hf hsl hE => ?_) ?_
      · obtain ⟨(f_87 : a.eval (.tmp 87) = .bool r1728), c_89, -⟩ := hf
        exact sg_plain rfl rfl (or_and f_87 (fun hx => c_89.1 hx) rfl rfl)
      refine steps_cons (fun own a wx hf hsl hE => ?_) ?_
      · obtain ⟨(f_90 : a.eval (.tmp 90) = .bool (r1728 && (decide (r1729 = 0)))), -⟩ := hf
        exact sg_plain rfl rfl (or_assign f_90)
      exact steps_nil
    intro own1730 a1730 w1730 hd1730 hz1730 hk1730 hf1730 hE1730
    obtain ⟨(f_2 : a1730.eval (.tmp 2) = .bool (r1728 && (decide (r1729 = 0)))), -⟩ := hf1730 [5] rfl
    have e1730_2 := f_2
    have hX1730 := Evo.step hX1454 (fun _ => Nat.le_refl 0) hE1730 rfl
    refine fl_ret ?_
    obtain rfl := osome hs
    exact hret _ _ _ _ (.inl rfl) hd1730 (results1_ rfl (RVal.tmp_ e1730_2)) ⟨own1730, rfl, hX1730⟩

theorem ref05_Drop_w (w : World) (own : Own) (l1 : List (Int × Int × Int)) (Al1 : Option Addr) (cl1 : Nat) (x2 : Int × Int × Int) (hown : ∀ b, own b ≤ 1) (hl1 : RdO own [1] w R41 Al1 cl1 l1) (r : (List (Int × Int × Int)) × Bool) (hs : ref05_Drop l1 x2 = some r) :
    Calls Try.prog 12 #[.slice Al1 l1.length cl1, .agg #[.int .i64 x2.1, .int .i64 x2.2.1, .int .i64 x2.2.2]] w fun e w' => ∃ (own' : Own) (x : Option Addr × Nat), e = .returned (.tuple #[.slice x.1 r.1.length x.2, .bool r.2]) ∧ Evo [] own own' w w' ∧ RdO own' [1, 2] w' R41 x.1 x.2 r.1 := by
  refine fl_enter (n := 30) rfl rfl rfl (Nat.le_of_ble_eq_true rfl) ?_
  intro a0 Q hd0 hz0 harg hret
  have ha0 := harg 0 _ rfl
  have ha1 := harg 1 _ rfl
  clear harg
  have hE0 : Evo [] own own w w := Evo.refl _ _ _
  refine rg_plain_seq (n := 30) (rs := []) (own0 := own) (K := [])
      (bs := [0, 0, 2])
      (ds := [⟨[], [1], [], Fct.blk 91 3 (fun g => .pointer (some ⟨g, 0, none⟩)) 41 #[.int .i64 x2.1, .int .i64 x2.2.1, .int .i64 x2.2.2]⟩,
      ⟨[], [], [], Fct.val 4 (.slice none 0 0)⟩,
      ⟨[], [], [], Fct.val 5 (.bool false)⟩]) (by kernel_rfl) hz0 hd0 (fun _ h => nomatch h) ?_ ?_
  · refine steps_cons (fun own a wx hf hsl hE => ?_) ?_
    · obtain ⟨s_1, -⟩ := hsl
      exact sg_plain rfl rfl (or_new [(1, .agg #[.int .i64 x2.1, .int .i64 x2.2.1, .int .i64 x2.2.2])] rfl rfl ⟨(s_1.trans ha1), trivial⟩ (by kernel_rfl))
    refine steps_cons (fun own a wx hf hsl hE => ?_) ?_
    · exact sg_plain rfl rfl (or_assign rfl)
    refine steps_cons (fun own a wx hf hsl hE => ?_) ?_
    · exact sg_plain rfl rfl (or_assign rfl)
    exact steps_nil
  intro own92 a92 w92 hd92 hz92 hk92 hf92 hE92
  have e92_0 : a92.eval (.tmp 0) = .slice Al1 l1.length cl1 := (hk92 0 rfl).trans ha0
  obtain ⟨⟨g90, (f_3 : a92.eval (.tmp 3) = .pointer (some ⟨g90, 0, none⟩)), (b_g90 : BlkO own92 91 w92 g90 41 #[.int .i64 x2.1, .int .i64 x2.2.1, .int .i64 x2.2.2])⟩, -⟩ := hf92 [0] rfl
  have e92_3 := f_3
  have hX92 := Evo.step hE0 hown hE92 rfl
  have b92_Al1 := RdO.evo rfl hE92 hl1
  have b92_g90 := b_g90
  refine fl_seq (fun Q93 hn93 hp93 => ?_)
  refine rg_plain_seq (n := 30) (rs := []) (own0 := own92) (K := [])
      (bs := [0])
      (ds := [⟨[], [], [], Fct.val 6 (.int .i64 0)⟩]) (by kernel_rfl) hz92 hd92 (fun _ h => nomatch h) ?_ ?_
  · refine steps_cons (fun own a wx hf hsl hE => ?_) ?_
    · exact sg_plain rfl rfl (or_assign rfl)
    exact steps_nil
  intro own94 a94 w94 hd94 hz94 hk94 hf94 hE94
  have e94_0 : a94.eval (.tmp 0) = .slice Al1 l1.length cl1 := (hk94 0 rfl).trans e92_0
  have e94_3 : a94.eval (.tmp 3) = .pointer (some ⟨g90, 0, none⟩) := (hk94 3 rfl).trans e92_3
  obtain ⟨(f_6 : a94.eval (.tmp 6) = .int .i64 0), -⟩ := hf94 [0] rfl
  have e94_6 := f_6
  have hX94 := Evo.step hX92 hown hE94 rfl
  have b94_Al1 := RdO.evo rfl hE94 b92_Al1
  have b94_g90 := BlkO.evo (by decide) hE94 b92_g90
  refine fl_block (fun Q95 hn95 hx95 hp95 => ?_)
  refine fl_loop (body := (fun s => ref05_Drop_b1 l1 x2 s)) (z := r) (show loopO _ _ = _ from hs) (fun (i119 : Int) a wx => ∃ (ox : Own), a.defers = [] ∧ a.tmps.size = 30 ∧ a.eval (.tmp 0) = .slice Al1 l1.length cl1 ∧ a.eval (.tmp 3) = .pointer (some ⟨g90, 0, none⟩) ∧ a.eval (.tmp 6) = .int .i64 i119 ∧ Evo [] own ox w wx ∧ RdO ox [1] wx R41 Al1 cl1 l1 ∧ BlkO ox 91 wx g90 41 #[.int .i64 x2.1, .int .i64 x2.2.1, .int .i64 x2.2.2]) ?_ ?_
  · exact ⟨own94, hd94, hz94, e94_0, e94_3, e94_6, hX94, b94_Al1, b94_g90⟩
  · rintro i119 zz143 a143 w143 ⟨own143, hd144, hz144, e144_0, e144_3, e144_6, hE144, b144_Al1, b144_g90⟩ hs Q143 hn143 hp143 hz143
    have hs : ref05_Drop_b1 l1 x2 i119 = some zz143 := hs
    refine fl_seq (fun Q145 hn145 hp145 => ?_)
    refine rg_plain_seq (n := 30) (rs := []) (own0 := own143) (K := [])
        (bs := [0, 0, 2, 7])
        (ds := [⟨[], [6], [], Fct.val 7 (.int .i64 i119)⟩,
        ⟨[], [0], [], Fct.val 8 (.slice Al1 l1.length cl1)⟩,
        ⟨[1], [], [], Fct.val 9 (.int .i64 (l1.length : Int))⟩,
        ⟨[0, 2], [], [], Fct.val 10 (.bool (decide (i119 < (l1.length : Int))))⟩]) (by kernel_rfl) hz144 hd144 (fun _ h => nomatch h) ?_ ?_
    · refine steps_cons (fun own a wx hf hsl hE => ?_) ?_
      · obtain ⟨s_6, -⟩ := hsl
        exact sg_plain rfl rfl (or_move (s_6.trans e144_6))
      refine steps_cons (fun own a wx hf hsl hE => ?_) ?_
      · obtain ⟨s_0, -⟩ := hsl
        exact sg_plain rfl rfl (or_move (s_0.trans e144_0))
      refine steps_cons (fun own a wx hf hsl hE => ?_) ?_
      · obtain ⟨(f_8 : a.eval (.tmp 8) = .slice Al1 l1.length cl1), -⟩ := hf
        exact sg_plain rfl rfl (or_len tu38 f_8 rfl)
      refine steps_cons (fun own a wx hf hsl hE => ?_) ?_
      · obtain ⟨(f_7 : a.eval (.tmp 7) = .int .i64 i119), (f_9 : a.eval (.tmp 9) = .int .i64 (l1.length : Int)), -⟩ := hf
        exact sg_plain rfl rfl (or_lss f_7 f_9 rfl)
      exact steps_nil
    intro own146 a146 w146 hd146 hz146 hk146 hf146 hE146
    have e146_0 : a146.eval (.tmp 0) = .slice Al1 l1.length cl1 := (hk146 0 rfl).trans e144_0
    have e146_3 : a146.eval (.tmp 3) = .pointer (some ⟨g90, 0, none⟩) := (hk146 3 rfl).trans e144_3
    have e146_6 : a146.eval (.tmp 6) = .int .i64 i119 := (hk146 6 rfl).trans e144_6
    obtain ⟨(f_10 : a146.eval (.tmp 10) = .bool (decide (i119 < (l1.length : Int)))), -⟩ := hf146 [3] rfl
    have e146_10 := f_10
    have hX146 := Evo.step hE144 hown hE146 rfl
    have b146_Al1 := RdO.evo rfl hE146 b144_Al1
    have b146_g90 := BlkO.evo (by decide) hE146 b144_g90
    refine fl_cond e146_10 hs (fun c147 hs => ?_) (fun c147 hs => ?_)
    · refine fl_skip ?_
      refine hn145 _ _ ?_
      refine fl_seq (fun Q148 hn148 hp148 => ?_)
      refine fl_block (fun Q149 hn149 hx149 hp149 => ?_)
      obtain ⟨x150, hx150, hs⟩ := obind hs
      refine rg_draw_seq g_mixed (n := 30) (rs := []) (own0 := own146) (K := [])
          (bs := [0, 0, 3, 7, 0, 31])
          (ds := [⟨[], [0], [], Fct.val 13 (.slice Al1 l1.length cl1)⟩,
          ⟨[], [6], [], Fct.val 14 (.int .i64 i119)⟩,
          ⟨[0, 1], [], [], Fct.val 15 (.pointer (some ((adr Al1).add ((i119 : Int).toNat * R41.s))))⟩,
          ⟨[2], [], [], Fct.val 16 (.agg #[.int .i64 x150.1, .int .i64 x150.2.1, .int .i64 x150.2.2])⟩,
          ⟨[], [3], [], Fct.val 17 (.agg #[.int .i64 x2.1, .int .i64 x2.2.1, .int .i64 x2.2.2])⟩,
          ⟨[3, 4], [], [], Fct.val 18 (.bool (decide (x150 = x2)))⟩]) (by kernel_rfl) hz146 hd146 (fun _ h => nomatch h) ?_ ?_
      · refine steps_cons (fun own a wx hf hsl hE => ?_) ?_
        · obtain ⟨s_0, -⟩ := hsl
          exact sg_plain rfl rfl (or_move (s_0.trans e146_0))
        refine steps_cons (fun own a wx hf hsl hE => ?_) ?_
        · obtain ⟨s_6, -⟩ := hsl
          exact sg_plain rfl rfl (or_move (s_6.trans e146_6))
        refine steps_cons (fun own a wx hf hsl hE => ?_) ?_
        · obtain ⟨(f_13 : a.eval (.tmp 13) = .slice Al1 l1.length cl1), (f_14 : a.eval (.tmp 14) = .int .i64 i119), -⟩ := hf
          exact sg_plain rfl rfl (or_index (R := R41) (l := l1) tl38 f_13 f_14 (RdO.some_ b146_Al1 hx150) hx150)
        refine steps_cons (fun own a wx hf hsl hE => ?_) ?_
        · obtain ⟨(f_15 : a.eval (.tmp 15) = .pointer (some ((adr Al1).add ((i119 : Int).toNat * R41.s)))), -⟩ := hf
          exact sg_plain rfl rfl (or_load (l := E41.f x150) ta41 f_15 (RdO.cells (F := E41) (RdO.evo rfl hE b146_Al1) hx150) rfl)
        refine steps_cons (fun own a wx hf hsl hE => ?_) ?_
        · obtain ⟨s_3, -⟩ := hsl
          exact sg_plain rfl rfl (or_load (l := [.int .i64 x2.1, .int .i64 x2.2.1, .int .i64 x2.2.2]) ta41 (s_3.trans e146_3) (Blk.cellsFrom (BlkO.evo (by decide) hE b146_g90).2 0 rfl) rfl)
        refine steps_cons (fun own a wx hf hsl hE => ?_) ?_
        · obtain ⟨(f_16 : a.eval (.tmp 16) = .agg #[.int .i64 x150.1, .int .i64 x150.2.1, .int .i64 x150.2.2]), (f_17 : a.eval (.tmp 17) = .agg #[.int .i64 x2.1, .int .i64 x2.2.1, .int .i64 x2.2.2]), -⟩ := hf
          exact sg_plain rfl rfl (or_eqlA sg41 f_16 f_17 (se41 x150.1 x150.2.1 x150.2.2 x2.1 x2.2.1 x2.2.2 _) rfl)
        exact steps_nil
      intro own151 a151 w151 hd151 hz151 hk151 hf151 hE151
      have e151_0 : a151.eval (.tmp 0) = .slice Al1 l1.length cl1 := (hk151 0 rfl).trans e146_0
      have e151_3 : a151.eval (.tmp 3) = .pointer (some ⟨g90, 0, none⟩) := (hk151 3 rfl).trans e146_3
      have e151_6 : a151.eval (.tmp 6) = .int .i64 i119 := (hk151 6 rfl).trans e146_6
      obtain ⟨(f_18 : a151.eval (.tmp 18) = .bool (decide (x150 = x2))), -⟩ := hf151 [5] rfl
      have e151_18 := f_18
      have hX151 := Evo.step hX146 hown hE151 rfl
      have b151_Al1 := RdO.evo rfl hE151 b146_Al1
      have b151_g90 := BlkO.evo (by decide) hE151 b146_g90
      refine fl_cond e151_18 hs (fun c152 hs => ?_) (fun c152 hs => ?_)
      · obtain ⟨x155, hx155, hs⟩ := obind hs
        obtain ⟨x157, hx157, hs⟩ := obind hs
        obtain ⟨x160, hx160, hs⟩ := obind hs
        obtain ⟨x162, hx162, hs⟩ := obind hs
        refine rg_draw_seq g_mixed (n := 30) (rs := []) (own0 := own151) (K := [154, 158])
            (bs := [0, 0, 0, 6, 15, 0, 0, 64, 224, 511, 1023, 2047])
            (ds := [⟨[], [], [], Fct.row 154 [] 19 41 R41 ([] : List (Int × Int × Int))⟩,
            ⟨[], [0], [], Fct.val 20 (.slice Al1 l1.length cl1)⟩,
            ⟨[], [6], [], Fct.val 21 (.int .i64 i119)⟩,
            ⟨[1, 2], [], [], Fct.view [1] 22 R41 x155⟩,
            ⟨[0, 3], [], [154], Fct.row 158 [] 23 41 R41 x157⟩,
            ⟨[], [0], [], Fct.val 24 (.slice Al1 l1.length cl1)⟩,
            ⟨[], [6], [], Fct.val 25 (.int .i64 i119)⟩,
            ⟨[6], [], [], Fct.val 26 (.int .i64 (ad i119 1))⟩,
            ⟨[5, 7], [], [], Fct.view [1] 27 R41 x160⟩,
            ⟨[4, 8], [], [158], Fct.row 163 [] 28 41 R41 x162⟩,
            ⟨[9], [], [], Fct.rel [4, 28] (fun l => ∀ (A164 : Option Addr) (cA164 : Nat), l.getD 1 undef = .slice A164 x162.length cA164 → l.getD 0 undef = .slice A164 x162.length cA164)⟩,
            ⟨[], [], [], Fct.val 5 (.bool true)⟩]) (by kernel_rfl) hz151 hd151 (fun _ h => nomatch h) ?_ ?_
        · refine steps_cons (fun own a wx hf hsl hE => ?_) ?_
          · exact sg_plain rfl rfl (or_lit (lab := 154) (e := 41) (cs := #[]) (F := E41) (or_new [] rfl rfl trivial (by kernel_rfl)) rfl rfl (show 0 ≤ maxLen by decide))
          refine steps_cons (fun own a wx hf hsl hE => ?_) ?_
          · obtain ⟨s_0, -⟩ := hsl
            exact sg_plain rfl rfl (or_move (s_0.trans e151_0))
          refine steps_cons (fun own a wx hf hsl hE => ?_) ?_
          · obtain ⟨s_6, -⟩ := hsl
            exact sg_plain rfl rfl (or_move (s_6.trans e151_6))
          refine steps_cons (fun own a wx hf hsl hE => ?_) ?_
          · obtain ⟨(f_20 : a.eval (.tmp 20) = .slice Al1 l1.length cl1), (f_21 : a.eval (.tmp 21) = .int .i64 i119), -⟩ := hf
            exact sg_plain rfl rfl (or_view (R := R41) (l := l1) (L := [1]) tu38 ts41 f_20 Bnd.none_ (Bnd.some_ f_21) Bnd.none_ (RdO.evo rfl hE b151_Al1) hx155 (.inl rfl) (by simp))
          refine steps_cons (fun own a wx hf hsl hE => ?_) ?_
          · obtain ⟨⟨⟨A153, cA153⟩, (f_19 : a.eval (.tmp 19) = .slice A153 ([] : List (Int × Int × Int)).length cA153), (b_A153 : RwO own 154 [] wx 41 R41 A153 cA153 ([] : List (Int × Int × Int)))⟩, ⟨⟨A156, cA156⟩, (f_22 : a.eval (.tmp 22) = .slice A156 x155.length cA156), (b_A156 : RdO own [1] wx R41 A156 cA156 x155)⟩, -⟩ := hf
            exact sg_plain rfl rfl (or_append (R := R41) (lab := 154) (lab2 := 158) (L := []) (L3 := []) tp38 f_19 b_A153 (by decide) f_22 b_A156 hx157 (by decide) (by decide) (mem_of rfl) (.inl (Rep.fl_flat _)))
          refine steps_cons (fun own a wx hf hsl hE => ?_) ?_
          · obtain ⟨s_0, -⟩ := hsl
            exact sg_plain rfl rfl (or_move (s_0.trans e151_0))
          refine steps_cons (fun own a wx hf hsl hE => ?_) ?_
          · obtain ⟨s_6, -⟩ := hsl
            exact sg_plain rfl rfl (or_move (s_6.trans e151_6))
          refine steps_cons (fun own a wx hf hsl hE => ?_) ?_
          · obtain ⟨(f_25 : a.eval (.tmp 25) = .int .i64 i119), -⟩ := hf
            exact sg_plain rfl rfl (or_add f_25 rfl rfl)
          refine steps_cons (fun own a wx hf hsl hE => ?_) ?_
          · obtain ⟨(f_24 : a.eval (.tmp 24) = .slice Al1 l1.length cl1), (f_26 : a.eval (.tmp 26) = .int .i64 (ad i119 1)), -⟩ := hf
            exact sg_plain rfl rfl (or_view (R := R41) (l := l1) (L := [1]) tu38 ts41 f_24 (Bnd.some_ f_26) Bnd.none_ Bnd.none_ (RdO.evo rfl hE b151_Al1) hx160 (.inl rfl) (by simp))
          refine steps_cons (fun own a wx hf hsl hE => ?_) ?_
          · obtain ⟨⟨⟨A159, cA159⟩, (f_23 : a.eval (.tmp 23) = .slice A159 x157.length cA159), (b_A159 : RwO own 158 [] wx 41 R41 A159 cA159 x157)⟩, ⟨⟨A161, cA161⟩, (f_27 : a.eval (.tmp 27) = .slice A161 x160.length cA161), (b_A161 : RdO own [1] wx R41 A161 cA161 x160)⟩, -⟩ := hf
            exact sg_plain rfl rfl (or_append (R := R41) (lab := 158) (lab2 := 163) (L := []) (L3 := []) tp38 f_23 b_A159 (by decide) f_27 b_A161 hx162 (by decide) (by decide) (mem_of rfl) (.inl (Rep.fl_flat _)))
          refine steps_cons (fun own a wx hf hsl hE => ?_) ?_
          · obtain ⟨⟨⟨A164, cA164⟩, (f_28 : a.eval (.tmp 28) = .slice A164 x162.length cA164), (b_A164 : RwO own 163 [] wx 41 R41 A164 cA164 x162)⟩, -⟩ := hf
            exact sg_plain rfl rfl (or_mono (f := Fct.val 4 (.slice A164 x162.length cA164)) (or_assign f_28) (fun own' a' w' v' hp h => fun _ _ h0' => by cases (f_28.symm.trans ((hp.2 28 (by decide)).symm.trans h0')); exact h))
          refine steps_cons (fun own a wx hf hsl hE => ?_) ?_
          · exact sg_plain rfl rfl (or_assign rfl)
          exact steps_nil
        intro own165 a165 w165 hd165 hz165 hk165 hf165 hE165
        obtain ⟨⟨⟨A164, cA164⟩, (f_28 : a165.eval (.tmp 28) = .slice A164 x162.length cA164), (b_A164 : RwO own165 163 [] w165 41 R41 A164 cA164 x162)⟩, (q_4 : ∀ (A164 : Option Addr) (cA164 : Nat), a165.eval (.tmp 28) = .slice A164 x162.length cA164 → a165.eval (.tmp 4) = .slice A164 x162.length cA164), (f_5 : a165.eval (.tmp 5) = .bool true), -⟩ := hf165 [9, 10, 11] rfl
        have f_4 := q_4 _ _ f_28
        have e165_4 := f_4
        have e165_5 := f_5
        have hX165 := Evo.step hX151 hown hE165 rfl
        have b165_A164 := b_A164
        refine fl_ret ?_
        refine hp149 _ _ _ rfl ?_
        refine hp148 _ _ _ rfl ?_
        replace hs := hz143 _ hs
        refine hp143 _ _ _ rfl ?_
        refine hp95 _ _ _ rfl ?_
        refine hp93 _ _ _ rfl ?_
        obtain rfl := osome hs
        exact hret _ _ _ _ (.inl rfl) hd165 (results2_ rfl (RVal.tmp_ e165_4) (RVal.tmp_ e165_5)) ⟨(rl [(163, 2)] own165), (A164, cA164), rfl, (Evo.rl_ hX165 hown rfl), (RdO.more (RdO.rl_ (mm := [(163, 2)]) (RwO.rd b165_A164)) (by decide))⟩
      refine fl_skip ?_
      refine hn149 _ _ ?_
      refine hn148 _ _ ?_
      refine rg_plain (n := 30) (rs := []) (own0 := own151) (K := [])
          (bs := [0, 1, 3])
          (ds := [⟨[], [6], [], Fct.val 11 (.int .i64 i119)⟩,
          ⟨[0], [], [], Fct.val 12 (.int .i64 (ad i119 1))⟩,
          ⟨[1], [], [], Fct.val 6 (.int .i64 (ad i119 1))⟩]) (by kernel_rfl) hz151 hd151 (fun _ h => nomatch h) ?_ ?_
      · refine steps_cons (fun own a wx hf hsl hE => ?_) ?_
        · obtain ⟨s_6, -⟩ := hsl
          exact sg_plain rfl rfl (or_move (s_6.trans e151_6))
        refine steps_cons (fun own a wx hf hsl hE => ?_) ?_
        · obtain ⟨(f_11 : a.eval (.tmp 11) = .int .i64 i119), -⟩ := hf
          exact sg_plain rfl rfl (or_add f_11 rfl rfl)
        refine steps_cons (fun own a wx hf hsl hE => ?_) ?_
        · obtain ⟨(f_12 : a.eval (.tmp 12) = .int .i64 (ad i119 1)), -⟩ := hf
          exact sg_plain rfl rfl (or_assign f_12)
        exact steps_nil
      intro own166 a166 w166 hd166 hz166 hk166 hf166 hE166
      have e166_0 : a166.eval (.tmp 0) = .slice Al1 l1.length cl1 := (hk166 0 rfl).trans e151_0
      have e166_3 : a166.eval (.tmp 3) = .pointer (some ⟨g90, 0, none⟩) := (hk166 3 rfl).trans e151_3
      obtain ⟨(f_6 : a166.eval (.tmp 6) = .int .i64 (ad i119 1)), -⟩ := hf166 [2] rfl
      have e166_6 := f_6
      have hX166 := Evo.step hX151 hown hE166 rfl
      have b166_Al1 := RdO.evo rfl hE166 b151_Al1
      have b166_g90 := BlkO.evo (by decide) hE166 b151_g90
      exact hn143 _ _ _ hs ⟨own166, hd166, hz166, e166_0, e166_3, e166_6, hX166, b166_Al1, b166_g90⟩
    refine fl_exit ?_
    refine hp145 _ _ _ rfl ?_
    replace hs := hz143 _ hs
    refine hp143 _ _ _ rfl ?_
    refine hx95 _ _ ?_
    refine hn93 _ _ ?_
    refine rg_plain_seq (n := 30) (rs := []) (own0 := own146) (K := [])
        (bs := [0, 1, 3])
        (ds := [⟨[], [0], [], Fct.val 29 (.slice Al1 l1.length cl1)⟩,
        ⟨[0], [], [], Fct.val 4 (.slice Al1 l1.length cl1)⟩,
        ⟨[], [], [], Fct.val 5 (.bool false)⟩]) (by kernel_rfl) hz146 hd146 (fun _ h => nomatch h) ?_ ?_
    · refine steps_cons (fun own a wx hf hsl hE => ?_) ?_
      · obtain ⟨s_0, -⟩ := hsl
        exact sg_plain rfl rfl (or_move (s_0.trans e146_0))
      refine steps_cons (fun own a wx hf hsl hE => ?_) ?_
      · obtain ⟨(f_29 : a.eval (.tmp 29) = .slice Al1 l1.length cl1), -⟩ := hf
        exact sg_plain rfl rfl (or_assign f_29)
      refine steps_cons (fun own a wx hf hsl hE => ?_) ?_
      · exact sg_plain rfl rfl (or_assign rfl)
      exact steps_nil
    intro own167 a167 w167 hd167 hz167 hk167 hf167 hE167
    obtain ⟨(f_4 : a167.eval (.tmp 4) = .slice Al1 l1.length cl1), (f_5 : a167.eval (.tmp 5) = .bool false), -⟩ := hf167 [1, 2] rfl
    have e167_4 := f_4
    have e167_5 := f_5
    have hX167 := Evo.step hX146 hown hE167 rfl
    have b167_Al1 := RdO.evo rfl hE167 b146_Al1
    refine fl_ret ?_
    obtain rfl := osome hs
    exact hret _ _ _ _ (.inl rfl) hd167 (results2_ rfl (RVal.tmp_ e167_4) (RVal.tmp_ e167_5)) ⟨own167, (Al1, cl1), rfl, hX167, (RdO.more b167_Al1 (by decide))⟩

theorem law05_HeapPlays_w (w : World) (acts1 : List (Int × (Int × Int × Int) × (Int × Int × Int))) (Aacts1 : Option Addr) (cacts1 : Nat) (hacts1 : RdO (fun _ => 0) [0] w R40 Aacts1 cacts1 acts1) (r : Bool) (hs : law05_HeapPlays acts1 = some r) :
    Calls Try.prog 4 #[.slice Aacts1 acts1.length cacts1] w fun e w' => ∃ own' : Own, e = .returned (.bool r) ∧ Evo [] (fun _ => 0) own' w w' := by
  refine fl_enter (n := 156) rfl rfl rfl (Nat.le_of_ble_eq_true rfl) ?_
  intro a0 Q hd0 hz0 harg hret
  have ha0 := harg 0 _ rfl
  clear harg
  have hE0 : Evo [] (fun _ => 0) (fun _ => 0) w w := Evo.refl _ _ _
  refine rg_plain_seq (n := 156) (rs := []) (own0 := (fun _ => 0)) (K := [])
      (bs := [0])
      (ds := [⟨[], [], [], Fct.val 2 (.bool false)⟩]) (by kernel_rfl) hz0 hd0 (fun _ h => nomatch h) ?_ ?_
  · refine steps_cons (fun own a wx hf hsl hE => ?_) ?_
    · exact sg_plain rfl rfl (or_assign rfl)
    exact steps_nil
  intro own3539 a3539 w3539 hd3539 hz3539 hk3539 hf3539 hE3539
  have e3539_0 : a3539.eval (.tmp 0) = .slice Aacts1 acts1.length cacts1 := (hk3539 0 rfl).trans ha0
  have hX3539 := Evo.step hE0 (fun _ => Nat.le_refl 0) hE3539 rfl
  have b3539_Aacts1 := RdO.evo rfl hE3539 hacts1
  refine rg_plain_seq (n := 156) (rs := []) (own0 := own3539) (K := [])
      (bs := [0])
      (ds := [⟨[], [], [], Fct.blk 3541 3 (fun g => .pointer (some ⟨g, 0, none⟩)) 26 #[.slice none 0 0]⟩]) (by kernel_rfl) hz3539 hd3539 (fun _ h => nomatch h) ?_ ?_
  · refine steps_cons (fun own a wx hf hsl hE => ?_) ?_
    · exact sg_plain rfl rfl (or_new [] rfl rfl trivial (by kernel_rfl))
    exact steps_nil
  intro own3542 a3542 w3542 hd3542 hz3542 hk3542 hf3542 hE3542
  have e3542_0 : a3542.eval (.tmp 0) = .slice Aacts1 acts1.length cacts1 := (hk3542 0 rfl).trans e3539_0
  obtain ⟨⟨g3540, (f_3 : a3542.eval (.tmp 3) = .pointer (some ⟨g3540, 0, none⟩)), (b_g3540 : BlkO own3542 3541 w3542 g3540 26 #[.slice none 0 0])⟩, -⟩ := hf3542 [0] rfl
  have e3542_3 := f_3
  have hX3542 := Evo.step hX3539 (fun _ => Nat.le_refl 0) hE3542 rfl
  have b3542_Aacts1 := RdO.evo rfl hE3542 b3539_Aacts1
  have b3542_g3540 := b_g3540
  refine rg_plain_seq (n := 156) (rs := []) (own0 := own3542) (K := [])
      (bs := [0])
      (ds := [⟨[], [], [], Fct.val 4 (.slice none 0 0)⟩]) (by kernel_rfl) hz3542 hd3542 (fun _ h => nomatch h) ?_ ?_
  · refine steps_cons (fun own a wx hf hsl hE => ?_) ?_
    · exact sg_plain rfl rfl (or_assign rfl)
    exact steps_nil
  intro own3543 a3543 w3543 hd3543 hz3543 hk3543 hf3543 hE3543
  have e3543_0 : a3543.eval (.tmp 0) = .slice Aacts1 acts1.length cacts1 := (hk3543 0 rfl).trans e3542_0
  have e3543_3 : a3543.eval (.tmp 3) = .pointer (some ⟨g3540, 0, none⟩) := (hk3543 3 rfl).trans e3542_3
  obtain ⟨(f_4 : a3543.eval (.tmp 4) = .slice none 0 0), -⟩ := hf3543 [0] rfl
  have e3543_4 := f_4
  have hX3543 := Evo.step hX3542 (fun _ => Nat.le_refl 0) hE3543 rfl
  have b3543_Aacts1 := RdO.evo rfl hE3543 b3542_Aacts1
  have b3543_g3540 := BlkO.evo (by decide) hE3543 b3542_g3540
  refine fl_seq (fun Q3544 hn3544 hp3544 => ?_)
  refine rg_plain_seq (n := 156) (rs := []) (own0 := own3543) (K := [])
      (bs := [0])
      (ds := [⟨[], [], [], Fct.val 5 (.int .i64 0)⟩]) (by kernel_rfl) hz3543 hd3543 (fun _ h => nomatch h) ?_ ?_
  · refine steps_cons (fun own a wx hf hsl hE => ?_) ?_
    · exact sg_plain rfl rfl (or_assign rfl)
    exact steps_nil
  intro own3545 a3545 w3545 hd3545 hz3545 hk3545 hf3545 hE3545
  have e3545_0 : a3545.eval (.tmp 0) = .slice Aacts1 acts1.length cacts1 := (hk3545 0 rfl).trans e3543_0
  have e3545_3 : a3545.eval (.tmp 3) = .pointer (some ⟨g3540, 0, none⟩) := (hk3545 3 rfl).trans e3543_3
  have e3545_4 : a3545.eval (.tmp 4) = .slice none 0 0 := (hk3545 4 rfl).trans e3543_4
  obtain ⟨(f_5 : a3545.eval (.tmp 5) = .int .i64 0), -⟩ := hf3545 [0] rfl
  have e3545_5 := f_5
  have hX3545 := Evo.step hX3543 (fun _ => Nat.le_refl 0) hE3545 rfl
  have b3545_Aacts1 := RdO.evo rfl hE3545 b3543_Aacts1
  have b3545_g3540 := BlkO.evo (by decide) hE3545 b3543_g3540
  refine fl_block (fun Q3546 hn3546 hx3546 hp3546 => ?_)
  refine fl_loop (body := (fun s => law05_HeapPlays_b1 acts1 s.1 s.2.1 s.2.2)) (z := r) (show loopO _ _ = _ from hs) (fun (s : (List (Int × Int × Int)) × (List (Int × Int × Int)) × Int) a wx => match s with | (h4706, m4710, i4712) => ∃ (ox : Own) (A4704 : Option Addr) (c4705 : Nat) (A4708 : Option Addr) (c4709 : Nat), a.defers = [] ∧ a.tmps.size = 156 ∧ a.eval (.tmp 0) = .slice Aacts1 acts1.length cacts1 ∧ a.eval (.tmp 3) = .pointer (some ⟨g3540, 0, none⟩) ∧ a.eval (.tmp 4) = .slice A4708 m4710.length c4709 ∧ a.eval (.tmp 5) = .int .i64 i4712 ∧ Evo [] (fun _ => 0) ox w wx ∧ RdO ox [0] wx R40 Aacts1 cacts1 acts1 ∧ BlkO ox 4703 wx g3540 26 #[.slice A4704 h4706.length c4705] ∧ RwO ox 4707 [] wx 30 R30 A4704 c4705 h4706 ∧ RdO ox [0, 4711] wx R41 A4708 c4709 m4710) ?_ ?_
  · exact ⟨(rl [(3541, 4703)] own3545), none, 0, none, 0, hd3545, hz3545, e3545_0, e3545_3, e3545_4, e3545_5, (Evo.rl_ hX3545 (fun _ => Nat.le_refl 0) rfl), (RdO.rl_ (mm := [(3541, 4703)]) b3545_Aacts1), (BlkO.rl_ (mm := [(3541, 4703)]) b3545_g3540), RwO.nil_, RdO.nil_⟩
  · rintro ⟨h4706, m4710, i4712⟩ zz5889 a5889 w5889 ⟨own5889, A4704, c4705, A4708, c4709, hd5890, hz5890, e5890_0, e5890_3, e5890_4, e5890_5, hE5890, b5890_Aacts1, b5890_g3540, b5890_A4704, b5890_A4708⟩ hs Q5889 hn5889 hp5889 hz5889
    have hs : law05_HeapPlays_b1 acts1 h4706 m4710 i4712 = some zz5889 := hs
    refine fl_seq (fun Q5891 hn5891 hp5891 => ?_)
    obtain ⟨x5892, hx5892, hs⟩ := obind hs
    refine rg_plain_seq (n := 156) (rs := []) (own0 := own5889) (K := [])
        (bs := [0, 0, 2, 7, 15, 31, 63, 127])
        (ds := [⟨[], [5], [], Fct.val 15 (.int .i64 i4712)⟩,
        ⟨[], [0], [], Fct.val 16 (.slice Aacts1 acts1.length cacts1)⟩,
        ⟨[1], [], [], Fct.val 17 (.int .i64 (acts1.length : Int))⟩,
        ⟨[0, 2], [], [], Fct.val 18 (.bool (decide (i4712 < (acts1.length : Int))))⟩,
        ⟨[3], [], [], Fct.val 19 (.bool (decide (i4712 < (acts1.length : Int))))⟩,
        ⟨[4], [5], [], Fct.cond (decide (i4712 < (acts1.length : Int))) (some 20) (Fct.val 20 (.int .i64 i4712))⟩,
        ⟨[4, 5], [], [], Fct.cond (decide (i4712 < (acts1.length : Int))) (some 21) (Fct.val 21 (.bool (decide (i4712 < 80))))⟩,
        ⟨[4, 6], [], [], Fct.val 22 (.bool x5892)⟩]) (by kernel_rfl) hz5890 hd5890 (fun _ h => nomatch h) ?_ ?_
    · refine steps_cons (fun own a wx hf hsl hE => ?_) ?_
      · obtain ⟨s_5, -⟩ := hsl
        exact sg_plain rfl rfl (or_move (s_5.trans e5890_5))
      refine steps_cons (fun own a wx hf hsl hE => ?_) ?_
      · obtain ⟨s_0, -⟩ := hsl
        exact sg_plain rfl rfl (or_move (s_0.trans e5890_0))
      refine steps_cons (fun own a wx hf hsl hE => ?_) ?_
      · obtain ⟨(f_16 : a.eval (.tmp 16) = .slice Aacts1 acts1.length cacts1), -⟩ := hf
        exact sg_plain rfl rfl (or_len tu37 f_16 rfl)
      refine steps_cons (fun own a wx hf hsl hE => ?_) ?_
      · obtain ⟨(f_15 : a.eval (.tmp 15) = .int .i64 i4712), (f_17 : a.eval (.tmp 17) = .int .i64 (acts1.length : Int)), -⟩ := hf
        exact sg_plain rfl rfl (or_lss f_15 f_17 rfl)
      refine steps_cons (fun own a wx hf hsl hE => ?_) ?_
      · obtain ⟨(f_18 : a.eval (.tmp 18) = .bool (decide (i4712 < (acts1.length : Int)))), -⟩ := hf
        exact sg_plain rfl rfl (or_move f_18)
      refine steps_cons (fun own a wx hf hsl hE => ?_) ?_
      · obtain ⟨(f_19 : a.eval (.tmp 19) = .bool (decide (i4712 < (acts1.length : Int)))), -⟩ := hf
        obtain ⟨s_5, -⟩ := hsl
        refine sg_t rfl rfl rfl f_19 (fun hg => ?_)
        exact or_move (s_5.trans e5890_5)
      refine steps_cons (fun own a wx hf hsl hE => ?_) ?_
      · obtain ⟨(f_19 : a.eval (.tmp 19) = .bool (decide (i4712 < (acts1.length : Int)))), c_20, -⟩ := hf
        refine sg_t rfl rfl rfl f_19 (fun hg => ?_)
        have f_20 : a.eval (.tmp 20) = .int .i64 i4712 := c_20.1 hg
        exact or_lss f_20 rfl rfl
      refine steps_cons (fun own a wx hf hsl hE => ?_) ?_
      · obtain ⟨(f_19 : a.eval (.tmp 19) = .bool (decide (i4712 < (acts1.length : Int)))), c_21, -⟩ := hf
        exact sg_plain rfl rfl (or_and f_19 (fun hx => c_21.1 hx) rfl (osome hx5892).symm)
      exact steps_nil
    intro own5893 a5893 w5893 hd5893 hz5893 hk5893 hf5893 hE5893
    have e5893_0 : a5893.eval (.tmp 0) = .slice Aacts1 acts1.length cacts1 := (hk5893 0 rfl).trans e5890_0
    have e5893_3 : a5893.eval (.tmp 3) = .pointer (some ⟨g3540, 0, none⟩) := (hk5893 3 rfl).trans e5890_3
    have e5893_4 : a5893.eval (.tmp 4) = .slice A4708 m4710.length c4709 := (hk5893 4 rfl).trans e5890_4
    have e5893_5 : a5893.eval (.tmp 5) = .int .i64 i4712 := (hk5893 5 rfl).trans e5890_5
    obtain ⟨(f_22 : a5893.eval (.tmp 22) = .bool x5892), -⟩ := hf5893 [7] rfl
    have e5893_22 := f_22
    have hX5893 := Evo.step hE5890 (fun _ => Nat.le_refl 0) hE5893 rfl
    have b5893_Aacts1 := RdO.evo rfl hE5893 b5890_Aacts1
    have b5893_g3540 := BlkO.evo (by decide) hE5893 b5890_g3540
    have b5893_A4704 := RwO.evo rfl hE5893 b5890_A4704
    have b5893_A4708 := RdO.evo rfl hE5893 b5890_A4708
    refine fl_cond e5893_22 hs (fun c5894 hs => ?_) (fun c5894 hs => ?_)
    · refine fl_skip ?_
      refine hn5891 _ _ ?_
      refine fl_seq (fun Q5895 hn5895 hp5895 => ?_)
      refine fl_block (fun Q5896 hn5896 hx5896 hp5896 => ?_)
      obtain ⟨x5897, hx5897, hs⟩ := obind hs
      refine rg_plain_seq (n := 156) (rs := []) (own0 := own5893) (K := [5899])
          (bs := [0, 0, 3, 7, 0, 31])
          (ds := [⟨[], [0], [], Fct.val 25 (.slice Aacts1 acts1.length cacts1)⟩,
          ⟨[], [5], [], Fct.val 26 (.int .i64 i4712)⟩,
          ⟨[0, 1], [], [], Fct.val 27 (.pointer (some ((adr Aacts1).add ((i4712 : Int).toNat * R40.s))))⟩,
          ⟨[2], [], [], Fct.val 28 (.agg #[.int .i64 x5897.1, .int .i64 x5897.2.1.1, .int .i64 x5897.2.1.2.1, .int .i64 x5897.2.1.2.2, .int .i64 x5897.2.2.1, .int .i64 x5897.2.2.2.1, .int .i64 x5897.2.2.2.2])⟩,
          ⟨[], [], [], Fct.blk 5899 6 (fun g => .pointer (some ⟨g, 0, none⟩)) 40 #[.int .i64 0, .int .i64 0, .int .i64 0, .int .i64 0, .int .i64 0, .int .i64 0, .int .i64 0]⟩,
          ⟨[4, 3], [], [5899], Fct.blk 5900 6 (fun g => .pointer (some ⟨g, 0, none⟩)) 40 #[.int .i64 x5897.1, .int .i64 x5897.2.1.1, .int .i64 x5897.2.1.2.1, .int .i64 x5897.2.1.2.2, .int .i64 x5897.2.2.1, .int .i64 x5897.2.2.2.1, .int .i64 x5897.2.2.2.2]⟩]) (by kernel_rfl) hz5893 hd5893 (fun _ h => nomatch h) ?_ ?_
      · refine steps_cons (fun own a wx hf hsl hE => ?_) ?_
        · obtain ⟨s_0, -⟩ := hsl
          exact sg_plain rfl rfl (or_move (s_0.trans e5893_0))
        refine steps_cons (fun own a wx hf hsl hE => ?_) ?_
        · obtain ⟨s_5, -⟩ := hsl
          exact sg_plain rfl rfl (or_move (s_5.trans e5893_5))
        refine steps_cons (fun own a wx hf hsl hE => ?_) ?_
        · obtain ⟨(f_25 : a.eval (.tmp 25) = .slice Aacts1 acts1.length cacts1), (f_26 : a.eval (.tmp 26) = .int .i64 i4712), -⟩ := hf
          exact sg_plain rfl rfl (or_index (R := R40) (l := acts1) tl37 f_25 f_26 (RdO.some_ b5893_Aacts1 hx5897) hx5897)
        refine steps_cons (fun own a wx hf hsl hE => ?_) ?_
        · obtain ⟨(f_27 : a.eval (.tmp 27) = .pointer (some ((adr Aacts1).add ((i4712 : Int).toNat * R40.s)))), -⟩ := hf
          exact sg_plain rfl rfl (or_load (l := E40.f x5897) ta40 f_27 (RdO.cells (F := E40) (RdO.evo rfl hE b5893_Aacts1) hx5897) rfl)
        refine steps_cons (fun own a wx hf hsl hE => ?_) ?_
        · exact sg_plain rfl rfl (or_new [] rfl rfl trivial (by kernel_rfl))
        refine steps_cons (fun own a wx hf hsl hE => ?_) ?_
        · obtain ⟨⟨g5898, (f_6 : a.eval (.tmp 6) = .pointer (some ⟨g5898, 0, none⟩)), (b_g5898 : BlkO own 5899 wx g5898 40 #[.int .i64 0, .int .i64 0, .int .i64 0, .int .i64 0, .int .i64 0, .int .i64 0, .int .i64 0])⟩, (f_28 : a.eval (.tmp 28) = .agg #[.int .i64 x5897.1, .int .i64 x5897.2.1.1, .int .i64 x5897.2.1.2.1, .int .i64 x5897.2.1.2.2, .int .i64 x5897.2.2.1, .int .i64 x5897.2.2.2.1, .int .i64 x5897.2.2.2.2]), -⟩ := hf
          exact sg_plain rfl rfl (or_store (l := #[.int .i64 x5897.1, .int .i64 x5897.2.1.1, .int .i64 x5897.2.1.2.1, .int .i64 x5897.2.1.2.2, .int .i64 x5897.2.2.1, .int .i64 x5897.2.2.2.1, .int .i64 x5897.2.2.2.2]) (lab := 5899) (lab2 := 5900) ts40 f_6 f_28 b_g5898 (by simp) (by kernel_rfl) (mem_of rfl) (by decide) (by kernel_rfl) (fun own' a' w' ha hb => ⟨_, (ha 6).trans f_6, hb⟩))
        exact steps_nil
      intro own5901 a5901 w5901 hd5901 hz5901 hk5901 hf5901 hE5901
      have e5901_0 : a5901.eval (.tmp 0) = .slice Aacts1 acts1.length cacts1 := (hk5901 0 rfl).trans e5893_0
      have e5901_3 : a5901.eval (.tmp 3) = .pointer (some ⟨g3540, 0, none⟩) := (hk5901 3 rfl).trans e5893_3
      have e5901_4 : a5901.eval (.tmp 4) = .slice A4708 m4710.length c4709 := (hk5901 4 rfl).trans e5893_4
      have e5901_5 : a5901.eval (.tmp 5) = .int .i64 i4712 := (hk5901 5 rfl).trans e5893_5
      obtain ⟨⟨g5898, (f_6 : a5901.eval (.tmp 6) = .pointer (some ⟨g5898, 0, none⟩)), (b_g5898 : BlkO own5901 5900 w5901 g5898 40 #[.int .i64 x5897.1, .int .i64 x5897.2.1.1, .int .i64 x5897.2.1.2.1, .int .i64 x5897.2.1.2.2, .int .i64 x5897.2.2.1, .int .i64 x5897.2.2.2.1, .int .i64 x5897.2.2.2.2])⟩, -⟩ := hf5901 [5] rfl
      have e5901_6 := f_6
      have hX5901 := Evo.step hX5893 (fun _ => Nat.le_refl 0) hE5901 rfl
      have b5901_Aacts1 := RdO.evo rfl hE5901 b5893_Aacts1
      have b5901_g3540 := BlkO.evo (by decide) hE5901 b5893_g3540
      have b5901_A4704 := RwO.evo rfl hE5901 b5893_A4704
      have b5901_A4708 := RdO.evo rfl hE5901 b5893_A4708
      have b5901_g5898 := b_g5898
      refine fl_seq (fun Q5902 hn5902 hp5902 => ?_)
      refine rg_plain_seq (n := 156) (rs := []) (own0 := own5901) (K := [])
          (bs := [0, 1])
          (ds := [⟨[], [6], [], Fct.val 29 (.pointer (some ⟨g5898, 0, none⟩))⟩,
          ⟨[0], [], [], Fct.val 30 (.int .i64 x5897.1)⟩]) (by kernel_rfl) hz5901 hd5901 (fun _ h => nomatch h) ?_ ?_
      · refine steps_cons (fun own a wx hf hsl hE => ?_) ?_
        · obtain ⟨s_6, -⟩ := hsl
          exact sg_plain rfl rfl (or_field fo40_0 (s_6.trans e5901_6) (by rfl))
        refine steps_cons (fun own a wx hf hsl hE => ?_) ?_
        · obtain ⟨(f_29 : a.eval (.tmp 29) = .pointer (some ⟨g5898, 0, none⟩)), -⟩ := hf
          exact sg_plain rfl rfl (or_load1 to3 f_29 (Blk.at_ (BlkO.evo (by decide) hE b5901_g5898).2 0 rfl))
        exact steps_nil
      intro own6474 a6474 w6474 hd6474 hz6474 hk6474 hf6474 hE6474
      have e6474_0 : a6474.eval (.tmp 0) = .slice Aacts1 acts1.length cacts1 := (hk6474 0 rfl).trans e5901_0
      have e6474_3 : a6474.eval (.tmp 3) = .pointer (some ⟨g3540, 0, none⟩) := (hk6474 3 rfl).trans e5901_3
      have e6474_4 : a6474.eval (.tmp 4) = .slice A4708 m4710.length c4709 := (hk6474 4 rfl).trans e5901_4
      have e6474_5 : a6474.eval (.tmp 5) = .int .i64 i4712 := (hk6474 5 rfl).trans e5901_5
      have e6474_6 : a6474.eval (.tmp 6) = .pointer (some ⟨g5898, 0, none⟩) := (hk6474 6 rfl).trans e5901_6
      obtain ⟨(f_30 : a6474.eval (.tmp 30) = .int .i64 x5897.1), -⟩ := hf6474 [1] rfl
      have e6474_30 := f_30
      have hX6474 := Evo.step hX5901 (fun _ => Nat.le_refl 0) hE6474 rfl
      have b6474_Aacts1 := RdO.evo rfl hE6474 b5901_Aacts1
      have b6474_g3540 := BlkO.evo (by decide) hE6474 b5901_g3540
      have b6474_A4704 := RwO.evo rfl hE6474 b5901_A4704
      have b6474_A4708 := RdO.evo rfl hE6474 b5901_A4708
      have b6474_g5898 := BlkO.evo (by decide) hE6474 b5901_g5898
      refine fl_block (fun Q6475 hn6475 hx6475 hp6475 => ?_)
      have K6764 : ∀ (a6764 : Act) (w6764 : World) (own6764 : Own) (h6758 : List (Int × Int × Int)) (m6762 : List (Int × Int × Int)) (A6756 : Option Addr) (c6757 : Nat) (A6760 : Option Addr) (c6761 : Nat), a6764.defers = [] → a6764.tmps.size = 156 → a6764.eval (.tmp 0) = .slice Aacts1 acts1.length cacts1 → a6764.eval (.tmp 3) = .pointer (some ⟨g3540, 0, none⟩) → a6764.eval (.tmp 4) = .slice A6760 m6762.length c6761 → a6764.eval (.tmp 5) = .int .i64 i4712 → a6764.eval (.tmp 6) = .pointer (some ⟨g5898, 0, none⟩) → Evo [] (fun _ => 0) own6764 w w6764 → RdO own6764 [0] w6764 R40 Aacts1 cacts1 acts1 → BlkO own6764 6755 w6764 g3540 26 #[.slice A6756 h6758.length c6757] → RwO own6764 6759 [] w6764 30 R30 A6756 c6757 h6758 → RdO own6764 [0, 6763] w6764 R41 A6760 c6761 m6762 → BlkO own6764 5900 w6764 g5898 40 #[.int .i64 x5897.1, .int .i64 x5897.2.1.1, .int .i64 x5897.2.1.2.1, .int .i64 x5897.2.1.2.2, .int .i64 x5897.2.2.1, .int .i64 x5897.2.2.2.1, .int .i64 x5897.2.2.2.2] → law05_HeapPlays_k2 i4712 x5897 h6758 m6762 = some zz5889 → (Q6475 .normal a6764 w6764 ∧ Q6475 (.exit 2) a6764 w6764) := by
        intro a6764 w6764 own6764 h6758 m6762 A6756 c6757 A6760 c6761 hd6765 hz6765 e6765_0 e6765_3 e6765_4 e6765_5 e6765_6 hE6765 b6765_Aacts1 b6765_g3540 b6765_A6756 b6765_A6760 b6765_g5898 hs
        refine and_both (hn6475 _ _) (hx6475 _ _) ?_
        refine hn5902 _ _ ?_
        obtain ⟨r6766, hr6766, hs⟩ := obind hs
        refine rg_plain_seq (n := 156) (rs := []) (own0 := own6764) (K := [6768])
            (bs := [0, 1, 3, 3, 0, 23, 63])
            (ds := [⟨[], [3], [], Fct.val 112 (.tuple #[.agg #[.int .i64 r6766.1.1, .int .i64 r6766.1.2.1, .int .i64 r6766.1.2.2], .bool r6766.2])⟩,
            ⟨[0], [], [], Fct.val 111 (.tuple #[.agg #[.int .i64 r6766.1.1, .int .i64 r6766.1.2.1, .int .i64 r6766.1.2.2], .bool r6766.2])⟩,
            ⟨[1], [], [], Fct.val 113 (.agg #[.int .i64 r6766.1.1, .int .i64 r6766.1.2.1, .int .i64 r6766.1.2.2])⟩,
            ⟨[1], [], [], Fct.val 114 (.bool r6766.2)⟩,
            ⟨[], [], [], Fct.blk 6768 13 (fun g => .pointer (some ⟨g, 0, none⟩)) 30 #[.int .i64 0, .int .i64 0, .int .i64 0]⟩,
            ⟨[4, 2], [], [6768], Fct.blk 6769 13 (fun g => .pointer (some ⟨g, 0, none⟩)) 30 #[.int .i64 r6766.1.1, .int .i64 r6766.1.2.1, .int .i64 r6766.1.2.2]⟩,
            ⟨[3], [], [], Fct.val 14 (.bool r6766.2)⟩]) (by kernel_rfl) hz6765 hd6765 (fun _ h => nomatch h) ?_ ?_
        · refine steps_cons (fun own a wx hf hsl hE => ?_) ?_
          · obtain ⟨s_3, -⟩ := hsl
            exact sg_plain rfl rfl (or_call cf15 (args1 (s_3.trans e6765_3)) (heap_Heap_Top_w _ h6758 g3540 26 A6756 c6757 (BlkO.zero_ (BlkO.evo (by decide) hE b6765_g3540)) (RdO.zero (RwO.rd (RwO.evo rfl hE b6765_A6756))) r6766 hr6766) post_val)
          refine steps_cons (fun own a wx hf hsl hE => ?_) ?_
          · obtain ⟨(f_112 : a.eval (.tmp 112) = .tuple #[.agg #[.int .i64 r6766.1.1, .int .i64 r6766.1.2.1, .int .i64 r6766.1.2.2], .bool r6766.2]), -⟩ := hf
            exact sg_plain rfl rfl (or_move f_112)
          refine steps_cons (fun own a wx hf hsl hE => ?_) ?_
          · obtain ⟨(f_111 : a.eval (.tmp 111) = .tuple #[.agg #[.int .i64 r6766.1.1, .int .i64 r6766.1.2.1, .int .i64 r6766.1.2.2], .bool r6766.2]), -⟩ := hf
            exact sg_plain rfl rfl (or_k [(111, .tuple #[.agg #[.int .i64 r6766.1.1, .int .i64 r6766.1.2.1, .int .i64 r6766.1.2.2], .bool r6766.2])] rfl rfl ⟨f_111, trivial⟩ (by kernel_rfl))
          refine steps_cons (fun own a wx hf hsl hE => ?_) ?_
          · obtain ⟨(f_111 : a.eval (.tmp 111) = .tuple #[.agg #[.int .i64 r6766.1.1, .int .i64 r6766.1.2.1, .int .i64 r6766.1.2.2], .bool r6766.2]), -⟩ := hf
            exact sg_plain rfl rfl (or_k [(111, .tuple #[.agg #[.int .i64 r6766.1.1, .int .i64 r6766.1.2.1, .int .i64 r6766.1.2.2], .bool r6766.2])] rfl rfl ⟨f_111, trivial⟩ (by kernel_rfl))
          refine steps_cons (fun own a wx hf hsl hE => ?_) ?_
          · exact sg_plain rfl rfl (or_new [] rfl rfl trivial (by kernel_rfl))
          refine steps_cons (fun own a wx hf hsl hE => ?_) ?_
          · obtain ⟨⟨g6767, (f_13 : a.eval (.tmp 13) = .pointer (some ⟨g6767, 0, none⟩)), (b_g6767 : BlkO own 6768 wx g6767 30 #[.int .i64 0, .int .i64 0, .int .i64 0])⟩, (f_113 : a.eval (.tmp 113) = .agg #[.int .i64 r6766.1.1, .int .i64 r6766.1.2.1, .int .i64 r6766.1.2.2]), -⟩ := hf
            exact sg_plain rfl rfl (or_store (l := #[.int .i64 r6766.1.1, .int .i64 r6766.1.2.1, .int .i64 r6766.1.2.2]) (lab := 6768) (lab2 := 6769) ts30 f_13 f_113 b_g6767 (by simp) (by kernel_rfl) (mem_of rfl) (by decide) (by kernel_rfl) (fun own' a' w' ha hb => ⟨_, (ha 13).trans f_13, hb⟩))
          refine steps_cons (fun own a wx hf hsl hE => ?_) ?_
          · obtain ⟨(f_114 : a.eval (.tmp 114) = .bool r6766.2), -⟩ := hf
            exact sg_plain rfl rfl (or_assign f_114)
          exact steps_nil
        intro own6770 a6770 w6770 hd6770 hz6770 hk6770 hf6770 hE6770
        have e6770_0 : a6770.eval (.tmp 0) = .slice Aacts1 acts1.length cacts1 := (hk6770 0 rfl).trans e6765_0
        have e6770_3 : a6770.eval (.tmp 3) = .pointer (some ⟨g3540, 0, none⟩) := (hk6770 3 rfl).trans e6765_3
        have e6770_4 : a6770.eval (.tmp 4) = .slice A6760 m6762.length c6761 := (hk6770 4 rfl).trans e6765_4
        have e6770_5 : a6770.eval (.tmp 5) = .int .i64 i4712 := (hk6770 5 rfl).trans e6765_5
        have e6770_6 : a6770.eval (.tmp 6) = .pointer (some ⟨g5898, 0, none⟩) := (hk6770 6 rfl).trans e6765_6
        obtain ⟨⟨g6767, (f_13 : a6770.eval (.tmp 13) = .pointer (some ⟨g6767, 0, none⟩)), (b_g6767 : BlkO own6770 6769 w6770 g6767 30 #[.int .i64 r6766.1.1, .int .i64 r6766.1.2.1, .int .i64 r6766.1.2.2])⟩, (f_14 : a6770.eval (.tmp 14) = .bool r6766.2), -⟩ := hf6770 [5, 6] rfl
        have e6770_13 := f_13
        have e6770_14 := f_14
        have hX6770 := Evo.step hE6765 (fun _ => Nat.le_refl 0) hE6770 rfl
        have b6770_Aacts1 := RdO.evo rfl hE6770 b6765_Aacts1
        have b6770_g3540 := BlkO.evo (by decide) hE6770 b6765_g3540
        have b6770_A6756 := RwO.evo rfl hE6770 b6765_A6756
        have b6770_A6760 := RdO.evo rfl hE6770 b6765_A6760
        have b6770_g5898 := BlkO.evo (by decide) hE6770 b6765_g5898
        have b6770_g6767 := b_g6767
        obtain ⟨r6771, hr6771, hs⟩ := obind hs
        obtain ⟨r6772, hr6772, hs⟩ := obind hs
        obtain ⟨r6775, hr6775, hs⟩ := obind hs
        obtain ⟨x6776, hx6776, hs⟩ := obind hs
        obtain ⟨x6777, hx6777, hs⟩ := obind hs
        obtain ⟨x6778, hx6778, hs⟩ := obind hs
        obtain ⟨x6779, hx6779, hs⟩ := obind hs
        obtain ⟨r6780, hr6780, hs⟩ := obind hs
        obtain ⟨r6781, hr6781, hs⟩ := obind hs
        obtain ⟨x6782, hx6782, hs⟩ := obind hs
        refine rg_draw_seq g_mixed (n := 156) (rs := []) (own0 := own6770) (K := [])
            (bs := [0, 0, 2, 7, 15, 31, 31, 127, 255, 511, 1023, 2047, 2047, 6143, 14335, 32767, 65535, 131071, 262143, 524287, 1048575, 1048575, 3145727, 7340031, 16777215, 33554431, 67108863, 134217727, 268435455, 536870911, 268435455, 1342177279, 4294967295, 268435455, 8858370047, 268435455, 34628173823, 137438953471, 274877906943, 549755813887])
            (ds := [⟨[], [3], [], Fct.val 115 (.int .i64 r6771)⟩,
            ⟨[], [4], [], Fct.val 116 (.slice A6760 m6762.length c6761)⟩,
            ⟨[1], [], [], Fct.val 117 (.int .i64 (m6762.length : Int))⟩,
            ⟨[0, 2], [], [], Fct.val 118 (.bool (!decide (r6771 = (m6762.length : Int))))⟩,
            ⟨[3], [], [], Fct.val 119 (.bool (!decide (r6771 = (m6762.length : Int))))⟩,
            ⟨[4], [3], [], Fct.cond (!(!decide (r6771 = (m6762.length : Int)))) (some 120) (Fct.row 6774 [] 120 30 R30 r6772)⟩,
            ⟨[4], [4], [], Fct.cond (!(!decide (r6771 = (m6762.length : Int)))) (some 121) (Fct.val 121 (.slice A6760 m6762.length c6761))⟩,
            ⟨[4, 5, 6], [], [], Fct.cond (!(!decide (r6771 = (m6762.length : Int)))) (some 122) (Fct.val 122 (.bool r6775))⟩,
            ⟨[4, 7], [], [], Fct.cond (!(!decide (r6771 = (m6762.length : Int)))) (some 123) (Fct.val 123 (.bool (!r6775)))⟩,
            ⟨[4, 8], [], [], Fct.val 124 (.bool x6776)⟩,
            ⟨[9], [], [], Fct.val 125 (.bool x6776)⟩,
            ⟨[10], [14], [], Fct.cond (!x6776) (some 126) (Fct.val 126 (.bool r6766.2))⟩,
            ⟨[10], [4], [], Fct.cond (!x6776) (some 127) (Fct.val 127 (.slice A6760 m6762.length c6761))⟩,
            ⟨[10, 12], [], [], Fct.cond (!x6776) (some 128) (Fct.val 128 (.int .i64 (m6762.length : Int)))⟩,
            ⟨[10, 13], [], [], Fct.cond (!x6776) (some 129) (Fct.val 129 (.bool (decide (0 < (m6762.length : Int)))))⟩,
            ⟨[10, 11, 14], [], [], Fct.cond (!x6776) (some 130) (Fct.val 130 (.bool (!(r6766.2 == (decide (0 < (m6762.length : Int)))))))⟩,
            ⟨[10, 15], [], [], Fct.val 131 (.bool x6777)⟩,
            ⟨[16], [], [], Fct.val 132 (.bool x6777)⟩,
            ⟨[17], [14], [], Fct.cond (!x6777) (some 133) (Fct.val 133 (.bool r6766.2))⟩,
            ⟨[17, 18], [], [], Fct.cond (!x6777) (some 134) (Fct.val 134 (.bool r6766.2))⟩,
            ⟨[19], [13], [], Fct.cond ((!x6777) && r6766.2) (some 135) (Fct.val 135 (.agg #[.int .i64 r6766.1.1, .int .i64 r6766.1.2.1, .int .i64 r6766.1.2.2]))⟩,
            ⟨[19], [4], [], Fct.cond ((!x6777) && r6766.2) (some 136) (Fct.val 136 (.slice A6760 m6762.length c6761))⟩,
            ⟨[19, 21], [], [], Fct.cond ((!x6777) && r6766.2) (some 137) (Fct.val 137 (.pointer (some ((adr A6760).add ((0 : Int).toNat * R41.s)))))⟩,
            ⟨[19, 22], [], [], Fct.cond ((!x6777) && r6766.2) (some 138) (Fct.val 138 (.agg #[.int .i64 x6778.1, .int .i64 x6778.2.1, .int .i64 x6778.2.2]))⟩,
            ⟨[19, 20, 23], [], [], Fct.cond ((!x6777) && r6766.2) (some 139) (Fct.val 139 (.bool (!decide (r6766.1 = x6778))))⟩,
            ⟨[17, 19, 24], [], [], Fct.cond (!x6777) (some 140) (Fct.val 140 (.bool x6779))⟩,
            ⟨[17, 25], [], [], Fct.val 141 (.bool (x6777 || x6779))⟩,
            ⟨[26], [], [], Fct.val 142 (.bool (x6777 || x6779))⟩,
            ⟨[27], [6], [], Fct.cond (!(x6777 || x6779)) (some 143) (Fct.val 143 (.pointer (some ⟨g5898, 1, none⟩)))⟩,
            ⟨[27, 28], [], [], Fct.cond (!(x6777 || x6779)) (some 144) (Fct.val 144 (.agg #[.int .i64 x5897.2.1.1, .int .i64 x5897.2.1.2.1, .int .i64 x5897.2.1.2.2]))⟩,
            ⟨[27], [6], [], Fct.cond (!(x6777 || x6779)) (some 145) (Fct.val 145 (.pointer (some ⟨g5898, 4, none⟩)))⟩,
            ⟨[27, 30], [], [], Fct.cond (!(x6777 || x6779)) (some 146) (Fct.val 146 (.agg #[.int .i64 x5897.2.2.1, .int .i64 x5897.2.2.2.1, .int .i64 x5897.2.2.2.2]))⟩,
            ⟨[27, 29, 31], [], [], Fct.cond (!(x6777 || x6779)) (some 147) (Fct.val 147 (.bool r6780))⟩,
            ⟨[27], [6], [], Fct.cond (!(x6777 || x6779)) (some 148) (Fct.val 148 (.pointer (some ⟨g5898, 1, none⟩)))⟩,
            ⟨[27, 33], [], [], Fct.cond (!(x6777 || x6779)) (some 149) (Fct.val 149 (.agg #[.int .i64 x5897.2.1.1, .int .i64 x5897.2.1.2.1, .int .i64 x5897.2.1.2.2]))⟩,
            ⟨[27], [6], [], Fct.cond (!(x6777 || x6779)) (some 150) (Fct.val 150 (.pointer (some ⟨g5898, 4, none⟩)))⟩,
            ⟨[27, 35], [], [], Fct.cond (!(x6777 || x6779)) (some 151) (Fct.val 151 (.agg #[.int .i64 x5897.2.2.1, .int .i64 x5897.2.2.2.1, .int .i64 x5897.2.2.2.2]))⟩,
            ⟨[27, 34, 36], [], [], Fct.cond (!(x6777 || x6779)) (some 152) (Fct.val 152 (.bool r6781))⟩,
            ⟨[27, 32, 37], [], [], Fct.cond (!(x6777 || x6779)) (some 153) (Fct.val 153 (.bool (!(r6780 == r6781))))⟩,
            ⟨[27, 38], [], [], Fct.val 154 (.bool x6782)⟩]) (by kernel_rfl) hz6770 hd6770 (fun _ h => nomatch h) ?_ ?_
        · refine steps_cons (fun own a wx hf hsl hE => ?_) ?_
          · obtain ⟨s_3, -⟩ := hsl
            exact sg_plain rfl rfl (or_call cf11 (args1 (s_3.trans e6770_3)) (heap_Heap_Len_w _ h6758 g3540 26 A6756 c6757 (BlkO.zero_ (BlkO.evo (by decide) hE b6770_g3540)) (RdO.zero (RwO.rd (RwO.evo rfl hE b6770_A6756))) r6771 hr6771) post_val)
          refine steps_cons (fun own a wx hf hsl hE => ?_) ?_
          · obtain ⟨s_4, -⟩ := hsl
            exact sg_plain rfl rfl (or_move (s_4.trans e6770_4))
          refine steps_cons (fun own a wx hf hsl hE => ?_) ?_
          · obtain ⟨(f_116 : a.eval (.tmp 116) = .slice A6760 m6762.length c6761), -⟩ := hf
            exact sg_plain rfl rfl (or_len tu38 f_116 rfl)
          refine steps_cons (fun own a wx hf hsl hE => ?_) ?_
          · obtain ⟨(f_115 : a.eval (.tmp 115) = .int .i64 r6771), (f_117 : a.eval (.tmp 117) = .int .i64 (m6762.length : Int)), -⟩ := hf
            exact sg_plain rfl rfl (or_neq f_115 f_117 rfl)
          refine steps_cons (fun own a wx hf hsl hE => ?_) ?_
          · obtain ⟨(f_118 : a.eval (.tmp 118) = .bool (!decide (r6771 = (m6762.length : Int)))), -⟩ := hf
            exact sg_plain rfl rfl (or_move f_118)
          refine steps_cons (fun own a wx hf hsl hE => ?_) ?_
          · obtain ⟨(f_119 : a.eval (.tmp 119) = .bool (!decide (r6771 = (m6762.length : Int)))), -⟩ := hf
            obtain ⟨s_3, -⟩ := hsl
            refine sg_f rfl rfl rfl f_119 (fun hg => ?_)
            exact or_call cf17 (args1 (s_3.trans e6770_3)) (heap_Heap_All_w _ h6758 g3540 26 A6756 c6757 (BlkO.zero_ (BlkO.evo (by decide) hE b6770_g3540)) (RdO.zero (RwO.rd (RwO.evo rfl hE b6770_A6756))) r6772 (gd_t hr6772 hg)) (post_row (m' := (look0 [(1, 6774)])) (.inl (Rep.fl_flat _)) rfl rfl (fun _ => rfl))
          refine steps_cons (fun own a wx hf hsl hE => ?_) ?_
          · obtain ⟨(f_119 : a.eval (.tmp 119) = .bool (!decide (r6771 = (m6762.length : Int)))), -⟩ := hf
            obtain ⟨s_4, -⟩ := hsl
            refine sg_f rfl rfl rfl f_119 (fun hg => ?_)
            exact or_move (s_4.trans e6770_4)
          refine steps_cons (fun own a wx hf hsl hE => ?_) ?_
          · obtain ⟨(f_119 : a.eval (.tmp 119) = .bool (!decide (r6771 = (m6762.length : Int)))), c_120, c_121, -⟩ := hf
            refine sg_f rfl rfl rfl f_119 (fun hg => ?_)
            obtain ⟨⟨A6773, cA6773⟩, (f_120 : a.eval (.tmp 120) = .slice A6773 r6772.length cA6773), (b_A6773 : RwO own 6774 [] wx 30 R30 A6773 cA6773 r6772)⟩ := c_120.1 hg
            have f_121 : a.eval (.tmp 121) = .slice A6760 m6762.length c6761 := c_121.1 hg
            exact or_call cf16 (args2 f_120 f_121) (law05_same_w _ r6772 A6773 cA6773 m6762 A6760 c6761 (RdO.zero (RwO.rd b_A6773)) (RdO.zero (RdO.evo rfl hE b6770_A6760)) r6775 (gd_t hr6775 hg)) post_val
          refine steps_cons (fun own a wx hf hsl hE => ?_) ?_
          · obtain ⟨(f_119 : a.eval (.tmp 119) = .bool (!decide (r6771 = (m6762.length : Int)))), c_122, -⟩ := hf
            refine sg_f rfl rfl rfl f_119 (fun hg => ?_)
            have f_122 : a.eval (.tmp 122) = .bool r6775 := c_122.1 hg
            exact or_not f_122 rfl
          refine steps_cons (fun own a wx hf hsl hE => ?_) ?_
          · obtain ⟨(f_119 : a.eval (.tmp 119) = .bool (!decide (r6771 = (m6762.length : Int)))), c_123, -⟩ := hf
            exact sg_plain rfl rfl (or_or f_119 rfl (fun hx => c_123.1 hx) (osome hx6776).symm)
          refine steps_cons (fun own a wx hf hsl hE => ?_) ?_
          · obtain ⟨(f_124 : a.eval (.tmp 124) = .bool x6776), -⟩ := hf
            exact sg_plain rfl rfl (or_move f_124)
          refine steps_cons (fun own a wx hf hsl hE => ?_) ?_
          · obtain ⟨(f_125 : a.eval (.tmp 125) = .bool x6776), -⟩ := hf
            obtain ⟨s_14, -⟩ := hsl
            refine sg_f rfl rfl rfl f_125 (fun hg => ?_)
            exact or_move (s_14.trans e6770_14)
          refine steps_cons (fun own a wx hf hsl hE => ?_) ?_
          · obtain ⟨(f_125 : a.eval (.tmp 125) = .bool x6776), -⟩ := hf
            obtain ⟨s_4, -⟩ := hsl
            refine sg_f rfl rfl rfl f_125 (fun hg => ?_)
            exact or_move (s_4.trans e6770_4)
          refine steps_cons (fun own a wx hf hsl hE => ?_) ?_
          · obtain ⟨(f_125 : a.eval (.tmp 125) = .bool x6776), c_127, -⟩ := hf
            refine sg_f rfl rfl rfl f_125 (fun hg => ?_)
            have f_127 : a.eval (.tmp 127) = .slice A6760 m6762.length c6761 := c_127.1 hg
            exact or_len tu38 f_127 rfl
          refine steps_cons (fun own a wx hf hsl hE => ?_) ?_
          · obtain ⟨(f_125 : a.eval (.tmp 125) = .bool x6776), c_128, -⟩ := hf
            refine sg_f rfl rfl rfl f_125 (fun hg => ?_)
            have f_128 : a.eval (.tmp 128) = .int .i64 (m6762.length : Int) := c_128.1 hg
            exact or_gtr f_128 rfl rfl
          refine steps_cons (fun own a wx hf hsl hE => ?_) ?_
          · obtain ⟨(f_125 : a.eval (.tmp 125) = .bool x6776), c_126, c_129, -⟩ := hf
            refine sg_f rfl rfl rfl f_125 (fun hg => ?_)
            have f_126 : a.eval (.tmp 126) = .bool r6766.2 := c_126.1 hg
            have f_129 : a.eval (.tmp 129) = .bool (decide (0 < (m6762.length : Int))) := c_129.1 hg
            exact or_neqb tb4 f_126 f_129 rfl
          refine steps_cons (fun own a wx hf hsl hE => ?_) ?_
          · obtain ⟨(f_125 : a.eval (.tmp 125) = .bool x6776), c_130, -⟩ := hf
            exact sg_plain rfl rfl (or_or f_125 rfl (fun hx => c_130.1 hx) (osome hx6777).symm)
          refine steps_cons (fun own a wx hf hsl hE => ?_) ?_
          · obtain ⟨(f_131 : a.eval (.tmp 131) = .bool x6777), -⟩ := hf
            exact sg_plain rfl rfl (or_move f_131)
          refine steps_cons (fun own a wx hf hsl hE => ?_) ?_
          · obtain ⟨(f_132 : a.eval (.tmp 132) = .bool x6777), -⟩ := hf
            obtain ⟨s_14, -⟩ := hsl
            refine sg_f rfl rfl rfl f_132 (fun hg => ?_)
            exact or_move (s_14.trans e6770_14)
          refine steps_cons (fun own a wx hf hsl hE => ?_) ?_
          · obtain ⟨(f_132 : a.eval (.tmp 132) = .bool x6777), c_133, -⟩ := hf
            refine sg_f rfl rfl rfl f_132 (fun hg => ?_)
            have f_133 : a.eval (.tmp 133) = .bool r6766.2 := c_133.1 hg
            exact or_move f_133
          refine steps_cons (fun own a wx hf hsl hE => ?_) ?_
          · obtain ⟨c_134, -⟩ := hf
            obtain ⟨s_13, -⟩ := hsl
            refine sg_tc rfl rfl rfl c_134 (fun hg => ?_)
            have f_134 : a.eval (.tmp 134) = .bool r6766.2 := c_134.1 (gL hg)
            exact or_load (l := [.int .i64 r6766.1.1, .int .i64 r6766.1.2.1, .int .i64 r6766.1.2.2]) ta30 (s_13.trans e6770_13) (Blk.cellsFrom (BlkO.evo (by decide) hE b6770_g6767).2 0 rfl) rfl
          refine steps_cons (fun own a wx hf hsl hE => ?_) ?_
          · obtain ⟨c_134, -⟩ := hf
            obtain ⟨s_4, -⟩ := hsl
            refine sg_tc rfl rfl rfl c_134 (fun hg => ?_)
            have f_134 : a.eval (.tmp 134) = .bool r6766.2 := c_134.1 (gL hg)
            exact or_move (s_4.trans e6770_4)
          refine steps_cons (fun own a wx hf hsl hE => ?_) ?_
          · obtain ⟨c_134, c_136, -⟩ := hf
            refine sg_tc rfl rfl rfl c_134 (fun hg => ?_)
            have f_134 : a.eval (.tmp 134) = .bool r6766.2 := c_134.1 (gL hg)
            have f_136 : a.eval (.tmp 136) = .slice A6760 m6762.length c6761 := c_136.1 hg
            exact or_index (R := R41) (l := m6762) tl38 f_136 rfl (RdO.some_ b6770_A6760 (gd_t hx6778 hg)) (gd_t hx6778 hg)
          refine steps_cons (fun own a wx hf hsl hE => ?_) ?_
          · obtain ⟨c_134, c_137, -⟩ := hf
            refine sg_tc rfl rfl rfl c_134 (fun hg => ?_)
            have f_134 : a.eval (.tmp 134) = .bool r6766.2 := c_134.1 (gL hg)
            have f_137 : a.eval (.tmp 137) = .pointer (some ((adr A6760).add ((0 : Int).toNat * R41.s))) := c_137.1 hg
            exact or_load (l := E41.f x6778) ta41 f_137 (RdO.cells (F := E41) (RdO.evo rfl hE b6770_A6760) (gd_t hx6778 hg)) rfl
          refine steps_cons (fun own a wx hf hsl hE => ?_) ?_
          · obtain ⟨c_134, c_135, c_138, -⟩ := hf
            refine sg_tc rfl rfl rfl c_134 (fun hg => ?_)
            have f_134 : a.eval (.tmp 134) = .bool r6766.2 := c_134.1 (gL hg)
            have f_135 : a.eval (.tmp 135) = .agg #[.int .i64 r6766.1.1, .int .i64 r6766.1.2.1, .int .i64 r6766.1.2.2] := c_135.1 hg
            have f_138 : a.eval (.tmp 138) = .agg #[.int .i64 x6778.1, .int .i64 x6778.2.1, .int .i64 x6778.2.2] := c_138.1 hg
            exact or_neqA sg41 f_135 f_138 (sn41 r6766.1.1 r6766.1.2.1 r6766.1.2.2 x6778.1 x6778.2.1 x6778.2.2 _) rfl
          refine steps_cons (fun own a wx hf hsl hE => ?_) ?_
          · obtain ⟨(f_132 : a.eval (.tmp 132) = .bool x6777), c_134, c_139, -⟩ := hf
            refine sg_f rfl rfl rfl f_132 (fun hg => ?_)
            have f_134 : a.eval (.tmp 134) = .bool r6766.2 := c_134.1 hg
            exact or_and f_134 (fun hx => c_139.1 (gI hg hx)) rfl (osome hx6779).symm
          refine steps_cons (fun own a wx hf hsl hE => ?_) ?_
          · obtain ⟨(f_132 : a.eval (.tmp 132) = .bool x6777), c_140, -⟩ := hf
            exact sg_plain rfl rfl (or_or f_132 rfl (fun hx => c_140.1 hx) rfl)
          refine steps_cons (fun own a wx hf hsl hE => ?_) ?_
          · obtain ⟨(f_141 : a.eval (.tmp 141) = .bool (x6777 || x6779)), -⟩ := hf
            exact sg_plain rfl rfl (or_move f_141)
          refine steps_cons (fun own a wx hf hsl hE => ?_) ?_
          · obtain ⟨(f_142 : a.eval (.tmp 142) = .bool (x6777 || x6779)), -⟩ := hf
            obtain ⟨s_6, -⟩ := hsl
            refine sg_f rfl rfl rfl f_142 (fun hg => ?_)
            exact or_field fo40_1 (s_6.trans e6770_6) (by rfl)
          refine steps_cons (fun own a wx hf hsl hE => ?_) ?_
          · obtain ⟨(f_142 : a.eval (.tmp 142) = .bool (x6777 || x6779)), c_143, -⟩ := hf
            refine sg_f rfl rfl rfl f_142 (fun hg => ?_)
            have f_143 : a.eval (.tmp 143) = .pointer (some ⟨g5898, 1, none⟩) := c_143.1 hg
            exact or_load (l := [.int .i64 x5897.2.1.1, .int .i64 x5897.2.1.2.1, .int .i64 x5897.2.1.2.2]) ta30 f_143 (Blk.cellsFrom (BlkO.evo (by decide) hE b6770_g5898).2 1 rfl) rfl
          refine steps_cons (fun own a wx hf hsl hE => ?_) ?_
          · obtain ⟨(f_142 : a.eval (.tmp 142) = .bool (x6777 || x6779)), -⟩ := hf
            obtain ⟨s_6, -⟩ := hsl
            refine sg_f rfl rfl rfl f_142 (fun hg => ?_)
            exact or_field fo40_2 (s_6.trans e6770_6) (by rfl)
          refine steps_cons (fun own a wx hf hsl hE => ?_) ?_
          · obtain ⟨(f_142 : a.eval (.tmp 142) = .bool (x6777 || x6779)), c_145, -⟩ := hf
            refine sg_f rfl rfl rfl f_142 (fun hg => ?_)
            have f_145 : a.eval (.tmp 145) = .pointer (some ⟨g5898, 4, none⟩) := c_145.1 hg
            exact or_load (l := [.int .i64 x5897.2.2.1, .int .i64 x5897.2.2.2.1, .int .i64 x5897.2.2.2.2]) ta30 f_145 (Blk.cellsFrom (BlkO.evo (by decide) hE b6770_g5898).2 4 rfl) rfl
          refine steps_cons (fun own a wx hf hsl hE => ?_) ?_
          · obtain ⟨(f_142 : a.eval (.tmp 142) = .bool (x6777 || x6779)), c_144, c_146, -⟩ := hf
            refine sg_f rfl rfl rfl f_142 (fun hg => ?_)
            have f_144 : a.eval (.tmp 144) = .agg #[.int .i64 x5897.2.1.1, .int .i64 x5897.2.1.2.1, .int .i64 x5897.2.1.2.2] := c_144.1 hg
            have f_146 : a.eval (.tmp 146) = .agg #[.int .i64 x5897.2.2.1, .int .i64 x5897.2.2.2.1, .int .i64 x5897.2.2.2.2] := c_146.1 hg
            exact or_call cf9 (args2 f_144 f_146) (heap_Less_w _ x5897.2.1 x5897.2.2  r6780 (gd_t hr6780 hg)) post_val
          refine steps_cons (fun own a wx hf hsl hE => ?_) ?_
          · obtain ⟨(f_142 : a.eval (.tmp 142) = .bool (x6777 || x6779)), -⟩ := hf
            obtain ⟨s_6, -⟩ := hsl
            refine sg_f rfl rfl rfl f_142 (fun hg => ?_)
            exact or_field fo40_1 (s_6.trans e6770_6) (by rfl)
          refine steps_cons (fun own a wx hf hsl hE => ?_) ?_
          · obtain ⟨(f_142 : a.eval (.tmp 142) = .bool (x6777 || x6779)), c_148, -⟩ := hf
            refine sg_f rfl rfl rfl f_142 (fun hg => ?_)
            have f_148 : a.eval (.tmp 148) = .pointer (some ⟨g5898, 1, none⟩) := c_148.1 hg
            exact or_load (l := [.int .i64 x5897.2.1.1, .int .i64 x5897.2.1.2.1, .int .i64 x5897.2.1.2.2]) ta30 f_148 (Blk.cellsFrom (BlkO.evo (by decide) hE b6770_g5898).2 1 rfl) rfl
          refine steps_cons (fun own a wx hf hsl hE => ?_) ?_
          · obtain ⟨(f_142 : a.eval (.tmp 142) = .bool (x6777 || x6779)), -⟩ := hf
            obtain ⟨s_6, -⟩ := hsl
            refine sg_f rfl rfl rfl f_142 (fun hg => ?_)
            exact or_field fo40_2 (s_6.trans e6770_6) (by rfl)
          refine steps_cons (fun own a wx hf hsl hE => ?_) ?_
          · obtain ⟨(f_142 : a.eval (.tmp 142) = .bool (x6777 || x6779)), c_150, -⟩ := hf
            refine sg_f rfl rfl rfl f_142 (fun hg => ?_)
            have f_150 : a.eval (.tmp 150) = .pointer (some ⟨g5898, 4, none⟩) := c_150.1 hg
            exact or_load (l := [.int .i64 x5897.2.2.1, .int .i64 x5897.2.2.2.1, .int .i64 x5897.2.2.2.2]) ta30 f_150 (Blk.cellsFrom (BlkO.evo (by decide) hE b6770_g5898).2 4 rfl) rfl
          refine steps_cons (fun own a wx hf hsl hE => ?_) ?_
          · obtain ⟨(f_142 : a.eval (.tmp 142) = .bool (x6777 || x6779)), c_149, c_151, -⟩ := hf
            refine sg_f rfl rfl rfl f_142 (fun hg => ?_)
            have f_149 : a.eval (.tmp 149) = .agg #[.int .i64 x5897.2.1.1, .int .i64 x5897.2.1.2.1, .int .i64 x5897.2.1.2.2] := c_149.1 hg
            have f_151 : a.eval (.tmp 151) = .agg #[.int .i64 x5897.2.2.1, .int .i64 x5897.2.2.2.1, .int .i64 x5897.2.2.2.2] := c_151.1 hg
            exact or_call cf18 (args2 f_149 f_151) (ref05_Less_w _ x5897.2.1 x5897.2.2  r6781 (gd_t hr6781 hg)) post_val
          refine steps_cons (fun own a wx hf hsl hE => ?_) ?_
          · obtain ⟨(f_142 : a.eval (.tmp 142) = .bool (x6777 || x6779)), c_147, c_152, -⟩ := hf
            refine sg_f rfl rfl rfl f_142 (fun hg => ?_)
            have f_147 : a.eval (.tmp 147) = .bool r6780 := c_147.1 hg
            have f_152 : a.eval (.tmp 152) = .bool r6781 := c_152.1 hg
            exact or_neqb tb4 f_147 f_152 rfl
          refine steps_cons (fun own a wx hf hsl hE => ?_) ?_
          · obtain ⟨(f_142 : a.eval (.tmp 142) = .bool (x6777 || x6779)), c_153, -⟩ := hf
            exact sg_plain rfl rfl (or_or f_142 rfl (fun hx => c_153.1 hx) (osome hx6782).symm)
          exact steps_nil
        intro own6783 a6783 w6783 hd6783 hz6783 hk6783 hf6783 hE6783
        have e6783_0 : a6783.eval (.tmp 0) = .slice Aacts1 acts1.length cacts1 := (hk6783 0 rfl).trans e6770_0
        have e6783_3 : a6783.eval (.tmp 3) = .pointer (some ⟨g3540, 0, none⟩) := (hk6783 3 rfl).trans e6770_3
        have e6783_4 : a6783.eval (.tmp 4) = .slice A6760 m6762.length c6761 := (hk6783 4 rfl).trans e6770_4
        have e6783_5 : a6783.eval (.tmp 5) = .int .i64 i4712 := (hk6783 5 rfl).trans e6770_5
        obtain ⟨(f_154 : a6783.eval (.tmp 154) = .bool x6782), -⟩ := hf6783 [39] rfl
        have e6783_154 := f_154
        have hX6783 := Evo.step hX6770 (fun _ => Nat.le_refl 0) hE6783 rfl
        have b6783_Aacts1 := RdO.evo rfl hE6783 b6770_Aacts1
        have b6783_g3540 := BlkO.evo (by decide) hE6783 b6770_g3540
        have b6783_A6756 := RwO.evo rfl hE6783 b6770_A6756
        have b6783_A6760 := RdO.evo rfl hE6783 b6770_A6760
        refine fl_cond e6783_154 hs (fun c6784 hs => ?_) (fun c6784 hs => ?_)
        · refine rg_plain_seq (n := 156) (rs := []) (own0 := own6783) (K := [])
              (bs := [0])
              (ds := [⟨[], [], [], Fct.val 2 (.bool false)⟩]) (by kernel_rfl) hz6783 hd6783 (fun _ h => nomatch h) ?_ ?_
          · refine steps_cons (fun own a wx hf hsl hE => ?_) ?_
            · exact sg_plain rfl rfl (or_assign rfl)
            exact steps_nil
          intro own6785 a6785 w6785 hd6785 hz6785 hk6785 hf6785 hE6785
          obtain ⟨(f_2 : a6785.eval (.tmp 2) = .bool false), -⟩ := hf6785 [0] rfl
          have e6785_2 := f_2
          have hX6785 := Evo.step hX6783 (fun _ => Nat.le_refl 0) hE6785 rfl
          refine fl_ret ?_
          refine hp5896 _ _ _ rfl ?_
          refine hp5895 _ _ _ rfl ?_
          replace hs := hz5889 _ hs
          refine hp5889 _ _ _ rfl ?_
          refine hp3546 _ _ _ rfl ?_
          refine hp3544 _ _ _ rfl ?_
          obtain rfl := osome hs
          exact hret _ _ _ _ (.inl rfl) hd6785 (results1_ rfl (RVal.tmp_ e6785_2)) ⟨own6785, rfl, hX6785⟩
        refine fl_skip ?_
        refine hn5896 _ _ ?_
        refine hn5895 _ _ ?_
        refine rg_plain (n := 156) (rs := []) (own0 := own6783) (K := [])
            (bs := [0, 1, 3])
            (ds := [⟨[], [5], [], Fct.val 23 (.int .i64 i4712)⟩,
            ⟨[0], [], [], Fct.val 24 (.int .i64 (ad i4712 1))⟩,
            ⟨[1], [], [], Fct.val 5 (.int .i64 (ad i4712 1))⟩]) (by kernel_rfl) hz6783 hd6783 (fun _ h => nomatch h) ?_ ?_
        · refine steps_cons (fun own a wx hf hsl hE => ?_) ?_
          · obtain ⟨s_5, -⟩ := hsl
            exact sg_plain rfl rfl (or_move (s_5.trans e6783_5))
          refine steps_cons (fun own a wx hf hsl hE => ?_) ?_
          · obtain ⟨(f_23 : a.eval (.tmp 23) = .int .i64 i4712), -⟩ := hf
            exact sg_plain rfl rfl (or_add f_23 rfl rfl)
          refine steps_cons (fun own a wx hf hsl hE => ?_) ?_
          · obtain ⟨(f_24 : a.eval (.tmp 24) = .int .i64 (ad i4712 1)), -⟩ := hf
            exact sg_plain rfl rfl (or_assign f_24)
          exact steps_nil
        intro own6786 a6786 w6786 hd6786 hz6786 hk6786 hf6786 hE6786
        have e6786_0 : a6786.eval (.tmp 0) = .slice Aacts1 acts1.length cacts1 := (hk6786 0 rfl).trans e6783_0
        have e6786_3 : a6786.eval (.tmp 3) = .pointer (some ⟨g3540, 0, none⟩) := (hk6786 3 rfl).trans e6783_3
        have e6786_4 : a6786.eval (.tmp 4) = .slice A6760 m6762.length c6761 := (hk6786 4 rfl).trans e6783_4
        obtain ⟨(f_5 : a6786.eval (.tmp 5) = .int .i64 (ad i4712 1)), -⟩ := hf6786 [2] rfl
        have e6786_5 := f_5
        have hX6786 := Evo.step hX6783 (fun _ => Nat.le_refl 0) hE6786 rfl
        have b6786_Aacts1 := RdO.evo rfl hE6786 b6783_Aacts1
        have b6786_g3540 := BlkO.evo (by decide) hE6786 b6783_g3540
        have b6786_A6756 := RwO.evo rfl hE6786 b6783_A6756
        have b6786_A6760 := RdO.evo rfl hE6786 b6783_A6760
        exact hn5889 _ _ _ hs ⟨(rl [(6755, 4703), (6759, 4707), (6763, 4711)] own6786), A6756, c6757, A6760, c6761, hd6786, hz6786, e6786_0, e6786_3, e6786_4, e6786_5, (Evo.rl_ hX6786 (fun _ => Nat.le_refl 0) rfl), (RdO.rl_ (mm := [(6755, 4703), (6759, 4707), (6763, 4711)]) b6786_Aacts1), (BlkO.rl_ (mm := [(6755, 4703), (6759, 4707), (6763, 4711)]) b6786_g3540), (RwO.rl_ (mm := [(6755, 4703), (6759, 4707), (6763, 4711)]) b6786_A6756), (RdO.rl_ (mm := [(6755, 4703), (6759, 4707), (6763, 4711)]) b6786_A6760)⟩
      refine rg_plain_seq (n := 156) (rs := []) (own0 := own6474) (K := [])
          (bs := [0, 1])
          (ds := [⟨[], [30], [], Fct.val 48 (.bool (decide (x5897.1 = 0)))⟩,
          ⟨[0], [], [], Fct.val 47 (.bool (decide (x5897.1 = 0)))⟩]) (by kernel_rfl) hz6474 hd6474 (fun _ h => nomatch h) ?_ ?_
      · refine steps_cons (fun own a wx hf hsl hE => ?_) ?_
        · obtain ⟨s_30, -⟩ := hsl
          exact sg_plain rfl rfl (or_eql (s_30.trans e6474_30) rfl rfl)
        refine steps_cons (fun own a wx hf hsl hE => ?_) ?_
        · obtain ⟨(f_48 : a.eval (.tmp 48) = .bool (decide (x5897.1 = 0))), -⟩ := hf
          exact sg_plain rfl rfl (or_assign f_48)
        exact steps_nil
      intro own6787 a6787 w6787 hd6787 hz6787 hk6787 hf6787 hE6787
      have e6787_0 : a6787.eval (.tmp 0) = .slice Aacts1 acts1.length cacts1 := (hk6787 0 rfl).trans e6474_0
      have e6787_3 : a6787.eval (.tmp 3) = .pointer (some ⟨g3540, 0, none⟩) := (hk6787 3 rfl).trans e6474_3
      have e6787_4 : a6787.eval (.tmp 4) = .slice A4708 m4710.length c4709 := (hk6787 4 rfl).trans e6474_4
      have e6787_5 : a6787.eval (.tmp 5) = .int .i64 i4712 := (hk6787 5 rfl).trans e6474_5
      have e6787_6 : a6787.eval (.tmp 6) = .pointer (some ⟨g5898, 0, none⟩) := (hk6787 6 rfl).trans e6474_6
      have e6787_30 : a6787.eval (.tmp 30) = .int .i64 x5897.1 := (hk6787 30 rfl).trans e6474_30
      obtain ⟨(f_47 : a6787.eval (.tmp 47) = .bool (decide (x5897.1 = 0))), -⟩ := hf6787 [1] rfl
      have e6787_47 := f_47
      have hX6787 := Evo.step hX6474 (fun _ => Nat.le_refl 0) hE6787 rfl
      have b6787_Aacts1 := RdO.evo rfl hE6787 b6474_Aacts1
      have b6787_g3540 := BlkO.evo (by decide) hE6787 b6474_g3540
      have b6787_A4704 := RwO.evo rfl hE6787 b6474_A4704
      have b6787_A4708 := RdO.evo rfl hE6787 b6474_A4708
      have b6787_g5898 := BlkO.evo (by decide) hE6787 b6474_g5898
      refine fl_cond e6787_47 hs (fun c6788 hs => ?_) (fun c6788 hs => ?_)
      · obtain ⟨r6789, hr6789, hs⟩ := obind hs
        refine rg_plain_seq (n := 156) (rs := [Fct.at_ 4703 g3540 26 #[.slice A4704 h4706.length c4705], Fct.rowAt 4707 [] 30 R30 A4704 c4705 h4706]) (own0 := own6787) (K := [4703, 4707, 6794])
            (bs := [0, 1, 3, 3, 0, 23, 63])
            (ds := [⟨[7, 8], [3], [4703, 4707], Fct.mems [6791, 6792] 50 (fun (x : Option Addr × Nat) => .tuple #[.agg #[.int .i64 r6789.1.1, .int .i64 r6789.1.2.1, .int .i64 r6789.1.2.2], .bool r6789.2.1]) (fun (x : Option Addr × Nat) own w => RwO own 6791 [] w 30 R30 x.1 x.2 r6789.2.2 ∧ BlkO own 6792 w g3540 26 #[.slice x.1 r6789.2.2.length x.2]) (fun hk he h => ⟨RwO.evo (hits_sub hk (by decide)) he h.1, BlkO.evo (not_hit hk (by decide)) he h.2⟩)⟩,
            ⟨[0], [], [], Fct.val 49 (.tuple #[.agg #[.int .i64 r6789.1.1, .int .i64 r6789.1.2.1, .int .i64 r6789.1.2.2], .bool r6789.2.1])⟩,
            ⟨[1], [], [], Fct.val 51 (.agg #[.int .i64 r6789.1.1, .int .i64 r6789.1.2.1, .int .i64 r6789.1.2.2])⟩,
            ⟨[1], [], [], Fct.val 52 (.bool r6789.2.1)⟩,
            ⟨[], [], [], Fct.blk 6794 7 (fun g => .pointer (some ⟨g, 0, none⟩)) 30 #[.int .i64 0, .int .i64 0, .int .i64 0]⟩,
            ⟨[4, 2], [], [6794], Fct.blk 6795 7 (fun g => .pointer (some ⟨g, 0, none⟩)) 30 #[.int .i64 r6789.1.1, .int .i64 r6789.1.2.1, .int .i64 r6789.1.2.2]⟩,
            ⟨[3], [], [], Fct.val 8 (.bool r6789.2.1)⟩]) (by kernel_rfl) hz6787 hd6787 (by simp only [List.forall_mem_cons]; exact ⟨b6787_g3540, b6787_A4704, fun _ h => nomatch h⟩) ?_ ?_
        · refine steps_cons (fun own a wx hf hsl hE => ?_) ?_
          · obtain ⟨(b_g3540 : BlkO own 4703 wx g3540 26 #[.slice A4704 h4706.length c4705]), (b_A4704 : RwO own 4707 [] wx 30 R30 A4704 c4705 h4706), -⟩ := hf
            obtain ⟨s_3, -⟩ := hsl
            exact sg_plain rfl rfl (or_call cf8 (args1 (s_3.trans e6787_3)) (heap_Heap_Pop_w _ (forth own (look0 [(4703, 1), (4707, 2)])) h4706 g3540 26 A4704 c4705 (look0_le rfl) (BlkO.forth_ (m := (look0 [(4703, 1), (4707, 2)])) b_g3540) (RwO.forth_ (m := (look0 [(4703, 1), (4707, 2)])) b_A4704) r6789 hr6789) (post_mems (m := (look0 [(4703, 1), (4707, 2)])) (m' := (look0 [(1, 6792), (2, 6791)])) (hm_of rfl) (fun own' w' a' x h1 h => ⟨x, h1, ⟨RwO.back_ h.1 (by decide) (.inl (Rep.fl_flat _)), BlkO.back_ h.2 (by decide)⟩⟩)))
          refine steps_cons (fun own a wx hf hsl hE => ?_) ?_
          · obtain ⟨⟨⟨A6790, cA6790⟩, (f_50 : a.eval (.tmp 50) = .tuple #[.agg #[.int .i64 r6789.1.1, .int .i64 r6789.1.2.1, .int .i64 r6789.1.2.2], .bool r6789.2.1]), (b_A6790 : RwO own 6791 [] wx 30 R30 A6790 cA6790 r6789.2.2), (b_g3540 : BlkO own 6792 wx g3540 26 #[.slice A6790 r6789.2.2.length cA6790])⟩, -⟩ := hf
            exact sg_plain rfl rfl (or_move f_50)
          refine steps_cons (fun own a wx hf hsl hE => ?_) ?_
          · obtain ⟨(f_49 : a.eval (.tmp 49) = .tuple #[.agg #[.int .i64 r6789.1.1, .int .i64 r6789.1.2.1, .int .i64 r6789.1.2.2], .bool r6789.2.1]), -⟩ := hf
            exact sg_plain rfl rfl (or_k [(49, .tuple #[.agg #[.int .i64 r6789.1.1, .int .i64 r6789.1.2.1, .int .i64 r6789.1.2.2], .bool r6789.2.1])] rfl rfl ⟨f_49, trivial⟩ (by kernel_rfl))
          refine steps_cons (fun own a wx hf hsl hE => ?_) ?_
          · obtain ⟨(f_49 : a.eval (.tmp 49) = .tuple #[.agg #[.int .i64 r6789.1.1, .int .i64 r6789.1.2.1, .int .i64 r6789.1.2.2], .bool r6789.2.1]), -⟩ := hf
            exact sg_plain rfl rfl (or_k [(49, .tuple #[.agg #[.int .i64 r6789.1.1, .int .i64 r6789.1.2.1, .int .i64 r6789.1.2.2], .bool r6789.2.1])] rfl rfl ⟨f_49, trivial⟩ (by kernel_rfl))
          refine steps_cons (fun own a wx hf hsl hE => ?_) ?_
          · exact sg_plain rfl rfl (or_new [] rfl rfl trivial (by kernel_rfl))
          refine steps_cons (fun own a wx hf hsl hE => ?_) ?_
          · obtain ⟨⟨g6793, (f_7 : a.eval (.tmp 7) = .pointer (some ⟨g6793, 0, none⟩)), (b_g6793 : BlkO own 6794 wx g6793 30 #[.int .i64 0, .int .i64 0, .int .i64 0])⟩, (f_51 : a.eval (.tmp 51) = .agg #[.int .i64 r6789.1.1, .int .i64 r6789.1.2.1, .int .i64 r6789.1.2.2]), -⟩ := hf
            exact sg_plain rfl rfl (or_store (l := #[.int .i64 r6789.1.1, .int .i64 r6789.1.2.1, .int .i64 r6789.1.2.2]) (lab := 6794) (lab2 := 6795) ts30 f_7 f_51 b_g6793 (by simp) (by kernel_rfl) (mem_of rfl) (by decide) (by kernel_rfl) (fun own' a' w' ha hb => ⟨_, (ha 7).trans f_7, hb⟩))
          refine steps_cons (fun own a wx hf hsl hE => ?_) ?_
          · obtain ⟨(f_52 : a.eval (.tmp 52) = .bool r6789.2.1), -⟩ := hf
            exact sg_plain rfl rfl (or_assign f_52)
          exact steps_nil
        intro own6796 a6796 w6796 hd6796 hz6796 hk6796 hf6796 hE6796
        have e6796_0 : a6796.eval (.tmp 0) = .slice Aacts1 acts1.length cacts1 := (hk6796 0 rfl).trans e6787_0
        have e6796_3 : a6796.eval (.tmp 3) = .pointer (some ⟨g3540, 0, none⟩) := (hk6796 3 rfl).trans e6787_3
        have e6796_4 : a6796.eval (.tmp 4) = .slice A4708 m4710.length c4709 := (hk6796 4 rfl).trans e6787_4
        have e6796_5 : a6796.eval (.tmp 5) = .int .i64 i4712 := (hk6796 5 rfl).trans e6787_5
        have e6796_6 : a6796.eval (.tmp 6) = .pointer (some ⟨g5898, 0, none⟩) := (hk6796 6 rfl).trans e6787_6
        obtain ⟨⟨g6793, (f_7 : a6796.eval (.tmp 7) = .pointer (some ⟨g6793, 0, none⟩)), (b_g6793 : BlkO own6796 6795 w6796 g6793 30 #[.int .i64 r6789.1.1, .int .i64 r6789.1.2.1, .int .i64 r6789.1.2.2])⟩, (f_8 : a6796.eval (.tmp 8) = .bool r6789.2.1), ⟨⟨A6790, cA6790⟩, (f_50 : a6796.eval (.tmp 50) = .tuple #[.agg #[.int .i64 r6789.1.1, .int .i64 r6789.1.2.1, .int .i64 r6789.1.2.2], .bool r6789.2.1]), (b_A6790 : RwO own6796 6791 [] w6796 30 R30 A6790 cA6790 r6789.2.2), (b_g3540 : BlkO own6796 6792 w6796 g3540 26 #[.slice A6790 r6789.2.2.length cA6790])⟩, -⟩ := hf6796 [5, 6, 0] rfl
        have e6796_7 := f_7
        have e6796_8 := f_8
        have hX6796 := Evo.step hX6787 (fun _ => Nat.le_refl 0) hE6796 rfl
        have b6796_Aacts1 := RdO.evo rfl hE6796 b6787_Aacts1
        have b6796_A4708 := RdO.evo rfl hE6796 b6787_A4708
        have b6796_g5898 := BlkO.evo (by decide) hE6796 b6787_g5898
        have b6796_g3540 := b_g3540
        have b6796_A6790 := b_A6790
        have b6796_g6793 := b_g6793
        refine fl_seq (fun Q6797 hn6797 hp6797 => ?_)
        obtain ⟨x6798, hx6798, hs⟩ := obind hs
        obtain ⟨x6799, hx6799, hs⟩ := obind hs
        obtain ⟨x6800, hx6800, hs⟩ := obind hs
        obtain ⟨x6801, hx6801, hs⟩ := obind hs
        refine rg_draw_seq g_mixed (n := 156) (rs := []) (own0 := own6796) (K := [])
            (bs := [0, 0, 2, 6, 15, 31, 63, 127, 255, 255, 767, 1791, 4095, 8191, 16383, 32767, 65535, 131071, 262143, 524287, 524287, 2097151, 4194303, 8388607])
            (ds := [⟨[], [8], [], Fct.val 53 (.bool r6789.2.1)⟩,
            ⟨[], [4], [], Fct.val 54 (.slice A4708 m4710.length c4709)⟩,
            ⟨[1], [], [], Fct.val 55 (.int .i64 (m4710.length : Int))⟩,
            ⟨[2], [], [], Fct.val 56 (.bool (decide (0 < (m4710.length : Int))))⟩,
            ⟨[0, 3], [], [], Fct.val 57 (.bool (!(r6789.2.1 == (decide (0 < (m4710.length : Int))))))⟩,
            ⟨[4], [], [], Fct.val 58 (.bool (!(r6789.2.1 == (decide (0 < (m4710.length : Int))))))⟩,
            ⟨[5], [8], [], Fct.cond (!(!(r6789.2.1 == (decide (0 < (m4710.length : Int)))))) (some 59) (Fct.val 59 (.bool r6789.2.1))⟩,
            ⟨[5, 6], [], [], Fct.cond (!(!(r6789.2.1 == (decide (0 < (m4710.length : Int)))))) (some 60) (Fct.val 60 (.bool r6789.2.1))⟩,
            ⟨[7], [7], [], Fct.cond ((!(!(r6789.2.1 == (decide (0 < (m4710.length : Int)))))) && r6789.2.1) (some 61) (Fct.val 61 (.agg #[.int .i64 r6789.1.1, .int .i64 r6789.1.2.1, .int .i64 r6789.1.2.2]))⟩,
            ⟨[7], [4], [], Fct.cond ((!(!(r6789.2.1 == (decide (0 < (m4710.length : Int)))))) && r6789.2.1) (some 62) (Fct.val 62 (.slice A4708 m4710.length c4709))⟩,
            ⟨[7, 9], [], [], Fct.cond ((!(!(r6789.2.1 == (decide (0 < (m4710.length : Int)))))) && r6789.2.1) (some 63) (Fct.val 63 (.pointer (some ((adr A4708).add ((0 : Int).toNat * R41.s)))))⟩,
            ⟨[7, 10], [], [], Fct.cond ((!(!(r6789.2.1 == (decide (0 < (m4710.length : Int)))))) && r6789.2.1) (some 64) (Fct.val 64 (.agg #[.int .i64 x6798.1, .int .i64 x6798.2.1, .int .i64 x6798.2.2]))⟩,
            ⟨[7, 8, 11], [], [], Fct.cond ((!(!(r6789.2.1 == (decide (0 < (m4710.length : Int)))))) && r6789.2.1) (some 65) (Fct.val 65 (.bool (!decide (r6789.1 = x6798))))⟩,
            ⟨[5, 7, 12], [], [], Fct.cond (!(!(r6789.2.1 == (decide (0 < (m4710.length : Int)))))) (some 66) (Fct.val 66 (.bool x6799))⟩,
            ⟨[5, 13], [], [], Fct.val 67 (.bool x6800)⟩,
            ⟨[14], [], [], Fct.val 68 (.bool x6800)⟩,
            ⟨[15], [8], [], Fct.cond (!x6800) (some 69) (Fct.val 69 (.bool r6789.2.1))⟩,
            ⟨[15, 16], [], [], Fct.cond (!x6800) (some 70) (Fct.val 70 (.bool (!r6789.2.1)))⟩,
            ⟨[15, 17], [], [], Fct.cond (!x6800) (some 71) (Fct.val 71 (.bool (!r6789.2.1)))⟩,
            ⟨[18], [7], [], Fct.cond ((!x6800) && (!r6789.2.1)) (some 72) (Fct.val 72 (.agg #[.int .i64 r6789.1.1, .int .i64 r6789.1.2.1, .int .i64 r6789.1.2.2]))⟩,
            ⟨[18], [], [], Fct.cond ((!x6800) && (!r6789.2.1)) (some 73) (Fct.val 73 (.agg #[.int .i64 0, .int .i64 0, .int .i64 0]))⟩,
            ⟨[18, 19, 20], [], [], Fct.cond ((!x6800) && (!r6789.2.1)) (some 74) (Fct.val 74 (.bool (!decide (r6789.1 = (0, 0, 0)))))⟩,
            ⟨[15, 18, 21], [], [], Fct.cond (!x6800) (some 75) (Fct.val 75 (.bool x6801))⟩,
            ⟨[15, 22], [], [], Fct.val 76 (.bool (x6800 || x6801))⟩]) (by kernel_rfl) hz6796 hd6796 (fun _ h => nomatch h) ?_ ?_
        · refine steps_cons (fun own a wx hf hsl hE => ?_) ?_
          · obtain ⟨s_8, -⟩ := hsl
            exact sg_plain rfl rfl (or_move (s_8.trans e6796_8))
          refine steps_cons (fun own a wx hf hsl hE => ?_) ?_
          · obtain ⟨s_4, -⟩ := hsl
            exact sg_plain rfl rfl (or_move (s_4.trans e6796_4))
          refine steps_cons (fun own a wx hf hsl hE => ?_) ?_
          · obtain ⟨(f_54 : a.eval (.tmp 54) = .slice A4708 m4710.length c4709), -⟩ := hf
            exact sg_plain rfl rfl (or_len tu38 f_54 rfl)
          refine steps_cons (fun own a wx hf hsl hE => ?_) ?_
          · obtain ⟨(f_55 : a.eval (.tmp 55) = .int .i64 (m4710.length : Int)), -⟩ := hf
            exact sg_plain rfl rfl (or_gtr f_55 rfl rfl)
          refine steps_cons (fun own a wx hf hsl hE => ?_) ?_
          · obtain ⟨(f_53 : a.eval (.tmp 53) = .bool r6789.2.1), (f_56 : a.eval (.tmp 56) = .bool (decide (0 < (m4710.length : Int)))), -⟩ := hf
            exact sg_plain rfl rfl (or_neqb tb4 f_53 f_56 rfl)
          refine steps_cons (fun own a wx hf hsl hE => ?_) ?_
          · obtain ⟨(f_57 : a.eval (.tmp 57) = .bool (!(r6789.2.1 == (decide (0 < (m4710.length : Int)))))), -⟩ := hf
            exact sg_plain rfl rfl (or_move f_57)
          refine steps_cons (fun own a wx hf hsl hE => ?_) ?_
          · obtain ⟨(f_58 : a.eval (.tmp 58) = .bool (!(r6789.2.1 == (decide (0 < (m4710.length : Int)))))), -⟩ := hf
            obtain ⟨s_8, -⟩ := hsl
            refine sg_f rfl rfl rfl f_58 (fun hg => ?_)
            exact or_move (s_8.trans e6796_8)
          refine steps_cons (fun own a wx hf hsl hE => ?_) ?_
          · obtain ⟨(f_58 : a.eval (.tmp 58) = .bool (!(r6789.2.1 == (decide (0 < (m4710.length : Int)))))), c_59, -⟩ := hf
            refine sg_f rfl rfl rfl f_58 (fun hg => ?_)
            have f_59 : a.eval (.tmp 59) = .bool r6789.2.1 := c_59.1 hg
            exact or_move f_59
          refine steps_cons (fun own a wx hf hsl hE => ?_) ?_
          · obtain ⟨c_60, -⟩ := hf
            obtain ⟨s_7, -⟩ := hsl
            refine sg_tc rfl rfl rfl c_60 (fun hg => ?_)
            have f_60 : a.eval (.tmp 60) = .bool r6789.2.1 := c_60.1 (gL hg)
            exact or_load (l := [.int .i64 r6789.1.1, .int .i64 r6789.1.2.1, .int .i64 r6789.1.2.2]) ta30 (s_7.trans e6796_7) (Blk.cellsFrom (BlkO.evo (by decide) hE b6796_g6793).2 0 rfl) rfl
          refine steps_cons (fun own a wx hf hsl hE => ?_) ?_
          · obtain ⟨c_60, -⟩ := hf
            obtain ⟨s_4, -⟩ := hsl
            refine sg_tc rfl rfl rfl c_60 (fun hg => ?_)
            have f_60 : a.eval (.tmp 60) = .bool r6789.2.1 := c_60.1 (gL hg)
            exact or_move (s_4.trans e6796_4)
          refine steps_cons (fun own a wx hf hsl hE => ?_) ?_
          · obtain ⟨c_60, c_62, -⟩ := hf
            refine sg_tc rfl rfl rfl c_60 (fun hg => ?_)
            have f_60 : a.eval (.tmp 60) = .bool r6789.2.1 := c_60.1 (gL hg)
            have f_62 : a.eval (.tmp 62) = .slice A4708 m4710.length c4709 := c_62.1 hg
            exact or_index (R := R41) (l := m4710) tl38 f_62 rfl (RdO.some_ b6796_A4708 (gd_t hx6798 hg)) (gd_t hx6798 hg)
          refine steps_cons (fun own a wx hf hsl hE => ?_) ?_
          · obtain ⟨c_60, c_63, -⟩ := hf
            refine sg_tc rfl rfl rfl c_60 (fun hg => ?_)
            have f_60 : a.eval (.tmp 60) = .bool r6789.2.1 := c_60.1 (gL hg)
            have f_63 : a.eval (.tmp 63) = .pointer (some ((adr A4708).add ((0 : Int).toNat * R41.s))) := c_63.1 hg
            exact or_load (l := E41.f x6798) ta41 f_63 (RdO.cells (F := E41) (RdO.evo rfl hE b6796_A4708) (gd_t hx6798 hg)) rfl
          refine steps_cons (fun own a wx hf hsl hE => ?_) ?_
          · obtain ⟨c_60, c_61, c_64, -⟩ := hf
            refine sg_tc rfl rfl rfl c_60 (fun hg => ?_)
            have f_60 : a.eval (.tmp 60) = .bool r6789.2.1 := c_60.1 (gL hg)
            have f_61 : a.eval (.tmp 61) = .agg #[.int .i64 r6789.1.1, .int .i64 r6789.1.2.1, .int .i64 r6789.1.2.2] := c_61.1 hg
            have f_64 : a.eval (.tmp 64) = .agg #[.int .i64 x6798.1, .int .i64 x6798.2.1, .int .i64 x6798.2.2] := c_64.1 hg
            exact or_neqA sg41 f_61 f_64 (sn41 r6789.1.1 r6789.1.2.1 r6789.1.2.2 x6798.1 x6798.2.1 x6798.2.2 _) rfl
          refine steps_cons (fun own a wx hf hsl hE => ?_) ?_
          · obtain ⟨(f_58 : a.eval (.tmp 58) = .bool (!(r6789.2.1 == (decide (0 < (m4710.length : Int)))))), c_60, c_65, -⟩ := hf
            refine sg_f rfl rfl rfl f_58 (fun hg => ?_)
            have f_60 : a.eval (.tmp 60) = .bool r6789.2.1 := c_60.1 hg
            exact or_and f_60 (fun hx => c_65.1 (gI hg hx)) rfl (osome hx6799).symm
          refine steps_cons (fun own a wx hf hsl hE => ?_) ?_
          · obtain ⟨(f_58 : a.eval (.tmp 58) = .bool (!(r6789.2.1 == (decide (0 < (m4710.length : Int)))))), c_66, -⟩ := hf
            exact sg_plain rfl rfl (or_or f_58 rfl (fun hx => c_66.1 hx) (osome hx6800).symm)
          refine steps_cons (fun own a wx hf hsl hE => ?_) ?_
          · obtain ⟨(f_67 : a.eval (.tmp 67) = .bool x6800), -⟩ := hf
            exact sg_plain rfl rfl (or_move f_67)
          refine steps_cons (fun own a wx hf hsl hE => ?_) ?_
          · obtain ⟨(f_68 : a.eval (.tmp 68) = .bool x6800), -⟩ := hf
            obtain ⟨s_8, -⟩ := hsl
            refine sg_f rfl rfl rfl f_68 (fun hg => ?_)
            exact or_move (s_8.trans e6796_8)
          refine steps_cons (fun own a wx hf hsl hE => ?_) ?_
          · obtain ⟨(f_68 : a.eval (.tmp 68) = .bool x6800), c_69, -⟩ := hf
            refine sg_f rfl rfl rfl f_68 (fun hg => ?_)
            have f_69 : a.eval (.tmp 69) = .bool r6789.2.1 := c_69.1 hg
            exact or_not f_69 rfl
          refine steps_cons (fun own a wx hf hsl hE => ?_) ?_
          · obtain ⟨(f_68 : a.eval (.tmp 68) = .bool x6800), c_70, -⟩ := hf
            refine sg_f rfl rfl rfl f_68 (fun hg => ?_)
            have f_70 : a.eval (.tmp 70) = .bool (!r6789.2.1) := c_70.1 hg
            exact or_move f_70
          refine steps_cons (fun own a wx hf hsl hE => ?_) ?_
          · obtain ⟨c_71, -⟩ := hf
            obtain ⟨s_7, -⟩ := hsl
            refine sg_tc rfl rfl rfl c_71 (fun hg => ?_)
            have f_71 : a.eval (.tmp 71) = .bool (!r6789.2.1) := c_71.1 (gL hg)
            exact or_load (l := [.int .i64 r6789.1.1, .int .i64 r6789.1.2.1, .int .i64 r6789.1.2.2]) ta30 (s_7.trans e6796_7) (Blk.cellsFrom (BlkO.evo (by decide) hE b6796_g6793).2 0 rfl) rfl
          refine steps_cons (fun own a wx hf hsl hE => ?_) ?_
          · obtain ⟨c_71, -⟩ := hf
            refine sg_tc rfl rfl rfl c_71 (fun hg => ?_)
            have f_71 : a.eval (.tmp 71) = .bool (!r6789.2.1) := c_71.1 (gL hg)
            exact or_k [] rfl rfl trivial (by kernel_rfl)
          refine steps_cons (fun own a wx hf hsl hE => ?_) ?_
          · obtain ⟨c_71, c_72, c_73, -⟩ := hf
            refine sg_tc rfl rfl rfl c_71 (fun hg => ?_)
            have f_71 : a.eval (.tmp 71) = .bool (!r6789.2.1) := c_71.1 (gL hg)
            have f_72 : a.eval (.tmp 72) = .agg #[.int .i64 r6789.1.1, .int .i64 r6789.1.2.1, .int .i64 r6789.1.2.2] := c_72.1 hg
            have f_73 : a.eval (.tmp 73) = .agg #[.int .i64 0, .int .i64 0, .int .i64 0] := c_73.1 hg
            exact or_neqA sg30 f_72 f_73 (sn30 r6789.1.1 r6789.1.2.1 r6789.1.2.2 0 0 0 _) rfl
          refine steps_cons (fun own a wx hf hsl hE => ?_) ?_
          · obtain ⟨(f_68 : a.eval (.tmp 68) = .bool x6800), c_71, c_74, -⟩ := hf
            refine sg_f rfl rfl rfl f_68 (fun hg => ?_)
            have f_71 : a.eval (.tmp 71) = .bool (!r6789.2.1) := c_71.1 hg
            exact or_and f_71 (fun hx => c_74.1 (gI hg hx)) rfl (osome hx6801).symm
          refine steps_cons (fun own a wx hf hsl hE => ?_) ?_
          · obtain ⟨(f_68 : a.eval (.tmp 68) = .bool x6800), c_75, -⟩ := hf
            exact sg_plain rfl rfl (or_or f_68 rfl (fun hx => c_75.1 hx) rfl)
          exact steps_nil
        intro own6802 a6802 w6802 hd6802 hz6802 hk6802 hf6802 hE6802
        have e6802_0 : a6802.eval (.tmp 0) = .slice Aacts1 acts1.length cacts1 := (hk6802 0 rfl).trans e6796_0
        have e6802_3 : a6802.eval (.tmp 3) = .pointer (some ⟨g3540, 0, none⟩) := (hk6802 3 rfl).trans e6796_3
        have e6802_4 : a6802.eval (.tmp 4) = .slice A4708 m4710.length c4709 := (hk6802 4 rfl).trans e6796_4
        have e6802_5 : a6802.eval (.tmp 5) = .int .i64 i4712 := (hk6802 5 rfl).trans e6796_5
        have e6802_6 : a6802.eval (.tmp 6) = .pointer (some ⟨g5898, 0, none⟩) := (hk6802 6 rfl).trans e6796_6
        have e6802_8 : a6802.eval (.tmp 8) = .bool r6789.2.1 := (hk6802 8 rfl).trans e6796_8
        obtain ⟨(f_76 : a6802.eval (.tmp 76) = .bool (x6800 || x6801)), -⟩ := hf6802 [23] rfl
        have e6802_76 := f_76
        have hX6802 := Evo.step hX6796 (fun _ => Nat.le_refl 0) hE6802 rfl
        have b6802_Aacts1 := RdO.evo rfl hE6802 b6796_Aacts1
        have b6802_A4708 := RdO.evo rfl hE6802 b6796_A4708
        have b6802_g5898 := BlkO.evo (by decide) hE6802 b6796_g5898
        have b6802_g3540 := BlkO.evo (by decide) hE6802 b6796_g3540
        have b6802_A6790 := RwO.evo rfl hE6802 b6796_A6790
        refine fl_cond e6802_76 hs (fun c6803 hs => ?_) (fun c6803 hs => ?_)
        · refine rg_plain_seq (n := 156) (rs := []) (own0 := own6802) (K := [])
              (bs := [0])
              (ds := [⟨[], [], [], Fct.val 2 (.bool false)⟩]) (by kernel_rfl) hz6802 hd6802 (fun _ h => nomatch h) ?_ ?_
          · refine steps_cons (fun own a wx hf hsl hE => ?_) ?_
            · exact sg_plain rfl rfl (or_assign rfl)
            exact steps_nil
          intro own6804 a6804 w6804 hd6804 hz6804 hk6804 hf6804 hE6804
          obtain ⟨(f_2 : a6804.eval (.tmp 2) = .bool false), -⟩ := hf6804 [0] rfl
          have e6804_2 := f_2
          have hX6804 := Evo.step hX6802 (fun _ => Nat.le_refl 0) hE6804 rfl
          refine fl_ret ?_
          refine hp6797 _ _ _ rfl ?_
          refine hp6475 _ _ _ rfl ?_
          refine hp5902 _ _ _ rfl ?_
          refine hp5896 _ _ _ rfl ?_
          refine hp5895 _ _ _ rfl ?_
          replace hs := hz5889 _ hs
          refine hp5889 _ _ _ rfl ?_
          refine hp3546 _ _ _ rfl ?_
          refine hp3544 _ _ _ rfl ?_
          obtain rfl := osome hs
          exact hret _ _ _ _ (.inl rfl) hd6804 (results1_ rfl (RVal.tmp_ e6804_2)) ⟨own6804, rfl, hX6804⟩
        refine fl_skip ?_
        refine hn6797 _ _ ?_
        refine rg_plain_seq (n := 156) (rs := []) (own0 := own6802) (K := [])
            (bs := [0])
            (ds := [⟨[], [8], [], Fct.val 77 (.bool r6789.2.1)⟩]) (by kernel_rfl) hz6802 hd6802 (fun _ h => nomatch h) ?_ ?_
        · refine steps_cons (fun own a wx hf hsl hE => ?_) ?_
          · obtain ⟨s_8, -⟩ := hsl
            exact sg_plain rfl rfl (or_move (s_8.trans e6802_8))
          exact steps_nil
        intro own6805 a6805 w6805 hd6805 hz6805 hk6805 hf6805 hE6805
        have e6805_0 : a6805.eval (.tmp 0) = .slice Aacts1 acts1.length cacts1 := (hk6805 0 rfl).trans e6802_0
        have e6805_3 : a6805.eval (.tmp 3) = .pointer (some ⟨g3540, 0, none⟩) := (hk6805 3 rfl).trans e6802_3
        have e6805_4 : a6805.eval (.tmp 4) = .slice A4708 m4710.length c4709 := (hk6805 4 rfl).trans e6802_4
        have e6805_5 : a6805.eval (.tmp 5) = .int .i64 i4712 := (hk6805 5 rfl).trans e6802_5
        have e6805_6 : a6805.eval (.tmp 6) = .pointer (some ⟨g5898, 0, none⟩) := (hk6805 6 rfl).trans e6802_6
        obtain ⟨(f_77 : a6805.eval (.tmp 77) = .bool r6789.2.1), -⟩ := hf6805 [0] rfl
        have e6805_77 := f_77
        have hX6805 := Evo.step hX6802 (fun _ => Nat.le_refl 0) hE6805 rfl
        have b6805_Aacts1 := RdO.evo rfl hE6805 b6802_Aacts1
        have b6805_A4708 := RdO.evo rfl hE6805 b6802_A4708
        have b6805_g5898 := BlkO.evo (by decide) hE6805 b6802_g5898
        have b6805_g3540 := BlkO.evo (by decide) hE6805 b6802_g3540
        have b6805_A6790 := RwO.evo rfl hE6805 b6802_A6790
        refine fl_cond e6805_77 hs (fun c6806 hs => ?_) (fun c6806 hs => ?_)
        · obtain ⟨x6807, hx6807, hs⟩ := obind hs
          refine rg_plain (n := 156) (rs := []) (own0 := own6805) (K := [])
              (bs := [0, 1, 3])
              (ds := [⟨[], [4], [], Fct.val 78 (.slice A4708 m4710.length c4709)⟩,
              ⟨[0], [], [], Fct.view [0, 4711] 79 R41 x6807⟩,
              ⟨[1], [], [], Fct.rel [4, 79] (fun l => ∀ (A6808 : Option Addr) (cA6808 : Nat), l.getD 1 undef = .slice A6808 x6807.length cA6808 → l.getD 0 undef = .slice A6808 x6807.length cA6808)⟩]) (by kernel_rfl) hz6805 hd6805 (fun _ h => nomatch h) ?_ ?_
          · refine steps_cons (fun own a wx hf hsl hE => ?_) ?_
            · obtain ⟨s_4, -⟩ := hsl
              exact sg_plain rfl rfl (or_move (s_4.trans e6805_4))
            refine steps_cons (fun own a wx hf hsl hE => ?_) ?_
            · obtain ⟨(f_78 : a.eval (.tmp 78) = .slice A4708 m4710.length c4709), -⟩ := hf
              exact sg_plain rfl rfl (or_view (R := R41) (l := m4710) (L := [0, 4711]) tu38 ts41 f_78 (Bnd.some_ rfl) Bnd.none_ Bnd.none_ (RdO.evo rfl hE b6805_A4708) hx6807 (.inl rfl) (by simp))
            refine steps_cons (fun own a wx hf hsl hE => ?_) ?_
            · obtain ⟨⟨⟨A6808, cA6808⟩, (f_79 : a.eval (.tmp 79) = .slice A6808 x6807.length cA6808), (b_A6808 : RdO own [0, 4711] wx R41 A6808 cA6808 x6807)⟩, -⟩ := hf
              exact sg_plain rfl rfl (or_mono (f := Fct.val 4 (.slice A6808 x6807.length cA6808)) (or_assign f_79) (fun own' a' w' v' hp h => fun _ _ h0' => by cases (f_79.symm.trans ((hp.2 79 (by decide)).symm.trans h0')); exact h))
            exact steps_nil
          intro own6809 a6809 w6809 hd6809 hz6809 hk6809 hf6809 hE6809
          have e6809_0 : a6809.eval (.tmp 0) = .slice Aacts1 acts1.length cacts1 := (hk6809 0 rfl).trans e6805_0
          have e6809_3 : a6809.eval (.tmp 3) = .pointer (some ⟨g3540, 0, none⟩) := (hk6809 3 rfl).trans e6805_3
          have e6809_5 : a6809.eval (.tmp 5) = .int .i64 i4712 := (hk6809 5 rfl).trans e6805_5
          have e6809_6 : a6809.eval (.tmp 6) = .pointer (some ⟨g5898, 0, none⟩) := (hk6809 6 rfl).trans e6805_6
          obtain ⟨⟨⟨A6808, cA6808⟩, (f_79 : a6809.eval (.tmp 79) = .slice A6808 x6807.length cA6808), (b_A6808 : RdO own6809 [0, 4711] w6809 R41 A6808 cA6808 x6807)⟩, (q_4 : ∀ (A6808 : Option Addr) (cA6808 : Nat), a6809.eval (.tmp 79) = .slice A6808 x6807.length cA6808 → a6809.eval (.tmp 4) = .slice A6808 x6807.length cA6808), -⟩ := hf6809 [1, 2] rfl
          have f_4 := q_4 _ _ f_79
          have e6809_4 := f_4
          have hX6809 := Evo.step hX6805 (fun _ => Nat.le_refl 0) hE6809 rfl
          have b6809_Aacts1 := RdO.evo rfl hE6809 b6805_Aacts1
          have b6809_g5898 := BlkO.evo (by decide) hE6809 b6805_g5898
          have b6809_g3540 := BlkO.evo (by decide) hE6809 b6805_g3540
          have b6809_A6790 := RwO.evo rfl hE6809 b6805_A6790
          have b6809_A6808 := b_A6808
          exact (K6764 _ _ (rl [(4711, 6763), (6791, 6759), (6792, 6755)] own6809) _ _ A6790 cA6790 A6808 cA6808 hd6809 hz6809 e6809_0 e6809_3 e6809_4 e6809_5 e6809_6 (Evo.rl_ hX6809 (fun _ => Nat.le_refl 0) rfl) (RdO.rl_ (mm := [(4711, 6763), (6791, 6759), (6792, 6755)]) b6809_Aacts1) (BlkO.rl_ (mm := [(4711, 6763), (6791, 6759), (6792, 6755)]) b6809_g3540) (RwO.rl_ (mm := [(4711, 6763), (6791, 6759), (6792, 6755)]) b6809_A6790) (RdO.rl_ (mm := [(4711, 6763), (6791, 6759), (6792, 6755)]) b6809_A6808) (BlkO.rl_ (mm := [(4711, 6763), (6791, 6759), (6792, 6755)]) b6809_g5898) hs).1
        refine fl_skip ?_
        exact (K6764 _ _ (rl [(4711, 6763), (6791, 6759), (6792, 6755)] own6805) _ _ A6790 cA6790 A4708 c4709 hd6805 hz6805 e6805_0 e6805_3 e6805_4 e6805_5 e6805_6 (Evo.rl_ hX6805 (fun _ => Nat.le_refl 0) rfl) (RdO.rl_ (mm := [(4711, 6763), (6791, 6759), (6792, 6755)]) b6805_Aacts1) (BlkO.rl_ (mm := [(4711, 6763), (6791, 6759), (6792, 6755)]) b6805_g3540) (RwO.rl_ (mm := [(4711, 6763), (6791, 6759), (6792, 6755)]) b6805_A6790) (RdO.rl_ (mm := [(4711, 6763), (6791, 6759), (6792, 6755)]) b6805_A4708) (BlkO.rl_ (mm := [(4711, 6763), (6791, 6759), (6792, 6755)]) b6805_g5898) hs).1
      refine rg_plain_seq (n := 156) (rs := []) (own0 := own6787) (K := [])
          (bs := [0, 1])
          (ds := [⟨[], [30], [], Fct.val 81 (.bool (decide (x5897.1 = 1)))⟩,
          ⟨[0], [], [], Fct.val 80 (.bool (decide (x5897.1 = 1)))⟩]) (by kernel_rfl) hz6787 hd6787 (fun _ h => nomatch h) ?_ ?_
      · refine steps_cons (fun own a wx hf hsl hE => ?_) ?_
        · obtain ⟨s_30, -⟩ := hsl
          exact sg_plain rfl rfl (or_eql (s_30.trans e6787_30) rfl rfl)
        refine steps_cons (fun own a wx hf hsl hE => ?_) ?_
        · obtain ⟨(f_81 : a.eval (.tmp 81) = .bool (decide (x5897.1 = 1))), -⟩ := hf
          exact sg_plain rfl rfl (or_assign f_81)
        exact steps_nil
      intro own6810 a6810 w6810 hd6810 hz6810 hk6810 hf6810 hE6810
      have e6810_0 : a6810.eval (.tmp 0) = .slice Aacts1 acts1.length cacts1 := (hk6810 0 rfl).trans e6787_0
      have e6810_3 : a6810.eval (.tmp 3) = .pointer (some ⟨g3540, 0, none⟩) := (hk6810 3 rfl).trans e6787_3
      have e6810_4 : a6810.eval (.tmp 4) = .slice A4708 m4710.length c4709 := (hk6810 4 rfl).trans e6787_4
      have e6810_5 : a6810.eval (.tmp 5) = .int .i64 i4712 := (hk6810 5 rfl).trans e6787_5
      have e6810_6 : a6810.eval (.tmp 6) = .pointer (some ⟨g5898, 0, none⟩) := (hk6810 6 rfl).trans e6787_6
      obtain ⟨(f_80 : a6810.eval (.tmp 80) = .bool (decide (x5897.1 = 1))), -⟩ := hf6810 [1] rfl
      have e6810_80 := f_80
      have hX6810 := Evo.step hX6787 (fun _ => Nat.le_refl 0) hE6810 rfl
      have b6810_Aacts1 := RdO.evo rfl hE6810 b6787_Aacts1
      have b6810_g3540 := BlkO.evo (by decide) hE6810 b6787_g3540
      have b6810_A4704 := RwO.evo rfl hE6810 b6787_A4704
      have b6810_A4708 := RdO.evo rfl hE6810 b6787_A4708
      have b6810_g5898 := BlkO.evo (by decide) hE6810 b6787_g5898
      refine fl_cond e6810_80 hs (fun c6811 hs => ?_) (fun c6811 hs => ?_)
      · refine rg_plain_seq (n := 156) (rs := []) (own0 := own6810) (K := [])
            (bs := [0])
            (ds := [⟨[], [], [], Fct.val 9 (.int .i64 0)⟩]) (by kernel_rfl) hz6810 hd6810 (fun _ h => nomatch h) ?_ ?_
        · refine steps_cons (fun own a wx hf hsl hE => ?_) ?_
          · exact sg_plain rfl rfl (or_assign rfl)
          exact steps_nil
        intro own6812 a6812 w6812 hd6812 hz6812 hk6812 hf6812 hE6812
        have e6812_0 : a6812.eval (.tmp 0) = .slice Aacts1 acts1.length cacts1 := (hk6812 0 rfl).trans e6810_0
        have e6812_3 : a6812.eval (.tmp 3) = .pointer (some ⟨g3540, 0, none⟩) := (hk6812 3 rfl).trans e6810_3
        have e6812_4 : a6812.eval (.tmp 4) = .slice A4708 m4710.length c4709 := (hk6812 4 rfl).trans e6810_4
        have e6812_5 : a6812.eval (.tmp 5) = .int .i64 i4712 := (hk6812 5 rfl).trans e6810_5
        have e6812_6 : a6812.eval (.tmp 6) = .pointer (some ⟨g5898, 0, none⟩) := (hk6812 6 rfl).trans e6810_6
        obtain ⟨(f_9 : a6812.eval (.tmp 9) = .int .i64 0), -⟩ := hf6812 [0] rfl
        have e6812_9 := f_9
        have hX6812 := Evo.step hX6810 (fun _ => Nat.le_refl 0) hE6812 rfl
        have b6812_Aacts1 := RdO.evo rfl hE6812 b6810_Aacts1
        have b6812_g3540 := BlkO.evo (by decide) hE6812 b6810_g3540
        have b6812_A4704 := RwO.evo rfl hE6812 b6810_A4704
        have b6812_A4708 := RdO.evo rfl hE6812 b6810_A4708
        have b6812_g5898 := BlkO.evo (by decide) hE6812 b6810_g5898
        refine fl_seq (fun Q6813 hn6813 hp6813 => ?_)
        refine rg_plain_seq (n := 156) (rs := []) (own0 := own6812) (K := [])
            (bs := [0])
            (ds := [⟨[], [], [], Fct.val 10 (.int .i64 0)⟩]) (by kernel_rfl) hz6812 hd6812 (fun _ h => nomatch h) ?_ ?_
        · refine steps_cons (fun own a wx hf hsl hE => ?_) ?_
          · exact sg_plain rfl rfl (or_assign rfl)
          exact steps_nil
        intro own6814 a6814 w6814 hd6814 hz6814 hk6814 hf6814 hE6814
        have e6814_0 : a6814.eval (.tmp 0) = .slice Aacts1 acts1.length cacts1 := (hk6814 0 rfl).trans e6812_0
        have e6814_3 : a6814.eval (.tmp 3) = .pointer (some ⟨g3540, 0, none⟩) := (hk6814 3 rfl).trans e6812_3
        have e6814_4 : a6814.eval (.tmp 4) = .slice A4708 m4710.length c4709 := (hk6814 4 rfl).trans e6812_4
        have e6814_5 : a6814.eval (.tmp 5) = .int .i64 i4712 := (hk6814 5 rfl).trans e6812_5
        have e6814_6 : a6814.eval (.tmp 6) = .pointer (some ⟨g5898, 0, none⟩) := (hk6814 6 rfl).trans e6812_6
        have e6814_9 : a6814.eval (.tmp 9) = .int .i64 0 := (hk6814 9 rfl).trans e6812_9
        obtain ⟨(f_10 : a6814.eval (.tmp 10) = .int .i64 0), -⟩ := hf6814 [0] rfl
        have e6814_10 := f_10
        have hX6814 := Evo.step hX6812 (fun _ => Nat.le_refl 0) hE6814 rfl
        have b6814_Aacts1 := RdO.evo rfl hE6814 b6812_Aacts1
        have b6814_g3540 := BlkO.evo (by decide) hE6814 b6812_g3540
        have b6814_A4704 := RwO.evo rfl hE6814 b6812_A4704
        have b6814_A4708 := RdO.evo rfl hE6814 b6812_A4708
        have b6814_g5898 := BlkO.evo (by decide) hE6814 b6812_g5898
        refine fl_block (fun Q6815 hn6815 hx6815 hp6815 => ?_)
        refine fl_loop (body := (fun s => law05_HeapPlays_b3 h4706 i4712 x5897 s.1 s.2.1 s.2.2)) (z := zz5889) (show loopO _ _ = _ from hs) (fun (s : (List (Int × Int × Int)) × Int × Int) a wx => match s with | (m6888, n6890, k6891) => ∃ (ox : Own) (A6886 : Option Addr) (c6887 : Nat), a.defers = [] ∧ a.tmps.size = 156 ∧ a.eval (.tmp 0) = .slice Aacts1 acts1.length cacts1 ∧ a.eval (.tmp 3) = .pointer (some ⟨g3540, 0, none⟩) ∧ a.eval (.tmp 4) = .slice A6886 m6888.length c6887 ∧ a.eval (.tmp 5) = .int .i64 i4712 ∧ a.eval (.tmp 6) = .pointer (some ⟨g5898, 0, none⟩) ∧ a.eval (.tmp 9) = .int .i64 n6890 ∧ a.eval (.tmp 10) = .int .i64 k6891 ∧ Evo [] (fun _ => 0) ox w wx ∧ RdO ox [0] wx R40 Aacts1 cacts1 acts1 ∧ BlkO ox 4703 wx g3540 26 #[.slice A4704 h4706.length c4705] ∧ RwO ox 4707 [] wx 30 R30 A4704 c4705 h4706 ∧ RdO ox [0, 6889] wx R41 A6886 c6887 m6888 ∧ BlkO ox 5900 wx g5898 40 #[.int .i64 x5897.1, .int .i64 x5897.2.1.1, .int .i64 x5897.2.1.2.1, .int .i64 x5897.2.1.2.2, .int .i64 x5897.2.2.1, .int .i64 x5897.2.2.2.1, .int .i64 x5897.2.2.2.2]) ?_ ?_
        · exact ⟨(rl [(4711, 6889)] own6814), A4708, c4709, hd6814, hz6814, e6814_0, e6814_3, e6814_4, e6814_5, e6814_6, e6814_9, e6814_10, (Evo.rl_ hX6814 (fun _ => Nat.le_refl 0) rfl), (RdO.rl_ (mm := [(4711, 6889)]) b6814_Aacts1), (BlkO.rl_ (mm := [(4711, 6889)]) b6814_g3540), (RwO.rl_ (mm := [(4711, 6889)]) b6814_A4704), (RdO.rl_ (mm := [(4711, 6889)]) b6814_A4708), (BlkO.rl_ (mm := [(4711, 6889)]) b6814_g5898)⟩
        · rintro ⟨m6888, n6890, k6891⟩ zz6962 a6962 w6962 ⟨own6962, A6886, c6887, hd6963, hz6963, e6963_0, e6963_3, e6963_4, e6963_5, e6963_6, e6963_9, e6963_10, hE6963, b6963_Aacts1, b6963_g3540, b6963_A4704, b6963_A6886, b6963_g5898⟩ hs Q6962 hn6962 hp6962 hz6962
          have hs : law05_HeapPlays_b3 h4706 i4712 x5897 m6888 n6890 k6891 = some zz6962 := hs
          refine fl_seq (fun Q6964 hn6964 hp6964 => ?_)
          refine rg_plain_seq (n := 156) (rs := []) (own0 := own6962) (K := [])
              (bs := [0, 1])
              (ds := [⟨[], [10], [], Fct.val 82 (.int .i64 k6891)⟩,
              ⟨[0], [], [], Fct.val 83 (.bool (decide (k6891 < 2)))⟩]) (by kernel_rfl) hz6963 hd6963 (fun _ h => nomatch h) ?_ ?_
          · refine steps_cons (fun own a wx hf hsl hE => ?_) ?_
            · obtain ⟨s_10, -⟩ := hsl
              exact sg_plain rfl rfl (or_move (s_10.trans e6963_10))
            refine steps_cons (fun own a wx hf hsl hE => ?_) ?_
            · obtain ⟨(f_82 : a.eval (.tmp 82) = .int .i64 k6891), -⟩ := hf
              exact sg_plain rfl rfl (or_lss f_82 rfl rfl)
            exact steps_nil
          intro own6965 a6965 w6965 hd6965 hz6965 hk6965 hf6965 hE6965
          have e6965_0 : a6965.eval (.tmp 0) = .slice Aacts1 acts1.length cacts1 := (hk6965 0 rfl).trans e6963_0
          have e6965_3 : a6965.eval (.tmp 3) = .pointer (some ⟨g3540, 0, none⟩) := (hk6965 3 rfl).trans e6963_3
          have e6965_4 : a6965.eval (.tmp 4) = .slice A6886 m6888.length c6887 := (hk6965 4 rfl).trans e6963_4
          have e6965_5 : a6965.eval (.tmp 5) = .int .i64 i4712 := (hk6965 5 rfl).trans e6963_5
          have e6965_6 : a6965.eval (.tmp 6) = .pointer (some ⟨g5898, 0, none⟩) := (hk6965 6 rfl).trans e6963_6
          have e6965_9 : a6965.eval (.tmp 9) = .int .i64 n6890 := (hk6965 9 rfl).trans e6963_9
          have e6965_10 : a6965.eval (.tmp 10) = .int .i64 k6891 := (hk6965 10 rfl).trans e6963_10
          obtain ⟨(f_83 : a6965.eval (.tmp 83) = .bool (decide (k6891 < 2))), -⟩ := hf6965 [1] rfl
          have e6965_83 := f_83
          have hX6965 := Evo.step hE6963 (fun _ => Nat.le_refl 0) hE6965 rfl
          have b6965_Aacts1 := RdO.evo rfl hE6965 b6963_Aacts1
          have b6965_g3540 := BlkO.evo (by decide) hE6965 b6963_g3540
          have b6965_A4704 := RwO.evo rfl hE6965 b6963_A4704
          have b6965_A6886 := RdO.evo rfl hE6965 b6963_A6886
          have b6965_g5898 := BlkO.evo (by decide) hE6965 b6963_g5898
          refine fl_cond e6965_83 hs (fun c6966 hs => ?_) (fun c6966 hs => ?_)
          · refine fl_skip ?_
            refine hn6964 _ _ ?_
            refine fl_seq (fun Q6967 hn6967 hp6967 => ?_)
            refine fl_block (fun Q7000 hn7000 hx7000 hp7000 => ?_)
            have K7018 : ∀ (a7018 : Act) (w7018 : World) (own7018 : Own) (m7015 : List (Int × Int × Int)) (n7017 : Int) (A7013 : Option Addr) (c7014 : Nat), a7018.defers = [] → a7018.tmps.size = 156 → a7018.eval (.tmp 0) = .slice Aacts1 acts1.length cacts1 → a7018.eval (.tmp 3) = .pointer (some ⟨g3540, 0, none⟩) → a7018.eval (.tmp 4) = .slice A7013 m7015.length c7014 → a7018.eval (.tmp 5) = .int .i64 i4712 → a7018.eval (.tmp 6) = .pointer (some ⟨g5898, 0, none⟩) → a7018.eval (.tmp 9) = .int .i64 n7017 → a7018.eval (.tmp 10) = .int .i64 k6891 → Evo [] (fun _ => 0) own7018 w w7018 → RdO own7018 [0] w7018 R40 Aacts1 cacts1 acts1 → BlkO own7018 4703 w7018 g3540 26 #[.slice A4704 h4706.length c4705] → RwO own7018 4707 [] w7018 30 R30 A4704 c4705 h4706 → RdO own7018 [0, 7016] w7018 R41 A7013 c7014 m7015 → BlkO own7018 5900 w7018 g5898 40 #[.int .i64 x5897.1, .int .i64 x5897.2.1.1, .int .i64 x5897.2.1.2.1, .int .i64 x5897.2.1.2.2, .int .i64 x5897.2.2.1, .int .i64 x5897.2.2.2.1, .int .i64 x5897.2.2.2.2] → law05_HeapPlays_k4 k6891 m7015 n7017 = some zz6962 → (Q7000 .normal a7018 w7018 ∧ Q7000 (.exit 4) a7018 w7018) := by
              intro a7018 w7018 own7018 m7015 n7017 A7013 c7014 hd7019 hz7019 e7019_0 e7019_3 e7019_4 e7019_5 e7019_6 e7019_9 e7019_10 hE7019 b7019_Aacts1 b7019_g3540 b7019_A4704 b7019_A7013 b7019_g5898 hs
              refine and_both (hn7000 _ _) (hx7000 _ _) ?_
              refine hn6967 _ _ ?_
              refine rg_plain (n := 156) (rs := []) (own0 := own7018) (K := [])
                  (bs := [0, 1, 3])
                  (ds := [⟨[], [10], [], Fct.val 84 (.int .i64 k6891)⟩,
                  ⟨[0], [], [], Fct.val 85 (.int .i64 (ad k6891 1))⟩,
                  ⟨[1], [], [], Fct.val 10 (.int .i64 (ad k6891 1))⟩]) (by kernel_rfl) hz7019 hd7019 (fun _ h => nomatch h) ?_ ?_
              · refine steps_cons (fun own a wx hf hsl hE => ?_) ?_
                · obtain ⟨s_10, -⟩ := hsl
                  exact sg_plain rfl rfl (or_move (s_10.trans e7019_10))
                refine steps_cons (fun own a wx hf hsl hE => ?_) ?_
                · obtain ⟨(f_84 : a.eval (.tmp 84) = .int .i64 k6891), -⟩ := hf
                  exact sg_plain rfl rfl (or_add f_84 rfl rfl)
                refine steps_cons (fun own a wx hf hsl hE => ?_) ?_
                · obtain ⟨(f_85 : a.eval (.tmp 85) = .int .i64 (ad k6891 1)), -⟩ := hf
                  exact sg_plain rfl rfl (or_assign f_85)
                exact steps_nil
              intro own7020 a7020 w7020 hd7020 hz7020 hk7020 hf7020 hE7020
              have e7020_0 : a7020.eval (.tmp 0) = .slice Aacts1 acts1.length cacts1 := (hk7020 0 rfl).trans e7019_0
              have e7020_3 : a7020.eval (.tmp 3) = .pointer (some ⟨g3540, 0, none⟩) := (hk7020 3 rfl).trans e7019_3
              have e7020_4 : a7020.eval (.tmp 4) = .slice A7013 m7015.length c7014 := (hk7020 4 rfl).trans e7019_4
              have e7020_5 : a7020.eval (.tmp 5) = .int .i64 i4712 := (hk7020 5 rfl).trans e7019_5
              have e7020_6 : a7020.eval (.tmp 6) = .pointer (some ⟨g5898, 0, none⟩) := (hk7020 6 rfl).trans e7019_6
              have e7020_9 : a7020.eval (.tmp 9) = .int .i64 n7017 := (hk7020 9 rfl).trans e7019_9
              obtain ⟨(f_10 : a7020.eval (.tmp 10) = .int .i64 (ad k6891 1)), -⟩ := hf7020 [2] rfl
              have e7020_10 := f_10
              have hX7020 := Evo.step hE7019 (fun _ => Nat.le_refl 0) hE7020 rfl
              have b7020_Aacts1 := RdO.evo rfl hE7020 b7019_Aacts1
              have b7020_g3540 := BlkO.evo (by decide) hE7020 b7019_g3540
              have b7020_A4704 := RwO.evo rfl hE7020 b7019_A4704
              have b7020_A7013 := RdO.evo rfl hE7020 b7019_A7013
              have b7020_g5898 := BlkO.evo (by decide) hE7020 b7019_g5898
              exact hn6962 _ _ _ hs ⟨(rl [(7016, 6889)] own7020), A7013, c7014, hd7020, hz7020, e7020_0, e7020_3, e7020_4, e7020_5, e7020_6, e7020_9, e7020_10, (Evo.rl_ hX7020 (fun _ => Nat.le_refl 0) rfl), (RdO.rl_ (mm := [(7016, 6889)]) b7020_Aacts1), (BlkO.rl_ (mm := [(7016, 6889)]) b7020_g3540), (RwO.rl_ (mm := [(7016, 6889)]) b7020_A4704), (RdO.rl_ (mm := [(7016, 6889)]) b7020_A7013), (BlkO.rl_ (mm := [(7016, 6889)]) b7020_g5898)⟩
            obtain ⟨x7023, hx7023, hs⟩ := obind hs
            obtain ⟨r7024, hr7024, hs⟩ := obind hs
            refine rg_plain_seq (n := 156) (rs := []) (own0 := own6965) (K := [])
                (bs := [0, 0, 2, 0, 8, 30, 0, 126, 254, 511, 1023, 2047, 2047, 4095, 16383])
                (ds := [⟨[], [4], [], Fct.val 87 (.slice A6886 m6888.length c6887)⟩,
                ⟨[], [6], [], Fct.val 88 (.pointer (some ⟨g5898, 1, none⟩))⟩,
                ⟨[1], [], [], Fct.val 89 (.agg #[.int .i64 x5897.2.1.1, .int .i64 x5897.2.1.2.1, .int .i64 x5897.2.1.2.2])⟩,
                ⟨[], [6], [], Fct.val 90 (.pointer (some ⟨g5898, 4, none⟩))⟩,
                ⟨[3], [], [], Fct.val 91 (.agg #[.int .i64 x5897.2.2.1, .int .i64 x5897.2.2.2.1, .int .i64 x5897.2.2.2.2])⟩,
                ⟨[2, 4], [], [], Fct.row 7022 [] 92 30 R30 [x5897.2.1, x5897.2.2]⟩,
                ⟨[], [10], [], Fct.val 93 (.int .i64 k6891)⟩,
                ⟨[5, 6], [], [], Fct.rel [94, 92] (fun l => ∀ (A7021 : Option Addr) (cA7021 : Nat), l.getD 1 undef = .slice A7021 [x5897.2.1, x5897.2.2].length cA7021 → l.getD 0 undef = .pointer (some ((adr A7021).add ((k6891 : Int).toNat * R30.s))))⟩,
                ⟨[7, 5], [], [], Fct.val 95 (.agg #[.int .i64 x7023.1, .int .i64 x7023.2.1, .int .i64 x7023.2.2])⟩,
                ⟨[0, 8], [], [], Fct.mems [7026, 7027, 0, 6889] 96 (fun (x : Option Addr × Nat) => .tuple #[.slice x.1 r7024.1.length x.2, .bool r7024.2]) (fun (x : Option Addr × Nat) own w => RdO own [7026, 7027, 0, 6889] w R41 x.1 x.2 r7024.1) (fun hk he h => RdO.evo (hits_sub hk (by decide)) he h)⟩,
                ⟨[9], [], [], Fct.rel [86, 96] (fun l => ∀ (A7025 : Option Addr) (cA7025 : Nat), l.getD 1 undef = .tuple #[.slice A7025 r7024.1.length cA7025, .bool r7024.2] → l.getD 0 undef = .tuple #[.slice A7025 r7024.1.length cA7025, .bool r7024.2])⟩,
                ⟨[10, 9], [], [], Fct.rel [97, 96] (fun l => ∀ (A7025 : Option Addr) (cA7025 : Nat), l.getD 1 undef = .tuple #[.slice A7025 r7024.1.length cA7025, .bool r7024.2] → l.getD 0 undef = .slice A7025 r7024.1.length cA7025)⟩,
                ⟨[10, 9], [], [], Fct.val 98 (.bool r7024.2)⟩,
                ⟨[11, 9], [], [], Fct.rel [11, 96] (fun l => ∀ (A7025 : Option Addr) (cA7025 : Nat), l.getD 1 undef = .tuple #[.slice A7025 r7024.1.length cA7025, .bool r7024.2] → l.getD 0 undef = .slice A7025 r7024.1.length cA7025)⟩,
                ⟨[12], [], [], Fct.val 12 (.bool r7024.2)⟩]) (by kernel_rfl) hz6965 hd6965 (fun _ h => nomatch h) ?_ ?_
            · refine steps_cons (fun own a wx hf hsl hE => ?_) ?_
              · obtain ⟨s_4, -⟩ := hsl
                exact sg_plain rfl rfl (or_move (s_4.trans e6965_4))
              refine steps_cons (fun own a wx hf hsl hE => ?_) ?_
              · obtain ⟨s_6, -⟩ := hsl
                exact sg_plain rfl rfl (or_field fo40_1 (s_6.trans e6965_6) (by rfl))
              refine steps_cons (fun own a wx hf hsl hE => ?_) ?_
              · obtain ⟨(f_88 : a.eval (.tmp 88) = .pointer (some ⟨g5898, 1, none⟩)), -⟩ := hf
                exact sg_plain rfl rfl (or_load (l := [.int .i64 x5897.2.1.1, .int .i64 x5897.2.1.2.1, .int .i64 x5897.2.1.2.2]) ta30 f_88 (Blk.cellsFrom (BlkO.evo (by decide) hE b6965_g5898).2 1 rfl) rfl)
              refine steps_cons (fun own a wx hf hsl hE => ?_) ?_
              · obtain ⟨s_6, -⟩ := hsl
                exact sg_plain rfl rfl (or_field fo40_2 (s_6.trans e6965_6) (by rfl))
              refine steps_cons (fun own a wx hf hsl hE => ?_) ?_
              · obtain ⟨(f_90 : a.eval (.tmp 90) = .pointer (some ⟨g5898, 4, none⟩)), -⟩ := hf
                exact sg_plain rfl rfl (or_load (l := [.int .i64 x5897.2.2.1, .int .i64 x5897.2.2.2.1, .int .i64 x5897.2.2.2.2]) ta30 f_90 (Blk.cellsFrom (BlkO.evo (by decide) hE b6965_g5898).2 4 rfl) rfl)
              refine steps_cons (fun own a wx hf hsl hE => ?_) ?_
              · obtain ⟨(f_89 : a.eval (.tmp 89) = .agg #[.int .i64 x5897.2.1.1, .int .i64 x5897.2.1.2.1, .int .i64 x5897.2.1.2.2]), (f_91 : a.eval (.tmp 91) = .agg #[.int .i64 x5897.2.2.1, .int .i64 x5897.2.2.2.1, .int .i64 x5897.2.2.2.2]), -⟩ := hf
                exact sg_plain rfl rfl (or_lit (lab := 7022) (e := 30) (cs := #[.int .i64 x5897.2.1.1, .int .i64 x5897.2.1.2.1, .int .i64 x5897.2.1.2.2, .int .i64 x5897.2.2.1, .int .i64 x5897.2.2.2.1, .int .i64 x5897.2.2.2.2]) (F := E30) (or_new [(89, .agg #[.int .i64 x5897.2.1.1, .int .i64 x5897.2.1.2.1, .int .i64 x5897.2.1.2.2]), (91, .agg #[.int .i64 x5897.2.2.1, .int .i64 x5897.2.2.2.1, .int .i64 x5897.2.2.2.2])] rfl rfl ⟨f_89, f_91, trivial⟩ (by kernel_rfl)) rfl rfl (show 2 ≤ maxLen by decide))
              refine steps_cons (fun own a wx hf hsl hE => ?_) ?_
              · obtain ⟨s_10, -⟩ := hsl
                exact sg_plain rfl rfl (or_move (s_10.trans e6965_10))
              refine steps_cons (fun own a wx hf hsl hE => ?_) ?_
              · obtain ⟨⟨⟨A7021, cA7021⟩, (f_92 : a.eval (.tmp 92) = .slice A7021 [x5897.2.1, x5897.2.2].length cA7021), (b_A7021 : RwO own 7022 [] wx 30 R30 A7021 cA7021 [x5897.2.1, x5897.2.2])⟩, (f_93 : a.eval (.tmp 93) = .int .i64 k6891), -⟩ := hf
                exact sg_plain rfl rfl (or_mono (f := Fct.val 94 (.pointer (some ((adr A7021).add ((k6891 : Int).toNat * R30.s))))) (or_index (R := R30) (l := [x5897.2.1, x5897.2.2]) tl22 f_92 f_93 (RdO.some_ (RwO.rd b_A7021) hx7023) hx7023) (fun own' a' w' v' hp h => fun _ _ h0' => by cases (f_92.symm.trans ((hp.2 92 (by decide)).symm.trans h0')); exact h))
              refine steps_cons (fun own a wx hf hsl hE => ?_) ?_
              · obtain ⟨(q_94 : ∀ (A7021 : Option Addr) (cA7021 : Nat), a.eval (.tmp 92) = .slice A7021 [x5897.2.1, x5897.2.2].length cA7021 → a.eval (.tmp 94) = .pointer (some ((adr A7021).add ((k6891 : Int).toNat * R30.s)))), ⟨⟨A7021, cA7021⟩, (f_92 : a.eval (.tmp 92) = .slice A7021 [x5897.2.1, x5897.2.2].length cA7021), (b_A7021 : RwO own 7022 [] wx 30 R30 A7021 cA7021 [x5897.2.1, x5897.2.2])⟩, -⟩ := hf
                have f_94 := q_94 _ _ f_92
                exact sg_plain rfl rfl (or_load (l := E30.f x7023) ta30 f_94 (RdO.cells (F := E30) (RwO.rd b_A7021) hx7023) rfl)
              refine steps_cons (fun own a wx hf hsl hE => ?_) ?_
              · obtain ⟨(f_87 : a.eval (.tmp 87) = .slice A6886 m6888.length c6887), (f_95 : a.eval (.tmp 95) = .agg #[.int .i64 x7023.1, .int .i64 x7023.2.1, .int .i64 x7023.2.2]), -⟩ := hf
                exact sg_plain rfl rfl (or_call cf12 (args2 f_87 f_95) (ref05_Drop_w _ (forth own (inL [0, 6889])) m6888 A6886 c6887 x7023 inL_le (RdO.alias_ (La := [0, 6889]) (RdO.evo rfl hE b6965_A6886) (by decide)) r7024 hr7024) (post_alias (La := [0, 6889]) (m' := (look0 [(1, 7026), (2, 7027)])) (fun own' w' a' x ho hsz h1 h => ⟨x, h1, RdO.backN_ ho hsz h (by decide) (by decide) (by decide)⟩)))
              refine steps_cons (fun own a wx hf hsl hE => ?_) ?_
              · obtain ⟨⟨⟨A7025, cA7025⟩, (f_96 : a.eval (.tmp 96) = .tuple #[.slice A7025 r7024.1.length cA7025, .bool r7024.2]), (b_A7025 : RdO own [7026, 7027, 0, 6889] wx R41 A7025 cA7025 r7024.1)⟩, -⟩ := hf
                exact sg_plain rfl rfl (or_mono (f := Fct.val 86 (.tuple #[.slice A7025 r7024.1.length cA7025, .bool r7024.2])) (or_move f_96) (fun own' a' w' v' hp h => fun _ _ h0' => by cases (f_96.symm.trans ((hp.2 96 (by decide)).symm.trans h0')); exact h))
              refine steps_cons (fun own a wx hf hsl hE => ?_) ?_
              · obtain ⟨(q_86 : ∀ (A7025 : Option Addr) (cA7025 : Nat), a.eval (.tmp 96) = .tuple #[.slice A7025 r7024.1.length cA7025, .bool r7024.2] → a.eval (.tmp 86) = .tuple #[.slice A7025 r7024.1.length cA7025, .bool r7024.2]), ⟨⟨A7025, cA7025⟩, (f_96 : a.eval (.tmp 96) = .tuple #[.slice A7025 r7024.1.length cA7025, .bool r7024.2]), (b_A7025 : RdO own [7026, 7027, 0, 6889] wx R41 A7025 cA7025 r7024.1)⟩, -⟩ := hf
                have f_86 := q_86 _ _ f_96
                exact sg_plain rfl rfl (or_mono (f := Fct.val 97 (.slice A7025 r7024.1.length cA7025)) (or_k [(86, .tuple #[.slice A7025 r7024.1.length cA7025, .bool r7024.2])] rfl rfl ⟨f_86, trivial⟩ (by kernel_rfl)) (fun own' a' w' v' hp h => fun _ _ h0' => by cases (f_96.symm.trans ((hp.2 96 (by decide)).symm.trans h0')); exact h))
              refine steps_cons (fun own a wx hf hsl hE => ?_) ?_
              · obtain ⟨(q_86 : ∀ (A7025 : Option Addr) (cA7025 : Nat), a.eval (.tmp 96) = .tuple #[.slice A7025 r7024.1.length cA7025, .bool r7024.2] → a.eval (.tmp 86) = .tuple #[.slice A7025 r7024.1.length cA7025, .bool r7024.2]), ⟨⟨A7025, cA7025⟩, (f_96 : a.eval (.tmp 96) = .tuple #[.slice A7025 r7024.1.length cA7025, .bool r7024.2]), (b_A7025 : RdO own [7026, 7027, 0, 6889] wx R41 A7025 cA7025 r7024.1)⟩, -⟩ := hf
                have f_86 := q_86 _ _ f_96
                exact sg_plain rfl rfl (or_k [(86, .tuple #[.slice A7025 r7024.1.length cA7025, .bool r7024.2])] rfl rfl ⟨f_86, trivial⟩ (by kernel_rfl))
              refine steps_cons (fun own a wx hf hsl hE => ?_) ?_
              · obtain ⟨(q_97 : ∀ (A7025 : Option Addr) (cA7025 : Nat), a.eval (.tmp 96) = .tuple #[.slice A7025 r7024.1.length cA7025, .bool r7024.2] → a.eval (.tmp 97) = .slice A7025 r7024.1.length cA7025), ⟨⟨A7025, cA7025⟩, (f_96 : a.eval (.tmp 96) = .tuple #[.slice A7025 r7024.1.length cA7025, .bool r7024.2]), (b_A7025 : RdO own [7026, 7027, 0, 6889] wx R41 A7025 cA7025 r7024.1)⟩, -⟩ := hf
                have f_97 := q_97 _ _ f_96
                exact sg_plain rfl rfl (or_mono (f := Fct.val 11 (.slice A7025 r7024.1.length cA7025)) (or_assign f_97) (fun own' a' w' v' hp h => fun _ _ h0' => by cases (f_96.symm.trans ((hp.2 96 (by decide)).symm.trans h0')); exact h))
              refine steps_cons (fun own a wx hf hsl hE => ?_) ?_
              · obtain ⟨(f_98 : a.eval (.tmp 98) = .bool r7024.2), -⟩ := hf
                exact sg_plain rfl rfl (or_assign f_98)
              exact steps_nil
            intro own7028 a7028 w7028 hd7028 hz7028 hk7028 hf7028 hE7028
            have e7028_0 : a7028.eval (.tmp 0) = .slice Aacts1 acts1.length cacts1 := (hk7028 0 rfl).trans e6965_0
            have e7028_3 : a7028.eval (.tmp 3) = .pointer (some ⟨g3540, 0, none⟩) := (hk7028 3 rfl).trans e6965_3
            have e7028_5 : a7028.eval (.tmp 5) = .int .i64 i4712 := (hk7028 5 rfl).trans e6965_5
            have e7028_6 : a7028.eval (.tmp 6) = .pointer (some ⟨g5898, 0, none⟩) := (hk7028 6 rfl).trans e6965_6
            have e7028_9 : a7028.eval (.tmp 9) = .int .i64 n6890 := (hk7028 9 rfl).trans e6965_9
            have e7028_10 : a7028.eval (.tmp 10) = .int .i64 k6891 := (hk7028 10 rfl).trans e6965_10
            obtain ⟨⟨⟨A7025, cA7025⟩, (f_96 : a7028.eval (.tmp 96) = .tuple #[.slice A7025 r7024.1.length cA7025, .bool r7024.2]), (b_A7025 : RdO own7028 [7026, 7027, 0, 6889] w7028 R41 A7025 cA7025 r7024.1)⟩, (q_11 : ∀ (A7025 : Option Addr) (cA7025 : Nat), a7028.eval (.tmp 96) = .tuple #[.slice A7025 r7024.1.length cA7025, .bool r7024.2] → a7028.eval (.tmp 11) = .slice A7025 r7024.1.length cA7025), (f_12 : a7028.eval (.tmp 12) = .bool r7024.2), -⟩ := hf7028 [9, 13, 14] rfl
            have f_11 := q_11 _ _ f_96
            have e7028_11 := f_11
            have e7028_12 := f_12
            have hX7028 := Evo.step hX6965 (fun _ => Nat.le_refl 0) hE7028 rfl
            have b7028_Aacts1 := RdO.evo rfl hE7028 b6965_Aacts1
            have b7028_g3540 := BlkO.evo (by decide) hE7028 b6965_g3540
            have b7028_A4704 := RwO.evo rfl hE7028 b6965_A4704
            have b7028_g5898 := BlkO.evo (by decide) hE7028 b6965_g5898
            have b7028_A7025 := b_A7025
            refine rg_plain_seq (n := 156) (rs := []) (own0 := own7028) (K := [])
                (bs := [0, 1])
                (ds := [⟨[], [11], [], Fct.val 99 (.slice A7025 r7024.1.length cA7025)⟩,
                ⟨[0], [], [], Fct.val 4 (.slice A7025 r7024.1.length cA7025)⟩]) (by kernel_rfl) hz7028 hd7028 (fun _ h => nomatch h) ?_ ?_
            · refine steps_cons (fun own a wx hf hsl hE => ?_) ?_
              · obtain ⟨s_11, -⟩ := hsl
                exact sg_plain rfl rfl (or_move (s_11.trans e7028_11))
              refine steps_cons (fun own a wx hf hsl hE => ?_) ?_
              · obtain ⟨(f_99 : a.eval (.tmp 99) = .slice A7025 r7024.1.length cA7025), -⟩ := hf
                exact sg_plain rfl rfl (or_assign f_99)
              exact steps_nil
            intro own7029 a7029 w7029 hd7029 hz7029 hk7029 hf7029 hE7029
            have e7029_0 : a7029.eval (.tmp 0) = .slice Aacts1 acts1.length cacts1 := (hk7029 0 rfl).trans e7028_0
            have e7029_3 : a7029.eval (.tmp 3) = .pointer (some ⟨g3540, 0, none⟩) := (hk7029 3 rfl).trans e7028_3
            have e7029_5 : a7029.eval (.tmp 5) = .int .i64 i4712 := (hk7029 5 rfl).trans e7028_5
            have e7029_6 : a7029.eval (.tmp 6) = .pointer (some ⟨g5898, 0, none⟩) := (hk7029 6 rfl).trans e7028_6
            have e7029_9 : a7029.eval (.tmp 9) = .int .i64 n6890 := (hk7029 9 rfl).trans e7028_9
            have e7029_10 : a7029.eval (.tmp 10) = .int .i64 k6891 := (hk7029 10 rfl).trans e7028_10
            have e7029_12 : a7029.eval (.tmp 12) = .bool r7024.2 := (hk7029 12 rfl).trans e7028_12
            obtain ⟨(f_4 : a7029.eval (.tmp 4) = .slice A7025 r7024.1.length cA7025), -⟩ := hf7029 [1] rfl
            have e7029_4 := f_4
            have hX7029 := Evo.step hX7028 (fun _ => Nat.le_refl 0) hE7029 rfl
            have b7029_Aacts1 := RdO.evo rfl hE7029 b7028_Aacts1
            have b7029_g3540 := BlkO.evo (by decide) hE7029 b7028_g3540
            have b7029_A4704 := RwO.evo rfl hE7029 b7028_A4704
            have b7029_g5898 := BlkO.evo (by decide) hE7029 b7028_g5898
            have b7029_A7025 := RdO.evo rfl hE7029 b7028_A7025
            refine rg_plain_seq (n := 156) (rs := []) (own0 := own7029) (K := [])
                (bs := [0])
                (ds := [⟨[], [12], [], Fct.val 100 (.bool r7024.2)⟩]) (by kernel_rfl) hz7029 hd7029 (fun _ h => nomatch h) ?_ ?_
            · refine steps_cons (fun own a wx hf hsl hE => ?_) ?_
              · obtain ⟨s_12, -⟩ := hsl
                exact sg_plain rfl rfl (or_move (s_12.trans e7029_12))
              exact steps_nil
            intro own7030 a7030 w7030 hd7030 hz7030 hk7030 hf7030 hE7030
            have e7030_0 : a7030.eval (.tmp 0) = .slice Aacts1 acts1.length cacts1 := (hk7030 0 rfl).trans e7029_0
            have e7030_3 : a7030.eval (.tmp 3) = .pointer (some ⟨g3540, 0, none⟩) := (hk7030 3 rfl).trans e7029_3
            have e7030_4 : a7030.eval (.tmp 4) = .slice A7025 r7024.1.length cA7025 := (hk7030 4 rfl).trans e7029_4
            have e7030_5 : a7030.eval (.tmp 5) = .int .i64 i4712 := (hk7030 5 rfl).trans e7029_5
            have e7030_6 : a7030.eval (.tmp 6) = .pointer (some ⟨g5898, 0, none⟩) := (hk7030 6 rfl).trans e7029_6
            have e7030_9 : a7030.eval (.tmp 9) = .int .i64 n6890 := (hk7030 9 rfl).trans e7029_9
            have e7030_10 : a7030.eval (.tmp 10) = .int .i64 k6891 := (hk7030 10 rfl).trans e7029_10
            obtain ⟨(f_100 : a7030.eval (.tmp 100) = .bool r7024.2), -⟩ := hf7030 [0] rfl
            have e7030_100 := f_100
            have hX7030 := Evo.step hX7029 (fun _ => Nat.le_refl 0) hE7030 rfl
            have b7030_Aacts1 := RdO.evo rfl hE7030 b7029_Aacts1
            have b7030_g3540 := BlkO.evo (by decide) hE7030 b7029_g3540
            have b7030_A4704 := RwO.evo rfl hE7030 b7029_A4704
            have b7030_g5898 := BlkO.evo (by decide) hE7030 b7029_g5898
            have b7030_A7025 := RdO.evo rfl hE7030 b7029_A7025
            refine fl_cond e7030_100 hs (fun c7031 hs => ?_) (fun c7031 hs => ?_)
            · refine rg_plain (n := 156) (rs := []) (own0 := own7030) (K := [])
                  (bs := [0, 1, 3])
                  (ds := [⟨[], [9], [], Fct.val 101 (.int .i64 n6890)⟩,
                  ⟨[0], [], [], Fct.val 102 (.int .i64 (ad n6890 1))⟩,
                  ⟨[1], [], [], Fct.val 9 (.int .i64 (ad n6890 1))⟩]) (by kernel_rfl) hz7030 hd7030 (fun _ h => nomatch h) ?_ ?_
              · refine steps_cons (fun own a wx hf hsl hE => ?_) ?_
                · obtain ⟨s_9, -⟩ := hsl
                  exact sg_plain rfl rfl (or_move (s_9.trans e7030_9))
                refine steps_cons (fun own a wx hf hsl hE => ?_) ?_
                · obtain ⟨(f_101 : a.eval (.tmp 101) = .int .i64 n6890), -⟩ := hf
                  exact sg_plain rfl rfl (or_add f_101 rfl rfl)
                refine steps_cons (fun own a wx hf hsl hE => ?_) ?_
                · obtain ⟨(f_102 : a.eval (.tmp 102) = .int .i64 (ad n6890 1)), -⟩ := hf
                  exact sg_plain rfl rfl (or_assign f_102)
                exact steps_nil
              intro own7032 a7032 w7032 hd7032 hz7032 hk7032 hf7032 hE7032
              have e7032_0 : a7032.eval (.tmp 0) = .slice Aacts1 acts1.length cacts1 := (hk7032 0 rfl).trans e7030_0
              have e7032_3 : a7032.eval (.tmp 3) = .pointer (some ⟨g3540, 0, none⟩) := (hk7032 3 rfl).trans e7030_3
              have e7032_4 : a7032.eval (.tmp 4) = .slice A7025 r7024.1.length cA7025 := (hk7032 4 rfl).trans e7030_4
              have e7032_5 : a7032.eval (.tmp 5) = .int .i64 i4712 := (hk7032 5 rfl).trans e7030_5
              have e7032_6 : a7032.eval (.tmp 6) = .pointer (some ⟨g5898, 0, none⟩) := (hk7032 6 rfl).trans e7030_6
              have e7032_10 : a7032.eval (.tmp 10) = .int .i64 k6891 := (hk7032 10 rfl).trans e7030_10
              obtain ⟨(f_9 : a7032.eval (.tmp 9) = .int .i64 (ad n6890 1)), -⟩ := hf7032 [2] rfl
              have e7032_9 := f_9
              have hX7032 := Evo.step hX7030 (fun _ => Nat.le_refl 0) hE7032 rfl
              have b7032_Aacts1 := RdO.evo rfl hE7032 b7030_Aacts1
              have b7032_g3540 := BlkO.evo (by decide) hE7032 b7030_g3540
              have b7032_A4704 := RwO.evo rfl hE7032 b7030_A4704
              have b7032_g5898 := BlkO.evo (by decide) hE7032 b7030_g5898
              have b7032_A7025 := RdO.evo rfl hE7032 b7030_A7025
              exact (K7018 _ _ (rl [(6889, 7016), (7026, 7016), (7027, 7016)] own7032) _ _ A7025 cA7025 hd7032 hz7032 e7032_0 e7032_3 e7032_4 e7032_5 e7032_6 e7032_9 e7032_10 (Evo.rl_ hX7032 (fun _ => Nat.le_refl 0) rfl) (RdO.rl_ (mm := [(6889, 7016), (7026, 7016), (7027, 7016)]) b7032_Aacts1) (BlkO.rl_ (mm := [(6889, 7016), (7026, 7016), (7027, 7016)]) b7032_g3540) (RwO.rl_ (mm := [(6889, 7016), (7026, 7016), (7027, 7016)]) b7032_A4704) (RdO.more (RdO.rl_ (mm := [(6889, 7016), (7026, 7016), (7027, 7016)]) b7032_A7025) (by decide)) (BlkO.rl_ (mm := [(6889, 7016), (7026, 7016), (7027, 7016)]) b7032_g5898) hs).1
            refine fl_skip ?_
            exact (K7018 _ _ (rl [(6889, 7016), (7026, 7016), (7027, 7016)] own7030) _ _ A7025 cA7025 hd7030 hz7030 e7030_0 e7030_3 e7030_4 e7030_5 e7030_6 e7030_9 e7030_10 (Evo.rl_ hX7030 (fun _ => Nat.le_refl 0) rfl) (RdO.rl_ (mm := [(6889, 7016), (7026, 7016), (7027, 7016)]) b7030_Aacts1) (BlkO.rl_ (mm := [(6889, 7016), (7026, 7016), (7027, 7016)]) b7030_g3540) (RwO.rl_ (mm := [(6889, 7016), (7026, 7016), (7027, 7016)]) b7030_A4704) (RdO.more (RdO.rl_ (mm := [(6889, 7016), (7026, 7016), (7027, 7016)]) b7030_A7025) (by decide)) (BlkO.rl_ (mm := [(6889, 7016), (7026, 7016), (7027, 7016)]) b7030_g5898) hs).1
          refine fl_exit ?_
          refine hp6964 _ _ _ rfl ?_
          replace hs := hz6962 _ hs
          refine hp6962 _ _ _ rfl ?_
          refine hx6815 _ _ ?_
          refine hn6813 _ _ ?_
          obtain ⟨r7039, hr7039, hs⟩ := obind hs
          refine rg_plain_seq (n := 156) (rs := [Fct.at_ 4703 g3540 26 #[.slice A4704 h4706.length c4705], Fct.rowAt 4707 [] 30 R30 A4704 c4705 h4706]) (own0 := own6965) (K := [4703, 4707])
              (bs := [0, 1, 0, 4, 15, 31, 0, 127])
              (ds := [⟨[], [6], [], Fct.val 103 (.pointer (some ⟨g5898, 1, none⟩))⟩,
              ⟨[0], [], [], Fct.val 104 (.agg #[.int .i64 x5897.2.1.1, .int .i64 x5897.2.1.2.1, .int .i64 x5897.2.1.2.2])⟩,
              ⟨[], [6], [], Fct.val 105 (.pointer (some ⟨g5898, 4, none⟩))⟩,
              ⟨[2], [], [], Fct.val 106 (.agg #[.int .i64 x5897.2.2.1, .int .i64 x5897.2.2.2.1, .int .i64 x5897.2.2.2.2])⟩,
              ⟨[1, 3], [], [], Fct.row 7038 [] 107 30 R30 [x5897.2.1, x5897.2.2]⟩,
              ⟨[4, 8, 9], [3], [4703, 4707], Fct.mems [7041, 7042] 108 (fun (x : Option Addr × Nat) => .int .i64 r7039.1) (fun (x : Option Addr × Nat) own w => RwO own 7041 [] w 30 R30 x.1 x.2 r7039.2 ∧ BlkO own 7042 w g3540 26 #[.slice x.1 r7039.2.length x.2]) (fun hk he h => ⟨RwO.evo (hits_sub hk (by decide)) he h.1, BlkO.evo (not_hit hk (by decide)) he h.2⟩)⟩,
              ⟨[], [9], [], Fct.val 109 (.int .i64 n6890)⟩,
              ⟨[5, 6], [], [], Fct.val 110 (.bool (!decide (r7039.1 = n6890)))⟩]) (by kernel_rfl) hz6965 hd6965 (by simp only [List.forall_mem_cons]; exact ⟨b6965_g3540, b6965_A4704, fun _ h => nomatch h⟩) ?_ ?_
          · refine steps_cons (fun own a wx hf hsl hE => ?_) ?_
            · obtain ⟨s_6, -⟩ := hsl
              exact sg_plain rfl rfl (or_field fo40_1 (s_6.trans e6965_6) (by rfl))
            refine steps_cons (fun own a wx hf hsl hE => ?_) ?_
            · obtain ⟨(f_103 : a.eval (.tmp 103) = .pointer (some ⟨g5898, 1, none⟩)), -⟩ := hf
              exact sg_plain rfl rfl (or_load (l := [.int .i64 x5897.2.1.1, .int .i64 x5897.2.1.2.1, .int .i64 x5897.2.1.2.2]) ta30 f_103 (Blk.cellsFrom (BlkO.evo (by decide) hE b6965_g5898).2 1 rfl) rfl)
            refine steps_cons (fun own a wx hf hsl hE => ?_) ?_
            · obtain ⟨s_6, -⟩ := hsl
              exact sg_plain rfl rfl (or_field fo40_2 (s_6.trans e6965_6) (by rfl))
            refine steps_cons (fun own a wx hf hsl hE => ?_) ?_
            · obtain ⟨(f_105 : a.eval (.tmp 105) = .pointer (some ⟨g5898, 4, none⟩)), -⟩ := hf
              exact sg_plain rfl rfl (or_load (l := [.int .i64 x5897.2.2.1, .int .i64 x5897.2.2.2.1, .int .i64 x5897.2.2.2.2]) ta30 f_105 (Blk.cellsFrom (BlkO.evo (by decide) hE b6965_g5898).2 4 rfl) rfl)
            refine steps_cons (fun own a wx hf hsl hE => ?_) ?_
            · obtain ⟨(f_104 : a.eval (.tmp 104) = .agg #[.int .i64 x5897.2.1.1, .int .i64 x5897.2.1.2.1, .int .i64 x5897.2.1.2.2]), (f_106 : a.eval (.tmp 106) = .agg #[.int .i64 x5897.2.2.1, .int .i64 x5897.2.2.2.1, .int .i64 x5897.2.2.2.2]), -⟩ := hf
              exact sg_plain rfl rfl (or_lit (lab := 7038) (e := 30) (cs := #[.int .i64 x5897.2.1.1, .int .i64 x5897.2.1.2.1, .int .i64 x5897.2.1.2.2, .int .i64 x5897.2.2.1, .int .i64 x5897.2.2.2.1, .int .i64 x5897.2.2.2.2]) (F := E30) (or_new [(104, .agg #[.int .i64 x5897.2.1.1, .int .i64 x5897.2.1.2.1, .int .i64 x5897.2.1.2.2]), (106, .agg #[.int .i64 x5897.2.2.1, .int .i64 x5897.2.2.2.1, .int .i64 x5897.2.2.2.2])] rfl rfl ⟨f_104, f_106, trivial⟩ (by kernel_rfl)) rfl rfl (show 2 ≤ maxLen by decide))
            refine steps_cons (fun own a wx hf hsl hE => ?_) ?_
            · obtain ⟨⟨⟨A7037, cA7037⟩, (f_107 : a.eval (.tmp 107) = .slice A7037 [x5897.2.1, x5897.2.2].length cA7037), (b_A7037 : RwO own 7038 [] wx 30 R30 A7037 cA7037 [x5897.2.1, x5897.2.2])⟩, (b_g3540 : BlkO own 4703 wx g3540 26 #[.slice A4704 h4706.length c4705]), (b_A4704 : RwO own 4707 [] wx 30 R30 A4704 c4705 h4706), -⟩ := hf
              obtain ⟨s_3, -⟩ := hsl
              exact sg_plain rfl rfl (or_call cf13 (args2 (s_3.trans e6965_3) f_107) (heap_Heap_Drop_w _ (forth own (look0 [(4703, 1), (4707, 2)])) h4706 g3540 26 A4704 c4705 [x5897.2.1, x5897.2.2] A7037 cA7037 (look0_le rfl) (BlkO.forth_ (m := (look0 [(4703, 1), (4707, 2)])) b_g3540) (RwO.forth_ (m := (look0 [(4703, 1), (4707, 2)])) b_A4704) (RdO.forth_ (m := (look0 [(4703, 1), (4707, 2)])) (RwO.rd b_A7037)) r7039 hr7039) (post_mems (m := (look0 [(4703, 1), (4707, 2)])) (m' := (look0 [(1, 7042), (2, 7041)])) (hm_of rfl) (fun own' w' a' x h1 h => ⟨x, h1, ⟨RwO.back_ h.1 (by decide) (.inl (Rep.fl_flat _)), BlkO.back_ h.2 (by decide)⟩⟩)))
            refine steps_cons (fun own a wx hf hsl hE => ?_) ?_
            · obtain ⟨s_9, -⟩ := hsl
              exact sg_plain rfl rfl (or_move (s_9.trans e6965_9))
            refine steps_cons (fun own a wx hf hsl hE => ?_) ?_
            · obtain ⟨⟨⟨A7040, cA7040⟩, (f_108 : a.eval (.tmp 108) = .int .i64 r7039.1), (b_A7040 : RwO own 7041 [] wx 30 R30 A7040 cA7040 r7039.2), (b_g3540 : BlkO own 7042 wx g3540 26 #[.slice A7040 r7039.2.length cA7040])⟩, (f_109 : a.eval (.tmp 109) = .int .i64 n6890), -⟩ := hf
              exact sg_plain rfl rfl (or_neq f_108 f_109 rfl)
            exact steps_nil
          intro own7043 a7043 w7043 hd7043 hz7043 hk7043 hf7043 hE7043
          have e7043_0 : a7043.eval (.tmp 0) = .slice Aacts1 acts1.length cacts1 := (hk7043 0 rfl).trans e6965_0
          have e7043_3 : a7043.eval (.tmp 3) = .pointer (some ⟨g3540, 0, none⟩) := (hk7043 3 rfl).trans e6965_3
          have e7043_4 : a7043.eval (.tmp 4) = .slice A6886 m6888.length c6887 := (hk7043 4 rfl).trans e6965_4
          have e7043_5 : a7043.eval (.tmp 5) = .int .i64 i4712 := (hk7043 5 rfl).trans e6965_5
          have e7043_6 : a7043.eval (.tmp 6) = .pointer (some ⟨g5898, 0, none⟩) := (hk7043 6 rfl).trans e6965_6
          obtain ⟨(f_110 : a7043.eval (.tmp 110) = .bool (!decide (r7039.1 = n6890))), ⟨⟨A7040, cA7040⟩, (f_108 : a7043.eval (.tmp 108) = .int .i64 r7039.1), (b_A7040 : RwO own7043 7041 [] w7043 30 R30 A7040 cA7040 r7039.2), (b_g3540 : BlkO own7043 7042 w7043 g3540 26 #[.slice A7040 r7039.2.length cA7040])⟩, -⟩ := hf7043 [7, 5] rfl
          have e7043_110 := f_110
          have hX7043 := Evo.step hX6965 (fun _ => Nat.le_refl 0) hE7043 rfl
          have b7043_Aacts1 := RdO.evo rfl hE7043 b6965_Aacts1
          have b7043_A6886 := RdO.evo rfl hE7043 b6965_A6886
          have b7043_g5898 := BlkO.evo (by decide) hE7043 b6965_g5898
          have b7043_g3540 := b_g3540
          have b7043_A7040 := b_A7040
          refine fl_cond e7043_110 hs (fun c7044 hs => ?_) (fun c7044 hs => ?_)
          · refine rg_plain_seq (n := 156) (rs := []) (own0 := own7043) (K := [])
                (bs := [0])
                (ds := [⟨[], [], [], Fct.val 2 (.bool false)⟩]) (by kernel_rfl) hz7043 hd7043 (fun _ h => nomatch h) ?_ ?_
            · refine steps_cons (fun own a wx hf hsl hE => ?_) ?_
              · exact sg_plain rfl rfl (or_assign rfl)
              exact steps_nil
            intro own7045 a7045 w7045 hd7045 hz7045 hk7045 hf7045 hE7045
            obtain ⟨(f_2 : a7045.eval (.tmp 2) = .bool false), -⟩ := hf7045 [0] rfl
            have e7045_2 := f_2
            have hX7045 := Evo.step hX7043 (fun _ => Nat.le_refl 0) hE7045 rfl
            refine fl_ret ?_
            refine hp6475 _ _ _ rfl ?_
            refine hp5902 _ _ _ rfl ?_
            refine hp5896 _ _ _ rfl ?_
            refine hp5895 _ _ _ rfl ?_
            replace hs := hz5889 _ hs
            refine hp5889 _ _ _ rfl ?_
            refine hp3546 _ _ _ rfl ?_
            refine hp3544 _ _ _ rfl ?_
            obtain rfl := osome hs
            exact hret _ _ _ _ (.inl rfl) hd7045 (results1_ rfl (RVal.tmp_ e7045_2)) ⟨own7045, rfl, hX7045⟩
          refine fl_skip ?_
          exact (K6764 _ _ (rl [(6889, 6763), (7041, 6759), (7042, 6755)] own7043) _ _ A7040 cA7040 A6886 c6887 hd7043 hz7043 e7043_0 e7043_3 e7043_4 e7043_5 e7043_6 (Evo.rl_ hX7043 (fun _ => Nat.le_refl 0) rfl) (RdO.rl_ (mm := [(6889, 6763), (7041, 6759), (7042, 6755)]) b7043_Aacts1) (BlkO.rl_ (mm := [(6889, 6763), (7041, 6759), (7042, 6755)]) b7043_g3540) (RwO.rl_ (mm := [(6889, 6763), (7041, 6759), (7042, 6755)]) b7043_A7040) (RdO.rl_ (mm := [(6889, 6763), (7041, 6759), (7042, 6755)]) b7043_A6886) (BlkO.rl_ (mm := [(6889, 6763), (7041, 6759), (7042, 6755)]) b7043_g5898) hs).1
      obtain ⟨r7046, hr7046, hs⟩ := obind hs
      obtain ⟨r7049, hr7049, hs⟩ := obind hs
      refine rg_draw_seq g_mixed (n := 156) (rs := []) (own0 := own6810) (K := [])
          (bs := [0, 0, 2, 7, 0, 16, 63, 127])
          (ds := [⟨[], [4], [], Fct.val 31 (.slice A4708 m4710.length c4709)⟩,
          ⟨[], [6], [], Fct.val 32 (.pointer (some ⟨g5898, 1, none⟩))⟩,
          ⟨[1], [], [], Fct.val 33 (.agg #[.int .i64 x5897.2.1.1, .int .i64 x5897.2.1.2.1, .int .i64 x5897.2.1.2.2])⟩,
          ⟨[0, 2], [], [], Fct.row 7048 [] 34 41 R41 r7046⟩,
          ⟨[], [6], [], Fct.val 35 (.pointer (some ⟨g5898, 4, none⟩))⟩,
          ⟨[4], [], [], Fct.val 36 (.agg #[.int .i64 x5897.2.2.1, .int .i64 x5897.2.2.2.1, .int .i64 x5897.2.2.2.2])⟩,
          ⟨[3, 5], [], [], Fct.row 7051 [] 37 41 R41 r7049⟩,
          ⟨[6], [], [], Fct.rel [4, 37] (fun l => ∀ (A7050 : Option Addr) (cA7050 : Nat), l.getD 1 undef = .slice A7050 r7049.length cA7050 → l.getD 0 undef = .slice A7050 r7049.length cA7050)⟩]) (by kernel_rfl) hz6810 hd6810 (fun _ h => nomatch h) ?_ ?_
      · refine steps_cons (fun own a wx hf hsl hE => ?_) ?_
        · obtain ⟨s_4, -⟩ := hsl
          exact sg_plain rfl rfl (or_move (s_4.trans e6810_4))
        refine steps_cons (fun own a wx hf hsl hE => ?_) ?_
        · obtain ⟨s_6, -⟩ := hsl
          exact sg_plain rfl rfl (or_field fo40_1 (s_6.trans e6810_6) (by rfl))
        refine steps_cons (fun own a wx hf hsl hE => ?_) ?_
        · obtain ⟨(f_32 : a.eval (.tmp 32) = .pointer (some ⟨g5898, 1, none⟩)), -⟩ := hf
          exact sg_plain rfl rfl (or_load (l := [.int .i64 x5897.2.1.1, .int .i64 x5897.2.1.2.1, .int .i64 x5897.2.1.2.2]) ta30 f_32 (Blk.cellsFrom (BlkO.evo (by decide) hE b6810_g5898).2 1 rfl) rfl)
        refine steps_cons (fun own a wx hf hsl hE => ?_) ?_
        · obtain ⟨(f_31 : a.eval (.tmp 31) = .slice A4708 m4710.length c4709), (f_33 : a.eval (.tmp 33) = .agg #[.int .i64 x5897.2.1.1, .int .i64 x5897.2.1.2.1, .int .i64 x5897.2.1.2.2]), -⟩ := hf
          exact sg_plain rfl rfl (or_call cf14 (args2 f_31 f_33) (ref05_Push_w _ m4710 A4708 c4709 x5897.2.1 (RdO.zero (RdO.evo rfl hE b6810_A4708)) r7046 hr7046) (post_row (m' := (look0 [(1, 7048)])) (.inl (Rep.fl_flat _)) rfl rfl (fun _ => rfl)))
        refine steps_cons (fun own a wx hf hsl hE => ?_) ?_
        · obtain ⟨s_6, -⟩ := hsl
          exact sg_plain rfl rfl (or_field fo40_2 (s_6.trans e6810_6) (by rfl))
        refine steps_cons (fun own a wx hf hsl hE => ?_) ?_
        · obtain ⟨(f_35 : a.eval (.tmp 35) = .pointer (some ⟨g5898, 4, none⟩)), -⟩ := hf
          exact sg_plain rfl rfl (or_load (l := [.int .i64 x5897.2.2.1, .int .i64 x5897.2.2.2.1, .int .i64 x5897.2.2.2.2]) ta30 f_35 (Blk.cellsFrom (BlkO.evo (by decide) hE b6810_g5898).2 4 rfl) rfl)
        refine steps_cons (fun own a wx hf hsl hE => ?_) ?_
        · obtain ⟨⟨⟨A7047, cA7047⟩, (f_34 : a.eval (.tmp 34) = .slice A7047 r7046.length cA7047), (b_A7047 : RwO own 7048 [] wx 41 R41 A7047 cA7047 r7046)⟩, (f_36 : a.eval (.tmp 36) = .agg #[.int .i64 x5897.2.2.1, .int .i64 x5897.2.2.2.1, .int .i64 x5897.2.2.2.2]), -⟩ := hf
          exact sg_plain rfl rfl (or_call cf14 (args2 f_34 f_36) (ref05_Push_w _ r7046 A7047 cA7047 x5897.2.2 (RdO.zero (RwO.rd b_A7047)) r7049 hr7049) (post_row (m' := (look0 [(1, 7051)])) (.inl (Rep.fl_flat _)) rfl rfl (fun _ => rfl)))
        refine steps_cons (fun own a wx hf hsl hE => ?_) ?_
        · obtain ⟨⟨⟨A7050, cA7050⟩, (f_37 : a.eval (.tmp 37) = .slice A7050 r7049.length cA7050), (b_A7050 : RwO own 7051 [] wx 41 R41 A7050 cA7050 r7049)⟩, -⟩ := hf
          exact sg_plain rfl rfl (or_mono (f := Fct.val 4 (.slice A7050 r7049.length cA7050)) (or_assign f_37) (fun own' a' w' v' hp h => fun _ _ h0' => by cases (f_37.symm.trans ((hp.2 37 (by decide)).symm.trans h0')); exact h))
        exact steps_nil
      intro own7052 a7052 w7052 hd7052 hz7052 hk7052 hf7052 hE7052
      have e7052_0 : a7052.eval (.tmp 0) = .slice Aacts1 acts1.length cacts1 := (hk7052 0 rfl).trans e6810_0
      have e7052_3 : a7052.eval (.tmp 3) = .pointer (some ⟨g3540, 0, none⟩) := (hk7052 3 rfl).trans e6810_3
      have e7052_5 : a7052.eval (.tmp 5) = .int .i64 i4712 := (hk7052 5 rfl).trans e6810_5
      have e7052_6 : a7052.eval (.tmp 6) = .pointer (some ⟨g5898, 0, none⟩) := (hk7052 6 rfl).trans e6810_6
      obtain ⟨⟨⟨A7050, cA7050⟩, (f_37 : a7052.eval (.tmp 37) = .slice A7050 r7049.length cA7050), (b_A7050 : RwO own7052 7051 [] w7052 41 R41 A7050 cA7050 r7049)⟩, (q_4 : ∀ (A7050 : Option Addr) (cA7050 : Nat), a7052.eval (.tmp 37) = .slice A7050 r7049.length cA7050 → a7052.eval (.tmp 4) = .slice A7050 r7049.length cA7050), -⟩ := hf7052 [6, 7] rfl
      have f_4 := q_4 _ _ f_37
      have e7052_4 := f_4
      have hX7052 := Evo.step hX6810 (fun _ => Nat.le_refl 0) hE7052 rfl
      have b7052_Aacts1 := RdO.evo rfl hE7052 b6810_Aacts1
      have b7052_g3540 := BlkO.evo (by decide) hE7052 b6810_g3540
      have b7052_A4704 := RwO.evo rfl hE7052 b6810_A4704
      have b7052_g5898 := BlkO.evo (by decide) hE7052 b6810_g5898
      have b7052_A7050 := b_A7050
      obtain ⟨r7059, hr7059, hs⟩ := obind hs
      refine rg_plain_seq (n := 156) (rs := [Fct.at_ 4703 g3540 26 #[.slice A4704 h4706.length c4705], Fct.rowAt 4707 [] 30 R30 A4704 c4705 h4706]) (own0 := own7052) (K := [4703, 4707])
          (bs := [0, 1, 0, 4, 15, 31, 0, 64, 255])
          (ds := [⟨[], [6], [], Fct.val 38 (.pointer (some ⟨g5898, 1, none⟩))⟩,
          ⟨[0], [], [], Fct.val 39 (.agg #[.int .i64 x5897.2.1.1, .int .i64 x5897.2.1.2.1, .int .i64 x5897.2.1.2.2])⟩,
          ⟨[], [6], [], Fct.val 40 (.pointer (some ⟨g5898, 4, none⟩))⟩,
          ⟨[2], [], [], Fct.val 41 (.agg #[.int .i64 x5897.2.2.1, .int .i64 x5897.2.2.2.1, .int .i64 x5897.2.2.2.2])⟩,
          ⟨[1, 3], [], [], Fct.row 7058 [] 42 30 R30 [x5897.2.1, x5897.2.2]⟩,
          ⟨[4, 9, 10], [3], [4703, 4707], Fct.mems [7061, 7062] 43 (fun (x : Option Addr × Nat) => .int .i64 r7059.1) (fun (x : Option Addr × Nat) own w => RwO own 7061 [] w 30 R30 x.1 x.2 r7059.2 ∧ BlkO own 7062 w g3540 26 #[.slice x.1 r7059.2.length x.2]) (fun hk he h => ⟨RwO.evo (hits_sub hk (by decide)) he h.1, BlkO.evo (not_hit hk (by decide)) he h.2⟩)⟩,
          ⟨[], [4], [], Fct.val 44 (.slice A7050 r7049.length cA7050)⟩,
          ⟨[6], [], [], Fct.val 45 (.int .i64 (r7049.length : Int))⟩,
          ⟨[5, 7], [], [], Fct.val 46 (.bool (!decide (r7059.1 = (r7049.length : Int))))⟩]) (by kernel_rfl) hz7052 hd7052 (by simp only [List.forall_mem_cons]; exact ⟨b7052_g3540, b7052_A4704, fun _ h => nomatch h⟩) ?_ ?_
      · refine steps_cons (fun own a wx hf hsl hE => ?_) ?_
        · obtain ⟨s_6, -⟩ := hsl
          exact sg_plain rfl rfl (or_field fo40_1 (s_6.trans e7052_6) (by rfl))
        refine steps_cons (fun own a wx hf hsl hE => ?_) ?_
        · obtain ⟨(f_38 : a.eval (.tmp 38) = .pointer (some ⟨g5898, 1, none⟩)), -⟩ := hf
          exact sg_plain rfl rfl (or_load (l := [.int .i64 x5897.2.1.1, .int .i64 x5897.2.1.2.1, .int .i64 x5897.2.1.2.2]) ta30 f_38 (Blk.cellsFrom (BlkO.evo (by decide) hE b7052_g5898).2 1 rfl) rfl)
        refine steps_cons (fun own a wx hf hsl hE => ?_) ?_
        · obtain ⟨s_6, -⟩ := hsl
          exact sg_plain rfl rfl (or_field fo40_2 (s_6.trans e7052_6) (by rfl))
        refine steps_cons (fun own a wx hf hsl hE => ?_) ?_
        · obtain ⟨(f_40 : a.eval (.tmp 40) = .pointer (some ⟨g5898, 4, none⟩)), -⟩ := hf
          exact sg_plain rfl rfl (or_load (l := [.int .i64 x5897.2.2.1, .int .i64 x5897.2.2.2.1, .int .i64 x5897.2.2.2.2]) ta30 f_40 (Blk.cellsFrom (BlkO.evo (by decide) hE b7052_g5898).2 4 rfl) rfl)
        refine steps_cons (fun own a wx hf hsl hE => ?_) ?_
        · obtain ⟨(f_39 : a.eval (.tmp 39) = .agg #[.int .i64 x5897.2.1.1, .int .i64 x5897.2.1.2.1, .int .i64 x5897.2.1.2.2]), (f_41 : a.eval (.tmp 41) = .agg #[.int .i64 x5897.2.2.1, .int .i64 x5897.2.2.2.1, .int .i64 x5897.2.2.2.2]), -⟩ := hf
          exact sg_plain rfl rfl (or_lit (lab := 7058) (e := 30) (cs := #[.int .i64 x5897.2.1.1, .int .i64 x5897.2.1.2.1, .int .i64 x5897.2.1.2.2, .int .i64 x5897.2.2.1, .int .i64 x5897.2.2.2.1, .int .i64 x5897.2.2.2.2]) (F := E30) (or_new [(39, .agg #[.int .i64 x5897.2.1.1, .int .i64 x5897.2.1.2.1, .int .i64 x5897.2.1.2.2]), (41, .agg #[.int .i64 x5897.2.2.1, .int .i64 x5897.2.2.2.1, .int .i64 x5897.2.2.2.2])] rfl rfl ⟨f_39, f_41, trivial⟩ (by kernel_rfl)) rfl rfl (show 2 ≤ maxLen by decide))
        refine steps_cons (fun own a wx hf hsl hE => ?_) ?_
        · obtain ⟨⟨⟨A7057, cA7057⟩, (f_42 : a.eval (.tmp 42) = .slice A7057 [x5897.2.1, x5897.2.2].length cA7057), (b_A7057 : RwO own 7058 [] wx 30 R30 A7057 cA7057 [x5897.2.1, x5897.2.2])⟩, (b_g3540 : BlkO own 4703 wx g3540 26 #[.slice A4704 h4706.length c4705]), (b_A4704 : RwO own 4707 [] wx 30 R30 A4704 c4705 h4706), -⟩ := hf
          obtain ⟨s_3, -⟩ := hsl
          exact sg_plain rfl rfl (or_call cf6 (args2 (s_3.trans e7052_3) f_42) (heap_Heap_Push_w _ (forth own (look0 [(4703, 1), (4707, 2)])) h4706 g3540 26 A4704 c4705 [x5897.2.1, x5897.2.2] A7057 cA7057 (look0_le rfl) (BlkO.forth_ (m := (look0 [(4703, 1), (4707, 2)])) b_g3540) (RwO.forth_ (m := (look0 [(4703, 1), (4707, 2)])) b_A4704) (RdO.forth_ (m := (look0 [(4703, 1), (4707, 2)])) (RwO.rd b_A7057)) r7059 hr7059) (post_mems (m := (look0 [(4703, 1), (4707, 2)])) (m' := (look0 [(1, 7062), (2, 7061)])) (hm_of rfl) (fun own' w' a' x h1 h => ⟨x, h1, ⟨RwO.back_ h.1 (by decide) (.inl (Rep.fl_flat _)), BlkO.back_ h.2 (by decide)⟩⟩)))
        refine steps_cons (fun own a wx hf hsl hE => ?_) ?_
        · obtain ⟨s_4, -⟩ := hsl
          exact sg_plain rfl rfl (or_move (s_4.trans e7052_4))
        refine steps_cons (fun own a wx hf hsl hE => ?_) ?_
        · obtain ⟨(f_44 : a.eval (.tmp 44) = .slice A7050 r7049.length cA7050), -⟩ := hf
          exact sg_plain rfl rfl (or_len tu38 f_44 rfl)
        refine steps_cons (fun own a wx hf hsl hE => ?_) ?_
        · obtain ⟨⟨⟨A7060, cA7060⟩, (f_43 : a.eval (.tmp 43) = .int .i64 r7059.1), (b_A7060 : RwO own 7061 [] wx 30 R30 A7060 cA7060 r7059.2), (b_g3540 : BlkO own 7062 wx g3540 26 #[.slice A7060 r7059.2.length cA7060])⟩, (f_45 : a.eval (.tmp 45) = .int .i64 (r7049.length : Int)), -⟩ := hf
          exact sg_plain rfl rfl (or_neq f_43 f_45 rfl)
        exact steps_nil
      intro own7063 a7063 w7063 hd7063 hz7063 hk7063 hf7063 hE7063
      have e7063_0 : a7063.eval (.tmp 0) = .slice Aacts1 acts1.length cacts1 := (hk7063 0 rfl).trans e7052_0
      have e7063_3 : a7063.eval (.tmp 3) = .pointer (some ⟨g3540, 0, none⟩) := (hk7063 3 rfl).trans e7052_3
      have e7063_4 : a7063.eval (.tmp 4) = .slice A7050 r7049.length cA7050 := (hk7063 4 rfl).trans e7052_4
      have e7063_5 : a7063.eval (.tmp 5) = .int .i64 i4712 := (hk7063 5 rfl).trans e7052_5
      have e7063_6 : a7063.eval (.tmp 6) = .pointer (some ⟨g5898, 0, none⟩) := (hk7063 6 rfl).trans e7052_6
      obtain ⟨(f_46 : a7063.eval (.tmp 46) = .bool (!decide (r7059.1 = (r7049.length : Int)))), ⟨⟨A7060, cA7060⟩, (f_43 : a7063.eval (.tmp 43) = .int .i64 r7059.1), (b_A7060 : RwO own7063 7061 [] w7063 30 R30 A7060 cA7060 r7059.2), (b_g3540 : BlkO own7063 7062 w7063 g3540 26 #[.slice A7060 r7059.2.length cA7060])⟩, -⟩ := hf7063 [8, 5] rfl
      have e7063_46 := f_46
      have hX7063 := Evo.step hX7052 (fun _ => Nat.le_refl 0) hE7063 rfl
      have b7063_Aacts1 := RdO.evo rfl hE7063 b7052_Aacts1
      have b7063_g5898 := BlkO.evo (by decide) hE7063 b7052_g5898
      have b7063_A7050 := RwO.evo rfl hE7063 b7052_A7050
      have b7063_g3540 := b_g3540
      have b7063_A7060 := b_A7060
      refine fl_cond e7063_46 hs (fun c7064 hs => ?_) (fun c7064 hs => ?_)
      · refine rg_plain_seq (n := 156) (rs := []) (own0 := own7063) (K := [])
            (bs := [0])
            (ds := [⟨[], [], [], Fct.val 2 (.bool false)⟩]) (by kernel_rfl) hz7063 hd7063 (fun _ h => nomatch h) ?_ ?_
        · refine steps_cons (fun own a wx hf hsl hE => ?_) ?_
          · exact sg_plain rfl rfl (or_assign rfl)
          exact steps_nil
        intro own7065 a7065 w7065 hd7065 hz7065 hk7065 hf7065 hE7065
        obtain ⟨(f_2 : a7065.eval (.tmp 2) = .bool false), -⟩ := hf7065 [0] rfl
        have e7065_2 := f_2
        have hX7065 := Evo.step hX7063 (fun _ => Nat.le_refl 0) hE7065 rfl
        refine fl_ret ?_
        refine hp6475 _ _ _ rfl ?_
        refine hp5902 _ _ _ rfl ?_
        refine hp5896 _ _ _ rfl ?_
        refine hp5895 _ _ _ rfl ?_
        replace hs := hz5889 _ hs
        refine hp5889 _ _ _ rfl ?_
        refine hp3546 _ _ _ rfl ?_
        refine hp3544 _ _ _ rfl ?_
        obtain rfl := osome hs
        exact hret _ _ _ _ (.inl rfl) hd7065 (results1_ rfl (RVal.tmp_ e7065_2)) ⟨own7065, rfl, hX7065⟩
      refine fl_skip ?_
      exact (K6764 _ _ (rl [(7051, 6763), (7061, 6759), (7062, 6755)] own7063) _ _ A7060 cA7060 A7050 cA7050 hd7063 hz7063 e7063_0 e7063_3 e7063_4 e7063_5 e7063_6 (Evo.rl_ hX7063 (fun _ => Nat.le_refl 0) rfl) (RdO.rl_ (mm := [(7051, 6763), (7061, 6759), (7062, 6755)]) b7063_Aacts1) (BlkO.rl_ (mm := [(7051, 6763), (7061, 6759), (7062, 6755)]) b7063_g3540) (RwO.rl_ (mm := [(7051, 6763), (7061, 6759), (7062, 6755)]) b7063_A7060) (RdO.more (RdO.rl_ (mm := [(7051, 6763), (7061, 6759), (7062, 6755)]) (RwO.rd b7063_A7050)) (by decide)) (BlkO.rl_ (mm := [(7051, 6763), (7061, 6759), (7062, 6755)]) b7063_g5898) hs).1
    refine fl_exit ?_
    refine hp5891 _ _ _ rfl ?_
    replace hs := hz5889 _ hs
    refine hp5889 _ _ _ rfl ?_
    refine hx3546 _ _ ?_
    refine hn3544 _ _ ?_
    obtain ⟨r7066, hr7066, hs⟩ := obind hs
    refine rg_plain_seq (n := 156) (rs := []) (own0 := own5893) (K := [])
        (bs := [0, 1])
        (ds := [⟨[], [], [], Fct.val 155 (.bool r7066)⟩,
        ⟨[0], [], [], Fct.val 2 (.bool r7066)⟩]) (by kernel_rfl) hz5893 hd5893 (fun _ h => nomatch h) ?_ ?_
    · refine steps_cons (fun own a wx hf hsl hE => ?_) ?_
      · exact sg_plain rfl rfl (or_call cf10 (args0) (law05_known_w _   r7066 hr7066) post_val)
      refine steps_cons (fun own a wx hf hsl hE => ?_) ?_
      · obtain ⟨(f_155 : a.eval (.tmp 155) = .bool r7066), -⟩ := hf
        exact sg_plain rfl rfl (or_assign f_155)
      exact steps_nil
    intro own7067 a7067 w7067 hd7067 hz7067 hk7067 hf7067 hE7067
    obtain ⟨(f_2 : a7067.eval (.tmp 2) = .bool r7066), -⟩ := hf7067 [1] rfl
    have e7067_2 := f_2
    have hX7067 := Evo.step hX5893 (fun _ => Nat.le_refl 0) hE7067 rfl
    refine fl_ret ?_
    obtain rfl := osome hs
    exact hret _ _ _ _ (.inl rfl) hd7067 (results1_ rfl (RVal.tmp_ e7067_2)) ⟨own7067, rfl, hX7067⟩

end Go.Proofs.Ytoaplhnmmnejnaa
