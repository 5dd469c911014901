/-
  Chapter 03. The walks.
-/
import Derived.Test.YthkmkmkcnljmaaaWp4
import Derived.Test.YthkmkmkcnljmaaaWp5
import Derived.Test.YthkmkmkcnljmaaaSp11
namespace Go.Proofs.Ythkmkmkcnljmaaa
open Go.RowKit
set_option linter.unusedVariables false
theorem ring_Moved_1_w (w : World) (p1 : Int × Int) (f1 : Int × Int) (gf1 : Nat) (tf1 : TypeId) (hgf1 : BlkO (fun _ => 0) 0 w gf1 tf1 #[.int .i64 f1.1, .int .i64 f1.2]) (r : Int × Int) (hs : ring_Moved_1 p1 f1 = some r) :
    Calls Try.prog 44 #[.agg #[.int .i64 p1.1, .int .i64 p1.2], .pointer (some ⟨gf1, 0, none⟩)] w fun e w' => ∃ own' : Own, e = .returned (.agg #[.int .i64 r.1, .int .i64 r.2]) ∧ Evo [] (fun _ => 0) own' w w' := by
  refine fl_enter (n := 15) rfl rfl rfl (Nat.le_of_ble_eq_true rfl) ?_
  intro a0 Q hd0 hz0 harg hret
  have ha0 := harg 0 _ rfl
  have ha1 := harg 1 _ rfl
  clear harg
  have hE0 : Evo [] (fun _ => 0) (fun _ => 0) w w := Evo.refl _ _ _
  refine rg_plain_seq (n := 15) (rs := []) (own0 := (fun _ => 0)) (K := [])
      (bs := [0, 0])
      (ds := [⟨[], [0], [], Fct.blk 19 2 (fun g => .pointer (some ⟨g, 0, none⟩)) 32 #[.int .i64 p1.1, .int .i64 p1.2]⟩,
      ⟨[], [], [], Fct.blk 21 3 (fun g => .pointer (some ⟨g, 0, none⟩)) 32 #[.int .i64 0, .int .i64 0]⟩]) (by kernel_rfl) hz0 hd0 (fun _ h => nomatch h) ?_ ?_
  · refine steps_cons (fun own a wx hf hsl hE => ?_) ?_
    · obtain ⟨s_0, -⟩ := hsl
      exact sg_plain rfl rfl (or_new [(0, .agg #[.int .i64 p1.1, .int .i64 p1.2])] rfl rfl ⟨(s_0.trans ha0), trivial⟩ (by kernel_rfl))
    refine steps_cons (fun own a wx hf hsl hE => ?_) ?_
    · exact sg_plain rfl rfl (or_new [] rfl rfl trivial (by kernel_rfl))
    exact steps_nil
  intro own22 a22 w22 hd22 hz22 hk22 hf22 hE22
  have e22_1 : a22.eval (.tmp 1) = .pointer (some ⟨gf1, 0, none⟩) := (hk22 1 rfl).trans ha1
  obtain ⟨⟨g18, (f_2 : a22.eval (.tmp 2) = .pointer (some ⟨g18, 0, none⟩)), (b_g18 : BlkO own22 19 w22 g18 32 #[.int .i64 p1.1, .int .i64 p1.2])⟩, ⟨g20, (f_3 : a22.eval (.tmp 3) = .pointer (some ⟨g20, 0, none⟩)), (b_g20 : BlkO own22 21 w22 g20 32 #[.int .i64 0, .int .i64 0])⟩, -⟩ := hf22 [0, 1] rfl
  have e22_2 := f_2
  have e22_3 := f_3
  have hX22 := Evo.step hE0 (fun _ => Nat.le_refl 0) hE22 rfl
  have b22_gf1 := BlkO.evo (by decide) hE22 hgf1
  have b22_g18 := b_g18
  have b22_g20 := b_g20
  refine rg_plain_seq (n := 15) (rs := [Fct.at_ 21 g20 32 #[.int .i64 0, .int .i64 0]]) (own0 := own22) (K := [21])
      (bs := [0, 1, 0, 4, 15, 0, 32, 0, 128, 480, 1023, 2047])
      (ds := [⟨[], [2], [], Fct.val 4 (.pointer (some ⟨g18, 0, none⟩))⟩,
      ⟨[0], [], [], Fct.val 5 (.int .i64 p1.1)⟩,
      ⟨[], [1], [], Fct.val 6 (.pointer (some ⟨gf1, 0, none⟩))⟩,
      ⟨[2], [], [], Fct.val 7 (.int .i64 f1.1)⟩,
      ⟨[1, 3], [], [], Fct.val 8 (.int .i64 (ad p1.1 f1.1))⟩,
      ⟨[], [2], [], Fct.val 9 (.pointer (some ⟨g18, 1, none⟩))⟩,
      ⟨[5], [], [], Fct.val 10 (.int .i64 p1.2)⟩,
      ⟨[], [1], [], Fct.val 11 (.pointer (some ⟨gf1, 1, none⟩))⟩,
      ⟨[7], [], [], Fct.val 12 (.int .i64 f1.2)⟩,
      ⟨[6, 8], [], [], Fct.val 13 (.int .i64 (ad p1.2 f1.2))⟩,
      ⟨[4, 9], [], [], Fct.val 14 (.agg #[.int .i64 (ad p1.1 f1.1), .int .i64 (ad p1.2 f1.2)])⟩,
      ⟨[10, 12], [3], [21], Fct.at_ 23 g20 32 #[.int .i64 (ad p1.1 f1.1), .int .i64 (ad p1.2 f1.2)]⟩]) (by kernel_rfl) hz22 hd22 (by simp only [List.forall_mem_cons]; exact ⟨b22_g20, fun _ h => nomatch h⟩) ?_ ?_
  · refine steps_cons (fun own a wx hf hsl hE => ?_) ?_
    · obtain ⟨s_2, -⟩ := hsl
      exact sg_plain rfl rfl (or_field fo32_0 (s_2.trans e22_2) (by rfl))
    refine steps_cons (fun own a wx hf hsl hE => ?_) ?_
    · obtain ⟨(f_4 : a.eval (.tmp 4) = .pointer (some ⟨g18, 0, none⟩)), -⟩ := hf
      exact sg_plain rfl rfl (or_load1 to3 f_4 (Blk.at_ (BlkO.evo (by decide) hE b22_g18).2 0 rfl))
    refine steps_cons (fun own a wx hf hsl hE => ?_) ?_
    · obtain ⟨s_1, -⟩ := hsl
      exact sg_plain rfl rfl (or_field fo32_0 (s_1.trans e22_1) (by rfl))
    refine steps_cons (fun own a wx hf hsl hE => ?_) ?_
    · obtain ⟨(f_6 : a.eval (.tmp 6) = .pointer (some ⟨gf1, 0, none⟩)), -⟩ := hf
      exact sg_plain rfl rfl (or_load1 to3 f_6 (Blk.at_ (BlkO.evo (by decide) hE b22_gf1).2 0 rfl))
    refine steps_cons (fun own a wx hf hsl hE => ?_) ?_
    · obtain ⟨(f_5 : a.eval (.tmp 5) = .int .i64 p1.1), (f_7 : a.eval (.tmp 7) = .int .i64 f1.1), -⟩ := hf
      exact sg_plain rfl rfl (or_add f_5 f_7 rfl)
    refine steps_cons (fun own a wx hf hsl hE => ?_) ?_
    · obtain ⟨s_2, -⟩ := hsl
      exact sg_plain rfl rfl (or_field fo32_1 (s_2.trans e22_2) (by rfl))
    refine steps_cons (fun own a wx hf hsl hE => ?_) ?_
    · obtain ⟨(f_9 : a.eval (.tmp 9) = .pointer (some ⟨g18, 1, none⟩)), -⟩ := hf
      exact sg_plain rfl rfl (or_load1 to3 f_9 (Blk.at_ (BlkO.evo (by decide) hE b22_g18).2 1 rfl))
    refine steps_cons (fun own a wx hf hsl hE => ?_) ?_
    · obtain ⟨s_1, -⟩ := hsl
      exact sg_plain rfl rfl (or_field fo32_1 (s_1.trans e22_1) (by rfl))
    refine steps_cons (fun own a wx hf hsl hE => ?_) ?_
    · obtain ⟨(f_11 : a.eval (.tmp 11) = .pointer (some ⟨gf1, 1, none⟩)), -⟩ := hf
      exact sg_plain rfl rfl (or_load1 to3 f_11 (Blk.at_ (BlkO.evo (by decide) hE b22_gf1).2 1 rfl))
    refine steps_cons (fun own a wx hf hsl hE => ?_) ?_
    · obtain ⟨(f_10 : a.eval (.tmp 10) = .int .i64 p1.2), (f_12 : a.eval (.tmp 12) = .int .i64 f1.2), -⟩ := hf
      exact sg_plain rfl rfl (or_add f_10 f_12 rfl)
    refine steps_cons (fun own a wx hf hsl hE => ?_) ?_
    · obtain ⟨(f_8 : a.eval (.tmp 8) = .int .i64 (ad p1.1 f1.1)), (f_13 : a.eval (.tmp 13) = .int .i64 (ad p1.2 f1.2)), -⟩ := hf
      exact sg_plain rfl rfl (or_k [(8, .int .i64 (ad p1.1 f1.1)), (13, .int .i64 (ad p1.2 f1.2))] rfl rfl ⟨f_8, f_13, trivial⟩ (by kernel_rfl))
    refine steps_cons (fun own a wx hf hsl hE => ?_) ?_
    · obtain ⟨(f_14 : a.eval (.tmp 14) = .agg #[.int .i64 (ad p1.1 f1.1), .int .i64 (ad p1.2 f1.2)]), (b_g20 : BlkO own 21 wx g20 32 #[.int .i64 0, .int .i64 0]), -⟩ := hf
      obtain ⟨s_3, -⟩ := hsl
      exact sg_plain rfl rfl (or_store (l := #[.int .i64 (ad p1.1 f1.1), .int .i64 (ad p1.2 f1.2)]) (lab := 21) (lab2 := 23) ts32 (s_3.trans e22_3) f_14 b_g20 (by simp) (by kernel_rfl) (mem_of rfl) (by decide) (by kernel_rfl) (fun own' a' w' ha hb => hb))
    exact steps_nil
  intro own24 a24 w24 hd24 hz24 hk24 hf24 hE24
  have e24_3 : a24.eval (.tmp 3) = .pointer (some ⟨g20, 0, none⟩) := (hk24 3 rfl).trans e22_3
  obtain ⟨(b_g20 : BlkO own24 23 w24 g20 32 #[.int .i64 (ad p1.1 f1.1), .int .i64 (ad p1.2 f1.2)]), -⟩ := hf24 [11] rfl
  have hX24 := Evo.step hX22 (fun _ => Nat.le_refl 0) hE24 rfl
  have b24_g20 := b_g20
  refine fl_ret ?_
  obtain rfl := osome hs
  exact hret _ _ _ _ (.inl rfl) hd24 (results1_ rfl (RVal.cell_ e24_3 (run_loadVarAgg (l := [.int .i64 (ad p1.1 f1.1), .int .i64 (ad p1.2 f1.2)]) ta32 (Blk.cellsFrom b24_g20.2 0 rfl) rfl))) ⟨own24, rfl, hX24⟩

theorem ring_each_Moved_1_w (w : World) (l1 : List (Int × Int)) (Al1 : Option Addr) (cl1 : Nat) (turn2_0 : Int × Int) (gturn2_0 : Nat) (tturn2_0 : TypeId) (hl1 : RdO (fun _ => 0) [0] w R32 Al1 cl1 l1) (hgturn2_0 : BlkO (fun _ => 0) 0 w gturn2_0 tturn2_0 #[.int .i64 turn2_0.1, .int .i64 turn2_0.2]) (r : List (Int × Int)) (hs : ring_each_Moved_1 l1 turn2_0 = some r) :
    Calls Try.prog 43 #[.slice Al1 l1.length cl1, .func (.func 44) #[] #[.pointer (some ⟨gturn2_0, 0, none⟩)]] w fun e w' => ∃ (own' : Own) (x : Option Addr × Nat), e = .returned (.slice x.1 r.length x.2) ∧ Evo [] (fun _ => 0) own' w w' ∧ RwO own' 1 [] w' 32 R32 x.1 x.2 r := by
  refine fl_enter (n := 25) rfl rfl rfl (Nat.le_of_ble_eq_true rfl) ?_
  intro a0 Q hd0 hz0 harg hret
  have ha0 := harg 0 _ rfl
  have ha1 := harg 1 _ rfl
  clear harg
  have hE0 : Evo [] (fun _ => 0) (fun _ => 0) w w := Evo.refl _ _ _
  refine rg_plain_seq (n := 25) (rs := []) (own0 := (fun _ => 0)) (K := [])
      (bs := [0])
      (ds := [⟨[], [], [], Fct.val 4 (.slice none 0 0)⟩]) (by kernel_rfl) hz0 hd0 (fun _ h => nomatch h) ?_ ?_
  · refine steps_cons (fun own a wx hf hsl hE => ?_) ?_
    · exact sg_plain rfl rfl (or_assign rfl)
    exact steps_nil
  intro own84 a84 w84 hd84 hz84 hk84 hf84 hE84
  have e84_0 : a84.eval (.tmp 0) = .slice Al1 l1.length cl1 := (hk84 0 rfl).trans ha0
  have e84_1 : a84.eval (.tmp 1) = .func (.func 44) #[] #[.pointer (some ⟨gturn2_0, 0, none⟩)] := (hk84 1 rfl).trans ha1
  have hX84 := Evo.step hE0 (fun _ => Nat.le_refl 0) hE84 rfl
  have b84_Al1 := RdO.evo rfl hE84 hl1
  have b84_gturn2_0 := BlkO.evo (by decide) hE84 hgturn2_0
  obtain ⟨r85, hr85, hs⟩ := obind hs
  refine rg_plain_seq (n := 25) (rs := []) (own0 := own84) (K := [])
      (bs := [0, 1, 3])
      (ds := [⟨[], [0], [], Fct.val 8 (.slice Al1 l1.length cl1)⟩,
      ⟨[0], [], [], Fct.row 87 [] 9 32 R32 r85⟩,
      ⟨[1], [], [], Fct.rel [5, 9] (fun l => ∀ (A86 : Option Addr) (cA86 : Nat), l.getD 1 undef = .slice A86 r85.length cA86 → l.getD 0 undef = .slice A86 r85.length cA86)⟩]) (by kernel_rfl) hz84 hd84 (fun _ h => nomatch h) ?_ ?_
  · refine steps_cons (fun own a wx hf hsl hE => ?_) ?_
    · obtain ⟨s_0, -⟩ := hsl
      exact sg_plain rfl rfl (or_move (s_0.trans e84_0))
    refine steps_cons (fun own a wx hf hsl hE => ?_) ?_
    · obtain ⟨(f_8 : a.eval (.tmp 8) = .slice Al1 l1.length cl1), -⟩ := hf
      exact sg_plain rfl rfl (or_call cf46 (args1 f_8) (slices_Clone_api_Point_api_Point_w _ l1 Al1 cl1 (RdO.zero (RdO.evo rfl hE b84_Al1)) r85 hr85) (post_row (m' := (look0 [(1, 87)])) (.inl (Rep.fl_flat _)) rfl rfl (fun _ => rfl)))
    refine steps_cons (fun own a wx hf hsl hE => ?_) ?_
    · obtain ⟨⟨⟨A86, cA86⟩, (f_9 : a.eval (.tmp 9) = .slice A86 r85.length cA86), (b_A86 : RwO own 87 [] wx 32 R32 A86 cA86 r85)⟩, -⟩ := hf
      exact sg_plain rfl rfl (or_mono (f := Fct.val 5 (.slice A86 r85.length cA86)) (or_assign f_9) (fun own' a' w' v' hp h => fun _ _ h0' => by cases (f_9.symm.trans ((hp.2 9 (by decide)).symm.trans h0')); exact h))
    exact steps_nil
  intro own88 a88 w88 hd88 hz88 hk88 hf88 hE88
  have e88_0 : a88.eval (.tmp 0) = .slice Al1 l1.length cl1 := (hk88 0 rfl).trans e84_0
  have e88_1 : a88.eval (.tmp 1) = .func (.func 44) #[] #[.pointer (some ⟨gturn2_0, 0, none⟩)] := (hk88 1 rfl).trans e84_1
  obtain ⟨⟨⟨A86, cA86⟩, (f_9 : a88.eval (.tmp 9) = .slice A86 r85.length cA86), (b_A86 : RwO own88 87 [] w88 32 R32 A86 cA86 r85)⟩, (q_5 : ∀ (A86 : Option Addr) (cA86 : Nat), a88.eval (.tmp 9) = .slice A86 r85.length cA86 → a88.eval (.tmp 5) = .slice A86 r85.length cA86), -⟩ := hf88 [1, 2] rfl
  have f_5 := q_5 _ _ f_9
  have e88_5 := f_5
  have hX88 := Evo.step hX84 (fun _ => Nat.le_refl 0) hE88 rfl
  have b88_Al1 := RdO.evo rfl hE88 b84_Al1
  have b88_gturn2_0 := BlkO.evo (by decide) hE88 b84_gturn2_0
  have b88_A86 := b_A86
  refine fl_seq (fun Q89 hn89 hp89 => ?_)
  refine rg_plain_seq (n := 25) (rs := []) (own0 := own88) (K := [])
      (bs := [0, 1, 0])
      (ds := [⟨[], [0], [], Fct.val 10 (.slice Al1 l1.length cl1)⟩,
      ⟨[0], [], [], Fct.val 11 (.int .i64 (l1.length : Int))⟩,
      ⟨[], [], [], Fct.val 12 (.int .i64 0)⟩]) (by kernel_rfl) hz88 hd88 (fun _ h => nomatch h) ?_ ?_
  · refine steps_cons (fun own a wx hf hsl hE => ?_) ?_
    · obtain ⟨s_0, -⟩ := hsl
      exact sg_plain rfl rfl (or_move (s_0.trans e88_0))
    refine steps_cons (fun own a wx hf hsl hE => ?_) ?_
    · obtain ⟨(f_10 : a.eval (.tmp 10) = .slice Al1 l1.length cl1), -⟩ := hf
      exact sg_plain rfl rfl (or_len tu22 f_10 rfl)
    refine steps_cons (fun own a wx hf hsl hE => ?_) ?_
    · exact sg_plain rfl rfl (or_move rfl)
    exact steps_nil
  intro own90 a90 w90 hd90 hz90 hk90 hf90 hE90
  have e90_1 : a90.eval (.tmp 1) = .func (.func 44) #[] #[.pointer (some ⟨gturn2_0, 0, none⟩)] := (hk90 1 rfl).trans e88_1
  have e90_5 : a90.eval (.tmp 5) = .slice A86 r85.length cA86 := (hk90 5 rfl).trans e88_5
  obtain ⟨(f_10 : a90.eval (.tmp 10) = .slice Al1 l1.length cl1), (f_11 : a90.eval (.tmp 11) = .int .i64 (l1.length : Int)), (f_12 : a90.eval (.tmp 12) = .int .i64 0), -⟩ := hf90 [0, 1, 2] rfl
  have e90_10 := f_10
  have e90_11 := f_11
  have e90_12 := f_12
  have hX90 := Evo.step hX88 (fun _ => Nat.le_refl 0) hE90 rfl
  have b90_Al1 := RdO.evo rfl hE90 b88_Al1
  have b90_gturn2_0 := BlkO.evo (by decide) hE90 b88_gturn2_0
  have b90_A86 := RwO.evo rfl hE90 b88_A86
  refine fl_block (fun Q91 hn91 hx91 hp91 => ?_)
  refine fl_loop (body := (fun s => ring_each_Moved_1_b1 l1 turn2_0 s.1 s.2)) (z := r) (show loopO _ _ = _ from hs) (fun (s : (List (Int × Int)) × Int) a wx => match s with | (out112, x114) => ∃ (ox : Own), a.defers = [] ∧ a.tmps.size = 25 ∧ a.eval (.tmp 1) = .func (.func 44) #[] #[.pointer (some ⟨gturn2_0, 0, none⟩)] ∧ a.eval (.tmp 5) = .slice A86 out112.length cA86 ∧ a.eval (.tmp 10) = .slice Al1 l1.length cl1 ∧ a.eval (.tmp 11) = .int .i64 (l1.length : Int) ∧ a.eval (.tmp 12) = .int .i64 x114 ∧ Evo [] (fun _ => 0) ox w wx ∧ BlkO ox 0 wx gturn2_0 tturn2_0 #[.int .i64 turn2_0.1, .int .i64 turn2_0.2] ∧ RwO ox 113 [] wx 32 R32 A86 cA86 out112 ∧ RdO ox [0] wx R32 Al1 cl1 l1) ?_ ?_
  · exact ⟨(rl [(87, 113)] own90), hd90, hz90, e90_1, e90_5, e90_10, e90_11, e90_12, (Evo.rl_ hX90 (fun _ => Nat.le_refl 0) rfl), (BlkO.rl_ (mm := [(87, 113)]) b90_gturn2_0), (RwO.rl_ (mm := [(87, 113)]) b90_A86), (RdO.rl_ (mm := [(87, 113)]) b90_Al1)⟩
  · rintro ⟨out112, x114⟩ zz135 a135 w135 ⟨own135, hd136, hz136, e136_1, e136_5, e136_10, e136_11, e136_12, hE136, b136_gturn2_0, b136_A86, b136_Al1⟩ hs Q135 hn135 hp135 hz135
    have hs : ring_each_Moved_1_b1 l1 turn2_0 out112 x114 = some zz135 := hs
    refine rg_plain_seq (n := 25) (rs := []) (own0 := own135) (K := [])
        (bs := [0])
        (ds := [⟨[], [12, 11], [], Fct.val 13 (.bool (decide (x114 < (l1.length : Int))))⟩]) (by kernel_rfl) hz136 hd136 (fun _ h => nomatch h) ?_ ?_
    · refine steps_cons (fun own a wx hf hsl hE => ?_) ?_
      · obtain ⟨s_12, s_11, -⟩ := hsl
        exact sg_plain rfl rfl (or_lss (s_12.trans e136_12) (s_11.trans e136_11) rfl)
      exact steps_nil
    intro own137 a137 w137 hd137 hz137 hk137 hf137 hE137
    have e137_1 : a137.eval (.tmp 1) = .func (.func 44) #[] #[.pointer (some ⟨gturn2_0, 0, none⟩)] := (hk137 1 rfl).trans e136_1
    have e137_5 : a137.eval (.tmp 5) = .slice A86 out112.length cA86 := (hk137 5 rfl).trans e136_5
    have e137_10 : a137.eval (.tmp 10) = .slice Al1 l1.length cl1 := (hk137 10 rfl).trans e136_10
    have e137_11 : a137.eval (.tmp 11) = .int .i64 (l1.length : Int) := (hk137 11 rfl).trans e136_11
    have e137_12 : a137.eval (.tmp 12) = .int .i64 x114 := (hk137 12 rfl).trans e136_12
    obtain ⟨(f_13 : a137.eval (.tmp 13) = .bool (decide (x114 < (l1.length : Int)))), -⟩ := hf137 [0] rfl
    have e137_13 := f_13
    have hX137 := Evo.step hE136 (fun _ => Nat.le_refl 0) hE137 rfl
    have b137_gturn2_0 := BlkO.evo (by decide) hE137 b136_gturn2_0
    have b137_A86 := RwO.evo rfl hE137 b136_A86
    have b137_Al1 := RdO.evo rfl hE137 b136_Al1
    refine fl_seq (fun Q138 hn138 hp138 => ?_)
    refine fl_cond e137_13 hs (fun c139 hs => ?_) (fun c139 hs => ?_)
    · refine fl_skip ?_
      refine hn138 _ _ ?_
      refine fl_seq (fun Q140 hn140 hp140 => ?_)
      refine fl_block (fun Q141 hn141 hx141 hp141 => ?_)
      obtain ⟨x142, hx142, hs⟩ := obind hs
      refine rg_plain_seq (n := 25) (rs := []) (own0 := own137) (K := [144])
          (bs := [0, 0, 2, 0, 15, 31])
          (ds := [⟨[], [12], [], Fct.val 14 (.int .i64 x114)⟩,
          ⟨[], [10, 12], [], Fct.val 15 (.pointer (some ((adr Al1).add ((x114 : Int).toNat * R32.s))))⟩,
          ⟨[1], [], [], Fct.val 16 (.agg #[.int .i64 x142.1, .int .i64 x142.2])⟩,
          ⟨[], [], [], Fct.blk 144 7 (fun g => .pointer (some ⟨g, 0, none⟩)) 32 #[.int .i64 0, .int .i64 0]⟩,
          ⟨[0], [], [], Fct.val 6 (.int .i64 x114)⟩,
          ⟨[3, 2], [], [144], Fct.blk 145 7 (fun g => .pointer (some ⟨g, 0, none⟩)) 32 #[.int .i64 x142.1, .int .i64 x142.2]⟩]) (by kernel_rfl) hz137 hd137 (fun _ h => nomatch h) ?_ ?_
      · refine steps_cons (fun own a wx hf hsl hE => ?_) ?_
        · obtain ⟨s_12, -⟩ := hsl
          exact sg_plain rfl rfl (or_move (s_12.trans e137_12))
        refine steps_cons (fun own a wx hf hsl hE => ?_) ?_
        · obtain ⟨s_10, s_12, -⟩ := hsl
          exact sg_plain rfl rfl (or_index (R := R32) (l := l1) tl22 (s_10.trans e137_10) (s_12.trans e137_12) (RdO.some_ b137_Al1 hx142) hx142)
        refine steps_cons (fun own a wx hf hsl hE => ?_) ?_
        · obtain ⟨(f_15 : a.eval (.tmp 15) = .pointer (some ((adr Al1).add ((x114 : Int).toNat * R32.s)))), -⟩ := hf
          exact sg_plain rfl rfl (or_load (l := E32.f x142) ta32 f_15 (RdO.cells (F := E32) (RdO.evo rfl hE b137_Al1) hx142) rfl)
        refine steps_cons (fun own a wx hf hsl hE => ?_) ?_
        · exact sg_plain rfl rfl (or_new [] rfl rfl trivial (by kernel_rfl))
        refine steps_cons (fun own a wx hf hsl hE => ?_) ?_
        · obtain ⟨(f_14 : a.eval (.tmp 14) = .int .i64 x114), -⟩ := hf
          exact sg_plain rfl rfl (or_assign f_14)
        refine steps_cons (fun own a wx hf hsl hE => ?_) ?_
        · obtain ⟨⟨g143, (f_7 : a.eval (.tmp 7) = .pointer (some ⟨g143, 0, none⟩)), (b_g143 : BlkO own 144 wx g143 32 #[.int .i64 0, .int .i64 0])⟩, (f_16 : a.eval (.tmp 16) = .agg #[.int .i64 x142.1, .int .i64 x142.2]), -⟩ := hf
          exact sg_plain rfl rfl (or_store (l := #[.int .i64 x142.1, .int .i64 x142.2]) (lab := 144) (lab2 := 145) ts32 f_7 f_16 b_g143 (by simp) (by kernel_rfl) (mem_of rfl) (by decide) (by kernel_rfl) (fun own' a' w' ha hb => ⟨_, (ha 7).trans f_7, hb⟩))
        exact steps_nil
      intro own146 a146 w146 hd146 hz146 hk146 hf146 hE146
      have e146_1 : a146.eval (.tmp 1) = .func (.func 44) #[] #[.pointer (some ⟨gturn2_0, 0, none⟩)] := (hk146 1 rfl).trans e137_1
      have e146_5 : a146.eval (.tmp 5) = .slice A86 out112.length cA86 := (hk146 5 rfl).trans e137_5
      have e146_10 : a146.eval (.tmp 10) = .slice Al1 l1.length cl1 := (hk146 10 rfl).trans e137_10
      have e146_11 : a146.eval (.tmp 11) = .int .i64 (l1.length : Int) := (hk146 11 rfl).trans e137_11
      have e146_12 : a146.eval (.tmp 12) = .int .i64 x114 := (hk146 12 rfl).trans e137_12
      obtain ⟨⟨g143, (f_7 : a146.eval (.tmp 7) = .pointer (some ⟨g143, 0, none⟩)), (b_g143 : BlkO own146 145 w146 g143 32 #[.int .i64 x142.1, .int .i64 x142.2])⟩, (f_6 : a146.eval (.tmp 6) = .int .i64 x114), -⟩ := hf146 [5, 4] rfl
      have e146_7 := f_7
      have e146_6 := f_6
      have hX146 := Evo.step hX137 (fun _ => Nat.le_refl 0) hE146 rfl
      have b146_gturn2_0 := BlkO.evo (by decide) hE146 b137_gturn2_0
      have b146_A86 := RwO.evo rfl hE146 b137_A86
      have b146_Al1 := RdO.evo rfl hE146 b137_Al1
      have b146_g143 := b_g143
      obtain ⟨r149, hr149, hs⟩ := obind hs
      obtain ⟨x150, hx150, hs⟩ := obind hs
      obtain ⟨l151, hl151, hs⟩ := obind hs
      refine rg_plain (n := 25) (rs := [Fct.rowAt 113 [] 32 R32 A86 cA86 out112]) (own0 := own146) (K := [113])
          (bs := [0, 0, 0, 0, 12, 31, 63])
          (ds := [⟨[], [5], [], Fct.val 17 (.slice A86 out112.length cA86)⟩,
          ⟨[], [6], [], Fct.val 18 (.int .i64 x114)⟩,
          ⟨[], [1], [], Fct.val 19 (.func (.func 44) #[] #[.pointer (some ⟨gturn2_0, 0, none⟩)])⟩,
          ⟨[], [7], [], Fct.val 20 (.agg #[.int .i64 x142.1, .int .i64 x142.2])⟩,
          ⟨[2, 3], [], [], Fct.val 21 (.agg #[.int .i64 r149.1, .int .i64 r149.2])⟩,
          ⟨[0, 1], [], [], Fct.val 22 (.pointer (some ((adr A86).add ((x114 : Int).toNat * R32.s))))⟩,
          ⟨[5, 4, 7], [], [113], Fct.rowAt 152 [] 32 R32 A86 cA86 l151⟩]) (by kernel_rfl) hz146 hd146 (by simp only [List.forall_mem_cons]; exact ⟨b146_A86, fun _ h => nomatch h⟩) ?_ ?_
      · refine steps_cons (fun own a wx hf hsl hE => ?_) ?_
        · obtain ⟨s_5, -⟩ := hsl
          exact sg_plain rfl rfl (or_move (s_5.trans e146_5))
        refine steps_cons (fun own a wx hf hsl hE => ?_) ?_
        · obtain ⟨s_6, -⟩ := hsl
          exact sg_plain rfl rfl (or_move (s_6.trans e146_6))
        refine steps_cons (fun own a wx hf hsl hE => ?_) ?_
        · obtain ⟨s_1, -⟩ := hsl
          exact sg_plain rfl rfl (or_move (s_1.trans e146_1))
        refine steps_cons (fun own a wx hf hsl hE => ?_) ?_
        · obtain ⟨s_7, -⟩ := hsl
          exact sg_plain rfl rfl (or_load (l := [.int .i64 x142.1, .int .i64 x142.2]) ta32 (s_7.trans e146_7) (Blk.cellsFrom (BlkO.evo (by decide) hE b146_g143).2 0 rfl) rfl)
        refine steps_cons (fun own a wx hf hsl hE => ?_) ?_
        · obtain ⟨(f_19 : a.eval (.tmp 19) = .func (.func 44) #[] #[.pointer (some ⟨gturn2_0, 0, none⟩)]), (f_20 : a.eval (.tmp 20) = .agg #[.int .i64 x142.1, .int .i64 x142.2]), -⟩ := hf
          exact sg_plain rfl rfl (or_callf cf44 f_19 (args1 f_20) rfl (ring_Moved_1_w _ x142 turn2_0 gturn2_0 tturn2_0 (BlkO.zero_ (BlkO.evo (by decide) hE b146_gturn2_0)) r149 hr149) post_val)
        refine steps_cons (fun own a wx hf hsl hE => ?_) ?_
        · obtain ⟨(f_17 : a.eval (.tmp 17) = .slice A86 out112.length cA86), (f_18 : a.eval (.tmp 18) = .int .i64 x114), -⟩ := hf
          exact sg_plain rfl rfl (or_index (R := R32) (l := out112) tl22 f_17 f_18 (RdO.some_ (RwO.rd b146_A86) hx150) hx150)
        refine steps_cons (fun own a wx hf hsl hE => ?_) ?_
        · obtain ⟨(f_22 : a.eval (.tmp 22) = .pointer (some ((adr A86).add ((x114 : Int).toNat * R32.s)))), (f_21 : a.eval (.tmp 21) = .agg #[.int .i64 r149.1, .int .i64 r149.2]), (b_A86 : RwO own 113 [] wx 32 R32 A86 cA86 out112), -⟩ := hf
          exact sg_plain rfl rfl (or_storeIx (R := R32) (lab := 113) (lab2 := 152) (cs := [.int .i64 r149.1, .int .i64 r149.2]) (v := r149) ts32 f_22 f_21 rfl (Rep.fl_flat _) (fun _ _ => rfl) b_A86 hl151 (mem_of rfl) (by decide) (fun own' a' w' ha hb => hb))
        exact steps_nil
      intro own153 a153 w153 hd153 hz153 hk153 hf153 hE153
      have e153_1 : a153.eval (.tmp 1) = .func (.func 44) #[] #[.pointer (some ⟨gturn2_0, 0, none⟩)] := (hk153 1 rfl).trans e146_1
      have e153_5 : a153.eval (.tmp 5) = .slice A86 out112.length cA86 := (hk153 5 rfl).trans e146_5
      have e153_10 : a153.eval (.tmp 10) = .slice Al1 l1.length cl1 := (hk153 10 rfl).trans e146_10
      have e153_11 : a153.eval (.tmp 11) = .int .i64 (l1.length : Int) := (hk153 11 rfl).trans e146_11
      have e153_12 : a153.eval (.tmp 12) = .int .i64 x114 := (hk153 12 rfl).trans e146_12
      obtain ⟨(b_A86 : RwO own153 152 [] w153 32 R32 A86 cA86 l151), -⟩ := hf153 [6] rfl
      have hX153 := Evo.step hX146 (fun _ => Nat.le_refl 0) hE153 rfl
      have b153_gturn2_0 := BlkO.evo (by decide) hE153 b146_gturn2_0
      have b153_Al1 := RdO.evo rfl hE153 b146_Al1
      have b153_A86 := b_A86
      have m154_5 : a153.eval (.tmp 5) = .slice A86 l151.length cA86 := e153_5.trans (by rw [put_len hl151])
      refine hn141 _ _ ?_
      refine hn140 _ _ ?_
      refine rg_plain (n := 25) (rs := []) (own0 := own153) (K := [])
          (bs := [0, 1])
          (ds := [⟨[], [12], [], Fct.val 23 (.int .i64 (ad x114 1))⟩,
          ⟨[0], [], [], Fct.val 12 (.int .i64 (ad x114 1))⟩]) (by kernel_rfl) hz153 hd153 (fun _ h => nomatch h) ?_ ?_
      · refine steps_cons (fun own a wx hf hsl hE => ?_) ?_
        · obtain ⟨s_12, -⟩ := hsl
          exact sg_plain rfl rfl (or_add (s_12.trans e153_12) rfl rfl)
        refine steps_cons (fun own a wx hf hsl hE => ?_) ?_
        · obtain ⟨(f_23 : a.eval (.tmp 23) = .int .i64 (ad x114 1)), -⟩ := hf
          exact sg_plain rfl rfl (or_move f_23)
        exact steps_nil
      intro own155 a155 w155 hd155 hz155 hk155 hf155 hE155
      have e155_1 : a155.eval (.tmp 1) = .func (.func 44) #[] #[.pointer (some ⟨gturn2_0, 0, none⟩)] := (hk155 1 rfl).trans e153_1
      have e155_5 : a155.eval (.tmp 5) = .slice A86 l151.length cA86 := (hk155 5 rfl).trans m154_5
      have e155_10 : a155.eval (.tmp 10) = .slice Al1 l1.length cl1 := (hk155 10 rfl).trans e153_10
      have e155_11 : a155.eval (.tmp 11) = .int .i64 (l1.length : Int) := (hk155 11 rfl).trans e153_11
      obtain ⟨(f_12 : a155.eval (.tmp 12) = .int .i64 (ad x114 1)), -⟩ := hf155 [1] rfl
      have e155_12 := f_12
      have hX155 := Evo.step hX153 (fun _ => Nat.le_refl 0) hE155 rfl
      have b155_gturn2_0 := BlkO.evo (by decide) hE155 b153_gturn2_0
      have b155_Al1 := RdO.evo rfl hE155 b153_Al1
      have b155_A86 := RwO.evo rfl hE155 b153_A86
      exact hn135 _ _ _ hs ⟨(rl [(152, 113)] own155), hd155, hz155, e155_1, e155_5, e155_10, e155_11, e155_12, (Evo.rl_ hX155 (fun _ => Nat.le_refl 0) rfl), (BlkO.rl_ (mm := [(152, 113)]) b155_gturn2_0), (RwO.rl_ (mm := [(152, 113)]) b155_A86), (RdO.rl_ (mm := [(152, 113)]) b155_Al1)⟩
    refine fl_exit ?_
    refine hp138 _ _ _ rfl ?_
    replace hs := hz135 _ hs
    refine hp135 _ _ _ rfl ?_
    refine hx91 _ _ ?_
    refine hn89 _ _ ?_
    refine rg_plain_seq (n := 25) (rs := []) (own0 := own137) (K := [])
        (bs := [0, 1])
        (ds := [⟨[], [5], [], Fct.val 24 (.slice A86 out112.length cA86)⟩,
        ⟨[0], [], [], Fct.val 4 (.slice A86 out112.length cA86)⟩]) (by kernel_rfl) hz137 hd137 (fun _ h => nomatch h) ?_ ?_
    · refine steps_cons (fun own a wx hf hsl hE => ?_) ?_
      · obtain ⟨s_5, -⟩ := hsl
        exact sg_plain rfl rfl (or_move (s_5.trans e137_5))
      refine steps_cons (fun own a wx hf hsl hE => ?_) ?_
      · obtain ⟨(f_24 : a.eval (.tmp 24) = .slice A86 out112.length cA86), -⟩ := hf
        exact sg_plain rfl rfl (or_assign f_24)
      exact steps_nil
    intro own156 a156 w156 hd156 hz156 hk156 hf156 hE156
    obtain ⟨(f_4 : a156.eval (.tmp 4) = .slice A86 out112.length cA86), -⟩ := hf156 [1] rfl
    have e156_4 := f_4
    have hX156 := Evo.step hX137 (fun _ => Nat.le_refl 0) hE156 rfl
    have b156_A86 := RwO.evo rfl hE156 b137_A86
    refine fl_ret ?_
    obtain rfl := (osome hs).symm
    exact hret _ _ _ _ (.inl rfl) hd156 (results1_ rfl (RVal.tmp_ e156_4)) ⟨(rl [(113, 1)] own156), (A86, cA86), rfl, (Evo.rl_ hX156 (fun _ => Nat.le_refl 0) rfl), (RwO.rl_ (mm := [(113, 1)]) b156_A86)⟩

theorem ring_Moved_w (w : World) (l1 : List (Int × Int)) (Al1 : Option Addr) (cl1 : Nat) (x2 : Int × Int) (hl1 : RdO (fun _ => 0) [0] w R32 Al1 cl1 l1) (r : List (Int × Int)) (hs : ring_Moved l1 x2 = some r) :
    Calls Try.prog 18 #[.slice Al1 l1.length cl1, .agg #[.int .i64 x2.1, .int .i64 x2.2]] w fun e w' => ∃ (own' : Own) (x : Option Addr × Nat), e = .returned (.slice x.1 r.length x.2) ∧ Evo [] (fun _ => 0) own' w w' ∧ RwO own' 1 [] w' 32 R32 x.1 x.2 r := by
  refine fl_enter (n := 8) rfl rfl rfl (Nat.le_of_ble_eq_true rfl) ?_
  intro a0 Q hd0 hz0 harg hret
  have ha0 := harg 0 _ rfl
  have ha1 := harg 1 _ rfl
  clear harg
  have hE0 : Evo [] (fun _ => 0) (fun _ => 0) w w := Evo.refl _ _ _
  refine rg_plain_seq (n := 8) (rs := []) (own0 := (fun _ => 0)) (K := [])
      (bs := [0, 0])
      (ds := [⟨[], [1], [], Fct.blk 19 3 (fun g => .pointer (some ⟨g, 0, none⟩)) 32 #[.int .i64 x2.1, .int .i64 x2.2]⟩,
      ⟨[], [], [], Fct.val 4 (.slice none 0 0)⟩]) (by kernel_rfl) hz0 hd0 (fun _ h => nomatch h) ?_ ?_
  · refine steps_cons (fun own a wx hf hsl hE => ?_) ?_
    · obtain ⟨s_1, -⟩ := hsl
      exact sg_plain rfl rfl (or_new [(1, .agg #[.int .i64 x2.1, .int .i64 x2.2])] rfl rfl ⟨(s_1.trans ha1), trivial⟩ (by kernel_rfl))
    refine steps_cons (fun own a wx hf hsl hE => ?_) ?_
    · exact sg_plain rfl rfl (or_assign rfl)
    exact steps_nil
  intro own20 a20 w20 hd20 hz20 hk20 hf20 hE20
  have e20_0 : a20.eval (.tmp 0) = .slice Al1 l1.length cl1 := (hk20 0 rfl).trans ha0
  obtain ⟨⟨g18, (f_3 : a20.eval (.tmp 3) = .pointer (some ⟨g18, 0, none⟩)), (b_g18 : BlkO own20 19 w20 g18 32 #[.int .i64 x2.1, .int .i64 x2.2])⟩, -⟩ := hf20 [0] rfl
  have e20_3 := f_3
  have hX20 := Evo.step hE0 (fun _ => Nat.le_refl 0) hE20 rfl
  have b20_Al1 := RdO.evo rfl hE20 hl1
  have b20_g18 := b_g18
  obtain ⟨r21, hr21, hs⟩ := obind hs
  refine rg_plain_seq (n := 8) (rs := []) (own0 := own20) (K := [])
      (bs := [0, 0, 3, 7])
      (ds := [⟨[], [0], [], Fct.val 5 (.slice Al1 l1.length cl1)⟩,
      ⟨[], [3], [], Fct.val 6 (.func (.func 44) #[] #[.pointer (some ⟨g18, 0, none⟩)])⟩,
      ⟨[0, 1], [], [], Fct.row 23 [] 7 32 R32 r21⟩,
      ⟨[2], [], [], Fct.rel [4, 7] (fun l => ∀ (A22 : Option Addr) (cA22 : Nat), l.getD 1 undef = .slice A22 r21.length cA22 → l.getD 0 undef = .slice A22 r21.length cA22)⟩]) (by kernel_rfl) hz20 hd20 (fun _ h => nomatch h) ?_ ?_
  · refine steps_cons (fun own a wx hf hsl hE => ?_) ?_
    · obtain ⟨s_0, -⟩ := hsl
      exact sg_plain rfl rfl (or_move (s_0.trans e20_0))
    refine steps_cons (fun own a wx hf hsl hE => ?_) ?_
    · obtain ⟨s_3, -⟩ := hsl
      exact sg_plain rfl rfl (or_k [(3, .pointer (some ⟨g18, 0, none⟩))] rfl rfl ⟨(s_3.trans e20_3), trivial⟩ (by kernel_rfl))
    refine steps_cons (fun own a wx hf hsl hE => ?_) ?_
    · obtain ⟨(f_5 : a.eval (.tmp 5) = .slice Al1 l1.length cl1), (f_6 : a.eval (.tmp 6) = .func (.func 44) #[] #[.pointer (some ⟨g18, 0, none⟩)]), -⟩ := hf
      exact sg_plain rfl rfl (or_call cf43 (args2 f_5 f_6) (ring_each_Moved_1_w _ l1 Al1 cl1 x2 g18 32 (RdO.zero (RdO.evo rfl hE b20_Al1)) (BlkO.zero_ (BlkO.evo (by decide) hE b20_g18)) r21 hr21) (post_row (m' := (look0 [(1, 23)])) (.inl (Rep.fl_flat _)) rfl rfl (fun _ => rfl)))
    refine steps_cons (fun own a wx hf hsl hE => ?_) ?_
    · obtain ⟨⟨⟨A22, cA22⟩, (f_7 : a.eval (.tmp 7) = .slice A22 r21.length cA22), (b_A22 : RwO own 23 [] wx 32 R32 A22 cA22 r21)⟩, -⟩ := hf
      exact sg_plain rfl rfl (or_mono (f := Fct.val 4 (.slice A22 r21.length cA22)) (or_assign f_7) (fun own' a' w' v' hp h => fun _ _ h0' => by cases (f_7.symm.trans ((hp.2 7 (by decide)).symm.trans h0')); exact h))
    exact steps_nil
  intro own24 a24 w24 hd24 hz24 hk24 hf24 hE24
  obtain ⟨⟨⟨A22, cA22⟩, (f_7 : a24.eval (.tmp 7) = .slice A22 r21.length cA22), (b_A22 : RwO own24 23 [] w24 32 R32 A22 cA22 r21)⟩, (q_4 : ∀ (A22 : Option Addr) (cA22 : Nat), a24.eval (.tmp 7) = .slice A22 r21.length cA22 → a24.eval (.tmp 4) = .slice A22 r21.length cA22), -⟩ := hf24 [2, 3] rfl
  have f_4 := q_4 _ _ f_7
  have e24_4 := f_4
  have hX24 := Evo.step hX20 (fun _ => Nat.le_refl 0) hE24 rfl
  have b24_A22 := b_A22
  refine fl_ret ?_
  obtain rfl := (osome hs).symm
  exact hret _ _ _ _ (.inl rfl) hd24 (results1_ rfl (RVal.tmp_ e24_4)) ⟨(rl [(23, 1)] own24), (A22, cA22), rfl, (Evo.rl_ hX24 (fun _ => Nat.le_refl 0) rfl), (RwO.rl_ (mm := [(23, 1)]) b24_A22)⟩

theorem ring_Scaled_1_w (w : World) (p1 : Int × Int) (f1 : Int) (gf1 : Nat) (tf1 : TypeId) (hgf1 : BlkO (fun _ => 0) 0 w gf1 tf1 #[.int .i64 f1]) (r : Int × Int) (hs : ring_Scaled_1 p1 f1 = some r) :
    Calls Try.prog 45 #[.agg #[.int .i64 p1.1, .int .i64 p1.2], .pointer (some ⟨gf1, 0, none⟩)] w fun e w' => ∃ own' : Own, e = .returned (.agg #[.int .i64 r.1, .int .i64 r.2]) ∧ Evo [] (fun _ => 0) own' w w' := by
  refine fl_enter (n := 13) rfl rfl rfl (Nat.le_of_ble_eq_true rfl) ?_
  intro a0 Q hd0 hz0 harg hret
  have ha0 := harg 0 _ rfl
  have ha1 := harg 1 _ rfl
  clear harg
  have hE0 : Evo [] (fun _ => 0) (fun _ => 0) w w := Evo.refl _ _ _
  refine rg_plain_seq (n := 13) (rs := []) (own0 := (fun _ => 0)) (K := [])
      (bs := [0, 0])
      (ds := [⟨[], [0], [], Fct.blk 19 2 (fun g => .pointer (some ⟨g, 0, none⟩)) 32 #[.int .i64 p1.1, .int .i64 p1.2]⟩,
      ⟨[], [], [], Fct.blk 21 3 (fun g => .pointer (some ⟨g, 0, none⟩)) 32 #[.int .i64 0, .int .i64 0]⟩]) (by kernel_rfl) hz0 hd0 (fun _ h => nomatch h) ?_ ?_
  · refine steps_cons (fun own a wx hf hsl hE => ?_) ?_
    · obtain ⟨s_0, -⟩ := hsl
      exact sg_plain rfl rfl (or_new [(0, .agg #[.int .i64 p1.1, .int .i64 p1.2])] rfl rfl ⟨(s_0.trans ha0), trivial⟩ (by kernel_rfl))
    refine steps_cons (fun own a wx hf hsl hE => ?_) ?_
    · exact sg_plain rfl rfl (or_new [] rfl rfl trivial (by kernel_rfl))
    exact steps_nil
  intro own22 a22 w22 hd22 hz22 hk22 hf22 hE22
  have e22_1 : a22.eval (.tmp 1) = .pointer (some ⟨gf1, 0, none⟩) := (hk22 1 rfl).trans ha1
  obtain ⟨⟨g18, (f_2 : a22.eval (.tmp 2) = .pointer (some ⟨g18, 0, none⟩)), (b_g18 : BlkO own22 19 w22 g18 32 #[.int .i64 p1.1, .int .i64 p1.2])⟩, ⟨g20, (f_3 : a22.eval (.tmp 3) = .pointer (some ⟨g20, 0, none⟩)), (b_g20 : BlkO own22 21 w22 g20 32 #[.int .i64 0, .int .i64 0])⟩, -⟩ := hf22 [0, 1] rfl
  have e22_2 := f_2
  have e22_3 := f_3
  have hX22 := Evo.step hE0 (fun _ => Nat.le_refl 0) hE22 rfl
  have b22_gf1 := BlkO.evo (by decide) hE22 hgf1
  have b22_g18 := b_g18
  have b22_g20 := b_g20
  refine rg_plain_seq (n := 13) (rs := [Fct.at_ 21 g20 32 #[.int .i64 0, .int .i64 0]]) (own0 := own22) (K := [21])
      (bs := [0, 0, 2, 7, 0, 0, 32, 112, 255, 511])
      (ds := [⟨[], [1], [], Fct.val 4 (.int .i64 f1)⟩,
      ⟨[], [2], [], Fct.val 5 (.pointer (some ⟨g18, 0, none⟩))⟩,
      ⟨[1], [], [], Fct.val 6 (.int .i64 p1.1)⟩,
      ⟨[0, 2], [], [], Fct.val 7 (.int .i64 (ml f1 p1.1))⟩,
      ⟨[], [1], [], Fct.val 8 (.int .i64 f1)⟩,
      ⟨[], [2], [], Fct.val 9 (.pointer (some ⟨g18, 1, none⟩))⟩,
      ⟨[5], [], [], Fct.val 10 (.int .i64 p1.2)⟩,
      ⟨[4, 6], [], [], Fct.val 11 (.int .i64 (ml f1 p1.2))⟩,
      ⟨[3, 7], [], [], Fct.val 12 (.agg #[.int .i64 (ml f1 p1.1), .int .i64 (ml f1 p1.2)])⟩,
      ⟨[8, 10], [3], [21], Fct.at_ 23 g20 32 #[.int .i64 (ml f1 p1.1), .int .i64 (ml f1 p1.2)]⟩]) (by kernel_rfl) hz22 hd22 (by simp only [List.forall_mem_cons]; exact ⟨b22_g20, fun _ h => nomatch h⟩) ?_ ?_
  · refine steps_cons (fun own a wx hf hsl hE => ?_) ?_
    · obtain ⟨s_1, -⟩ := hsl
      exact sg_plain rfl rfl (or_load1 to3 (s_1.trans e22_1) (Blk.at_ (BlkO.evo (by decide) hE b22_gf1).2 0 rfl))
    refine steps_cons (fun own a wx hf hsl hE => ?_) ?_
    · obtain ⟨s_2, -⟩ := hsl
      exact sg_plain rfl rfl (or_field fo32_0 (s_2.trans e22_2) (by rfl))
    refine steps_cons (fun own a wx hf hsl hE => ?_) ?_
    · obtain ⟨(f_5 : a.eval (.tmp 5) = .pointer (some ⟨g18, 0, none⟩)), -⟩ := hf
      exact sg_plain rfl rfl (or_load1 to3 f_5 (Blk.at_ (BlkO.evo (by decide) hE b22_g18).2 0 rfl))
    refine steps_cons (fun own a wx hf hsl hE => ?_) ?_
    · obtain ⟨(f_4 : a.eval (.tmp 4) = .int .i64 f1), (f_6 : a.eval (.tmp 6) = .int .i64 p1.1), -⟩ := hf
      exact sg_plain rfl rfl (or_mul f_4 f_6 rfl)
    refine steps_cons (fun own a wx hf hsl hE => ?_) ?_
    · obtain ⟨s_1, -⟩ := hsl
      exact sg_plain rfl rfl (or_load1 to3 (s_1.trans e22_1) (Blk.at_ (BlkO.evo (by decide) hE b22_gf1).2 0 rfl))
    refine steps_cons (fun own a wx hf hsl hE => ?_) ?_
    · obtain ⟨s_2, -⟩ := hsl
      exact sg_plain rfl rfl (or_field fo32_1 (s_2.trans e22_2) (by rfl))
    refine steps_cons (fun own a wx hf hsl hE => ?_) ?_
    · obtain ⟨(f_9 : a.eval (.tmp 9) = .pointer (some ⟨g18, 1, none⟩)), -⟩ := hf
      exact sg_plain rfl rfl (or_load1 to3 f_9 (Blk.at_ (BlkO.evo (by decide) hE b22_g18).2 1 rfl))
    refine steps_cons (fun own a wx hf hsl hE => ?_) ?_
    · obtain ⟨(f_8 : a.eval (.tmp 8) = .int .i64 f1), (f_10 : a.eval (.tmp 10) = .int .i64 p1.2), -⟩ := hf
      exact sg_plain rfl rfl (or_mul f_8 f_10 rfl)
    refine steps_cons (fun own a wx hf hsl hE => ?_) ?_
    · obtain ⟨(f_7 : a.eval (.tmp 7) = .int .i64 (ml f1 p1.1)), (f_11 : a.eval (.tmp 11) = .int .i64 (ml f1 p1.2)), -⟩ := hf
      exact sg_plain rfl rfl (or_k [(7, .int .i64 (ml f1 p1.1)), (11, .int .i64 (ml f1 p1.2))] rfl rfl ⟨f_7, f_11, trivial⟩ (by kernel_rfl))
    refine steps_cons (fun own a wx hf hsl hE => ?_) ?_
    · obtain ⟨(f_12 : a.eval (.tmp 12) = .agg #[.int .i64 (ml f1 p1.1), .int .i64 (ml f1 p1.2)]), (b_g20 : BlkO own 21 wx g20 32 #[.int .i64 0, .int .i64 0]), -⟩ := hf
      obtain ⟨s_3, -⟩ := hsl
      exact sg_plain rfl rfl (or_store (l := #[.int .i64 (ml f1 p1.1), .int .i64 (ml f1 p1.2)]) (lab := 21) (lab2 := 23) ts32 (s_3.trans e22_3) f_12 b_g20 (by simp) (by kernel_rfl) (mem_of rfl) (by decide) (by kernel_rfl) (fun own' a' w' ha hb => hb))
    exact steps_nil
  intro own24 a24 w24 hd24 hz24 hk24 hf24 hE24
  have e24_3 : a24.eval (.tmp 3) = .pointer (some ⟨g20, 0, none⟩) := (hk24 3 rfl).trans e22_3
  obtain ⟨(b_g20 : BlkO own24 23 w24 g20 32 #[.int .i64 (ml f1 p1.1), .int .i64 (ml f1 p1.2)]), -⟩ := hf24 [9] rfl
  have hX24 := Evo.step hX22 (fun _ => Nat.le_refl 0) hE24 rfl
  have b24_g20 := b_g20
  refine fl_ret ?_
  obtain rfl := osome hs
  exact hret _ _ _ _ (.inl rfl) hd24 (results1_ rfl (RVal.cell_ e24_3 (run_loadVarAgg (l := [.int .i64 (ml f1 p1.1), .int .i64 (ml f1 p1.2)]) ta32 (Blk.cellsFrom b24_g20.2 0 rfl) rfl))) ⟨own24, rfl, hX24⟩

theorem ring_each_Scaled_1_w (w : World) (l1 : List (Int × Int)) (Al1 : Option Addr) (cl1 : Nat) (turn2_0 : Int) (gturn2_0 : Nat) (tturn2_0 : TypeId) (hl1 : RdO (fun _ => 0) [0] w R32 Al1 cl1 l1) (hgturn2_0 : BlkO (fun _ => 0) 0 w gturn2_0 tturn2_0 #[.int .i64 turn2_0]) (r : List (Int × Int)) (hs : ring_each_Scaled_1 l1 turn2_0 = some r) :
    Calls Try.prog 43 #[.slice Al1 l1.length cl1, .func (.func 45) #[] #[.pointer (some ⟨gturn2_0, 0, none⟩)]] w fun e w' => ∃ (own' : Own) (x : Option Addr × Nat), e = .returned (.slice x.1 r.length x.2) ∧ Evo [] (fun _ => 0) own' w w' ∧ RwO own' 1 [] w' 32 R32 x.1 x.2 r := by
  refine fl_enter (n := 25) rfl rfl rfl (Nat.le_of_ble_eq_true rfl) ?_
  intro a0 Q hd0 hz0 harg hret
  have ha0 := harg 0 _ rfl
  have ha1 := harg 1 _ rfl
  clear harg
  have hE0 : Evo [] (fun _ => 0) (fun _ => 0) w w := Evo.refl _ _ _
  refine rg_plain_seq (n := 25) (rs := []) (own0 := (fun _ => 0)) (K := [])
      (bs := [0])
      (ds := [⟨[], [], [], Fct.val 4 (.slice none 0 0)⟩]) (by kernel_rfl) hz0 hd0 (fun _ h => nomatch h) ?_ ?_
  · refine steps_cons (fun own a wx hf hsl hE => ?_) ?_
    · exact sg_plain rfl rfl (or_assign rfl)
    exact steps_nil
  intro own84 a84 w84 hd84 hz84 hk84 hf84 hE84
  have e84_0 : a84.eval (.tmp 0) = .slice Al1 l1.length cl1 := (hk84 0 rfl).trans ha0
  have e84_1 : a84.eval (.tmp 1) = .func (.func 45) #[] #[.pointer (some ⟨gturn2_0, 0, none⟩)] := (hk84 1 rfl).trans ha1
  have hX84 := Evo.step hE0 (fun _ => Nat.le_refl 0) hE84 rfl
  have b84_Al1 := RdO.evo rfl hE84 hl1
  have b84_gturn2_0 := BlkO.evo (by decide) hE84 hgturn2_0
  obtain ⟨r85, hr85, hs⟩ := obind hs
  refine rg_plain_seq (n := 25) (rs := []) (own0 := own84) (K := [])
      (bs := [0, 1, 3])
      (ds := [⟨[], [0], [], Fct.val 8 (.slice Al1 l1.length cl1)⟩,
      ⟨[0], [], [], Fct.row 87 [] 9 32 R32 r85⟩,
      ⟨[1], [], [], Fct.rel [5, 9] (fun l => ∀ (A86 : Option Addr) (cA86 : Nat), l.getD 1 undef = .slice A86 r85.length cA86 → l.getD 0 undef = .slice A86 r85.length cA86)⟩]) (by kernel_rfl) hz84 hd84 (fun _ h => nomatch h) ?_ ?_
  · refine steps_cons (fun own a wx hf hsl hE => ?_) ?_
    · obtain ⟨s_0, -⟩ := hsl
      exact sg_plain rfl rfl (or_move (s_0.trans e84_0))
    refine steps_cons (fun own a wx hf hsl hE => ?_) ?_
    · obtain ⟨(f_8 : a.eval (.tmp 8) = .slice Al1 l1.length cl1), -⟩ := hf
      exact sg_plain rfl rfl (or_call cf46 (args1 f_8) (slices_Clone_api_Point_api_Point_w _ l1 Al1 cl1 (RdO.zero (RdO.evo rfl hE b84_Al1)) r85 hr85) (post_row (m' := (look0 [(1, 87)])) (.inl (Rep.fl_flat _)) rfl rfl (fun _ => rfl)))
    refine steps_cons (fun own a wx hf hsl hE => ?_) ?_
    · obtain ⟨⟨⟨A86, cA86⟩, (f_9 : a.eval (.tmp 9) = .slice A86 r85.length cA86), (b_A86 : RwO own 87 [] wx 32 R32 A86 cA86 r85)⟩, -⟩ := hf
      exact sg_plain rfl rfl (or_mono (f := Fct.val 5 (.slice A86 r85.length cA86)) (or_assign f_9) (fun own' a' w' v' hp h => fun _ _ h0' => by cases (f_9.symm.trans ((hp.2 9 (by decide)).symm.trans h0')); exact h))
    exact steps_nil
  intro own88 a88 w88 hd88 hz88 hk88 hf88 hE88
  have e88_0 : a88.eval (.tmp 0) = .slice Al1 l1.length cl1 := (hk88 0 rfl).trans e84_0
  have e88_1 : a88.eval (.tmp 1) = .func (.func 45) #[] #[.pointer (some ⟨gturn2_0, 0, none⟩)] := (hk88 1 rfl).trans e84_1
  obtain ⟨⟨⟨A86, cA86⟩, (f_9 : a88.eval (.tmp 9) = .slice A86 r85.length cA86), (b_A86 : RwO own88 87 [] w88 32 R32 A86 cA86 r85)⟩, (q_5 : ∀ (A86 : Option Addr) (cA86 : Nat), a88.eval (.tmp 9) = .slice A86 r85.length cA86 → a88.eval (.tmp 5) = .slice A86 r85.length cA86), -⟩ := hf88 [1, 2] rfl
  have f_5 := q_5 _ _ f_9
  have e88_5 := f_5
  have hX88 := Evo.step hX84 (fun _ => Nat.le_refl 0) hE88 rfl
  have b88_Al1 := RdO.evo rfl hE88 b84_Al1
  have b88_gturn2_0 := BlkO.evo (by decide) hE88 b84_gturn2_0
  have b88_A86 := b_A86
  refine fl_seq (fun Q89 hn89 hp89 => ?_)
  refine rg_plain_seq (n := 25) (rs := []) (own0 := own88) (K := [])
      (bs := [0, 1, 0])
      (ds := [⟨[], [0], [], Fct.val 10 (.slice Al1 l1.length cl1)⟩,
      ⟨[0], [], [], Fct.val 11 (.int .i64 (l1.length : Int))⟩,
      ⟨[], [], [], Fct.val 12 (.int .i64 0)⟩]) (by kernel_rfl) hz88 hd88 (fun _ h => nomatch h) ?_ ?_
  · refine steps_cons (fun own a wx hf hsl hE => ?_) ?_
    · obtain ⟨s_0, -⟩ := hsl
      exact sg_plain rfl rfl (or_move (s_0.trans e88_0))
    refine steps_cons (fun own a wx hf hsl hE => ?_) ?_
    · obtain ⟨(f_10 : a.eval (.tmp 10) = .slice Al1 l1.length cl1), -⟩ := hf
      exact sg_plain rfl rfl (or_len tu22 f_10 rfl)
    refine steps_cons (fun own a wx hf hsl hE => ?_) ?_
    · exact sg_plain rfl rfl (or_move rfl)
    exact steps_nil
  intro own90 a90 w90 hd90 hz90 hk90 hf90 hE90
  have e90_1 : a90.eval (.tmp 1) = .func (.func 45) #[] #[.pointer (some ⟨gturn2_0, 0, none⟩)] := (hk90 1 rfl).trans e88_1
  have e90_5 : a90.eval (.tmp 5) = .slice A86 r85.length cA86 := (hk90 5 rfl).trans e88_5
  obtain ⟨(f_10 : a90.eval (.tmp 10) = .slice Al1 l1.length cl1), (f_11 : a90.eval (.tmp 11) = .int .i64 (l1.length : Int)), (f_12 : a90.eval (.tmp 12) = .int .i64 0), -⟩ := hf90 [0, 1, 2] rfl
  have e90_10 := f_10
  have e90_11 := f_11
  have e90_12 := f_12
  have hX90 := Evo.step hX88 (fun _ => Nat.le_refl 0) hE90 rfl
  have b90_Al1 := RdO.evo rfl hE90 b88_Al1
  have b90_gturn2_0 := BlkO.evo (by decide) hE90 b88_gturn2_0
  have b90_A86 := RwO.evo rfl hE90 b88_A86
  refine fl_block (fun Q91 hn91 hx91 hp91 => ?_)
  refine fl_loop (body := (fun s => ring_each_Scaled_1_b1 l1 turn2_0 s.1 s.2)) (z := r) (show loopO _ _ = _ from hs) (fun (s : (List (Int × Int)) × Int) a wx => match s with | (out112, x114) => ∃ (ox : Own), a.defers = [] ∧ a.tmps.size = 25 ∧ a.eval (.tmp 1) = .func (.func 45) #[] #[.pointer (some ⟨gturn2_0, 0, none⟩)] ∧ a.eval (.tmp 5) = .slice A86 out112.length cA86 ∧ a.eval (.tmp 10) = .slice Al1 l1.length cl1 ∧ a.eval (.tmp 11) = .int .i64 (l1.length : Int) ∧ a.eval (.tmp 12) = .int .i64 x114 ∧ Evo [] (fun _ => 0) ox w wx ∧ BlkO ox 0 wx gturn2_0 tturn2_0 #[.int .i64 turn2_0] ∧ RwO ox 113 [] wx 32 R32 A86 cA86 out112 ∧ RdO ox [0] wx R32 Al1 cl1 l1) ?_ ?_
  · exact ⟨(rl [(87, 113)] own90), hd90, hz90, e90_1, e90_5, e90_10, e90_11, e90_12, (Evo.rl_ hX90 (fun _ => Nat.le_refl 0) rfl), (BlkO.rl_ (mm := [(87, 113)]) b90_gturn2_0), (RwO.rl_ (mm := [(87, 113)]) b90_A86), (RdO.rl_ (mm := [(87, 113)]) b90_Al1)⟩
  · rintro ⟨out112, x114⟩ zz135 a135 w135 ⟨own135, hd136, hz136, e136_1, e136_5, e136_10, e136_11, e136_12, hE136, b136_gturn2_0, b136_A86, b136_Al1⟩ hs Q135 hn135 hp135 hz135
    have hs : ring_each_Scaled_1_b1 l1 turn2_0 out112 x114 = some zz135 := hs
    refine rg_plain_seq (n := 25) (rs := []) (own0 := own135) (K := [])
        (bs := [0])
        (ds := [⟨[], [12, 11], [], Fct.val 13 (.bool (decide (x114 < (l1.length : Int))))⟩]) (by kernel_rfl) hz136 hd136 (fun _ h => nomatch h) ?_ ?_
    · refine steps_cons (fun own a wx hf hsl hE => ?_) ?_
      · obtain ⟨s_12, s_11, -⟩ := hsl
        exact sg_plain rfl rfl (or_lss (s_12.trans e136_12) (s_11.trans e136_11) rfl)
      exact steps_nil
    intro own137 a137 w137 hd137 hz137 hk137 hf137 hE137
    have e137_1 : a137.eval (.tmp 1) = .func (.func 45) #[] #[.pointer (some ⟨gturn2_0, 0, none⟩)] := (hk137 1 rfl).trans e136_1
    have e137_5 : a137.eval (.tmp 5) = .slice A86 out112.length cA86 := (hk137 5 rfl).trans e136_5
    have e137_10 : a137.eval (.tmp 10) = .slice Al1 l1.length cl1 := (hk137 10 rfl).trans e136_10
    have e137_11 : a137.eval (.tmp 11) = .int .i64 (l1.length : Int) := (hk137 11 rfl).trans e136_11
    have e137_12 : a137.eval (.tmp 12) = .int .i64 x114 := (hk137 12 rfl).trans e136_12
    obtain ⟨(f_13 : a137.eval (.tmp 13) = .bool (decide (x114 < (l1.length : Int)))), -⟩ := hf137 [0] rfl
    have e137_13 := f_13
    have hX137 := Evo.step hE136 (fun _ => Nat.le_refl 0) hE137 rfl
    have b137_gturn2_0 := BlkO.evo (by decide) hE137 b136_gturn2_0
    have b137_A86 := RwO.evo rfl hE137 b136_A86
    have b137_Al1 := RdO.evo rfl hE137 b136_Al1
    refine fl_seq (fun Q138 hn138 hp138 => ?_)
    refine fl_cond e137_13 hs (fun c139 hs => ?_) (fun c139 hs => ?_)
    · refine fl_skip ?_
      refine hn138 _ _ ?_
      refine fl_seq (fun Q140 hn140 hp140 => ?_)
      refine fl_block (fun Q141 hn141 hx141 hp141 => ?_)
      obtain ⟨x142, hx142, hs⟩ := obind hs
      refine rg_plain_seq (n := 25) (rs := []) (own0 := own137) (K := [144])
          (bs := [0, 0, 2, 0, 15, 31])
          (ds := [⟨[], [12], [], Fct.val 14 (.int .i64 x114)⟩,
          ⟨[], [10, 12], [], Fct.val 15 (.pointer (some ((adr Al1).add ((x114 : Int).toNat * R32.s))))⟩,
          ⟨[1], [], [], Fct.val 16 (.agg #[.int .i64 x142.1, .int .i64 x142.2])⟩,
          ⟨[], [], [], Fct.blk 144 7 (fun g => .pointer (some ⟨g, 0, none⟩)) 32 #[.int .i64 0, .int .i64 0]⟩,
          ⟨[0], [], [], Fct.val 6 (.int .i64 x114)⟩,
          ⟨[3, 2], [], [144], Fct.blk 145 7 (fun g => .pointer (some ⟨g, 0, none⟩)) 32 #[.int .i64 x142.1, .int .i64 x142.2]⟩]) (by kernel_rfl) hz137 hd137 (fun _ h => nomatch h) ?_ ?_
      · refine steps_cons (fun own a wx hf hsl hE => ?_) ?_
        · obtain ⟨s_12, -⟩ := hsl
          exact sg_plain rfl rfl (or_move (s_12.trans e137_12))
        refine steps_cons (fun own a wx hf hsl hE => ?_) ?_
        · obtain ⟨s_10, s_12, -⟩ := hsl
          exact sg_plain rfl rfl (or_index (R := R32) (l := l1) tl22 (s_10.trans e137_10) (s_12.trans e137_12) (RdO.some_ b137_Al1 hx142) hx142)
        refine steps_cons (fun own a wx hf hsl hE => ?_) ?_
        · obtain ⟨(f_15 : a.eval (.tmp 15) = .pointer (some ((adr Al1).add ((x114 : Int).toNat * R32.s)))), -⟩ := hf
          exact sg_plain rfl rfl (or_load (l := E32.f x142) ta32 f_15 (RdO.cells (F := E32) (RdO.evo rfl hE b137_Al1) hx142) rfl)
        refine steps_cons (fun own a wx hf hsl hE => ?_) ?_
        · exact sg_plain rfl rfl (or_new [] rfl rfl trivial (by kernel_rfl))
        refine steps_cons (fun own a wx hf hsl hE => ?_) ?_
        · obtain ⟨(f_14 : a.eval (.tmp 14) = .int .i64 x114), -⟩ := hf
          exact sg_plain rfl rfl (or_assign f_14)
        refine steps_cons (fun own a wx hf hsl hE => ?_) ?_
        · obtain ⟨⟨g143, (f_7 : a.eval (.tmp 7) = .pointer (some ⟨g143, 0, none⟩)), (b_g143 : BlkO own 144 wx g143 32 #[.int .i64 0, .int .i64 0])⟩, (f_16 : a.eval (.tmp 16) = .agg #[.int .i64 x142.1, .int .i64 x142.2]), -⟩ := hf
          exact sg_plain rfl rfl (or_store (l := #[.int .i64 x142.1, .int .i64 x142.2]) (lab := 144) (lab2 := 145) ts32 f_7 f_16 b_g143 (by simp) (by kernel_rfl) (mem_of rfl) (by decide) (by kernel_rfl) (fun own' a' w' ha hb => ⟨_, (ha 7).trans f_7, hb⟩))
        exact steps_nil
      intro own146 a146 w146 hd146 hz146 hk146 hf146 hE146
      have e146_1 : a146.eval (.tmp 1) = .func (.func 45) #[] #[.pointer (some ⟨gturn2_0, 0, none⟩)] := (hk146 1 rfl).trans e137_1
      have e146_5 : a146.eval (.tmp 5) = .slice A86 out112.length cA86 := (hk146 5 rfl).trans e137_5
      have e146_10 : a146.eval (.tmp 10) = .slice Al1 l1.length cl1 := (hk146 10 rfl).trans e137_10
      have e146_11 : a146.eval (.tmp 11) = .int .i64 (l1.length : Int) := (hk146 11 rfl).trans e137_11
      have e146_12 : a146.eval (.tmp 12) = .int .i64 x114 := (hk146 12 rfl).trans e137_12
      obtain ⟨⟨g143, (f_7 : a146.eval (.tmp 7) = .pointer (some ⟨g143, 0, none⟩)), (b_g143 : BlkO own146 145 w146 g143 32 #[.int .i64 x142.1, .int .i64 x142.2])⟩, (f_6 : a146.eval (.tmp 6) = .int .i64 x114), -⟩ := hf146 [5, 4] rfl
      have e146_7 := f_7
      have e146_6 := f_6
      have hX146 := Evo.step hX137 (fun _ => Nat.le_refl 0) hE146 rfl
      have b146_gturn2_0 := BlkO.evo (by decide) hE146 b137_gturn2_0
      have b146_A86 := RwO.evo rfl hE146 b137_A86
      have b146_Al1 := RdO.evo rfl hE146 b137_Al1
      have b146_g143 := b_g143
      obtain ⟨r149, hr149, hs⟩ := obind hs
      obtain ⟨x150, hx150, hs⟩ := obind hs
      obtain ⟨l151, hl151, hs⟩ := obind hs
      refine rg_plain (n := 25) (rs := [Fct.rowAt 113 [] 32 R32 A86 cA86 out112]) (own0 := own146) (K := [113])
          (bs := [0, 0, 0, 0, 12, 31, 63])
          (ds := [⟨[], [5], [], Fct.val 17 (.slice A86 out112.length cA86)⟩,
          ⟨[], [6], [], Fct.val 18 (.int .i64 x114)⟩,
          ⟨[], [1], [], Fct.val 19 (.func (.func 45) #[] #[.pointer (some ⟨gturn2_0, 0, none⟩)])⟩,
          ⟨[], [7], [], Fct.val 20 (.agg #[.int .i64 x142.1, .int .i64 x142.2])⟩,
          ⟨[2, 3], [], [], Fct.val 21 (.agg #[.int .i64 r149.1, .int .i64 r149.2])⟩,
          ⟨[0, 1], [], [], Fct.val 22 (.pointer (some ((adr A86).add ((x114 : Int).toNat * R32.s))))⟩,
          ⟨[5, 4, 7], [], [113], Fct.rowAt 152 [] 32 R32 A86 cA86 l151⟩]) (by kernel_rfl) hz146 hd146 (by simp only [List.forall_mem_cons]; exact ⟨b146_A86, fun _ h => nomatch h⟩) ?_ ?_
      · refine steps_cons (fun own a wx hf hsl hE => ?_) ?_
        · obtain ⟨s_5, -⟩ := hsl
          exact sg_plain rfl rfl (or_move (s_5.trans e146_5))
        refine steps_cons (fun own a wx hf hsl hE => ?_) ?_
        · obtain ⟨s_6, -⟩ := hsl
          exact sg_plain rfl rfl (or_move (s_6.trans e146_6))
        refine steps_cons (fun own a wx hf hsl hE => ?_) ?_
        · obtain ⟨s_1, -⟩ := hsl
          exact sg_plain rfl rfl (or_move (s_1.trans e146_1))
        refine steps_cons (fun own a wx hf hsl hE => ?_) ?_
        · obtain ⟨s_7, -⟩ := hsl
          exact sg_plain rfl rfl (or_load (l := [.int .i64 x142.1, .int .i64 x142.2]) ta32 (s_7.trans e146_7) (Blk.cellsFrom (BlkO.evo (by decide) hE b146_g143).2 0 rfl) rfl)
        refine steps_cons (fun own a wx hf hsl hE => ?_) ?_
        · obtain ⟨(f_19 : a.eval (.tmp 19) = .func (.func 45) #[] #[.pointer (some ⟨gturn2_0, 0, none⟩)]), (f_20 : a.eval (.tmp 20) = .agg #[.int .i64 x142.1, .int .i64 x142.2]), -⟩ := hf
          exact sg_plain rfl rfl (or_callf cf45 f_19 (args1 f_20) rfl (ring_Scaled_1_w _ x142 turn2_0 gturn2_0 tturn2_0 (BlkO.zero_ (BlkO.evo (by decide) hE b146_gturn2_0)) r149 hr149) post_val)
        refine steps_cons (fun own a wx hf hsl hE => ?_) ?_
        · obtain ⟨(f_17 : a.eval (.tmp 17) = .slice A86 out112.length cA86), (f_18 : a.eval (.tmp 18) = .int .i64 x114), -⟩ := hf
          exact sg_plain rfl rfl (or_index (R := R32) (l := out112) tl22 f_17 f_18 (RdO.some_ (RwO.rd b146_A86) hx150) hx150)
        refine steps_cons (fun own a wx hf hsl hE => ?_) ?_
        · obtain ⟨(f_22 : a.eval (.tmp 22) = .pointer (some ((adr A86).add ((x114 : Int).toNat * R32.s)))), (f_21 : a.eval (.tmp 21) = .agg #[.int .i64 r149.1, .int .i64 r149.2]), (b_A86 : RwO own 113 [] wx 32 R32 A86 cA86 out112), -⟩ := hf
          exact sg_plain rfl rfl (or_storeIx (R := R32) (lab := 113) (lab2 := 152) (cs := [.int .i64 r149.1, .int .i64 r149.2]) (v := r149) ts32 f_22 f_21 rfl (Rep.fl_flat _) (fun _ _ => rfl) b_A86 hl151 (mem_of rfl) (by decide) (fun own' a' w' ha hb => hb))
        exact steps_nil
      intro own153 a153 w153 hd153 hz153 hk153 hf153 hE153
      have e153_1 : a153.eval (.tmp 1) = .func (.func 45) #[] #[.pointer (some ⟨gturn2_0, 0, none⟩)] := (hk153 1 rfl).trans e146_1
      have e153_5 : a153.eval (.tmp 5) = .slice A86 out112.length cA86 := (hk153 5 rfl).trans e146_5
      have e153_10 : a153.eval (.tmp 10) = .slice Al1 l1.length cl1 := (hk153 10 rfl).trans e146_10
      have e153_11 : a153.eval (.tmp 11) = .int .i64 (l1.length : Int) := (hk153 11 rfl).trans e146_11
      have e153_12 : a153.eval (.tmp 12) = .int .i64 x114 := (hk153 12 rfl).trans e146_12
      obtain ⟨(b_A86 : RwO own153 152 [] w153 32 R32 A86 cA86 l151), -⟩ := hf153 [6] rfl
      have hX153 := Evo.step hX146 (fun _ => Nat.le_refl 0) hE153 rfl
      have b153_gturn2_0 := BlkO.evo (by decide) hE153 b146_gturn2_0
      have b153_Al1 := RdO.evo rfl hE153 b146_Al1
      have b153_A86 := b_A86
      have m154_5 : a153.eval (.tmp 5) = .slice A86 l151.length cA86 := e153_5.trans (by rw [put_len hl151])
      refine hn141 _ _ ?_
      refine hn140 _ _ ?_
      refine rg_plain (n := 25) (rs := []) (own0 := own153) (K := [])
          (bs := [0, 1])
          (ds := [⟨[], [12], [], Fct.val 23 (.int .i64 (ad x114 1))⟩,
          ⟨[0], [], [], Fct.val 12 (.int .i64 (ad x114 1))⟩]) (by kernel_rfl) hz153 hd153 (fun _ h => nomatch h) ?_ ?_
      · refine steps_cons (fun own a wx hf hsl hE => ?_) ?_
        · obtain ⟨s_12, -⟩ := hsl
          exact sg_plain rfl rfl (or_add (s_12.trans e153_12) rfl rfl)
        refine steps_cons (fun own a wx hf hsl hE => ?_) ?_
        · obtain ⟨(f_23 : a.eval (.tmp 23) = .int .i64 (ad x114 1)), -⟩ := hf
          exact sg_plain rfl rfl (or_move f_23)
        exact steps_nil
      intro own155 a155 w155 hd155 hz155 hk155 hf155 hE155
      have e155_1 : a155.eval (.tmp 1) = .func (.func 45) #[] #[.pointer (some ⟨gturn2_0, 0, none⟩)] := (hk155 1 rfl).trans e153_1
      have e155_5 : a155.eval (.tmp 5) = .slice A86 l151.length cA86 := (hk155 5 rfl).trans m154_5
      have e155_10 : a155.eval (.tmp 10) = .slice Al1 l1.length cl1 := (hk155 10 rfl).trans e153_10
      have e155_11 : a155.eval (.tmp 11) = .int .i64 (l1.length : Int) := (hk155 11 rfl).trans e153_11
      obtain ⟨(f_12 : a155.eval (.tmp 12) = .int .i64 (ad x114 1)), -⟩ := hf155 [1] rfl
      have e155_12 := f_12
      have hX155 := Evo.step hX153 (fun _ => Nat.le_refl 0) hE155 rfl
      have b155_gturn2_0 := BlkO.evo (by decide) hE155 b153_gturn2_0
      have b155_Al1 := RdO.evo rfl hE155 b153_Al1
      have b155_A86 := RwO.evo rfl hE155 b153_A86
      exact hn135 _ _ _ hs ⟨(rl [(152, 113)] own155), hd155, hz155, e155_1, e155_5, e155_10, e155_11, e155_12, (Evo.rl_ hX155 (fun _ => Nat.le_refl 0) rfl), (BlkO.rl_ (mm := [(152, 113)]) b155_gturn2_0), (RwO.rl_ (mm := [(152, 113)]) b155_A86), (RdO.rl_ (mm := [(152, 113)]) b155_Al1)⟩
    refine fl_exit ?_
    refine hp138 _ _ _ rfl ?_
    replace hs := hz135 _ hs
    refine hp135 _ _ _ rfl ?_
    refine hx91 _ _ ?_
    refine hn89 _ _ ?_
    refine rg_plain_seq (n := 25) (rs := []) (own0 := own137) (K := [])
        (bs := [0, 1])
        (ds := [⟨[], [5], [], Fct.val 24 (.slice A86 out112.length cA86)⟩,
        ⟨[0], [], [], Fct.val 4 (.slice A86 out112.length cA86)⟩]) (by kernel_rfl) hz137 hd137 (fun _ h => nomatch h) ?_ ?_
    · refine steps_cons (fun own a wx hf hsl hE => ?_) ?_
      · obtain ⟨s_5, -⟩ := hsl
        exact sg_plain rfl rfl (or_move (s_5.trans e137_5))
      refine steps_cons (fun own a wx hf hsl hE => ?_) ?_
      · obtain ⟨(f_24 : a.eval (.tmp 24) = .slice A86 out112.length cA86), -⟩ := hf
        exact sg_plain rfl rfl (or_assign f_24)
      exact steps_nil
    intro own156 a156 w156 hd156 hz156 hk156 hf156 hE156
    obtain ⟨(f_4 : a156.eval (.tmp 4) = .slice A86 out112.length cA86), -⟩ := hf156 [1] rfl
    have e156_4 := f_4
    have hX156 := Evo.step hX137 (fun _ => Nat.le_refl 0) hE156 rfl
    have b156_A86 := RwO.evo rfl hE156 b137_A86
    refine fl_ret ?_
    obtain rfl := (osome hs).symm
    exact hret _ _ _ _ (.inl rfl) hd156 (results1_ rfl (RVal.tmp_ e156_4)) ⟨(rl [(113, 1)] own156), (A86, cA86), rfl, (Evo.rl_ hX156 (fun _ => Nat.le_refl 0) rfl), (RwO.rl_ (mm := [(113, 1)]) b156_A86)⟩

theorem ring_Scaled_w (w : World) (l1 : List (Int × Int)) (Al1 : Option Addr) (cl1 : Nat) (k2 : Int) (hl1 : RdO (fun _ => 0) [0] w R32 Al1 cl1 l1) (r : List (Int × Int)) (hs : ring_Scaled l1 k2 = some r) :
    Calls Try.prog 19 #[.slice Al1 l1.length cl1, .int .i64 k2] w fun e w' => ∃ (own' : Own) (x : Option Addr × Nat), e = .returned (.slice x.1 r.length x.2) ∧ Evo [] (fun _ => 0) own' w w' ∧ RwO own' 1 [] w' 32 R32 x.1 x.2 r := by
  refine fl_enter (n := 8) rfl rfl rfl (Nat.le_of_ble_eq_true rfl) ?_
  intro a0 Q hd0 hz0 harg hret
  have ha0 := harg 0 _ rfl
  have ha1 := harg 1 _ rfl
  clear harg
  have hE0 : Evo [] (fun _ => 0) (fun _ => 0) w w := Evo.refl _ _ _
  refine rg_plain_seq (n := 8) (rs := []) (own0 := (fun _ => 0)) (K := [])
      (bs := [0, 0])
      (ds := [⟨[], [1], [], Fct.blk 19 3 (fun g => .pointer (some ⟨g, 0, none⟩)) 3 #[.int .i64 k2]⟩,
      ⟨[], [], [], Fct.val 4 (.slice none 0 0)⟩]) (by kernel_rfl) hz0 hd0 (fun _ h => nomatch h) ?_ ?_
  · refine steps_cons (fun own a wx hf hsl hE => ?_) ?_
    · obtain ⟨s_1, -⟩ := hsl
      exact sg_plain rfl rfl (or_new [(1, .int .i64 k2)] rfl rfl ⟨(s_1.trans ha1), trivial⟩ (by kernel_rfl))
    refine steps_cons (fun own a wx hf hsl hE => ?_) ?_
    · exact sg_plain rfl rfl (or_assign rfl)
    exact steps_nil
  intro own20 a20 w20 hd20 hz20 hk20 hf20 hE20
  have e20_0 : a20.eval (.tmp 0) = .slice Al1 l1.length cl1 := (hk20 0 rfl).trans ha0
  obtain ⟨⟨g18, (f_3 : a20.eval (.tmp 3) = .pointer (some ⟨g18, 0, none⟩)), (b_g18 : BlkO own20 19 w20 g18 3 #[.int .i64 k2])⟩, -⟩ := hf20 [0] rfl
  have e20_3 := f_3
  have hX20 := Evo.step hE0 (fun _ => Nat.le_refl 0) hE20 rfl
  have b20_Al1 := RdO.evo rfl hE20 hl1
  have b20_g18 := b_g18
  obtain ⟨r21, hr21, hs⟩ := obind hs
  refine rg_plain_seq (n := 8) (rs := []) (own0 := own20) (K := [])
      (bs := [0, 0, 3, 7])
      (ds := [⟨[], [0], [], Fct.val 5 (.slice Al1 l1.length cl1)⟩,
      ⟨[], [3], [], Fct.val 6 (.func (.func 45) #[] #[.pointer (some ⟨g18, 0, none⟩)])⟩,
      ⟨[0, 1], [], [], Fct.row 23 [] 7 32 R32 r21⟩,
      ⟨[2], [], [], Fct.rel [4, 7] (fun l => ∀ (A22 : Option Addr) (cA22 : Nat), l.getD 1 undef = .slice A22 r21.length cA22 → l.getD 0 undef = .slice A22 r21.length cA22)⟩]) (by kernel_rfl) hz20 hd20 (fun _ h => nomatch h) ?_ ?_
  · refine steps_cons (fun own a wx hf hsl hE => ?_) ?_
    · obtain ⟨s_0, -⟩ := hsl
      exact sg_plain rfl rfl (or_move (s_0.trans e20_0))
    refine steps_cons (fun own a wx hf hsl hE => ?_) ?_
    · obtain ⟨s_3, -⟩ := hsl
      exact sg_plain rfl rfl (or_k [(3, .pointer (some ⟨g18, 0, none⟩))] rfl rfl ⟨(s_3.trans e20_3), trivial⟩ (by kernel_rfl))
    refine steps_cons (fun own a wx hf hsl hE => ?_) ?_
    · obtain ⟨(f_5 : a.eval (.tmp 5) = .slice Al1 l1.length cl1), (f_6 : a.eval (.tmp 6) = .func (.func 45) #[] #[.pointer (some ⟨g18, 0, none⟩)]), -⟩ := hf
      exact sg_plain rfl rfl (or_call cf43 (args2 f_5 f_6) (ring_each_Scaled_1_w _ l1 Al1 cl1 k2 g18 3 (RdO.zero (RdO.evo rfl hE b20_Al1)) (BlkO.zero_ (BlkO.evo (by decide) hE b20_g18)) r21 hr21) (post_row (m' := (look0 [(1, 23)])) (.inl (Rep.fl_flat _)) rfl rfl (fun _ => rfl)))
    refine steps_cons (fun own a wx hf hsl hE => ?_) ?_
    · obtain ⟨⟨⟨A22, cA22⟩, (f_7 : a.eval (.tmp 7) = .slice A22 r21.length cA22), (b_A22 : RwO own 23 [] wx 32 R32 A22 cA22 r21)⟩, -⟩ := hf
      exact sg_plain rfl rfl (or_mono (f := Fct.val 4 (.slice A22 r21.length cA22)) (or_assign f_7) (fun own' a' w' v' hp h => fun _ _ h0' => by cases (f_7.symm.trans ((hp.2 7 (by decide)).symm.trans h0')); exact h))
    exact steps_nil
  intro own24 a24 w24 hd24 hz24 hk24 hf24 hE24
  obtain ⟨⟨⟨A22, cA22⟩, (f_7 : a24.eval (.tmp 7) = .slice A22 r21.length cA22), (b_A22 : RwO own24 23 [] w24 32 R32 A22 cA22 r21)⟩, (q_4 : ∀ (A22 : Option Addr) (cA22 : Nat), a24.eval (.tmp 7) = .slice A22 r21.length cA22 → a24.eval (.tmp 4) = .slice A22 r21.length cA22), -⟩ := hf24 [2, 3] rfl
  have f_4 := q_4 _ _ f_7
  have e24_4 := f_4
  have hX24 := Evo.step hX20 (fun _ => Nat.le_refl 0) hE24 rfl
  have b24_A22 := b_A22
  refine fl_ret ?_
  obtain rfl := (osome hs).symm
  exact hret _ _ _ _ (.inl rfl) hd24 (results1_ rfl (RVal.tmp_ e24_4)) ⟨(rl [(23, 1)] own24), (A22, cA22), rfl, (Evo.rl_ hX24 (fun _ => Nat.le_refl 0) rfl), (RwO.rl_ (mm := [(23, 1)]) b24_A22)⟩

theorem law03_moved_w (w : World) (p1 : Int × Int) (x2 : Int × Int) (r : Int × Int) (hs : law03_moved p1 x2 = some r) :
    Calls Try.prog 20 #[.agg #[.int .i64 p1.1, .int .i64 p1.2], .agg #[.int .i64 x2.1, .int .i64 x2.2]] w fun e w' => ∃ own' : Own, e = .returned (.agg #[.int .i64 r.1, .int .i64 r.2]) ∧ Evo [] (fun _ => 0) own' w w' := by
  refine fl_enter (n := 16) rfl rfl rfl (Nat.le_of_ble_eq_true rfl) ?_
  intro a0 Q hd0 hz0 harg hret
  have ha0 := harg 0 _ rfl
  have ha1 := harg 1 _ rfl
  clear harg
  have hE0 : Evo [] (fun _ => 0) (fun _ => 0) w w := Evo.refl _ _ _
  refine rg_plain_seq (n := 16) (rs := []) (own0 := (fun _ => 0)) (K := [])
      (bs := [0, 0, 0])
      (ds := [⟨[], [0], [], Fct.blk 21 2 (fun g => .pointer (some ⟨g, 0, none⟩)) 32 #[.int .i64 p1.1, .int .i64 p1.2]⟩,
      ⟨[], [1], [], Fct.blk 23 3 (fun g => .pointer (some ⟨g, 0, none⟩)) 32 #[.int .i64 x2.1, .int .i64 x2.2]⟩,
      ⟨[], [], [], Fct.blk 25 4 (fun g => .pointer (some ⟨g, 0, none⟩)) 32 #[.int .i64 0, .int .i64 0]⟩]) (by kernel_rfl) hz0 hd0 (fun _ h => nomatch h) ?_ ?_
  · refine steps_cons (fun own a wx hf hsl hE => ?_) ?_
    · obtain ⟨s_0, -⟩ := hsl
      exact sg_plain rfl rfl (or_new [(0, .agg #[.int .i64 p1.1, .int .i64 p1.2])] rfl rfl ⟨(s_0.trans ha0), trivial⟩ (by kernel_rfl))
    refine steps_cons (fun own a wx hf hsl hE => ?_) ?_
    · obtain ⟨s_1, -⟩ := hsl
      exact sg_plain rfl rfl (or_new [(1, .agg #[.int .i64 x2.1, .int .i64 x2.2])] rfl rfl ⟨(s_1.trans ha1), trivial⟩ (by kernel_rfl))
    refine steps_cons (fun own a wx hf hsl hE => ?_) ?_
    · exact sg_plain rfl rfl (or_new [] rfl rfl trivial (by kernel_rfl))
    exact steps_nil
  intro own26 a26 w26 hd26 hz26 hk26 hf26 hE26
  obtain ⟨⟨g20, (f_2 : a26.eval (.tmp 2) = .pointer (some ⟨g20, 0, none⟩)), (b_g20 : BlkO own26 21 w26 g20 32 #[.int .i64 p1.1, .int .i64 p1.2])⟩, ⟨g22, (f_3 : a26.eval (.tmp 3) = .pointer (some ⟨g22, 0, none⟩)), (b_g22 : BlkO own26 23 w26 g22 32 #[.int .i64 x2.1, .int .i64 x2.2])⟩, ⟨g24, (f_4 : a26.eval (.tmp 4) = .pointer (some ⟨g24, 0, none⟩)), (b_g24 : BlkO own26 25 w26 g24 32 #[.int .i64 0, .int .i64 0])⟩, -⟩ := hf26 [0, 1, 2] rfl
  have e26_2 := f_2
  have e26_3 := f_3
  have e26_4 := f_4
  have hX26 := Evo.step hE0 (fun _ => Nat.le_refl 0) hE26 rfl
  have b26_g20 := b_g20
  have b26_g22 := b_g22
  have b26_g24 := b_g24
  refine rg_plain_seq (n := 16) (rs := [Fct.at_ 25 g24 32 #[.int .i64 0, .int .i64 0]]) (own0 := own26) (K := [25])
      (bs := [0, 1, 0, 4, 15, 0, 32, 0, 128, 480, 1023, 2047])
      (ds := [⟨[], [2], [], Fct.val 5 (.pointer (some ⟨g20, 0, none⟩))⟩,
      ⟨[0], [], [], Fct.val 6 (.int .i64 p1.1)⟩,
      ⟨[], [3], [], Fct.val 7 (.pointer (some ⟨g22, 0, none⟩))⟩,
      ⟨[2], [], [], Fct.val 8 (.int .i64 x2.1)⟩,
      ⟨[1, 3], [], [], Fct.val 9 (.int .i64 (ad p1.1 x2.1))⟩,
      ⟨[], [2], [], Fct.val 10 (.pointer (some ⟨g20, 1, none⟩))⟩,
      ⟨[5], [], [], Fct.val 11 (.int .i64 p1.2)⟩,
      ⟨[], [3], [], Fct.val 12 (.pointer (some ⟨g22, 1, none⟩))⟩,
      ⟨[7], [], [], Fct.val 13 (.int .i64 x2.2)⟩,
      ⟨[6, 8], [], [], Fct.val 14 (.int .i64 (ad p1.2 x2.2))⟩,
      ⟨[4, 9], [], [], Fct.val 15 (.agg #[.int .i64 (ad p1.1 x2.1), .int .i64 (ad p1.2 x2.2)])⟩,
      ⟨[10, 12], [4], [25], Fct.at_ 27 g24 32 #[.int .i64 (ad p1.1 x2.1), .int .i64 (ad p1.2 x2.2)]⟩]) (by kernel_rfl) hz26 hd26 (by simp only [List.forall_mem_cons]; exact ⟨b26_g24, fun _ h => nomatch h⟩) ?_ ?_
  · refine steps_cons (fun own a wx hf hsl hE => ?_) ?_
    · obtain ⟨s_2, -⟩ := hsl
      exact sg_plain rfl rfl (or_field fo32_0 (s_2.trans e26_2) (by rfl))
    refine steps_cons (fun own a wx hf hsl hE => ?_) ?_
    · obtain ⟨(f_5 : a.eval (.tmp 5) = .pointer (some ⟨g20, 0, none⟩)), -⟩ := hf
      exact sg_plain rfl rfl (or_load1 to3 f_5 (Blk.at_ (BlkO.evo (by decide) hE b26_g20).2 0 rfl))
    refine steps_cons (fun own a wx hf hsl hE => ?_) ?_
    · obtain ⟨s_3, -⟩ := hsl
      exact sg_plain rfl rfl (or_field fo32_0 (s_3.trans e26_3) (by rfl))
    refine steps_cons (fun own a wx hf hsl hE => ?_) ?_
    · obtain ⟨(f_7 : a.eval (.tmp 7) = .pointer (some ⟨g22, 0, none⟩)), -⟩ := hf
      exact sg_plain rfl rfl (or_load1 to3 f_7 (Blk.at_ (BlkO.evo (by decide) hE b26_g22).2 0 rfl))
    refine steps_cons (fun own a wx hf hsl hE => ?_) ?_
    · obtain ⟨(f_6 : a.eval (.tmp 6) = .int .i64 p1.1), (f_8 : a.eval (.tmp 8) = .int .i64 x2.1), -⟩ := hf
      exact sg_plain rfl rfl (or_add f_6 f_8 rfl)
    refine steps_cons (fun own a wx hf hsl hE => ?_) ?_
    · obtain ⟨s_2, -⟩ := hsl
      exact sg_plain rfl rfl (or_field fo32_1 (s_2.trans e26_2) (by rfl))
    refine steps_cons (fun own a wx hf hsl hE => ?_) ?_
    · obtain ⟨(f_10 : a.eval (.tmp 10) = .pointer (some ⟨g20, 1, none⟩)), -⟩ := hf
      exact sg_plain rfl rfl (or_load1 to3 f_10 (Blk.at_ (BlkO.evo (by decide) hE b26_g20).2 1 rfl))
    refine steps_cons (fun own a wx hf hsl hE => ?_) ?_
    · obtain ⟨s_3, -⟩ := hsl
      exact sg_plain rfl rfl (or_field fo32_1 (s_3.trans e26_3) (by rfl))
    refine steps_cons (fun own a wx hf hsl hE => ?_) ?_
    · obtain ⟨(f_12 : a.eval (.tmp 12) = .pointer (some ⟨g22, 1, none⟩)), -⟩ := hf
      exact sg_plain rfl rfl (or_load1 to3 f_12 (Blk.at_ (BlkO.evo (by decide) hE b26_g22).2 1 rfl))
    refine steps_cons (fun own a wx hf hsl hE => ?_) ?_
    · obtain ⟨(f_11 : a.eval (.tmp 11) = .int .i64 p1.2), (f_13 : a.eval (.tmp 13) = .int .i64 x2.2), -⟩ := hf
      exact sg_plain rfl rfl (or_add f_11 f_13 rfl)
    refine steps_cons (fun own a wx hf hsl hE => ?_) ?_
    · obtain ⟨(f_9 : a.eval (.tmp 9) = .int .i64 (ad p1.1 x2.1)), (f_14 : a.eval (.tmp 14) = .int .i64 (ad p1.2 x2.2)), -⟩ := hf
      exact sg_plain rfl rfl (or_k [(9, .int .i64 (ad p1.1 x2.1)), (14, .int .i64 (ad p1.2 x2.2))] rfl rfl ⟨f_9, f_14, trivial⟩ (by kernel_rfl))
    refine steps_cons (fun own a wx hf hsl hE => ?_) ?_
    · obtain ⟨(f_15 : a.eval (.tmp 15) = .agg #[.int .i64 (ad p1.1 x2.1), .int .i64 (ad p1.2 x2.2)]), (b_g24 : BlkO own 25 wx g24 32 #[.int .i64 0, .int .i64 0]), -⟩ := hf
      obtain ⟨s_4, -⟩ := hsl
      exact sg_plain rfl rfl (or_store (l := #[.int .i64 (ad p1.1 x2.1), .int .i64 (ad p1.2 x2.2)]) (lab := 25) (lab2 := 27) ts32 (s_4.trans e26_4) f_15 b_g24 (by simp) (by kernel_rfl) (mem_of rfl) (by decide) (by kernel_rfl) (fun own' a' w' ha hb => hb))
    exact steps_nil
  intro own28 a28 w28 hd28 hz28 hk28 hf28 hE28
  have e28_4 : a28.eval (.tmp 4) = .pointer (some ⟨g24, 0, none⟩) := (hk28 4 rfl).trans e26_4
  obtain ⟨(b_g24 : BlkO own28 27 w28 g24 32 #[.int .i64 (ad p1.1 x2.1), .int .i64 (ad p1.2 x2.2)]), -⟩ := hf28 [11] rfl
  have hX28 := Evo.step hX26 (fun _ => Nat.le_refl 0) hE28 rfl
  have b28_g24 := b_g24
  refine fl_ret ?_
  obtain rfl := osome hs
  exact hret _ _ _ _ (.inl rfl) hd28 (results1_ rfl (RVal.cell_ e28_4 (run_loadVarAgg (l := [.int .i64 (ad p1.1 x2.1), .int .i64 (ad p1.2 x2.2)]) ta32 (Blk.cellsFrom b28_g24.2 0 rfl) rfl))) ⟨own28, rfl, hX28⟩

set_option maxHeartbeats 2000000 in
theorem law03_RingMoves_w (w : World) (l1 : List (Int × Int)) (Al1 : Option Addr) (cl1 : Nat) (p2 : Int × Int) (x3 : Int × Int) (b4 : Int × Int) (x5 : Int × Int) (k6 : Int) (hl1 : RdO (fun _ => 0) [0] w R32 Al1 cl1 l1) (r : Bool) (hs : law03_RingMoves l1 p2 x3 b4 x5 k6 = some r) :
    Calls Try.prog 5 #[.slice Al1 l1.length cl1, .agg #[.int .i64 p2.1, .int .i64 p2.2], .agg #[.int .i64 x3.1, .int .i64 x3.2], .agg #[.int .i64 b4.1, .int .i64 b4.2], .agg #[.int .i64 x5.1, .int .i64 x5.2], .int .i64 k6] w fun e w' => ∃ own' : Own, e = .returned (.bool r) ∧ Evo [] (fun _ => 0) own' w w' := by
  refine fl_enter (n := 203) rfl rfl rfl (Nat.le_of_ble_eq_true rfl) ?_
  intro a0 Q hd0 hz0 harg hret
  have ha0 := harg 0 _ rfl
  have ha1 := harg 1 _ rfl
  have ha2 := harg 2 _ rfl
  have ha3 := harg 3 _ rfl
  have ha4 := harg 4 _ rfl
  have ha5 := harg 5 _ rfl
  clear harg
  have hE0 : Evo [] (fun _ => 0) (fun _ => 0) w w := Evo.refl _ _ _
  refine rg_plain_seq (n := 203) (rs := []) (own0 := (fun _ => 0)) (K := [])
      (bs := [0, 0, 0, 0, 0])
      (ds := [⟨[], [1], [], Fct.blk 135 7 (fun g => .pointer (some ⟨g, 0, none⟩)) 32 #[.int .i64 p2.1, .int .i64 p2.2]⟩,
      ⟨[], [2], [], Fct.blk 137 8 (fun g => .pointer (some ⟨g, 0, none⟩)) 32 #[.int .i64 x3.1, .int .i64 x3.2]⟩,
      ⟨[], [3], [], Fct.blk 139 9 (fun g => .pointer (some ⟨g, 0, none⟩)) 32 #[.int .i64 b4.1, .int .i64 b4.2]⟩,
      ⟨[], [4], [], Fct.blk 141 10 (fun g => .pointer (some ⟨g, 0, none⟩)) 32 #[.int .i64 x5.1, .int .i64 x5.2]⟩,
      ⟨[], [], [], Fct.val 12 (.bool false)⟩]) (by kernel_rfl) hz0 hd0 (fun _ h => nomatch h) ?_ ?_
  · refine steps_cons (fun own a wx hf hsl hE => ?_) ?_
    · obtain ⟨s_1, -⟩ := hsl
      exact sg_plain rfl rfl (or_new [(1, .agg #[.int .i64 p2.1, .int .i64 p2.2])] rfl rfl ⟨(s_1.trans ha1), trivial⟩ (by kernel_rfl))
    refine steps_cons (fun own a wx hf hsl hE => ?_) ?_
    · obtain ⟨s_2, -⟩ := hsl
      exact sg_plain rfl rfl (or_new [(2, .agg #[.int .i64 x3.1, .int .i64 x3.2])] rfl rfl ⟨(s_2.trans ha2), trivial⟩ (by kernel_rfl))
    refine steps_cons (fun own a wx hf hsl hE => ?_) ?_
    · obtain ⟨s_3, -⟩ := hsl
      exact sg_plain rfl rfl (or_new [(3, .agg #[.int .i64 b4.1, .int .i64 b4.2])] rfl rfl ⟨(s_3.trans ha3), trivial⟩ (by kernel_rfl))
    refine steps_cons (fun own a wx hf hsl hE => ?_) ?_
    · obtain ⟨s_4, -⟩ := hsl
      exact sg_plain rfl rfl (or_new [(4, .agg #[.int .i64 x5.1, .int .i64 x5.2])] rfl rfl ⟨(s_4.trans ha4), trivial⟩ (by kernel_rfl))
    refine steps_cons (fun own a wx hf hsl hE => ?_) ?_
    · exact sg_plain rfl rfl (or_assign rfl)
    exact steps_nil
  intro own142 a142 w142 hd142 hz142 hk142 hf142 hE142
  have e142_0 : a142.eval (.tmp 0) = .slice Al1 l1.length cl1 := (hk142 0 rfl).trans ha0
  have e142_5 : a142.eval (.tmp 5) = .int .i64 k6 := (hk142 5 rfl).trans ha5
  obtain ⟨⟨g134, (f_7 : a142.eval (.tmp 7) = .pointer (some ⟨g134, 0, none⟩)), (b_g134 : BlkO own142 135 w142 g134 32 #[.int .i64 p2.1, .int .i64 p2.2])⟩, ⟨g136, (f_8 : a142.eval (.tmp 8) = .pointer (some ⟨g136, 0, none⟩)), (b_g136 : BlkO own142 137 w142 g136 32 #[.int .i64 x3.1, .int .i64 x3.2])⟩, ⟨g138, (f_9 : a142.eval (.tmp 9) = .pointer (some ⟨g138, 0, none⟩)), (b_g138 : BlkO own142 139 w142 g138 32 #[.int .i64 b4.1, .int .i64 b4.2])⟩, ⟨g140, (f_10 : a142.eval (.tmp 10) = .pointer (some ⟨g140, 0, none⟩)), (b_g140 : BlkO own142 141 w142 g140 32 #[.int .i64 x5.1, .int .i64 x5.2])⟩, -⟩ := hf142 [0, 1, 2, 3] rfl
  have e142_7 := f_7
  have e142_8 := f_8
  have e142_9 := f_9
  have e142_10 := f_10
  have hX142 := Evo.step hE0 (fun _ => Nat.le_refl 0) hE142 rfl
  have b142_Al1 := RdO.evo rfl hE142 hl1
  have b142_g134 := b_g134
  have b142_g136 := b_g136
  have b142_g138 := b_g138
  have b142_g140 := b_g140
  obtain ⟨r143, hr143, hs⟩ := obind hs
  refine rg_plain_seq (n := 203) (rs := []) (own0 := own142) (K := [])
      (bs := [0, 1, 3])
      (ds := [⟨[], [0], [], Fct.val 27 (.slice Al1 l1.length cl1)⟩,
      ⟨[0], [], [], Fct.mems [145, 146, 0] 28 (fun (x : Option Addr × Nat) => .slice x.1 r143.length x.2) (fun (x : Option Addr × Nat) own w => RdO own [145, 146, 0] w R32 x.1 x.2 r143) (fun hk he h => RdO.evo (hits_sub hk (by decide)) he h)⟩,
      ⟨[1], [], [], Fct.rel [0, 28] (fun l => ∀ (A144 : Option Addr) (cA144 : Nat), l.getD 1 undef = .slice A144 r143.length cA144 → l.getD 0 undef = .slice A144 r143.length cA144)⟩]) (by kernel_rfl) hz142 hd142 (fun _ h => nomatch h) ?_ ?_
  · refine steps_cons (fun own a wx hf hsl hE => ?_) ?_
    · obtain ⟨s_0, -⟩ := hsl
      exact sg_plain rfl rfl (or_move (s_0.trans e142_0))
    refine steps_cons (fun own a wx hf hsl hE => ?_) ?_
    · obtain ⟨(f_27 : a.eval (.tmp 27) = .slice Al1 l1.length cl1), -⟩ := hf
      exact sg_plain rfl rfl (or_call cf8 (args1 f_27) (law03_Cut_w _ (forth own (inL [0])) l1 Al1 cl1 inL_le (RdO.alias_ (La := [0]) (RdO.evo rfl hE b142_Al1) (by decide)) r143 hr143) (post_alias (La := [0]) (m' := (look0 [(1, 145), (2, 146)])) (fun own' w' a' x ho hsz h1 h => ⟨x, h1, RdO.backN_ ho hsz h (by decide) (by decide) (by decide)⟩)))
    refine steps_cons (fun own a wx hf hsl hE => ?_) ?_
    · obtain ⟨⟨⟨A144, cA144⟩, (f_28 : a.eval (.tmp 28) = .slice A144 r143.length cA144), (b_A144 : RdO own [145, 146, 0] wx R32 A144 cA144 r143)⟩, -⟩ := hf
      exact sg_plain rfl rfl (or_mono (f := Fct.val 0 (.slice A144 r143.length cA144)) (or_assign f_28) (fun own' a' w' v' hp h => fun _ _ h0' => by cases (f_28.symm.trans ((hp.2 28 (by decide)).symm.trans h0')); exact h))
    exact steps_nil
  intro own147 a147 w147 hd147 hz147 hk147 hf147 hE147
  have e147_5 : a147.eval (.tmp 5) = .int .i64 k6 := (hk147 5 rfl).trans e142_5
  have e147_7 : a147.eval (.tmp 7) = .pointer (some ⟨g134, 0, none⟩) := (hk147 7 rfl).trans e142_7
  have e147_8 : a147.eval (.tmp 8) = .pointer (some ⟨g136, 0, none⟩) := (hk147 8 rfl).trans e142_8
  have e147_9 : a147.eval (.tmp 9) = .pointer (some ⟨g138, 0, none⟩) := (hk147 9 rfl).trans e142_9
  have e147_10 : a147.eval (.tmp 10) = .pointer (some ⟨g140, 0, none⟩) := (hk147 10 rfl).trans e142_10
  obtain ⟨⟨⟨A144, cA144⟩, (f_28 : a147.eval (.tmp 28) = .slice A144 r143.length cA144), (b_A144 : RdO own147 [145, 146, 0] w147 R32 A144 cA144 r143)⟩, (q_0 : ∀ (A144 : Option Addr) (cA144 : Nat), a147.eval (.tmp 28) = .slice A144 r143.length cA144 → a147.eval (.tmp 0) = .slice A144 r143.length cA144), -⟩ := hf147 [1, 2] rfl
  have f_0 := q_0 _ _ f_28
  have e147_0 := f_0
  have hX147 := Evo.step hX142 (fun _ => Nat.le_refl 0) hE147 rfl
  have b147_g134 := BlkO.evo (by decide) hE147 b142_g134
  have b147_g136 := BlkO.evo (by decide) hE147 b142_g136
  have b147_g138 := BlkO.evo (by decide) hE147 b142_g138
  have b147_g140 := BlkO.evo (by decide) hE147 b142_g140
  have b147_A144 := b_A144
  obtain ⟨x148, hx148, hs⟩ := obind hs
  refine rg_plain_seq (n := 203) (rs := []) (own0 := own147) (K := [])
      (bs := [0, 1, 3, 7, 15, 31])
      (ds := [⟨[], [5], [], Fct.val 29 (.int .i64 k6)⟩,
      ⟨[0], [], [], Fct.val 30 (.int .u64 (IntKind.u64.wrap k6))⟩,
      ⟨[1], [], [], Fct.val 31 (.int .u64 x148)⟩,
      ⟨[2], [], [], Fct.val 32 (.int .i64 (IntKind.i64.wrap x148))⟩,
      ⟨[3], [], [], Fct.val 33 (.int .i64 (ad 2 (IntKind.i64.wrap x148)))⟩,
      ⟨[4], [], [], Fct.val 5 (.int .i64 (ad 2 (IntKind.i64.wrap x148)))⟩]) (by kernel_rfl) hz147 hd147 (fun _ h => nomatch h) ?_ ?_
  · refine steps_cons (fun own a wx hf hsl hE => ?_) ?_
    · obtain ⟨s_5, -⟩ := hsl
      exact sg_plain rfl rfl (or_move (s_5.trans e147_5))
    refine steps_cons (fun own a wx hf hsl hE => ?_) ?_
    · obtain ⟨(f_29 : a.eval (.tmp 29) = .int .i64 k6), -⟩ := hf
      exact sg_plain rfl rfl (or_conv f_29 tn3 tn37 rfl)
    refine steps_cons (fun own a wx hf hsl hE => ?_) ?_
    · obtain ⟨(f_30 : a.eval (.tmp 30) = .int .u64 (IntKind.u64.wrap k6)), -⟩ := hf
      exact sg_plain rfl rfl (or_rem f_30 rfl hx148)
    refine steps_cons (fun own a wx hf hsl hE => ?_) ?_
    · obtain ⟨(f_31 : a.eval (.tmp 31) = .int .u64 x148), -⟩ := hf
      exact sg_plain rfl rfl (or_conv f_31 tn37 tn3 rfl)
    refine steps_cons (fun own a wx hf hsl hE => ?_) ?_
    · obtain ⟨(f_32 : a.eval (.tmp 32) = .int .i64 (IntKind.i64.wrap x148)), -⟩ := hf
      exact sg_plain rfl rfl (or_add rfl f_32 rfl)
    refine steps_cons (fun own a wx hf hsl hE => ?_) ?_
    · obtain ⟨(f_33 : a.eval (.tmp 33) = .int .i64 (ad 2 (IntKind.i64.wrap x148))), -⟩ := hf
      exact sg_plain rfl rfl (or_assign f_33)
    exact steps_nil
  intro own149 a149 w149 hd149 hz149 hk149 hf149 hE149
  have e149_0 : a149.eval (.tmp 0) = .slice A144 r143.length cA144 := (hk149 0 rfl).trans e147_0
  have e149_7 : a149.eval (.tmp 7) = .pointer (some ⟨g134, 0, none⟩) := (hk149 7 rfl).trans e147_7
  have e149_8 : a149.eval (.tmp 8) = .pointer (some ⟨g136, 0, none⟩) := (hk149 8 rfl).trans e147_8
  have e149_9 : a149.eval (.tmp 9) = .pointer (some ⟨g138, 0, none⟩) := (hk149 9 rfl).trans e147_9
  have e149_10 : a149.eval (.tmp 10) = .pointer (some ⟨g140, 0, none⟩) := (hk149 10 rfl).trans e147_10
  obtain ⟨(f_5 : a149.eval (.tmp 5) = .int .i64 (ad 2 (IntKind.i64.wrap x148))), -⟩ := hf149 [5] rfl
  have e149_5 := f_5
  have hX149 := Evo.step hX147 (fun _ => Nat.le_refl 0) hE149 rfl
  have b149_g134 := BlkO.evo (by decide) hE149 b147_g134
  have b149_g136 := BlkO.evo (by decide) hE149 b147_g136
  have b149_g138 := BlkO.evo (by decide) hE149 b147_g138
  have b149_g140 := BlkO.evo (by decide) hE149 b147_g140
  have b149_A144 := RdO.evo rfl hE149 b147_A144
  obtain ⟨x152, hx152, hs⟩ := obind hs
  obtain ⟨x157, hx157, hs⟩ := obind hs
  refine rg_draw_seq g_mixed (n := 203) (rs := []) (own0 := own149) (K := [151, 153])
      (bs := [0, 0, 3, 0, 0, 0, 0, 120, 255, 511])
      (ds := [⟨[], [], [], Fct.row 151 [] 34 32 R32 ([] : List (Int × Int))⟩,
      ⟨[], [0], [], Fct.val 35 (.slice A144 r143.length cA144)⟩,
      ⟨[0, 1], [], [151], Fct.row 153 [] 36 32 R32 x152⟩,
      ⟨[], [7], [], Fct.val 37 (.agg #[.int .i64 p2.1, .int .i64 p2.2])⟩,
      ⟨[], [8], [], Fct.val 38 (.agg #[.int .i64 x3.1, .int .i64 x3.2])⟩,
      ⟨[], [9], [], Fct.val 39 (.agg #[.int .i64 b4.1, .int .i64 b4.2])⟩,
      ⟨[], [10], [], Fct.val 40 (.agg #[.int .i64 x5.1, .int .i64 x5.2])⟩,
      ⟨[3, 4, 5, 6], [], [], Fct.row 156 [] 41 32 R32 [p2, x3, b4, x5]⟩,
      ⟨[2, 7], [], [153], Fct.row 158 [] 42 32 R32 x157⟩,
      ⟨[8], [], [], Fct.rel [13, 42] (fun l => ∀ (A159 : Option Addr) (cA159 : Nat), l.getD 1 undef = .slice A159 x157.length cA159 → l.getD 0 undef = .slice A159 x157.length cA159)⟩]) (by kernel_rfl) hz149 hd149 (fun _ h => nomatch h) ?_ ?_
  · refine steps_cons (fun own a wx hf hsl hE => ?_) ?_
    · exact sg_plain rfl rfl (or_lit (lab := 151) (e := 32) (cs := #[]) (F := E32) (or_new [] rfl rfl trivial (by kernel_rfl)) rfl rfl (show 0 ≤ maxLen by decide))
    refine steps_cons (fun own a wx hf hsl hE => ?_) ?_
    · obtain ⟨s_0, -⟩ := hsl
      exact sg_plain rfl rfl (or_move (s_0.trans e149_0))
    refine steps_cons (fun own a wx hf hsl hE => ?_) ?_
    · obtain ⟨⟨⟨A150, cA150⟩, (f_34 : a.eval (.tmp 34) = .slice A150 ([] : List (Int × Int)).length cA150), (b_A150 : RwO own 151 [] wx 32 R32 A150 cA150 ([] : List (Int × Int)))⟩, (f_35 : a.eval (.tmp 35) = .slice A144 r143.length cA144), -⟩ := hf
      exact sg_plain rfl rfl (or_append (R := R32) (lab := 151) (lab2 := 153) (L := []) (L3 := []) tp22 f_34 b_A150 (by decide) f_35 (RdO.evo rfl hE b149_A144) hx152 (by decide) (by decide) (mem_of rfl) (.inl (Rep.fl_flat _)))
    refine steps_cons (fun own a wx hf hsl hE => ?_) ?_
    · obtain ⟨s_7, -⟩ := hsl
      exact sg_plain rfl rfl (or_load (l := [.int .i64 p2.1, .int .i64 p2.2]) ta32 (s_7.trans e149_7) (Blk.cellsFrom (BlkO.evo (by decide) hE b149_g134).2 0 rfl) rfl)
    refine steps_cons (fun own a wx hf hsl hE => ?_) ?_
    · obtain ⟨s_8, -⟩ := hsl
      exact sg_plain rfl rfl (or_load (l := [.int .i64 x3.1, .int .i64 x3.2]) ta32 (s_8.trans e149_8) (Blk.cellsFrom (BlkO.evo (by decide) hE b149_g136).2 0 rfl) rfl)
    refine steps_cons (fun own a wx hf hsl hE => ?_) ?_
    · obtain ⟨s_9, -⟩ := hsl
      exact sg_plain rfl rfl (or_load (l := [.int .i64 b4.1, .int .i64 b4.2]) ta32 (s_9.trans e149_9) (Blk.cellsFrom (BlkO.evo (by decide) hE b149_g138).2 0 rfl) rfl)
    refine steps_cons (fun own a wx hf hsl hE => ?_) ?_
    · obtain ⟨s_10, -⟩ := hsl
      exact sg_plain rfl rfl (or_load (l := [.int .i64 x5.1, .int .i64 x5.2]) ta32 (s_10.trans e149_10) (Blk.cellsFrom (BlkO.evo (by decide) hE b149_g140).2 0 rfl) rfl)
    refine steps_cons (fun own a wx hf hsl hE => ?_) ?_
    · obtain ⟨(f_37 : a.eval (.tmp 37) = .agg #[.int .i64 p2.1, .int .i64 p2.2]), (f_38 : a.eval (.tmp 38) = .agg #[.int .i64 x3.1, .int .i64 x3.2]), (f_39 : a.eval (.tmp 39) = .agg #[.int .i64 b4.1, .int .i64 b4.2]), (f_40 : a.eval (.tmp 40) = .agg #[.int .i64 x5.1, .int .i64 x5.2]), -⟩ := hf
      exact sg_plain rfl rfl (or_lit (lab := 156) (e := 32) (cs := #[.int .i64 p2.1, .int .i64 p2.2, .int .i64 x3.1, .int .i64 x3.2, .int .i64 b4.1, .int .i64 b4.2, .int .i64 x5.1, .int .i64 x5.2]) (F := E32) (or_new [(37, .agg #[.int .i64 p2.1, .int .i64 p2.2]), (38, .agg #[.int .i64 x3.1, .int .i64 x3.2]), (39, .agg #[.int .i64 b4.1, .int .i64 b4.2]), (40, .agg #[.int .i64 x5.1, .int .i64 x5.2])] rfl rfl ⟨f_37, f_38, f_39, f_40, trivial⟩ (by kernel_rfl)) rfl rfl (show 4 ≤ maxLen by decide))
    refine steps_cons (fun own a wx hf hsl hE => ?_) ?_
    · obtain ⟨⟨⟨A154, cA154⟩, (f_36 : a.eval (.tmp 36) = .slice A154 x152.length cA154), (b_A154 : RwO own 153 [] wx 32 R32 A154 cA154 x152)⟩, ⟨⟨A155, cA155⟩, (f_41 : a.eval (.tmp 41) = .slice A155 [p2, x3, b4, x5].length cA155), (b_A155 : RwO own 156 [] wx 32 R32 A155 cA155 [p2, x3, b4, x5])⟩, -⟩ := hf
      exact sg_plain rfl rfl (or_append (R := R32) (lab := 153) (lab2 := 158) (L := []) (L3 := []) tp22 f_36 b_A154 (by decide) f_41 (RwO.rd b_A155) hx157 (by decide) (by decide) (mem_of rfl) (.inl (Rep.fl_flat _)))
    refine steps_cons (fun own a wx hf hsl hE => ?_) ?_
    · obtain ⟨⟨⟨A159, cA159⟩, (f_42 : a.eval (.tmp 42) = .slice A159 x157.length cA159), (b_A159 : RwO own 158 [] wx 32 R32 A159 cA159 x157)⟩, -⟩ := hf
      exact sg_plain rfl rfl (or_mono (f := Fct.val 13 (.slice A159 x157.length cA159)) (or_assign f_42) (fun own' a' w' v' hp h => fun _ _ h0' => by cases (f_42.symm.trans ((hp.2 42 (by decide)).symm.trans h0')); exact h))
    exact steps_nil
  intro own160 a160 w160 hd160 hz160 hk160 hf160 hE160
  have e160_0 : a160.eval (.tmp 0) = .slice A144 r143.length cA144 := (hk160 0 rfl).trans e149_0
  have e160_5 : a160.eval (.tmp 5) = .int .i64 (ad 2 (IntKind.i64.wrap x148)) := (hk160 5 rfl).trans e149_5
  have e160_7 : a160.eval (.tmp 7) = .pointer (some ⟨g134, 0, none⟩) := (hk160 7 rfl).trans e149_7
  have e160_8 : a160.eval (.tmp 8) = .pointer (some ⟨g136, 0, none⟩) := (hk160 8 rfl).trans e149_8
  have e160_9 : a160.eval (.tmp 9) = .pointer (some ⟨g138, 0, none⟩) := (hk160 9 rfl).trans e149_9
  have e160_10 : a160.eval (.tmp 10) = .pointer (some ⟨g140, 0, none⟩) := (hk160 10 rfl).trans e149_10
  obtain ⟨⟨⟨A159, cA159⟩, (f_42 : a160.eval (.tmp 42) = .slice A159 x157.length cA159), (b_A159 : RwO own160 158 [] w160 32 R32 A159 cA159 x157)⟩, (q_13 : ∀ (A159 : Option Addr) (cA159 : Nat), a160.eval (.tmp 42) = .slice A159 x157.length cA159 → a160.eval (.tmp 13) = .slice A159 x157.length cA159), -⟩ := hf160 [8, 9] rfl
  have f_13 := q_13 _ _ f_42
  have e160_13 := f_13
  have hX160 := Evo.step hX149 (fun _ => Nat.le_refl 0) hE160 rfl
  have b160_g134 := BlkO.evo (by decide) hE160 b149_g134
  have b160_g136 := BlkO.evo (by decide) hE160 b149_g136
  have b160_g138 := BlkO.evo (by decide) hE160 b149_g138
  have b160_g140 := BlkO.evo (by decide) hE160 b149_g140
  have b160_A144 := RdO.evo rfl hE160 b149_A144
  have b160_A159 := b_A159
  refine fl_seq (fun Q161 hn161 hp161 => ?_)
  refine rg_plain_seq (n := 203) (rs := []) (own0 := own160) (K := [])
      (bs := [0])
      (ds := [⟨[], [], [], Fct.val 14 (.int .i64 0)⟩]) (by kernel_rfl) hz160 hd160 (fun _ h => nomatch h) ?_ ?_
  · refine steps_cons (fun own a wx hf hsl hE => ?_) ?_
    · exact sg_plain rfl rfl (or_assign rfl)
    exact steps_nil
  intro own162 a162 w162 hd162 hz162 hk162 hf162 hE162
  have e162_0 : a162.eval (.tmp 0) = .slice A144 r143.length cA144 := (hk162 0 rfl).trans e160_0
  have e162_5 : a162.eval (.tmp 5) = .int .i64 (ad 2 (IntKind.i64.wrap x148)) := (hk162 5 rfl).trans e160_5
  have e162_7 : a162.eval (.tmp 7) = .pointer (some ⟨g134, 0, none⟩) := (hk162 7 rfl).trans e160_7
  have e162_8 : a162.eval (.tmp 8) = .pointer (some ⟨g136, 0, none⟩) := (hk162 8 rfl).trans e160_8
  have e162_9 : a162.eval (.tmp 9) = .pointer (some ⟨g138, 0, none⟩) := (hk162 9 rfl).trans e160_9
  have e162_10 : a162.eval (.tmp 10) = .pointer (some ⟨g140, 0, none⟩) := (hk162 10 rfl).trans e160_10
  have e162_13 : a162.eval (.tmp 13) = .slice A159 x157.length cA159 := (hk162 13 rfl).trans e160_13
  obtain ⟨(f_14 : a162.eval (.tmp 14) = .int .i64 0), -⟩ := hf162 [0] rfl
  have e162_14 := f_14
  have hX162 := Evo.step hX160 (fun _ => Nat.le_refl 0) hE162 rfl
  have b162_g134 := BlkO.evo (by decide) hE162 b160_g134
  have b162_g136 := BlkO.evo (by decide) hE162 b160_g136
  have b162_g138 := BlkO.evo (by decide) hE162 b160_g138
  have b162_g140 := BlkO.evo (by decide) hE162 b160_g140
  have b162_A144 := RdO.evo rfl hE162 b160_A144
  have b162_A159 := RwO.evo rfl hE162 b160_A159
  refine fl_block (fun Q163 hn163 hx163 hp163 => ?_)
  refine fl_loop (body := (fun s => law03_RingMoves_b1 p2 x3 b4 x5 r143 x148 x157 s)) (z := r) (show loopO _ _ = _ from hs) (fun (i180 : Int) a wx => ∃ (ox : Own), a.defers = [] ∧ a.tmps.size = 203 ∧ a.eval (.tmp 0) = .slice A144 r143.length cA144 ∧ a.eval (.tmp 5) = .int .i64 (ad 2 (IntKind.i64.wrap x148)) ∧ a.eval (.tmp 7) = .pointer (some ⟨g134, 0, none⟩) ∧ a.eval (.tmp 8) = .pointer (some ⟨g136, 0, none⟩) ∧ a.eval (.tmp 9) = .pointer (some ⟨g138, 0, none⟩) ∧ a.eval (.tmp 10) = .pointer (some ⟨g140, 0, none⟩) ∧ a.eval (.tmp 13) = .slice A159 x157.length cA159 ∧ a.eval (.tmp 14) = .int .i64 i180 ∧ Evo [] (fun _ => 0) ox w wx ∧ RdO ox [145, 146, 0] wx R32 A144 cA144 r143 ∧ BlkO ox 135 wx g134 32 #[.int .i64 p2.1, .int .i64 p2.2] ∧ BlkO ox 137 wx g136 32 #[.int .i64 x3.1, .int .i64 x3.2] ∧ BlkO ox 139 wx g138 32 #[.int .i64 b4.1, .int .i64 b4.2] ∧ BlkO ox 141 wx g140 32 #[.int .i64 x5.1, .int .i64 x5.2] ∧ RwO ox 158 [] wx 32 R32 A159 cA159 x157) ?_ ?_
  · exact ⟨own162, hd162, hz162, e162_0, e162_5, e162_7, e162_8, e162_9, e162_10, e162_13, e162_14, hX162, b162_A144, b162_g134, b162_g136, b162_g138, b162_g140, b162_A159⟩
  · rintro i180 zz197 a197 w197 ⟨own197, hd198, hz198, e198_0, e198_5, e198_7, e198_8, e198_9, e198_10, e198_13, e198_14, hE198, b198_A144, b198_g134, b198_g136, b198_g138, b198_g140, b198_A159⟩ hs Q197 hn197 hp197 hz197
    have hs : law03_RingMoves_b1 p2 x3 b4 x5 r143 x148 x157 i180 = some zz197 := hs
    refine fl_seq (fun Q199 hn199 hp199 => ?_)
    refine rg_plain_seq (n := 203) (rs := []) (own0 := own197) (K := [])
        (bs := [0, 0, 2, 7])
        (ds := [⟨[], [14], [], Fct.val 43 (.int .i64 i180)⟩,
        ⟨[], [13], [], Fct.val 44 (.slice A159 x157.length cA159)⟩,
        ⟨[1], [], [], Fct.val 45 (.int .i64 (x157.length : Int))⟩,
        ⟨[0, 2], [], [], Fct.val 46 (.bool (decide (i180 < (x157.length : Int))))⟩]) (by kernel_rfl) hz198 hd198 (fun _ h => nomatch h) ?_ ?_
    · refine steps_cons (fun own a wx hf hsl hE => ?_) ?_
      · obtain ⟨s_14, -⟩ := hsl
        exact sg_plain rfl rfl (or_move (s_14.trans e198_14))
      refine steps_cons (fun own a wx hf hsl hE => ?_) ?_
      · obtain ⟨s_13, -⟩ := hsl
        exact sg_plain rfl rfl (or_move (s_13.trans e198_13))
      refine steps_cons (fun own a wx hf hsl hE => ?_) ?_
      · obtain ⟨(f_44 : a.eval (.tmp 44) = .slice A159 x157.length cA159), -⟩ := hf
        exact sg_plain rfl rfl (or_len tu22 f_44 rfl)
      refine steps_cons (fun own a wx hf hsl hE => ?_) ?_
      · obtain ⟨(f_43 : a.eval (.tmp 43) = .int .i64 i180), (f_45 : a.eval (.tmp 45) = .int .i64 (x157.length : Int)), -⟩ := hf
        exact sg_plain rfl rfl (or_lss f_43 f_45 rfl)
      exact steps_nil
    intro own200 a200 w200 hd200 hz200 hk200 hf200 hE200
    have e200_0 : a200.eval (.tmp 0) = .slice A144 r143.length cA144 := (hk200 0 rfl).trans e198_0
    have e200_5 : a200.eval (.tmp 5) = .int .i64 (ad 2 (IntKind.i64.wrap x148)) := (hk200 5 rfl).trans e198_5
    have e200_7 : a200.eval (.tmp 7) = .pointer (some ⟨g134, 0, none⟩) := (hk200 7 rfl).trans e198_7
    have e200_8 : a200.eval (.tmp 8) = .pointer (some ⟨g136, 0, none⟩) := (hk200 8 rfl).trans e198_8
    have e200_9 : a200.eval (.tmp 9) = .pointer (some ⟨g138, 0, none⟩) := (hk200 9 rfl).trans e198_9
    have e200_10 : a200.eval (.tmp 10) = .pointer (some ⟨g140, 0, none⟩) := (hk200 10 rfl).trans e198_10
    have e200_13 : a200.eval (.tmp 13) = .slice A159 x157.length cA159 := (hk200 13 rfl).trans e198_13
    have e200_14 : a200.eval (.tmp 14) = .int .i64 i180 := (hk200 14 rfl).trans e198_14
    obtain ⟨(f_46 : a200.eval (.tmp 46) = .bool (decide (i180 < (x157.length : Int)))), -⟩ := hf200 [3] rfl
    have e200_46 := f_46
    have hX200 := Evo.step hE198 (fun _ => Nat.le_refl 0) hE200 rfl
    have b200_A144 := RdO.evo rfl hE200 b198_A144
    have b200_g134 := BlkO.evo (by decide) hE200 b198_g134
    have b200_g136 := BlkO.evo (by decide) hE200 b198_g136
    have b200_g138 := BlkO.evo (by decide) hE200 b198_g138
    have b200_g140 := BlkO.evo (by decide) hE200 b198_g140
    have b200_A159 := RwO.evo rfl hE200 b198_A159
    refine fl_cond e200_46 hs (fun c201 hs => ?_) (fun c201 hs => ?_)
    · refine fl_skip ?_
      refine hn199 _ _ ?_
      refine fl_seq (fun Q202 hn202 hp202 => ?_)
      refine fl_block (fun Q203 hn203 hx203 hp203 => ?_)
      obtain ⟨x204, hx204, hs⟩ := obind hs
      obtain ⟨x205, hx205, hs⟩ := obind hs
      obtain ⟨x206, hx206, hs⟩ := obind hs
      obtain ⟨x207, hx207, hs⟩ := obind hs
      obtain ⟨x208, hx208, hs⟩ := obind hs
      refine rg_draw_seq g_mixed (n := 203) (rs := []) (own0 := own200) (K := [])
          (bs := [0, 0, 3, 7, 15, 0, 0, 96, 224, 480, 1023, 2047, 4095, 8191, 8191, 32767, 65535, 131071, 8191, 8191, 794623, 1843199, 3940351, 8388607, 16777215, 33554431])
          (ds := [⟨[], [13], [], Fct.val 49 (.slice A159 x157.length cA159)⟩,
          ⟨[], [14], [], Fct.val 50 (.int .i64 i180)⟩,
          ⟨[0, 1], [], [], Fct.val 51 (.pointer (some ((adr A159).add ((i180 : Int).toNat * R32.s))))⟩,
          ⟨[2], [], [], Fct.val 52 (.pointer (some ((adr A159).add ((i180 : Int).toNat * R32.s))))⟩,
          ⟨[3], [], [], Fct.val 53 (.int .i64 x204.1)⟩,
          ⟨[], [13], [], Fct.val 54 (.slice A159 x157.length cA159)⟩,
          ⟨[], [14], [], Fct.val 55 (.int .i64 i180)⟩,
          ⟨[5, 6], [], [], Fct.val 56 (.pointer (some ((adr A159).add ((i180 : Int).toNat * R32.s))))⟩,
          ⟨[7], [], [], Fct.val 57 (.pointer (some (((adr A159).add ((i180 : Int).toNat * R32.s)).add 1)))⟩,
          ⟨[8], [], [], Fct.val 58 (.int .i64 x205.2)⟩,
          ⟨[4, 9], [], [], Fct.val 59 (.int .i64 (mx x204.1 x205.2))⟩,
          ⟨[10], [], [], Fct.val 60 (.bool (decide (1048576 < (mx x204.1 x205.2))))⟩,
          ⟨[11], [], [], Fct.val 61 (.bool (decide (1048576 < (mx x204.1 x205.2))))⟩,
          ⟨[12], [13], [], Fct.cond (!(decide (1048576 < (mx x204.1 x205.2)))) (some 62) (Fct.val 62 (.slice A159 x157.length cA159))⟩,
          ⟨[12], [14], [], Fct.cond (!(decide (1048576 < (mx x204.1 x205.2)))) (some 63) (Fct.val 63 (.int .i64 i180))⟩,
          ⟨[12, 13, 14], [], [], Fct.cond (!(decide (1048576 < (mx x204.1 x205.2)))) (some 64) (Fct.val 64 (.pointer (some ((adr A159).add ((i180 : Int).toNat * R32.s)))))⟩,
          ⟨[12, 15], [], [], Fct.cond (!(decide (1048576 < (mx x204.1 x205.2)))) (some 65) (Fct.val 65 (.pointer (some ((adr A159).add ((i180 : Int).toNat * R32.s)))))⟩,
          ⟨[12, 16], [], [], Fct.cond (!(decide (1048576 < (mx x204.1 x205.2)))) (some 66) (Fct.val 66 (.int .i64 x206.1))⟩,
          ⟨[12], [13], [], Fct.cond (!(decide (1048576 < (mx x204.1 x205.2)))) (some 67) (Fct.val 67 (.slice A159 x157.length cA159))⟩,
          ⟨[12], [14], [], Fct.cond (!(decide (1048576 < (mx x204.1 x205.2)))) (some 68) (Fct.val 68 (.int .i64 i180))⟩,
          ⟨[12, 18, 19], [], [], Fct.cond (!(decide (1048576 < (mx x204.1 x205.2)))) (some 69) (Fct.val 69 (.pointer (some ((adr A159).add ((i180 : Int).toNat * R32.s)))))⟩,
          ⟨[12, 20], [], [], Fct.cond (!(decide (1048576 < (mx x204.1 x205.2)))) (some 70) (Fct.val 70 (.pointer (some (((adr A159).add ((i180 : Int).toNat * R32.s)).add 1))))⟩,
          ⟨[12, 21], [], [], Fct.cond (!(decide (1048576 < (mx x204.1 x205.2)))) (some 71) (Fct.val 71 (.int .i64 x207.2))⟩,
          ⟨[12, 17, 22], [], [], Fct.cond (!(decide (1048576 < (mx x204.1 x205.2)))) (some 72) (Fct.val 72 (.int .i64 (mn x206.1 x207.2)))⟩,
          ⟨[12, 23], [], [], Fct.cond (!(decide (1048576 < (mx x204.1 x205.2)))) (some 73) (Fct.val 73 (.bool (decide ((mn x206.1 x207.2) < (-1048576)))))⟩,
          ⟨[12, 24], [], [], Fct.val 74 (.bool x208)⟩]) (by kernel_rfl) hz200 hd200 (fun _ h => nomatch h) ?_ ?_
      · refine steps_cons (fun own a wx hf hsl hE => ?_) ?_
        · obtain ⟨s_13, -⟩ := hsl
          exact sg_plain rfl rfl (or_move (s_13.trans e200_13))
        refine steps_cons (fun own a wx hf hsl hE => ?_) ?_
        · obtain ⟨s_14, -⟩ := hsl
          exact sg_plain rfl rfl (or_move (s_14.trans e200_14))
        refine steps_cons (fun own a wx hf hsl hE => ?_) ?_
        · obtain ⟨(f_49 : a.eval (.tmp 49) = .slice A159 x157.length cA159), (f_50 : a.eval (.tmp 50) = .int .i64 i180), -⟩ := hf
          exact sg_plain rfl rfl (or_index (R := R32) (l := x157) tl22 f_49 f_50 (RdO.some_ (RwO.rd b200_A159) hx204) hx204)
        refine steps_cons (fun own a wx hf hsl hE => ?_) ?_
        · obtain ⟨(f_51 : a.eval (.tmp 51) = .pointer (some ((adr A159).add ((i180 : Int).toNat * R32.s)))), -⟩ := hf
          exact sg_plain rfl rfl (or_field fo32_0 f_51 (Addr.add_zero' _))
        refine steps_cons (fun own a wx hf hsl hE => ?_) ?_
        · obtain ⟨(f_52 : a.eval (.tmp 52) = .pointer (some ((adr A159).add ((i180 : Int).toNat * R32.s)))), -⟩ := hf
          exact sg_plain rfl rfl (or_load1 to3 f_52 (CellsAt.zero (RdO.cells (F := E32) (RwO.rd (RwO.evo rfl hE b200_A159)) hx204) rfl))
        refine steps_cons (fun own a wx hf hsl hE => ?_) ?_
        · obtain ⟨s_13, -⟩ := hsl
          exact sg_plain rfl rfl (or_move (s_13.trans e200_13))
        refine steps_cons (fun own a wx hf hsl hE => ?_) ?_
        · obtain ⟨s_14, -⟩ := hsl
          exact sg_plain rfl rfl (or_move (s_14.trans e200_14))
        refine steps_cons (fun own a wx hf hsl hE => ?_) ?_
        · obtain ⟨(f_54 : a.eval (.tmp 54) = .slice A159 x157.length cA159), (f_55 : a.eval (.tmp 55) = .int .i64 i180), -⟩ := hf
          exact sg_plain rfl rfl (or_index (R := R32) (l := x157) tl22 f_54 f_55 (RdO.some_ (RwO.rd b200_A159) hx205) hx205)
        refine steps_cons (fun own a wx hf hsl hE => ?_) ?_
        · obtain ⟨(f_56 : a.eval (.tmp 56) = .pointer (some ((adr A159).add ((i180 : Int).toNat * R32.s)))), -⟩ := hf
          exact sg_plain rfl rfl (or_field fo32_1 f_56 rfl)
        refine steps_cons (fun own a wx hf hsl hE => ?_) ?_
        · obtain ⟨(f_57 : a.eval (.tmp 57) = .pointer (some (((adr A159).add ((i180 : Int).toNat * R32.s)).add 1))), -⟩ := hf
          exact sg_plain rfl rfl (or_load1 to3 f_57 (CellsAt.one (RdO.cells (F := E32) (RwO.rd (RwO.evo rfl hE b200_A159)) hx205) rfl))
        refine steps_cons (fun own a wx hf hsl hE => ?_) ?_
        · obtain ⟨(f_53 : a.eval (.tmp 53) = .int .i64 x204.1), (f_58 : a.eval (.tmp 58) = .int .i64 x205.2), -⟩ := hf
          exact sg_plain rfl rfl (or_max f_53 f_58)
        refine steps_cons (fun own a wx hf hsl hE => ?_) ?_
        · obtain ⟨(f_59 : a.eval (.tmp 59) = .int .i64 (mx x204.1 x205.2)), -⟩ := hf
          exact sg_plain rfl rfl (or_gtr f_59 rfl rfl)
        refine steps_cons (fun own a wx hf hsl hE => ?_) ?_
        · obtain ⟨(f_60 : a.eval (.tmp 60) = .bool (decide (1048576 < (mx x204.1 x205.2)))), -⟩ := hf
          exact sg_plain rfl rfl (or_move f_60)
        refine steps_cons (fun own a wx hf hsl hE => ?_) ?_
        · obtain ⟨(f_61 : a.eval (.tmp 61) = .bool (decide (1048576 < (mx x204.1 x205.2)))), -⟩ := hf
          obtain ⟨s_13, -⟩ := hsl
          refine sg_f rfl rfl rfl f_61 (fun hg => ?_)
          exact or_move (s_13.trans e200_13)
        refine steps_cons (fun own a wx hf hsl hE => ?_) ?_
        · obtain ⟨(f_61 : a.eval (.tmp 61) = .bool (decide (1048576 < (mx x204.1 x205.2)))), -⟩ := hf
          obtain ⟨s_14, -⟩ := hsl
          refine sg_f rfl rfl rfl f_61 (fun hg => ?_)
          exact or_move (s_14.trans e200_14)
        refine steps_cons (fun own a wx hf hsl hE => ?_) ?_
        · obtain ⟨(f_61 : a.eval (.tmp 61) = .bool (decide (1048576 < (mx x204.1 x205.2)))), c_62, c_63, -⟩ := hf
          refine sg_f rfl rfl rfl f_61 (fun hg => ?_)
          have f_62 : a.eval (.tmp 62) = .slice A159 x157.length cA159 := c_62.1 hg
          have f_63 : a.eval (.tmp 63) = .int .i64 i180 := c_63.1 hg
          exact or_index (R := R32) (l := x157) tl22 f_62 f_63 (RdO.some_ (RwO.rd b200_A159) (gd_t hx206 hg)) (gd_t hx206 hg)
        refine steps_cons (fun own a wx hf hsl hE => ?_) ?_
        · obtain ⟨(f_61 : a.eval (.tmp 61) = .bool (decide (1048576 < (mx x204.1 x205.2)))), c_64, -⟩ := hf
          refine sg_f rfl rfl rfl f_61 (fun hg => ?_)
          have f_64 : a.eval (.tmp 64) = .pointer (some ((adr A159).add ((i180 : Int).toNat * R32.s))) := c_64.1 hg
          exact or_field fo32_0 f_64 (Addr.add_zero' _)
        refine steps_cons (fun own a wx hf hsl hE => ?_) ?_
        · obtain ⟨(f_61 : a.eval (.tmp 61) = .bool (decide (1048576 < (mx x204.1 x205.2)))), c_65, -⟩ := hf
          refine sg_f rfl rfl rfl f_61 (fun hg => ?_)
          have f_65 : a.eval (.tmp 65) = .pointer (some ((adr A159).add ((i180 : Int).toNat * R32.s))) := c_65.1 hg
          exact or_load1 to3 f_65 (CellsAt.zero (RdO.cells (F := E32) (RwO.rd (RwO.evo rfl hE b200_A159)) (gd_t hx206 hg)) rfl)
        refine steps_cons (fun own a wx hf hsl hE => ?_) ?_
        · obtain ⟨(f_61 : a.eval (.tmp 61) = .bool (decide (1048576 < (mx x204.1 x205.2)))), -⟩ := hf
          obtain ⟨s_13, -⟩ := hsl
          refine sg_f rfl rfl rfl f_61 (fun hg => ?_)
          exact or_move (s_13.trans e200_13)
        refine steps_cons (fun own a wx hf hsl hE => ?_) ?_
        · obtain ⟨(f_61 : a.eval (.tmp 61) = .bool (decide (1048576 < (mx x204.1 x205.2)))), -⟩ := hf
          obtain ⟨s_14, -⟩ := hsl
          refine sg_f rfl rfl rfl f_61 (fun hg => ?_)
          exact or_move (s_14.trans e200_14)
        refine steps_cons (fun own a wx hf hsl hE => ?_) ?_
        · obtain ⟨(f_61 : a.eval (.tmp 61) = .bool (decide (1048576 < (mx x204.1 x205.2)))), c_67, c_68, -⟩ := hf
          refine sg_f rfl rfl rfl f_61 (fun hg => ?_)
          have f_67 : a.eval (.tmp 67) = .slice A159 x157.length cA159 := c_67.1 hg
          have f_68 : a.eval (.tmp 68) = .int .i64 i180 := c_68.1 hg
          exact or_index (R := R32) (l := x157) tl22 f_67 f_68 (RdO.some_ (RwO.rd b200_A159) (gd_t hx207 hg)) (gd_t hx207 hg)
        refine steps_cons (fun own a wx hf hsl hE => ?_) ?_
        · obtain ⟨(f_61 : a.eval (.tmp 61) = .bool (decide (1048576 < (mx x204.1 x205.2)))), c_69, -⟩ := hf
          refine sg_f rfl rfl rfl f_61 (fun hg => ?_)
          have f_69 : a.eval (.tmp 69) = .pointer (some ((adr A159).add ((i180 : Int).toNat * R32.s))) := c_69.1 hg
          exact or_field fo32_1 f_69 rfl
        refine steps_cons (fun own a wx hf hsl hE => ?_) ?_
        · obtain ⟨(f_61 : a.eval (.tmp 61) = .bool (decide (1048576 < (mx x204.1 x205.2)))), c_70, -⟩ := hf
          refine sg_f rfl rfl rfl f_61 (fun hg => ?_)
          have f_70 : a.eval (.tmp 70) = .pointer (some (((adr A159).add ((i180 : Int).toNat * R32.s)).add 1)) := c_70.1 hg
          exact or_load1 to3 f_70 (CellsAt.one (RdO.cells (F := E32) (RwO.rd (RwO.evo rfl hE b200_A159)) (gd_t hx207 hg)) rfl)
        refine steps_cons (fun own a wx hf hsl hE => ?_) ?_
        · obtain ⟨(f_61 : a.eval (.tmp 61) = .bool (decide (1048576 < (mx x204.1 x205.2)))), c_66, c_71, -⟩ := hf
          refine sg_f rfl rfl rfl f_61 (fun hg => ?_)
          have f_66 : a.eval (.tmp 66) = .int .i64 x206.1 := c_66.1 hg
          have f_71 : a.eval (.tmp 71) = .int .i64 x207.2 := c_71.1 hg
          exact or_min f_66 f_71
        refine steps_cons (fun own a wx hf hsl hE => ?_) ?_
        · obtain ⟨(f_61 : a.eval (.tmp 61) = .bool (decide (1048576 < (mx x204.1 x205.2)))), c_72, -⟩ := hf
          refine sg_f rfl rfl rfl f_61 (fun hg => ?_)
          have f_72 : a.eval (.tmp 72) = .int .i64 (mn x206.1 x207.2) := c_72.1 hg
          exact or_lss f_72 rfl rfl
        refine steps_cons (fun own a wx hf hsl hE => ?_) ?_
        · obtain ⟨(f_61 : a.eval (.tmp 61) = .bool (decide (1048576 < (mx x204.1 x205.2)))), c_73, -⟩ := hf
          exact sg_plain rfl rfl (or_or f_61 rfl (fun hx => c_73.1 hx) (osome hx208).symm)
        exact steps_nil
      intro own209 a209 w209 hd209 hz209 hk209 hf209 hE209
      have e209_0 : a209.eval (.tmp 0) = .slice A144 r143.length cA144 := (hk209 0 rfl).trans e200_0
      have e209_5 : a209.eval (.tmp 5) = .int .i64 (ad 2 (IntKind.i64.wrap x148)) := (hk209 5 rfl).trans e200_5
      have e209_7 : a209.eval (.tmp 7) = .pointer (some ⟨g134, 0, none⟩) := (hk209 7 rfl).trans e200_7
      have e209_8 : a209.eval (.tmp 8) = .pointer (some ⟨g136, 0, none⟩) := (hk209 8 rfl).trans e200_8
      have e209_9 : a209.eval (.tmp 9) = .pointer (some ⟨g138, 0, none⟩) := (hk209 9 rfl).trans e200_9
      have e209_10 : a209.eval (.tmp 10) = .pointer (some ⟨g140, 0, none⟩) := (hk209 10 rfl).trans e200_10
      have e209_13 : a209.eval (.tmp 13) = .slice A159 x157.length cA159 := (hk209 13 rfl).trans e200_13
      have e209_14 : a209.eval (.tmp 14) = .int .i64 i180 := (hk209 14 rfl).trans e200_14
      obtain ⟨(f_74 : a209.eval (.tmp 74) = .bool x208), -⟩ := hf209 [25] rfl
      have e209_74 := f_74
      have hX209 := Evo.step hX200 (fun _ => Nat.le_refl 0) hE209 rfl
      have b209_A144 := RdO.evo rfl hE209 b200_A144
      have b209_g134 := BlkO.evo (by decide) hE209 b200_g134
      have b209_g136 := BlkO.evo (by decide) hE209 b200_g136
      have b209_g138 := BlkO.evo (by decide) hE209 b200_g138
      have b209_g140 := BlkO.evo (by decide) hE209 b200_g140
      have b209_A159 := RwO.evo rfl hE209 b200_A159
      refine fl_cond e209_74 hs (fun c210 hs => ?_) (fun c210 hs => ?_)
      · obtain ⟨r211, hr211, hs⟩ := obind hs
        refine rg_plain_seq (n := 203) (rs := []) (own0 := own209) (K := [])
            (bs := [0, 1])
            (ds := [⟨[], [], [], Fct.val 75 (.bool r211)⟩,
            ⟨[0], [], [], Fct.val 12 (.bool r211)⟩]) (by kernel_rfl) hz209 hd209 (fun _ h => nomatch h) ?_ ?_
        · refine steps_cons (fun own a wx hf hsl hE => ?_) ?_
          · exact sg_plain rfl rfl (or_call cf12 (args0) (law03_known_w _   r211 hr211) post_val)
          refine steps_cons (fun own a wx hf hsl hE => ?_) ?_
          · obtain ⟨(f_75 : a.eval (.tmp 75) = .bool r211), -⟩ := hf
            exact sg_plain rfl rfl (or_assign f_75)
          exact steps_nil
        intro own212 a212 w212 hd212 hz212 hk212 hf212 hE212
        obtain ⟨(f_12 : a212.eval (.tmp 12) = .bool r211), -⟩ := hf212 [1] rfl
        have e212_12 := f_12
        have hX212 := Evo.step hX209 (fun _ => Nat.le_refl 0) hE212 rfl
        refine fl_ret ?_
        refine hp203 _ _ _ rfl ?_
        refine hp202 _ _ _ rfl ?_
        replace hs := hz197 _ hs
        refine hp197 _ _ _ rfl ?_
        refine hp163 _ _ _ rfl ?_
        refine hp161 _ _ _ rfl ?_
        obtain rfl := (osome hs).symm
        exact hret _ _ _ _ (.inl rfl) hd212 (results1_ rfl (RVal.tmp_ e212_12)) ⟨own212, rfl, hX212⟩
      refine fl_skip ?_
      refine hn203 _ _ ?_
      refine hn202 _ _ ?_
      refine rg_plain (n := 203) (rs := []) (own0 := own209) (K := [])
          (bs := [0, 1, 3])
          (ds := [⟨[], [14], [], Fct.val 47 (.int .i64 i180)⟩,
          ⟨[0], [], [], Fct.val 48 (.int .i64 (ad i180 1))⟩,
          ⟨[1], [], [], Fct.val 14 (.int .i64 (ad i180 1))⟩]) (by kernel_rfl) hz209 hd209 (fun _ h => nomatch h) ?_ ?_
      · refine steps_cons (fun own a wx hf hsl hE => ?_) ?_
        · obtain ⟨s_14, -⟩ := hsl
          exact sg_plain rfl rfl (or_move (s_14.trans e209_14))
        refine steps_cons (fun own a wx hf hsl hE => ?_) ?_
        · obtain ⟨(f_47 : a.eval (.tmp 47) = .int .i64 i180), -⟩ := hf
          exact sg_plain rfl rfl (or_add f_47 rfl rfl)
        refine steps_cons (fun own a wx hf hsl hE => ?_) ?_
        · obtain ⟨(f_48 : a.eval (.tmp 48) = .int .i64 (ad i180 1)), -⟩ := hf
          exact sg_plain rfl rfl (or_assign f_48)
        exact steps_nil
      intro own213 a213 w213 hd213 hz213 hk213 hf213 hE213
      have e213_0 : a213.eval (.tmp 0) = .slice A144 r143.length cA144 := (hk213 0 rfl).trans e209_0
      have e213_5 : a213.eval (.tmp 5) = .int .i64 (ad 2 (IntKind.i64.wrap x148)) := (hk213 5 rfl).trans e209_5
      have e213_7 : a213.eval (.tmp 7) = .pointer (some ⟨g134, 0, none⟩) := (hk213 7 rfl).trans e209_7
      have e213_8 : a213.eval (.tmp 8) = .pointer (some ⟨g136, 0, none⟩) := (hk213 8 rfl).trans e209_8
      have e213_9 : a213.eval (.tmp 9) = .pointer (some ⟨g138, 0, none⟩) := (hk213 9 rfl).trans e209_9
      have e213_10 : a213.eval (.tmp 10) = .pointer (some ⟨g140, 0, none⟩) := (hk213 10 rfl).trans e209_10
      have e213_13 : a213.eval (.tmp 13) = .slice A159 x157.length cA159 := (hk213 13 rfl).trans e209_13
      obtain ⟨(f_14 : a213.eval (.tmp 14) = .int .i64 (ad i180 1)), -⟩ := hf213 [2] rfl
      have e213_14 := f_14
      have hX213 := Evo.step hX209 (fun _ => Nat.le_refl 0) hE213 rfl
      have b213_A144 := RdO.evo rfl hE213 b209_A144
      have b213_g134 := BlkO.evo (by decide) hE213 b209_g134
      have b213_g136 := BlkO.evo (by decide) hE213 b209_g136
      have b213_g138 := BlkO.evo (by decide) hE213 b209_g138
      have b213_g140 := BlkO.evo (by decide) hE213 b209_g140
      have b213_A159 := RwO.evo rfl hE213 b209_A159
      exact hn197 _ _ _ hs ⟨own213, hd213, hz213, e213_0, e213_5, e213_7, e213_8, e213_9, e213_10, e213_13, e213_14, hX213, b213_A144, b213_g134, b213_g136, b213_g138, b213_g140, b213_A159⟩
    refine fl_exit ?_
    refine hp199 _ _ _ rfl ?_
    replace hs := hz197 _ hs
    refine hp197 _ _ _ rfl ?_
    refine hx163 _ _ ?_
    refine hn161 _ _ ?_
    obtain ⟨r214, hr214, hs⟩ := obind hs
    obtain ⟨r217, hr217, hs⟩ := obind hs
    refine rg_plain_seq (n := 203) (rs := []) (own0 := own200) (K := [])
        (bs := [0, 0, 3, 0, 0, 31, 63, 127])
        (ds := [⟨[], [0], [], Fct.val 76 (.slice A144 r143.length cA144)⟩,
        ⟨[], [10], [], Fct.val 77 (.agg #[.int .i64 x5.1, .int .i64 x5.2])⟩,
        ⟨[0, 1], [], [], Fct.row 216 [] 78 32 R32 r214⟩,
        ⟨[], [0], [], Fct.val 79 (.slice A144 r143.length cA144)⟩,
        ⟨[], [5], [], Fct.val 80 (.int .i64 (ad 2 (IntKind.i64.wrap x148)))⟩,
        ⟨[3, 4], [], [], Fct.row 219 [] 81 32 R32 r217⟩,
        ⟨[2], [], [], Fct.rel [15, 78] (fun l => ∀ (A215 : Option Addr) (cA215 : Nat), l.getD 1 undef = .slice A215 r214.length cA215 → l.getD 0 undef = .slice A215 r214.length cA215)⟩,
        ⟨[5], [], [], Fct.rel [16, 81] (fun l => ∀ (A218 : Option Addr) (cA218 : Nat), l.getD 1 undef = .slice A218 r217.length cA218 → l.getD 0 undef = .slice A218 r217.length cA218)⟩]) (by kernel_rfl) hz200 hd200 (fun _ h => nomatch h) ?_ ?_
    · refine steps_cons (fun own a wx hf hsl hE => ?_) ?_
      · obtain ⟨s_0, -⟩ := hsl
        exact sg_plain rfl rfl (or_move (s_0.trans e200_0))
      refine steps_cons (fun own a wx hf hsl hE => ?_) ?_
      · obtain ⟨s_10, -⟩ := hsl
        exact sg_plain rfl rfl (or_load (l := [.int .i64 x5.1, .int .i64 x5.2]) ta32 (s_10.trans e200_10) (Blk.cellsFrom (BlkO.evo (by decide) hE b200_g140).2 0 rfl) rfl)
      refine steps_cons (fun own a wx hf hsl hE => ?_) ?_
      · obtain ⟨(f_76 : a.eval (.tmp 76) = .slice A144 r143.length cA144), (f_77 : a.eval (.tmp 77) = .agg #[.int .i64 x5.1, .int .i64 x5.2]), -⟩ := hf
        exact sg_plain rfl rfl (or_call cf18 (args2 f_76 f_77) (ring_Moved_w _ r143 A144 cA144 x5 (RdO.zero (RdO.evo rfl hE b200_A144)) r214 hr214) (post_row (m' := (look0 [(1, 216)])) (.inl (Rep.fl_flat _)) rfl rfl (fun _ => rfl)))
      refine steps_cons (fun own a wx hf hsl hE => ?_) ?_
      · obtain ⟨s_0, -⟩ := hsl
        exact sg_plain rfl rfl (or_move (s_0.trans e200_0))
      refine steps_cons (fun own a wx hf hsl hE => ?_) ?_
      · obtain ⟨s_5, -⟩ := hsl
        exact sg_plain rfl rfl (or_move (s_5.trans e200_5))
      refine steps_cons (fun own a wx hf hsl hE => ?_) ?_
      · obtain ⟨(f_79 : a.eval (.tmp 79) = .slice A144 r143.length cA144), (f_80 : a.eval (.tmp 80) = .int .i64 (ad 2 (IntKind.i64.wrap x148))), -⟩ := hf
        exact sg_plain rfl rfl (or_call cf19 (args2 f_79 f_80) (ring_Scaled_w _ r143 A144 cA144 (ad 2 (IntKind.i64.wrap x148)) (RdO.zero (RdO.evo rfl hE b200_A144)) r217 hr217) (post_row (m' := (look0 [(1, 219)])) (.inl (Rep.fl_flat _)) rfl rfl (fun _ => rfl)))
      refine steps_cons (fun own a wx hf hsl hE => ?_) ?_
      · obtain ⟨⟨⟨A215, cA215⟩, (f_78 : a.eval (.tmp 78) = .slice A215 r214.length cA215), (b_A215 : RwO own 216 [] wx 32 R32 A215 cA215 r214)⟩, -⟩ := hf
        exact sg_plain rfl rfl (or_mono (f := Fct.val 15 (.slice A215 r214.length cA215)) (or_assign f_78) (fun own' a' w' v' hp h => fun _ _ h0' => by cases (f_78.symm.trans ((hp.2 78 (by decide)).symm.trans h0')); exact h))
      refine steps_cons (fun own a wx hf hsl hE => ?_) ?_
      · obtain ⟨⟨⟨A218, cA218⟩, (f_81 : a.eval (.tmp 81) = .slice A218 r217.length cA218), (b_A218 : RwO own 219 [] wx 32 R32 A218 cA218 r217)⟩, -⟩ := hf
        exact sg_plain rfl rfl (or_mono (f := Fct.val 16 (.slice A218 r217.length cA218)) (or_assign f_81) (fun own' a' w' v' hp h => fun _ _ h0' => by cases (f_81.symm.trans ((hp.2 81 (by decide)).symm.trans h0')); exact h))
      exact steps_nil
    intro own220 a220 w220 hd220 hz220 hk220 hf220 hE220
    have e220_0 : a220.eval (.tmp 0) = .slice A144 r143.length cA144 := (hk220 0 rfl).trans e200_0
    have e220_5 : a220.eval (.tmp 5) = .int .i64 (ad 2 (IntKind.i64.wrap x148)) := (hk220 5 rfl).trans e200_5
    have e220_7 : a220.eval (.tmp 7) = .pointer (some ⟨g134, 0, none⟩) := (hk220 7 rfl).trans e200_7
    have e220_8 : a220.eval (.tmp 8) = .pointer (some ⟨g136, 0, none⟩) := (hk220 8 rfl).trans e200_8
    have e220_9 : a220.eval (.tmp 9) = .pointer (some ⟨g138, 0, none⟩) := (hk220 9 rfl).trans e200_9
    have e220_10 : a220.eval (.tmp 10) = .pointer (some ⟨g140, 0, none⟩) := (hk220 10 rfl).trans e200_10
    obtain ⟨⟨⟨A215, cA215⟩, (f_78 : a220.eval (.tmp 78) = .slice A215 r214.length cA215), (b_A215 : RwO own220 216 [] w220 32 R32 A215 cA215 r214)⟩, (q_15 : ∀ (A215 : Option Addr) (cA215 : Nat), a220.eval (.tmp 78) = .slice A215 r214.length cA215 → a220.eval (.tmp 15) = .slice A215 r214.length cA215), ⟨⟨A218, cA218⟩, (f_81 : a220.eval (.tmp 81) = .slice A218 r217.length cA218), (b_A218 : RwO own220 219 [] w220 32 R32 A218 cA218 r217)⟩, (q_16 : ∀ (A218 : Option Addr) (cA218 : Nat), a220.eval (.tmp 81) = .slice A218 r217.length cA218 → a220.eval (.tmp 16) = .slice A218 r217.length cA218), -⟩ := hf220 [2, 6, 5, 7] rfl
    have f_15 := q_15 _ _ f_78
    have f_16 := q_16 _ _ f_81
    have e220_15 := f_15
    have e220_16 := f_16
    have hX220 := Evo.step hX200 (fun _ => Nat.le_refl 0) hE220 rfl
    have b220_A144 := RdO.evo rfl hE220 b200_A144
    have b220_g134 := BlkO.evo (by decide) hE220 b200_g134
    have b220_g136 := BlkO.evo (by decide) hE220 b200_g136
    have b220_g138 := BlkO.evo (by decide) hE220 b200_g138
    have b220_g140 := BlkO.evo (by decide) hE220 b200_g140
    have b220_A215 := b_A215
    have b220_A218 := b_A218
    refine fl_seq (fun Q221 hn221 hp221 => ?_)
    obtain ⟨x222, hx222, hs⟩ := obind hs
    refine rg_plain_seq (n := 203) (rs := []) (own0 := own220) (K := [])
        (bs := [0, 1, 0, 4, 15, 31, 63, 127, 63, 319, 1023, 2047])
        (ds := [⟨[], [15], [], Fct.val 82 (.slice A215 r214.length cA215)⟩,
        ⟨[0], [], [], Fct.val 83 (.int .i64 (r214.length : Int))⟩,
        ⟨[], [0], [], Fct.val 84 (.slice A144 r143.length cA144)⟩,
        ⟨[2], [], [], Fct.val 85 (.int .i64 (r143.length : Int))⟩,
        ⟨[1, 3], [], [], Fct.val 86 (.bool (!decide ((r214.length : Int) = (r143.length : Int))))⟩,
        ⟨[4], [], [], Fct.val 87 (.bool (!decide ((r214.length : Int) = (r143.length : Int))))⟩,
        ⟨[5], [16], [], Fct.cond (!(!decide ((r214.length : Int) = (r143.length : Int)))) (some 88) (Fct.val 88 (.slice A218 r217.length cA218))⟩,
        ⟨[5, 6], [], [], Fct.cond (!(!decide ((r214.length : Int) = (r143.length : Int)))) (some 89) (Fct.val 89 (.int .i64 (r217.length : Int)))⟩,
        ⟨[5], [0], [], Fct.cond (!(!decide ((r214.length : Int) = (r143.length : Int)))) (some 90) (Fct.val 90 (.slice A144 r143.length cA144))⟩,
        ⟨[5, 8], [], [], Fct.cond (!(!decide ((r214.length : Int) = (r143.length : Int)))) (some 91) (Fct.val 91 (.int .i64 (r143.length : Int)))⟩,
        ⟨[5, 7, 9], [], [], Fct.cond (!(!decide ((r214.length : Int) = (r143.length : Int)))) (some 92) (Fct.val 92 (.bool (!decide ((r217.length : Int) = (r143.length : Int)))))⟩,
        ⟨[5, 10], [], [], Fct.val 93 (.bool x222)⟩]) (by kernel_rfl) hz220 hd220 (fun _ h => nomatch h) ?_ ?_
    · refine steps_cons (fun own a wx hf hsl hE => ?_) ?_
      · obtain ⟨s_15, -⟩ := hsl
        exact sg_plain rfl rfl (or_move (s_15.trans e220_15))
      refine steps_cons (fun own a wx hf hsl hE => ?_) ?_
      · obtain ⟨(f_82 : a.eval (.tmp 82) = .slice A215 r214.length cA215), -⟩ := hf
        exact sg_plain rfl rfl (or_len tu22 f_82 rfl)
      refine steps_cons (fun own a wx hf hsl hE => ?_) ?_
      · obtain ⟨s_0, -⟩ := hsl
        exact sg_plain rfl rfl (or_move (s_0.trans e220_0))
      refine steps_cons (fun own a wx hf hsl hE => ?_) ?_
      · obtain ⟨(f_84 : a.eval (.tmp 84) = .slice A144 r143.length cA144), -⟩ := hf
        exact sg_plain rfl rfl (or_len tu22 f_84 rfl)
      refine steps_cons (fun own a wx hf hsl hE => ?_) ?_
      · obtain ⟨(f_83 : a.eval (.tmp 83) = .int .i64 (r214.length : Int)), (f_85 : a.eval (.tmp 85) = .int .i64 (r143.length : Int)), -⟩ := hf
        exact sg_plain rfl rfl (or_neq f_83 f_85 rfl)
      refine steps_cons (fun own a wx hf hsl hE => ?_) ?_
      · obtain ⟨(f_86 : a.eval (.tmp 86) = .bool (!decide ((r214.length : Int) = (r143.length : Int)))), -⟩ := hf
        exact sg_plain rfl rfl (or_move f_86)
      refine steps_cons (fun own a wx hf hsl hE => ?_) ?_
      · obtain ⟨(f_87 : a.eval (.tmp 87) = .bool (!decide ((r214.length : Int) = (r143.length : Int)))), -⟩ := hf
        obtain ⟨s_16, -⟩ := hsl
        refine sg_f rfl rfl rfl f_87 (fun hg => ?_)
        exact or_move (s_16.trans e220_16)
      refine steps_cons (fun own a wx hf hsl hE => ?_) ?_
      · obtain ⟨(f_87 : a.eval (.tmp 87) = .bool (!decide ((r214.length : Int) = (r143.length : Int)))), c_88, -⟩ := hf
        refine sg_f rfl rfl rfl f_87 (fun hg => ?_)
        have f_88 : a.eval (.tmp 88) = .slice A218 r217.length cA218 := c_88.1 hg
        exact or_len tu22 f_88 rfl
      refine steps_cons (fun own a wx hf hsl hE => ?_) ?_
      · obtain ⟨(f_87 : a.eval (.tmp 87) = .bool (!decide ((r214.length : Int) = (r143.length : Int)))), -⟩ := hf
        obtain ⟨s_0, -⟩ := hsl
        refine sg_f rfl rfl rfl f_87 (fun hg => ?_)
        exact or_move (s_0.trans e220_0)
      refine steps_cons (fun own a wx hf hsl hE => ?_) ?_
      · obtain ⟨(f_87 : a.eval (.tmp 87) = .bool (!decide ((r214.length : Int) = (r143.length : Int)))), c_90, -⟩ := hf
        refine sg_f rfl rfl rfl f_87 (fun hg => ?_)
        have f_90 : a.eval (.tmp 90) = .slice A144 r143.length cA144 := c_90.1 hg
        exact or_len tu22 f_90 rfl
      refine steps_cons (fun own a wx hf hsl hE => ?_) ?_
      · obtain ⟨(f_87 : a.eval (.tmp 87) = .bool (!decide ((r214.length : Int) = (r143.length : Int)))), c_89, c_91, -⟩ := hf
        refine sg_f rfl rfl rfl f_87 (fun hg => ?_)
        have f_89 : a.eval (.tmp 89) = .int .i64 (r217.length : Int) := c_89.1 hg
        have f_91 : a.eval (.tmp 91) = .int .i64 (r143.length : Int) := c_91.1 hg
        exact or_neq f_89 f_91 rfl
      refine steps_cons (fun own a wx hf hsl hE => ?_) ?_
      · obtain ⟨(f_87 : a.eval (.tmp 87) = .bool (!decide ((r214.length : Int) = (r143.length : Int)))), c_92, -⟩ := hf
        exact sg_plain rfl rfl (or_or f_87 rfl (fun hx => c_92.1 hx) (osome hx222).symm)
      exact steps_nil
    intro own223 a223 w223 hd223 hz223 hk223 hf223 hE223
    have e223_0 : a223.eval (.tmp 0) = .slice A144 r143.length cA144 := (hk223 0 rfl).trans e220_0
    have e223_5 : a223.eval (.tmp 5) = .int .i64 (ad 2 (IntKind.i64.wrap x148)) := (hk223 5 rfl).trans e220_5
    have e223_7 : a223.eval (.tmp 7) = .pointer (some ⟨g134, 0, none⟩) := (hk223 7 rfl).trans e220_7
    have e223_8 : a223.eval (.tmp 8) = .pointer (some ⟨g136, 0, none⟩) := (hk223 8 rfl).trans e220_8
    have e223_9 : a223.eval (.tmp 9) = .pointer (some ⟨g138, 0, none⟩) := (hk223 9 rfl).trans e220_9
    have e223_10 : a223.eval (.tmp 10) = .pointer (some ⟨g140, 0, none⟩) := (hk223 10 rfl).trans e220_10
    have e223_15 : a223.eval (.tmp 15) = .slice A215 r214.length cA215 := (hk223 15 rfl).trans e220_15
    have e223_16 : a223.eval (.tmp 16) = .slice A218 r217.length cA218 := (hk223 16 rfl).trans e220_16
    obtain ⟨(f_93 : a223.eval (.tmp 93) = .bool x222), -⟩ := hf223 [11] rfl
    have e223_93 := f_93
    have hX223 := Evo.step hX220 (fun _ => Nat.le_refl 0) hE223 rfl
    have b223_A144 := RdO.evo rfl hE223 b220_A144
    have b223_g134 := BlkO.evo (by decide) hE223 b220_g134
    have b223_g136 := BlkO.evo (by decide) hE223 b220_g136
    have b223_g138 := BlkO.evo (by decide) hE223 b220_g138
    have b223_g140 := BlkO.evo (by decide) hE223 b220_g140
    have b223_A215 := RwO.evo rfl hE223 b220_A215
    have b223_A218 := RwO.evo rfl hE223 b220_A218
    refine fl_cond e223_93 hs (fun c224 hs => ?_) (fun c224 hs => ?_)
    · refine rg_plain_seq (n := 203) (rs := []) (own0 := own223) (K := [])
          (bs := [0])
          (ds := [⟨[], [], [], Fct.val 12 (.bool false)⟩]) (by kernel_rfl) hz223 hd223 (fun _ h => nomatch h) ?_ ?_
      · refine steps_cons (fun own a wx hf hsl hE => ?_) ?_
        · exact sg_plain rfl rfl (or_assign rfl)
        exact steps_nil
      intro own225 a225 w225 hd225 hz225 hk225 hf225 hE225
      obtain ⟨(f_12 : a225.eval (.tmp 12) = .bool false), -⟩ := hf225 [0] rfl
      have e225_12 := f_12
      have hX225 := Evo.step hX223 (fun _ => Nat.le_refl 0) hE225 rfl
      refine fl_ret ?_
      refine hp221 _ _ _ rfl ?_
      obtain rfl := osome hs
      exact hret _ _ _ _ (.inl rfl) hd225 (results1_ rfl (RVal.tmp_ e225_12)) ⟨own225, rfl, hX225⟩
    refine fl_skip ?_
    refine hn221 _ _ ?_
    obtain ⟨r226, hr226, hs⟩ := obind hs
    refine rg_plain_seq (n := 203) (rs := []) (own0 := own223) (K := [])
        (bs := [0, 0, 3, 7, 15, 15, 31, 127])
        (ds := [⟨[], [0], [], Fct.val 95 (.slice A144 r143.length cA144)⟩,
        ⟨[], [7], [], Fct.val 96 (.agg #[.int .i64 p2.1, .int .i64 p2.2])⟩,
        ⟨[0, 1], [], [], Fct.val 97 (.tuple #[.int .i64 r226.1, .bool r226.2])⟩,
        ⟨[2], [], [], Fct.val 94 (.tuple #[.int .i64 r226.1, .bool r226.2])⟩,
        ⟨[3], [], [], Fct.val 98 (.int .i64 r226.1)⟩,
        ⟨[3], [], [], Fct.val 99 (.bool r226.2)⟩,
        ⟨[4], [], [], Fct.val 17 (.int .i64 r226.1)⟩,
        ⟨[5], [], [], Fct.val 18 (.bool r226.2)⟩]) (by kernel_rfl) hz223 hd223 (fun _ h => nomatch h) ?_ ?_
    · refine steps_cons (fun own a wx hf hsl hE => ?_) ?_
      · obtain ⟨s_0, -⟩ := hsl
        exact sg_plain rfl rfl (or_move (s_0.trans e223_0))
      refine steps_cons (fun own a wx hf hsl hE => ?_) ?_
      · obtain ⟨s_7, -⟩ := hsl
        exact sg_plain rfl rfl (or_load (l := [.int .i64 p2.1, .int .i64 p2.2]) ta32 (s_7.trans e223_7) (Blk.cellsFrom (BlkO.evo (by decide) hE b223_g134).2 0 rfl) rfl)
      refine steps_cons (fun own a wx hf hsl hE => ?_) ?_
      · obtain ⟨(f_95 : a.eval (.tmp 95) = .slice A144 r143.length cA144), (f_96 : a.eval (.tmp 96) = .agg #[.int .i64 p2.1, .int .i64 p2.2]), -⟩ := hf
        exact sg_plain rfl rfl (or_call cf16 (args2 f_95 f_96) (ring_Winding_w _ r143 A144 cA144 p2 (RdO.zero (RdO.evo rfl hE b223_A144)) r226 hr226) post_val)
      refine steps_cons (fun own a wx hf hsl hE => ?_) ?_
      · obtain ⟨(f_97 : a.eval (.tmp 97) = .tuple #[.int .i64 r226.1, .bool r226.2]), -⟩ := hf
        exact sg_plain rfl rfl (or_move f_97)
      refine steps_cons (fun own a wx hf hsl hE => ?_) ?_
      · obtain ⟨(f_94 : a.eval (.tmp 94) = .tuple #[.int .i64 r226.1, .bool r226.2]), -⟩ := hf
        exact sg_plain rfl rfl (or_k [(94, .tuple #[.int .i64 r226.1, .bool r226.2])] rfl rfl ⟨f_94, trivial⟩ (by kernel_rfl))
      refine steps_cons (fun own a wx hf hsl hE => ?_) ?_
      · obtain ⟨(f_94 : a.eval (.tmp 94) = .tuple #[.int .i64 r226.1, .bool r226.2]), -⟩ := hf
        exact sg_plain rfl rfl (or_k [(94, .tuple #[.int .i64 r226.1, .bool r226.2])] rfl rfl ⟨f_94, trivial⟩ (by kernel_rfl))
      refine steps_cons (fun own a wx hf hsl hE => ?_) ?_
      · obtain ⟨(f_98 : a.eval (.tmp 98) = .int .i64 r226.1), -⟩ := hf
        exact sg_plain rfl rfl (or_assign f_98)
      refine steps_cons (fun own a wx hf hsl hE => ?_) ?_
      · obtain ⟨(f_99 : a.eval (.tmp 99) = .bool r226.2), -⟩ := hf
        exact sg_plain rfl rfl (or_assign f_99)
      exact steps_nil
    intro own227 a227 w227 hd227 hz227 hk227 hf227 hE227
    have e227_0 : a227.eval (.tmp 0) = .slice A144 r143.length cA144 := (hk227 0 rfl).trans e223_0
    have e227_5 : a227.eval (.tmp 5) = .int .i64 (ad 2 (IntKind.i64.wrap x148)) := (hk227 5 rfl).trans e223_5
    have e227_7 : a227.eval (.tmp 7) = .pointer (some ⟨g134, 0, none⟩) := (hk227 7 rfl).trans e223_7
    have e227_8 : a227.eval (.tmp 8) = .pointer (some ⟨g136, 0, none⟩) := (hk227 8 rfl).trans e223_8
    have e227_9 : a227.eval (.tmp 9) = .pointer (some ⟨g138, 0, none⟩) := (hk227 9 rfl).trans e223_9
    have e227_10 : a227.eval (.tmp 10) = .pointer (some ⟨g140, 0, none⟩) := (hk227 10 rfl).trans e223_10
    have e227_15 : a227.eval (.tmp 15) = .slice A215 r214.length cA215 := (hk227 15 rfl).trans e223_15
    have e227_16 : a227.eval (.tmp 16) = .slice A218 r217.length cA218 := (hk227 16 rfl).trans e223_16
    obtain ⟨(f_17 : a227.eval (.tmp 17) = .int .i64 r226.1), (f_18 : a227.eval (.tmp 18) = .bool r226.2), -⟩ := hf227 [6, 7] rfl
    have e227_17 := f_17
    have e227_18 := f_18
    have hX227 := Evo.step hX223 (fun _ => Nat.le_refl 0) hE227 rfl
    have b227_A144 := RdO.evo rfl hE227 b223_A144
    have b227_g134 := BlkO.evo (by decide) hE227 b223_g134
    have b227_g136 := BlkO.evo (by decide) hE227 b223_g136
    have b227_g138 := BlkO.evo (by decide) hE227 b223_g138
    have b227_g140 := BlkO.evo (by decide) hE227 b223_g140
    have b227_A215 := RwO.evo rfl hE227 b223_A215
    have b227_A218 := RwO.evo rfl hE227 b223_A218
    obtain ⟨r228, hr228, hs⟩ := obind hs
    obtain ⟨r229, hr229, hs⟩ := obind hs
    refine rg_plain_seq (n := 203) (rs := []) (own0 := own227) (K := [])
        (bs := [0, 0, 0, 6, 15, 31, 63, 63, 127, 511])
        (ds := [⟨[], [15], [], Fct.val 101 (.slice A215 r214.length cA215)⟩,
        ⟨[], [7], [], Fct.val 102 (.agg #[.int .i64 p2.1, .int .i64 p2.2])⟩,
        ⟨[], [10], [], Fct.val 103 (.agg #[.int .i64 x5.1, .int .i64 x5.2])⟩,
        ⟨[1, 2], [], [], Fct.val 104 (.agg #[.int .i64 r228.1, .int .i64 r228.2])⟩,
        ⟨[0, 3], [], [], Fct.val 105 (.tuple #[.int .i64 r229.1, .bool r229.2])⟩,
        ⟨[4], [], [], Fct.val 100 (.tuple #[.int .i64 r229.1, .bool r229.2])⟩,
        ⟨[5], [], [], Fct.val 106 (.int .i64 r229.1)⟩,
        ⟨[5], [], [], Fct.val 107 (.bool r229.2)⟩,
        ⟨[6], [], [], Fct.val 19 (.int .i64 r229.1)⟩,
        ⟨[7], [], [], Fct.val 20 (.bool r229.2)⟩]) (by kernel_rfl) hz227 hd227 (fun _ h => nomatch h) ?_ ?_
    · refine steps_cons (fun own a wx hf hsl hE => ?_) ?_
      · obtain ⟨s_15, -⟩ := hsl
        exact sg_plain rfl rfl (or_move (s_15.trans e227_15))
      refine steps_cons (fun own a wx hf hsl hE => ?_) ?_
      · obtain ⟨s_7, -⟩ := hsl
        exact sg_plain rfl rfl (or_load (l := [.int .i64 p2.1, .int .i64 p2.2]) ta32 (s_7.trans e227_7) (Blk.cellsFrom (BlkO.evo (by decide) hE b227_g134).2 0 rfl) rfl)
      refine steps_cons (fun own a wx hf hsl hE => ?_) ?_
      · obtain ⟨s_10, -⟩ := hsl
        exact sg_plain rfl rfl (or_load (l := [.int .i64 x5.1, .int .i64 x5.2]) ta32 (s_10.trans e227_10) (Blk.cellsFrom (BlkO.evo (by decide) hE b227_g140).2 0 rfl) rfl)
      refine steps_cons (fun own a wx hf hsl hE => ?_) ?_
      · obtain ⟨(f_102 : a.eval (.tmp 102) = .agg #[.int .i64 p2.1, .int .i64 p2.2]), (f_103 : a.eval (.tmp 103) = .agg #[.int .i64 x5.1, .int .i64 x5.2]), -⟩ := hf
        exact sg_plain rfl rfl (or_call cf20 (args2 f_102 f_103) (law03_moved_w _ p2 x5  r228 hr228) post_val)
      refine steps_cons (fun own a wx hf hsl hE => ?_) ?_
      · obtain ⟨(f_101 : a.eval (.tmp 101) = .slice A215 r214.length cA215), (f_104 : a.eval (.tmp 104) = .agg #[.int .i64 r228.1, .int .i64 r228.2]), -⟩ := hf
        exact sg_plain rfl rfl (or_call cf16 (args2 f_101 f_104) (ring_Winding_w _ r214 A215 cA215 r228 (RdO.zero (RwO.rd (RwO.evo rfl hE b227_A215))) r229 hr229) post_val)
      refine steps_cons (fun own a wx hf hsl hE => ?_) ?_
      · obtain ⟨(f_105 : a.eval (.tmp 105) = .tuple #[.int .i64 r229.1, .bool r229.2]), -⟩ := hf
        exact sg_plain rfl rfl (or_move f_105)
      refine steps_cons (fun own a wx hf hsl hE => ?_) ?_
      · obtain ⟨(f_100 : a.eval (.tmp 100) = .tuple #[.int .i64 r229.1, .bool r229.2]), -⟩ := hf
        exact sg_plain rfl rfl (or_k [(100, .tuple #[.int .i64 r229.1, .bool r229.2])] rfl rfl ⟨f_100, trivial⟩ (by kernel_rfl))
      refine steps_cons (fun own a wx hf hsl hE => ?_) ?_
      · obtain ⟨(f_100 : a.eval (.tmp 100) = .tuple #[.int .i64 r229.1, .bool r229.2]), -⟩ := hf
        exact sg_plain rfl rfl (or_k [(100, .tuple #[.int .i64 r229.1, .bool r229.2])] rfl rfl ⟨f_100, trivial⟩ (by kernel_rfl))
      refine steps_cons (fun own a wx hf hsl hE => ?_) ?_
      · obtain ⟨(f_106 : a.eval (.tmp 106) = .int .i64 r229.1), -⟩ := hf
        exact sg_plain rfl rfl (or_assign f_106)
      refine steps_cons (fun own a wx hf hsl hE => ?_) ?_
      · obtain ⟨(f_107 : a.eval (.tmp 107) = .bool r229.2), -⟩ := hf
        exact sg_plain rfl rfl (or_assign f_107)
      exact steps_nil
    intro own230 a230 w230 hd230 hz230 hk230 hf230 hE230
    have e230_0 : a230.eval (.tmp 0) = .slice A144 r143.length cA144 := (hk230 0 rfl).trans e227_0
    have e230_5 : a230.eval (.tmp 5) = .int .i64 (ad 2 (IntKind.i64.wrap x148)) := (hk230 5 rfl).trans e227_5
    have e230_7 : a230.eval (.tmp 7) = .pointer (some ⟨g134, 0, none⟩) := (hk230 7 rfl).trans e227_7
    have e230_8 : a230.eval (.tmp 8) = .pointer (some ⟨g136, 0, none⟩) := (hk230 8 rfl).trans e227_8
    have e230_9 : a230.eval (.tmp 9) = .pointer (some ⟨g138, 0, none⟩) := (hk230 9 rfl).trans e227_9
    have e230_10 : a230.eval (.tmp 10) = .pointer (some ⟨g140, 0, none⟩) := (hk230 10 rfl).trans e227_10
    have e230_15 : a230.eval (.tmp 15) = .slice A215 r214.length cA215 := (hk230 15 rfl).trans e227_15
    have e230_16 : a230.eval (.tmp 16) = .slice A218 r217.length cA218 := (hk230 16 rfl).trans e227_16
    have e230_17 : a230.eval (.tmp 17) = .int .i64 r226.1 := (hk230 17 rfl).trans e227_17
    have e230_18 : a230.eval (.tmp 18) = .bool r226.2 := (hk230 18 rfl).trans e227_18
    obtain ⟨(f_19 : a230.eval (.tmp 19) = .int .i64 r229.1), (f_20 : a230.eval (.tmp 20) = .bool r229.2), -⟩ := hf230 [8, 9] rfl
    have e230_19 := f_19
    have e230_20 := f_20
    have hX230 := Evo.step hX227 (fun _ => Nat.le_refl 0) hE230 rfl
    have b230_A144 := RdO.evo rfl hE230 b227_A144
    have b230_g134 := BlkO.evo (by decide) hE230 b227_g134
    have b230_g136 := BlkO.evo (by decide) hE230 b227_g136
    have b230_g138 := BlkO.evo (by decide) hE230 b227_g138
    have b230_g140 := BlkO.evo (by decide) hE230 b227_g140
    have b230_A215 := RwO.evo rfl hE230 b227_A215
    have b230_A218 := RwO.evo rfl hE230 b227_A218
    obtain ⟨x231, hx231, hs⟩ := obind hs
    obtain ⟨x232, hx232, hs⟩ := obind hs
    obtain ⟨r233, hr233, hs⟩ := obind hs
    refine rg_plain_seq (n := 203) (rs := []) (own0 := own230) (K := [])
        (bs := [0, 0, 0, 4, 14, 0, 0, 64, 224, 510, 1023, 2047, 4095, 4095, 8191, 32767])
        (ds := [⟨[], [16], [], Fct.val 109 (.slice A218 r217.length cA218)⟩,
        ⟨[], [5], [], Fct.val 110 (.int .i64 (ad 2 (IntKind.i64.wrap x148)))⟩,
        ⟨[], [7], [], Fct.val 111 (.pointer (some ⟨g134, 0, none⟩))⟩,
        ⟨[2], [], [], Fct.val 112 (.int .i64 p2.1)⟩,
        ⟨[1, 3], [], [], Fct.val 113 (.int .i64 x231)⟩,
        ⟨[], [5], [], Fct.val 114 (.int .i64 (ad 2 (IntKind.i64.wrap x148)))⟩,
        ⟨[], [7], [], Fct.val 115 (.pointer (some ⟨g134, 1, none⟩))⟩,
        ⟨[6], [], [], Fct.val 116 (.int .i64 p2.2)⟩,
        ⟨[5, 7], [], [], Fct.val 117 (.int .i64 x232)⟩,
        ⟨[4, 8], [], [], Fct.val 118 (.agg #[.int .i64 x231, .int .i64 x232])⟩,
        ⟨[0, 9], [], [], Fct.val 119 (.tuple #[.int .i64 r233.1, .bool r233.2])⟩,
        ⟨[10], [], [], Fct.val 108 (.tuple #[.int .i64 r233.1, .bool r233.2])⟩,
        ⟨[11], [], [], Fct.val 120 (.int .i64 r233.1)⟩,
        ⟨[11], [], [], Fct.val 121 (.bool r233.2)⟩,
        ⟨[12], [], [], Fct.val 21 (.int .i64 r233.1)⟩,
        ⟨[13], [], [], Fct.val 22 (.bool r233.2)⟩]) (by kernel_rfl) hz230 hd230 (fun _ h => nomatch h) ?_ ?_
    · refine steps_cons (fun own a wx hf hsl hE => ?_) ?_
      · obtain ⟨s_16, -⟩ := hsl
        exact sg_plain rfl rfl (or_move (s_16.trans e230_16))
      refine steps_cons (fun own a wx hf hsl hE => ?_) ?_
      · obtain ⟨s_5, -⟩ := hsl
        exact sg_plain rfl rfl (or_move (s_5.trans e230_5))
      refine steps_cons (fun own a wx hf hsl hE => ?_) ?_
      · obtain ⟨s_7, -⟩ := hsl
        exact sg_plain rfl rfl (or_field fo32_0 (s_7.trans e230_7) (by rfl))
      refine steps_cons (fun own a wx hf hsl hE => ?_) ?_
      · obtain ⟨(f_111 : a.eval (.tmp 111) = .pointer (some ⟨g134, 0, none⟩)), -⟩ := hf
        exact sg_plain rfl rfl (or_load1 to3 f_111 (Blk.at_ (BlkO.evo (by decide) hE b230_g134).2 0 rfl))
      refine steps_cons (fun own a wx hf hsl hE => ?_) ?_
      · obtain ⟨(f_110 : a.eval (.tmp 110) = .int .i64 (ad 2 (IntKind.i64.wrap x148))), (f_112 : a.eval (.tmp 112) = .int .i64 p2.1), -⟩ := hf
        exact sg_plain rfl rfl (or_mul f_110 f_112 (osome hx231).symm)
      refine steps_cons (fun own a wx hf hsl hE => ?_) ?_
      · obtain ⟨s_5, -⟩ := hsl
        exact sg_plain rfl rfl (or_move (s_5.trans e230_5))
      refine steps_cons (fun own a wx hf hsl hE => ?_) ?_
      · obtain ⟨s_7, -⟩ := hsl
        exact sg_plain rfl rfl (or_field fo32_1 (s_7.trans e230_7) (by rfl))
      refine steps_cons (fun own a wx hf hsl hE => ?_) ?_
      · obtain ⟨(f_115 : a.eval (.tmp 115) = .pointer (some ⟨g134, 1, none⟩)), -⟩ := hf
        exact sg_plain rfl rfl (or_load1 to3 f_115 (Blk.at_ (BlkO.evo (by decide) hE b230_g134).2 1 rfl))
      refine steps_cons (fun own a wx hf hsl hE => ?_) ?_
      · obtain ⟨(f_114 : a.eval (.tmp 114) = .int .i64 (ad 2 (IntKind.i64.wrap x148))), (f_116 : a.eval (.tmp 116) = .int .i64 p2.2), -⟩ := hf
        exact sg_plain rfl rfl (or_mul f_114 f_116 (osome hx232).symm)
      refine steps_cons (fun own a wx hf hsl hE => ?_) ?_
      · obtain ⟨(f_113 : a.eval (.tmp 113) = .int .i64 x231), (f_117 : a.eval (.tmp 117) = .int .i64 x232), -⟩ := hf
        exact sg_plain rfl rfl (or_k [(113, .int .i64 x231), (117, .int .i64 x232)] rfl rfl ⟨f_113, f_117, trivial⟩ (by kernel_rfl))
      refine steps_cons (fun own a wx hf hsl hE => ?_) ?_
      · obtain ⟨(f_109 : a.eval (.tmp 109) = .slice A218 r217.length cA218), (f_118 : a.eval (.tmp 118) = .agg #[.int .i64 x231, .int .i64 x232]), -⟩ := hf
        exact sg_plain rfl rfl (or_call cf16 (args2 f_109 f_118) (ring_Winding_w _ r217 A218 cA218 (x231, x232) (RdO.zero (RwO.rd (RwO.evo rfl hE b230_A218))) r233 hr233) post_val)
      refine steps_cons (fun own a wx hf hsl hE => ?_) ?_
      · obtain ⟨(f_119 : a.eval (.tmp 119) = .tuple #[.int .i64 r233.1, .bool r233.2]), -⟩ := hf
        exact sg_plain rfl rfl (or_move f_119)
      refine steps_cons (fun own a wx hf hsl hE => ?_) ?_
      · obtain ⟨(f_108 : a.eval (.tmp 108) = .tuple #[.int .i64 r233.1, .bool r233.2]), -⟩ := hf
        exact sg_plain rfl rfl (or_k [(108, .tuple #[.int .i64 r233.1, .bool r233.2])] rfl rfl ⟨f_108, trivial⟩ (by kernel_rfl))
      refine steps_cons (fun own a wx hf hsl hE => ?_) ?_
      · obtain ⟨(f_108 : a.eval (.tmp 108) = .tuple #[.int .i64 r233.1, .bool r233.2]), -⟩ := hf
        exact sg_plain rfl rfl (or_k [(108, .tuple #[.int .i64 r233.1, .bool r233.2])] rfl rfl ⟨f_108, trivial⟩ (by kernel_rfl))
      refine steps_cons (fun own a wx hf hsl hE => ?_) ?_
      · obtain ⟨(f_120 : a.eval (.tmp 120) = .int .i64 r233.1), -⟩ := hf
        exact sg_plain rfl rfl (or_assign f_120)
      refine steps_cons (fun own a wx hf hsl hE => ?_) ?_
      · obtain ⟨(f_121 : a.eval (.tmp 121) = .bool r233.2), -⟩ := hf
        exact sg_plain rfl rfl (or_assign f_121)
      exact steps_nil
    intro own234 a234 w234 hd234 hz234 hk234 hf234 hE234
    have e234_0 : a234.eval (.tmp 0) = .slice A144 r143.length cA144 := (hk234 0 rfl).trans e230_0
    have e234_5 : a234.eval (.tmp 5) = .int .i64 (ad 2 (IntKind.i64.wrap x148)) := (hk234 5 rfl).trans e230_5
    have e234_8 : a234.eval (.tmp 8) = .pointer (some ⟨g136, 0, none⟩) := (hk234 8 rfl).trans e230_8
    have e234_9 : a234.eval (.tmp 9) = .pointer (some ⟨g138, 0, none⟩) := (hk234 9 rfl).trans e230_9
    have e234_10 : a234.eval (.tmp 10) = .pointer (some ⟨g140, 0, none⟩) := (hk234 10 rfl).trans e230_10
    have e234_15 : a234.eval (.tmp 15) = .slice A215 r214.length cA215 := (hk234 15 rfl).trans e230_15
    have e234_16 : a234.eval (.tmp 16) = .slice A218 r217.length cA218 := (hk234 16 rfl).trans e230_16
    have e234_17 : a234.eval (.tmp 17) = .int .i64 r226.1 := (hk234 17 rfl).trans e230_17
    have e234_18 : a234.eval (.tmp 18) = .bool r226.2 := (hk234 18 rfl).trans e230_18
    have e234_19 : a234.eval (.tmp 19) = .int .i64 r229.1 := (hk234 19 rfl).trans e230_19
    have e234_20 : a234.eval (.tmp 20) = .bool r229.2 := (hk234 20 rfl).trans e230_20
    obtain ⟨(f_21 : a234.eval (.tmp 21) = .int .i64 r233.1), (f_22 : a234.eval (.tmp 22) = .bool r233.2), -⟩ := hf234 [14, 15] rfl
    have e234_21 := f_21
    have e234_22 := f_22
    have hX234 := Evo.step hX230 (fun _ => Nat.le_refl 0) hE234 rfl
    have b234_A144 := RdO.evo rfl hE234 b230_A144
    have b234_g136 := BlkO.evo (by decide) hE234 b230_g136
    have b234_g138 := BlkO.evo (by decide) hE234 b230_g138
    have b234_g140 := BlkO.evo (by decide) hE234 b230_g140
    have b234_A215 := RwO.evo rfl hE234 b230_A215
    have b234_A218 := RwO.evo rfl hE234 b230_A218
    obtain ⟨r235, hr235, hs⟩ := obind hs
    refine rg_plain_seq (n := 203) (rs := []) (own0 := own234) (K := [])
        (bs := [0, 0, 0, 7, 15, 31, 31, 63, 255])
        (ds := [⟨[], [0], [], Fct.val 123 (.slice A144 r143.length cA144)⟩,
        ⟨[], [8], [], Fct.val 124 (.agg #[.int .i64 x3.1, .int .i64 x3.2])⟩,
        ⟨[], [9], [], Fct.val 125 (.agg #[.int .i64 b4.1, .int .i64 b4.2])⟩,
        ⟨[0, 1, 2], [], [], Fct.val 126 (.tuple #[.int .i64 r235.1, .bool r235.2])⟩,
        ⟨[3], [], [], Fct.val 122 (.tuple #[.int .i64 r235.1, .bool r235.2])⟩,
        ⟨[4], [], [], Fct.val 127 (.int .i64 r235.1)⟩,
        ⟨[4], [], [], Fct.val 128 (.bool r235.2)⟩,
        ⟨[5], [], [], Fct.val 23 (.int .i64 r235.1)⟩,
        ⟨[6], [], [], Fct.val 24 (.bool r235.2)⟩]) (by kernel_rfl) hz234 hd234 (fun _ h => nomatch h) ?_ ?_
    · refine steps_cons (fun own a wx hf hsl hE => ?_) ?_
      · obtain ⟨s_0, -⟩ := hsl
        exact sg_plain rfl rfl (or_move (s_0.trans e234_0))
      refine steps_cons (fun own a wx hf hsl hE => ?_) ?_
      · obtain ⟨s_8, -⟩ := hsl
        exact sg_plain rfl rfl (or_load (l := [.int .i64 x3.1, .int .i64 x3.2]) ta32 (s_8.trans e234_8) (Blk.cellsFrom (BlkO.evo (by decide) hE b234_g136).2 0 rfl) rfl)
      refine steps_cons (fun own a wx hf hsl hE => ?_) ?_
      · obtain ⟨s_9, -⟩ := hsl
        exact sg_plain rfl rfl (or_load (l := [.int .i64 b4.1, .int .i64 b4.2]) ta32 (s_9.trans e234_9) (Blk.cellsFrom (BlkO.evo (by decide) hE b234_g138).2 0 rfl) rfl)
      refine steps_cons (fun own a wx hf hsl hE => ?_) ?_
      · obtain ⟨(f_123 : a.eval (.tmp 123) = .slice A144 r143.length cA144), (f_124 : a.eval (.tmp 124) = .agg #[.int .i64 x3.1, .int .i64 x3.2]), (f_125 : a.eval (.tmp 125) = .agg #[.int .i64 b4.1, .int .i64 b4.2]), -⟩ := hf
        exact sg_plain rfl rfl (or_call cf17 (args3 f_123 f_124 f_125) (ring_Beside_w _ r143 A144 cA144 x3 b4 (RdO.zero (RdO.evo rfl hE b234_A144)) r235 hr235) post_val)
      refine steps_cons (fun own a wx hf hsl hE => ?_) ?_
      · obtain ⟨(f_126 : a.eval (.tmp 126) = .tuple #[.int .i64 r235.1, .bool r235.2]), -⟩ := hf
        exact sg_plain rfl rfl (or_move f_126)
      refine steps_cons (fun own a wx hf hsl hE => ?_) ?_
      · obtain ⟨(f_122 : a.eval (.tmp 122) = .tuple #[.int .i64 r235.1, .bool r235.2]), -⟩ := hf
        exact sg_plain rfl rfl (or_k [(122, .tuple #[.int .i64 r235.1, .bool r235.2])] rfl rfl ⟨f_122, trivial⟩ (by kernel_rfl))
      refine steps_cons (fun own a wx hf hsl hE => ?_) ?_
      · obtain ⟨(f_122 : a.eval (.tmp 122) = .tuple #[.int .i64 r235.1, .bool r235.2]), -⟩ := hf
        exact sg_plain rfl rfl (or_k [(122, .tuple #[.int .i64 r235.1, .bool r235.2])] rfl rfl ⟨f_122, trivial⟩ (by kernel_rfl))
      refine steps_cons (fun own a wx hf hsl hE => ?_) ?_
      · obtain ⟨(f_127 : a.eval (.tmp 127) = .int .i64 r235.1), -⟩ := hf
        exact sg_plain rfl rfl (or_assign f_127)
      refine steps_cons (fun own a wx hf hsl hE => ?_) ?_
      · obtain ⟨(f_128 : a.eval (.tmp 128) = .bool r235.2), -⟩ := hf
        exact sg_plain rfl rfl (or_assign f_128)
      exact steps_nil
    intro own236 a236 w236 hd236 hz236 hk236 hf236 hE236
    have e236_0 : a236.eval (.tmp 0) = .slice A144 r143.length cA144 := (hk236 0 rfl).trans e234_0
    have e236_5 : a236.eval (.tmp 5) = .int .i64 (ad 2 (IntKind.i64.wrap x148)) := (hk236 5 rfl).trans e234_5
    have e236_8 : a236.eval (.tmp 8) = .pointer (some ⟨g136, 0, none⟩) := (hk236 8 rfl).trans e234_8
    have e236_9 : a236.eval (.tmp 9) = .pointer (some ⟨g138, 0, none⟩) := (hk236 9 rfl).trans e234_9
    have e236_10 : a236.eval (.tmp 10) = .pointer (some ⟨g140, 0, none⟩) := (hk236 10 rfl).trans e234_10
    have e236_15 : a236.eval (.tmp 15) = .slice A215 r214.length cA215 := (hk236 15 rfl).trans e234_15
    have e236_16 : a236.eval (.tmp 16) = .slice A218 r217.length cA218 := (hk236 16 rfl).trans e234_16
    have e236_17 : a236.eval (.tmp 17) = .int .i64 r226.1 := (hk236 17 rfl).trans e234_17
    have e236_18 : a236.eval (.tmp 18) = .bool r226.2 := (hk236 18 rfl).trans e234_18
    have e236_19 : a236.eval (.tmp 19) = .int .i64 r229.1 := (hk236 19 rfl).trans e234_19
    have e236_20 : a236.eval (.tmp 20) = .bool r229.2 := (hk236 20 rfl).trans e234_20
    have e236_21 : a236.eval (.tmp 21) = .int .i64 r233.1 := (hk236 21 rfl).trans e234_21
    have e236_22 : a236.eval (.tmp 22) = .bool r233.2 := (hk236 22 rfl).trans e234_22
    obtain ⟨(f_23 : a236.eval (.tmp 23) = .int .i64 r235.1), (f_24 : a236.eval (.tmp 24) = .bool r235.2), -⟩ := hf236 [7, 8] rfl
    have e236_23 := f_23
    have e236_24 := f_24
    have hX236 := Evo.step hX234 (fun _ => Nat.le_refl 0) hE236 rfl
    have b236_A144 := RdO.evo rfl hE236 b234_A144
    have b236_g136 := BlkO.evo (by decide) hE236 b234_g136
    have b236_g138 := BlkO.evo (by decide) hE236 b234_g138
    have b236_g140 := BlkO.evo (by decide) hE236 b234_g140
    have b236_A215 := RwO.evo rfl hE236 b234_A215
    have b236_A218 := RwO.evo rfl hE236 b234_A218
    obtain ⟨r237, hr237, hs⟩ := obind hs
    obtain ⟨r238, hr238, hs⟩ := obind hs
    obtain ⟨r239, hr239, hs⟩ := obind hs
    refine rg_draw_seq g_mixed (n := 203) (rs := []) (own0 := own236) (K := [])
        (bs := [0, 0, 0, 6, 0, 0, 62, 127, 255, 511, 511, 1023, 4095])
        (ds := [⟨[], [15], [], Fct.val 130 (.slice A215 r214.length cA215)⟩,
        ⟨[], [8], [], Fct.val 131 (.agg #[.int .i64 x3.1, .int .i64 x3.2])⟩,
        ⟨[], [10], [], Fct.val 132 (.agg #[.int .i64 x5.1, .int .i64 x5.2])⟩,
        ⟨[1, 2], [], [], Fct.val 133 (.agg #[.int .i64 r237.1, .int .i64 r237.2])⟩,
        ⟨[], [9], [], Fct.val 134 (.agg #[.int .i64 b4.1, .int .i64 b4.2])⟩,
        ⟨[], [10], [], Fct.val 135 (.agg #[.int .i64 x5.1, .int .i64 x5.2])⟩,
        ⟨[4, 5], [], [], Fct.val 136 (.agg #[.int .i64 r238.1, .int .i64 r238.2])⟩,
        ⟨[0, 3, 6], [], [], Fct.val 137 (.tuple #[.int .i64 r239.1, .bool r239.2])⟩,
        ⟨[7], [], [], Fct.val 129 (.tuple #[.int .i64 r239.1, .bool r239.2])⟩,
        ⟨[8], [], [], Fct.val 138 (.int .i64 r239.1)⟩,
        ⟨[8], [], [], Fct.val 139 (.bool r239.2)⟩,
        ⟨[9], [], [], Fct.val 25 (.int .i64 r239.1)⟩,
        ⟨[10], [], [], Fct.val 26 (.bool r239.2)⟩]) (by kernel_rfl) hz236 hd236 (fun _ h => nomatch h) ?_ ?_
    · refine steps_cons (fun own a wx hf hsl hE => ?_) ?_
      · obtain ⟨s_15, -⟩ := hsl
        exact sg_plain rfl rfl (or_move (s_15.trans e236_15))
      refine steps_cons (fun own a wx hf hsl hE => ?_) ?_
      · obtain ⟨s_8, -⟩ := hsl
        exact sg_plain rfl rfl (or_load (l := [.int .i64 x3.1, .int .i64 x3.2]) ta32 (s_8.trans e236_8) (Blk.cellsFrom (BlkO.evo (by decide) hE b236_g136).2 0 rfl) rfl)
      refine steps_cons (fun own a wx hf hsl hE => ?_) ?_
      · obtain ⟨s_10, -⟩ := hsl
        exact sg_plain rfl rfl (or_load (l := [.int .i64 x5.1, .int .i64 x5.2]) ta32 (s_10.trans e236_10) (Blk.cellsFrom (BlkO.evo (by decide) hE b236_g140).2 0 rfl) rfl)
      refine steps_cons (fun own a wx hf hsl hE => ?_) ?_
      · obtain ⟨(f_131 : a.eval (.tmp 131) = .agg #[.int .i64 x3.1, .int .i64 x3.2]), (f_132 : a.eval (.tmp 132) = .agg #[.int .i64 x5.1, .int .i64 x5.2]), -⟩ := hf
        exact sg_plain rfl rfl (or_call cf20 (args2 f_131 f_132) (law03_moved_w _ x3 x5  r237 hr237) post_val)
      refine steps_cons (fun own a wx hf hsl hE => ?_) ?_
      · obtain ⟨s_9, -⟩ := hsl
        exact sg_plain rfl rfl (or_load (l := [.int .i64 b4.1, .int .i64 b4.2]) ta32 (s_9.trans e236_9) (Blk.cellsFrom (BlkO.evo (by decide) hE b236_g138).2 0 rfl) rfl)
      refine steps_cons (fun own a wx hf hsl hE => ?_) ?_
      · obtain ⟨s_10, -⟩ := hsl
        exact sg_plain rfl rfl (or_load (l := [.int .i64 x5.1, .int .i64 x5.2]) ta32 (s_10.trans e236_10) (Blk.cellsFrom (BlkO.evo (by decide) hE b236_g140).2 0 rfl) rfl)
      refine steps_cons (fun own a wx hf hsl hE => ?_) ?_
      · obtain ⟨(f_134 : a.eval (.tmp 134) = .agg #[.int .i64 b4.1, .int .i64 b4.2]), (f_135 : a.eval (.tmp 135) = .agg #[.int .i64 x5.1, .int .i64 x5.2]), -⟩ := hf
        exact sg_plain rfl rfl (or_call cf20 (args2 f_134 f_135) (law03_moved_w _ b4 x5  r238 hr238) post_val)
      refine steps_cons (fun own a wx hf hsl hE => ?_) ?_
      · obtain ⟨(f_130 : a.eval (.tmp 130) = .slice A215 r214.length cA215), (f_133 : a.eval (.tmp 133) = .agg #[.int .i64 r237.1, .int .i64 r237.2]), (f_136 : a.eval (.tmp 136) = .agg #[.int .i64 r238.1, .int .i64 r238.2]), -⟩ := hf
        exact sg_plain rfl rfl (or_call cf17 (args3 f_130 f_133 f_136) (ring_Beside_w _ r214 A215 cA215 r237 r238 (RdO.zero (RwO.rd (RwO.evo rfl hE b236_A215))) r239 hr239) post_val)
      refine steps_cons (fun own a wx hf hsl hE => ?_) ?_
      · obtain ⟨(f_137 : a.eval (.tmp 137) = .tuple #[.int .i64 r239.1, .bool r239.2]), -⟩ := hf
        exact sg_plain rfl rfl (or_move f_137)
      refine steps_cons (fun own a wx hf hsl hE => ?_) ?_
      · obtain ⟨(f_129 : a.eval (.tmp 129) = .tuple #[.int .i64 r239.1, .bool r239.2]), -⟩ := hf
        exact sg_plain rfl rfl (or_k [(129, .tuple #[.int .i64 r239.1, .bool r239.2])] rfl rfl ⟨f_129, trivial⟩ (by kernel_rfl))
      refine steps_cons (fun own a wx hf hsl hE => ?_) ?_
      · obtain ⟨(f_129 : a.eval (.tmp 129) = .tuple #[.int .i64 r239.1, .bool r239.2]), -⟩ := hf
        exact sg_plain rfl rfl (or_k [(129, .tuple #[.int .i64 r239.1, .bool r239.2])] rfl rfl ⟨f_129, trivial⟩ (by kernel_rfl))
      refine steps_cons (fun own a wx hf hsl hE => ?_) ?_
      · obtain ⟨(f_138 : a.eval (.tmp 138) = .int .i64 r239.1), -⟩ := hf
        exact sg_plain rfl rfl (or_assign f_138)
      refine steps_cons (fun own a wx hf hsl hE => ?_) ?_
      · obtain ⟨(f_139 : a.eval (.tmp 139) = .bool r239.2), -⟩ := hf
        exact sg_plain rfl rfl (or_assign f_139)
      exact steps_nil
    intro own240 a240 w240 hd240 hz240 hk240 hf240 hE240
    have e240_0 : a240.eval (.tmp 0) = .slice A144 r143.length cA144 := (hk240 0 rfl).trans e236_0
    have e240_5 : a240.eval (.tmp 5) = .int .i64 (ad 2 (IntKind.i64.wrap x148)) := (hk240 5 rfl).trans e236_5
    have e240_15 : a240.eval (.tmp 15) = .slice A215 r214.length cA215 := (hk240 15 rfl).trans e236_15
    have e240_16 : a240.eval (.tmp 16) = .slice A218 r217.length cA218 := (hk240 16 rfl).trans e236_16
    have e240_17 : a240.eval (.tmp 17) = .int .i64 r226.1 := (hk240 17 rfl).trans e236_17
    have e240_18 : a240.eval (.tmp 18) = .bool r226.2 := (hk240 18 rfl).trans e236_18
    have e240_19 : a240.eval (.tmp 19) = .int .i64 r229.1 := (hk240 19 rfl).trans e236_19
    have e240_20 : a240.eval (.tmp 20) = .bool r229.2 := (hk240 20 rfl).trans e236_20
    have e240_21 : a240.eval (.tmp 21) = .int .i64 r233.1 := (hk240 21 rfl).trans e236_21
    have e240_22 : a240.eval (.tmp 22) = .bool r233.2 := (hk240 22 rfl).trans e236_22
    have e240_23 : a240.eval (.tmp 23) = .int .i64 r235.1 := (hk240 23 rfl).trans e236_23
    have e240_24 : a240.eval (.tmp 24) = .bool r235.2 := (hk240 24 rfl).trans e236_24
    obtain ⟨(f_25 : a240.eval (.tmp 25) = .int .i64 r239.1), (f_26 : a240.eval (.tmp 26) = .bool r239.2), -⟩ := hf240 [11, 12] rfl
    have e240_25 := f_25
    have e240_26 := f_26
    have hX240 := Evo.step hX236 (fun _ => Nat.le_refl 0) hE240 rfl
    have b240_A144 := RdO.evo rfl hE240 b236_A144
    have b240_A215 := RwO.evo rfl hE240 b236_A215
    have b240_A218 := RwO.evo rfl hE240 b236_A218
    obtain ⟨r241, hr241, hs⟩ := obind hs
    obtain ⟨r242, hr242, hs⟩ := obind hs
    obtain ⟨r243, hr243, hs⟩ := obind hs
    obtain ⟨r244, hr244, hs⟩ := obind hs
    obtain ⟨x245, hx245, hs⟩ := obind hs
    obtain ⟨r246, hr246, hs⟩ := obind hs
    obtain ⟨x247, hx247, hs⟩ := obind hs
    obtain ⟨x248, hx248, hs⟩ := obind hs
    obtain ⟨x249, hx249, hs⟩ := obind hs
    obtain ⟨x250, hx250, hs⟩ := obind hs
    obtain ⟨r251, hr251, hs⟩ := obind hs
    obtain ⟨r252, hr252, hs⟩ := obind hs
    obtain ⟨r253, hr253, hs⟩ := obind hs
    obtain ⟨r254, hr254, hs⟩ := obind hs
    obtain ⟨x255, hx255, hs⟩ := obind hs
    refine rg_plain_seq (n := 203) (rs := []) (own0 := own240) (K := [])
        (bs := [0, 1, 3, 7, 3, 31, 63, 127, 255, 511, 1023, 511, 511, 6655, 511, 18431, 65535, 131071, 262143, 524287, 1048575, 1048575, 4194303, 8388607, 16777215, 33554431, 33554431, 134217727, 268435455, 536870911, 1073741823, 1073741823, 4294967295, 8589934591, 17179869183, 34359738367, 34359738367, 137438953471, 274877906943, 549755813887, 1099511627775, 1099511627775, 4398046511103, 8796093022207, 17592186044415, 35184372088831, 35184372088831, 140737488355327, 281474976710655, 562949953421311, 1125899906842623, 2251799813685247, 1125899906842623, 9007199254740991, 18014398509481983, 36028797018963967, 72057594037927935, 144115188075855871, 288230376151711743, 144115188075855871, 1152921504606846975, 2305843009213693951, 4611686018427387903, 9223372036854775807])
        (ds := [⟨[], [], [], Fct.val 140 (.bool r241)⟩,
        ⟨[0], [], [], Fct.val 141 (.bool r241)⟩,
        ⟨[1], [15], [], Fct.cond r241 (some 142) (Fct.val 142 (.slice A215 r214.length cA215))⟩,
        ⟨[1, 2], [], [], Fct.cond r241 (some 143) (Fct.val 143 (.int .i64 r242))⟩,
        ⟨[1], [0], [], Fct.cond r241 (some 144) (Fct.val 144 (.slice A144 r143.length cA144))⟩,
        ⟨[1, 4], [], [], Fct.cond r241 (some 145) (Fct.val 145 (.int .i64 r243))⟩,
        ⟨[1, 3, 5], [], [], Fct.cond r241 (some 146) (Fct.val 146 (.bool (decide (r242 = r243))))⟩,
        ⟨[1, 6], [], [], Fct.val 147 (.bool (r241 && (decide (r242 = r243))))⟩,
        ⟨[7], [], [], Fct.val 148 (.bool (r241 && (decide (r242 = r243))))⟩,
        ⟨[8], [16], [], Fct.cond (r241 && (decide (r242 = r243))) (some 149) (Fct.val 149 (.slice A218 r217.length cA218))⟩,
        ⟨[8, 9], [], [], Fct.cond (r241 && (decide (r242 = r243))) (some 150) (Fct.val 150 (.int .i64 r244))⟩,
        ⟨[8], [5], [], Fct.cond (r241 && (decide (r242 = r243))) (some 151) (Fct.val 151 (.int .i64 (ad 2 (IntKind.i64.wrap x148))))⟩,
        ⟨[8], [5], [], Fct.cond (r241 && (decide (r242 = r243))) (some 152) (Fct.val 152 (.int .i64 (ad 2 (IntKind.i64.wrap x148))))⟩,
        ⟨[8, 11, 12], [], [], Fct.cond (r241 && (decide (r242 = r243))) (some 153) (Fct.val 153 (.int .i64 x245))⟩,
        ⟨[8], [0], [], Fct.cond (r241 && (decide (r242 = r243))) (some 154) (Fct.val 154 (.slice A144 r143.length cA144))⟩,
        ⟨[8, 14], [], [], Fct.cond (r241 && (decide (r242 = r243))) (some 155) (Fct.val 155 (.int .i64 r246))⟩,
        ⟨[8, 13, 15], [], [], Fct.cond (r241 && (decide (r242 = r243))) (some 156) (Fct.val 156 (.int .i64 (ml x245 r246)))⟩,
        ⟨[8, 10, 16], [], [], Fct.cond (r241 && (decide (r242 = r243))) (some 157) (Fct.val 157 (.bool (decide (r244 = (ml x245 r246)))))⟩,
        ⟨[8, 17], [], [], Fct.val 158 (.bool x247)⟩,
        ⟨[18], [], [], Fct.val 159 (.bool x247)⟩,
        ⟨[19], [17], [], Fct.cond x247 (some 160) (Fct.val 160 (.int .i64 r226.1))⟩,
        ⟨[19], [19], [], Fct.cond x247 (some 161) (Fct.val 161 (.int .i64 r229.1))⟩,
        ⟨[19, 20, 21], [], [], Fct.cond x247 (some 162) (Fct.val 162 (.bool (decide (r226.1 = r229.1))))⟩,
        ⟨[19, 22], [], [], Fct.val 163 (.bool (x247 && (decide (r226.1 = r229.1))))⟩,
        ⟨[23], [], [], Fct.val 164 (.bool (x247 && (decide (r226.1 = r229.1))))⟩,
        ⟨[24], [17], [], Fct.cond (x247 && (decide (r226.1 = r229.1))) (some 165) (Fct.val 165 (.int .i64 r226.1))⟩,
        ⟨[24], [21], [], Fct.cond (x247 && (decide (r226.1 = r229.1))) (some 166) (Fct.val 166 (.int .i64 r233.1))⟩,
        ⟨[24, 25, 26], [], [], Fct.cond (x247 && (decide (r226.1 = r229.1))) (some 167) (Fct.val 167 (.bool (decide (r226.1 = r233.1))))⟩,
        ⟨[24, 27], [], [], Fct.val 168 (.bool x248)⟩,
        ⟨[28], [], [], Fct.val 169 (.bool x248)⟩,
        ⟨[29], [18], [], Fct.cond x248 (some 170) (Fct.val 170 (.bool r226.2))⟩,
        ⟨[29], [20], [], Fct.cond x248 (some 171) (Fct.val 171 (.bool r229.2))⟩,
        ⟨[29, 30, 31], [], [], Fct.cond x248 (some 172) (Fct.val 172 (.bool (r226.2 == r229.2)))⟩,
        ⟨[29, 32], [], [], Fct.val 173 (.bool (x248 && (r226.2 == r229.2)))⟩,
        ⟨[33], [], [], Fct.val 174 (.bool (x248 && (r226.2 == r229.2)))⟩,
        ⟨[34], [18], [], Fct.cond (x248 && (r226.2 == r229.2)) (some 175) (Fct.val 175 (.bool r226.2))⟩,
        ⟨[34], [22], [], Fct.cond (x248 && (r226.2 == r229.2)) (some 176) (Fct.val 176 (.bool r233.2))⟩,
        ⟨[34, 35, 36], [], [], Fct.cond (x248 && (r226.2 == r229.2)) (some 177) (Fct.val 177 (.bool (r226.2 == r233.2)))⟩,
        ⟨[34, 37], [], [], Fct.val 178 (.bool x249)⟩,
        ⟨[38], [], [], Fct.val 179 (.bool x249)⟩,
        ⟨[39], [23], [], Fct.cond x249 (some 180) (Fct.val 180 (.int .i64 r235.1))⟩,
        ⟨[39], [25], [], Fct.cond x249 (some 181) (Fct.val 181 (.int .i64 r239.1))⟩,
        ⟨[39, 40, 41], [], [], Fct.cond x249 (some 182) (Fct.val 182 (.bool (decide (r235.1 = r239.1))))⟩,
        ⟨[39, 42], [], [], Fct.val 183 (.bool (x249 && (decide (r235.1 = r239.1))))⟩,
        ⟨[43], [], [], Fct.val 184 (.bool (x249 && (decide (r235.1 = r239.1))))⟩,
        ⟨[44], [24], [], Fct.cond (x249 && (decide (r235.1 = r239.1))) (some 185) (Fct.val 185 (.bool r235.2))⟩,
        ⟨[44], [26], [], Fct.cond (x249 && (decide (r235.1 = r239.1))) (some 186) (Fct.val 186 (.bool r239.2))⟩,
        ⟨[44, 45, 46], [], [], Fct.cond (x249 && (decide (r235.1 = r239.1))) (some 187) (Fct.val 187 (.bool (r235.2 == r239.2)))⟩,
        ⟨[44, 47], [], [], Fct.val 188 (.bool x250)⟩,
        ⟨[48], [], [], Fct.val 189 (.bool x250)⟩,
        ⟨[49], [15], [], Fct.cond x250 (some 190) (Fct.val 190 (.slice A215 r214.length cA215))⟩,
        ⟨[49, 50], [], [], Fct.cond x250 (some 191) (Fct.val 191 (.bool r251))⟩,
        ⟨[49], [0], [], Fct.cond x250 (some 192) (Fct.val 192 (.slice A144 r143.length cA144))⟩,
        ⟨[49, 52], [], [], Fct.cond x250 (some 193) (Fct.val 193 (.bool r252))⟩,
        ⟨[49, 51, 53], [], [], Fct.cond x250 (some 194) (Fct.val 194 (.bool (r251 == r252)))⟩,
        ⟨[49, 54], [], [], Fct.val 195 (.bool (x250 && (r251 == r252)))⟩,
        ⟨[55], [], [], Fct.val 196 (.bool (x250 && (r251 == r252)))⟩,
        ⟨[56], [16], [], Fct.cond (x250 && (r251 == r252)) (some 197) (Fct.val 197 (.slice A218 r217.length cA218))⟩,
        ⟨[56, 57], [], [], Fct.cond (x250 && (r251 == r252)) (some 198) (Fct.val 198 (.bool r253))⟩,
        ⟨[56], [0], [], Fct.cond (x250 && (r251 == r252)) (some 199) (Fct.val 199 (.slice A144 r143.length cA144))⟩,
        ⟨[56, 59], [], [], Fct.cond (x250 && (r251 == r252)) (some 200) (Fct.val 200 (.bool r254))⟩,
        ⟨[56, 58, 60], [], [], Fct.cond (x250 && (r251 == r252)) (some 201) (Fct.val 201 (.bool (r253 == r254)))⟩,
        ⟨[56, 61], [], [], Fct.val 202 (.bool x255)⟩,
        ⟨[62], [], [], Fct.val 12 (.bool x255)⟩]) (by kernel_rfl) hz240 hd240 (fun _ h => nomatch h) ?_ ?_
    · refine steps_cons (fun own a wx hf hsl hE => ?_) ?_
      · exact sg_plain rfl rfl (or_call cf12 (args0) (law03_known_w _   r241 hr241) post_val)
      refine steps_cons (fun own a wx hf hsl hE => ?_) ?_
      · obtain ⟨(f_140 : a.eval (.tmp 140) = .bool r241), -⟩ := hf
        exact sg_plain rfl rfl (or_move f_140)
      refine steps_cons (fun own a wx hf hsl hE => ?_) ?_
      · obtain ⟨(f_141 : a.eval (.tmp 141) = .bool r241), -⟩ := hf
        obtain ⟨s_15, -⟩ := hsl
        refine sg_t rfl rfl rfl f_141 (fun hg => ?_)
        exact or_move (s_15.trans e240_15)
      refine steps_cons (fun own a wx hf hsl hE => ?_) ?_
      · obtain ⟨(f_141 : a.eval (.tmp 141) = .bool r241), c_142, -⟩ := hf
        refine sg_t rfl rfl rfl f_141 (fun hg => ?_)
        have f_142 : a.eval (.tmp 142) = .slice A215 r214.length cA215 := c_142.1 hg
        exact or_call cf13 (args1 f_142) (ring_Area_w _ r214 A215 cA215 (RdO.zero (RwO.rd (RwO.evo rfl hE b240_A215))) r242 (gd_t hr242 hg)) post_val
      refine steps_cons (fun own a wx hf hsl hE => ?_) ?_
      · obtain ⟨(f_141 : a.eval (.tmp 141) = .bool r241), -⟩ := hf
        obtain ⟨s_0, -⟩ := hsl
        refine sg_t rfl rfl rfl f_141 (fun hg => ?_)
        exact or_move (s_0.trans e240_0)
      refine steps_cons (fun own a wx hf hsl hE => ?_) ?_
      · obtain ⟨(f_141 : a.eval (.tmp 141) = .bool r241), c_144, -⟩ := hf
        refine sg_t rfl rfl rfl f_141 (fun hg => ?_)
        have f_144 : a.eval (.tmp 144) = .slice A144 r143.length cA144 := c_144.1 hg
        exact or_call cf13 (args1 f_144) (ring_Area_w _ r143 A144 cA144 (RdO.zero (RdO.evo rfl hE b240_A144)) r243 (gd_t hr243 hg)) post_val
      refine steps_cons (fun own a wx hf hsl hE => ?_) ?_
      · obtain ⟨(f_141 : a.eval (.tmp 141) = .bool r241), c_143, c_145, -⟩ := hf
        refine sg_t rfl rfl rfl f_141 (fun hg => ?_)
        have f_143 : a.eval (.tmp 143) = .int .i64 r242 := c_143.1 hg
        have f_145 : a.eval (.tmp 145) = .int .i64 r243 := c_145.1 hg
        exact or_eql f_143 f_145 rfl
      refine steps_cons (fun own a wx hf hsl hE => ?_) ?_
      · obtain ⟨(f_141 : a.eval (.tmp 141) = .bool r241), c_146, -⟩ := hf
        exact sg_plain rfl rfl (or_and f_141 (fun hx => c_146.1 hx) rfl rfl)
      refine steps_cons (fun own a wx hf hsl hE => ?_) ?_
      · obtain ⟨(f_147 : a.eval (.tmp 147) = .bool (r241 && (decide (r242 = r243)))), -⟩ := hf
        exact sg_plain rfl rfl (or_move f_147)
      refine steps_cons (fun own a wx hf hsl hE => ?_) ?_
      · obtain ⟨(f_148 : a.eval (.tmp 148) = .bool (r241 && (decide (r242 = r243)))), -⟩ := hf
        obtain ⟨s_16, -⟩ := hsl
        refine sg_t rfl rfl rfl f_148 (fun hg => ?_)
        exact or_move (s_16.trans e240_16)
      refine steps_cons (fun own a wx hf hsl hE => ?_) ?_
      · obtain ⟨(f_148 : a.eval (.tmp 148) = .bool (r241 && (decide (r242 = r243)))), c_149, -⟩ := hf
        refine sg_t rfl rfl rfl f_148 (fun hg => ?_)
        have f_149 : a.eval (.tmp 149) = .slice A218 r217.length cA218 := c_149.1 hg
        exact or_call cf13 (args1 f_149) (ring_Area_w _ r217 A218 cA218 (RdO.zero (RwO.rd (RwO.evo rfl hE b240_A218))) r244 (gd_t hr244 hg)) post_val
      refine steps_cons (fun own a wx hf hsl hE => ?_) ?_
      · obtain ⟨(f_148 : a.eval (.tmp 148) = .bool (r241 && (decide (r242 = r243)))), -⟩ := hf
        obtain ⟨s_5, -⟩ := hsl
        refine sg_t rfl rfl rfl f_148 (fun hg => ?_)
        exact or_move (s_5.trans e240_5)
      refine steps_cons (fun own a wx hf hsl hE => ?_) ?_
      · obtain ⟨(f_148 : a.eval (.tmp 148) = .bool (r241 && (decide (r242 = r243)))), -⟩ := hf
        obtain ⟨s_5, -⟩ := hsl
        refine sg_t rfl rfl rfl f_148 (fun hg => ?_)
        exact or_move (s_5.trans e240_5)
      refine steps_cons (fun own a wx hf hsl hE => ?_) ?_
      · obtain ⟨(f_148 : a.eval (.tmp 148) = .bool (r241 && (decide (r242 = r243)))), c_151, c_152, -⟩ := hf
        refine sg_t rfl rfl rfl f_148 (fun hg => ?_)
        have f_151 : a.eval (.tmp 151) = .int .i64 (ad 2 (IntKind.i64.wrap x148)) := c_151.1 hg
        have f_152 : a.eval (.tmp 152) = .int .i64 (ad 2 (IntKind.i64.wrap x148)) := c_152.1 hg
        exact or_mul f_151 f_152 (osome hx245).symm
      refine steps_cons (fun own a wx hf hsl hE => ?_) ?_
      · obtain ⟨(f_148 : a.eval (.tmp 148) = .bool (r241 && (decide (r242 = r243)))), -⟩ := hf
        obtain ⟨s_0, -⟩ := hsl
        refine sg_t rfl rfl rfl f_148 (fun hg => ?_)
        exact or_move (s_0.trans e240_0)
      refine steps_cons (fun own a wx hf hsl hE => ?_) ?_
      · obtain ⟨(f_148 : a.eval (.tmp 148) = .bool (r241 && (decide (r242 = r243)))), c_154, -⟩ := hf
        refine sg_t rfl rfl rfl f_148 (fun hg => ?_)
        have f_154 : a.eval (.tmp 154) = .slice A144 r143.length cA144 := c_154.1 hg
        exact or_call cf13 (args1 f_154) (ring_Area_w _ r143 A144 cA144 (RdO.zero (RdO.evo rfl hE b240_A144)) r246 (gd_t hr246 hg)) post_val
      refine steps_cons (fun own a wx hf hsl hE => ?_) ?_
      · obtain ⟨(f_148 : a.eval (.tmp 148) = .bool (r241 && (decide (r242 = r243)))), c_153, c_155, -⟩ := hf
        refine sg_t rfl rfl rfl f_148 (fun hg => ?_)
        have f_153 : a.eval (.tmp 153) = .int .i64 x245 := c_153.1 hg
        have f_155 : a.eval (.tmp 155) = .int .i64 r246 := c_155.1 hg
        exact or_mul f_153 f_155 rfl
      refine steps_cons (fun own a wx hf hsl hE => ?_) ?_
      · obtain ⟨(f_148 : a.eval (.tmp 148) = .bool (r241 && (decide (r242 = r243)))), c_150, c_156, -⟩ := hf
        refine sg_t rfl rfl rfl f_148 (fun hg => ?_)
        have f_150 : a.eval (.tmp 150) = .int .i64 r244 := c_150.1 hg
        have f_156 : a.eval (.tmp 156) = .int .i64 (ml x245 r246) := c_156.1 hg
        exact or_eql f_150 f_156 rfl
      refine steps_cons (fun own a wx hf hsl hE => ?_) ?_
      · obtain ⟨(f_148 : a.eval (.tmp 148) = .bool (r241 && (decide (r242 = r243)))), c_157, -⟩ := hf
        exact sg_plain rfl rfl (or_and f_148 (fun hx => c_157.1 hx) rfl (osome hx247).symm)
      refine steps_cons (fun own a wx hf hsl hE => ?_) ?_
      · obtain ⟨(f_158 : a.eval (.tmp 158) = .bool x247), -⟩ := hf
        exact sg_plain rfl rfl (or_move f_158)
      refine steps_cons (fun own a wx hf hsl hE => ?_) ?_
      · obtain ⟨(f_159 : a.eval (.tmp 159) = .bool x247), -⟩ := hf
        obtain ⟨s_17, -⟩ := hsl
        refine sg_t rfl rfl rfl f_159 (fun hg => ?_)
        exact or_move (s_17.trans e240_17)
      refine steps_cons (fun own a wx hf hsl hE => ?_) ?_
      · obtain ⟨(f_159 : a.eval (.tmp 159) = .bool x247), -⟩ := hf
        obtain ⟨s_19, -⟩ := hsl
        refine sg_t rfl rfl rfl f_159 (fun hg => ?_)
        exact or_move (s_19.trans e240_19)
      refine steps_cons (fun own a wx hf hsl hE => ?_) ?_
      · obtain ⟨(f_159 : a.eval (.tmp 159) = .bool x247), c_160, c_161, -⟩ := hf
        refine sg_t rfl rfl rfl f_159 (fun hg => ?_)
        have f_160 : a.eval (.tmp 160) = .int .i64 r226.1 := c_160.1 hg
        have f_161 : a.eval (.tmp 161) = .int .i64 r229.1 := c_161.1 hg
        exact or_eql f_160 f_161 rfl
      refine steps_cons (fun own a wx hf hsl hE => ?_) ?_
      · obtain ⟨(f_159 : a.eval (.tmp 159) = .bool x247), c_162, -⟩ := hf
        exact sg_plain rfl rfl (or_and f_159 (fun hx => c_162.1 hx) rfl rfl)
      refine steps_cons (fun own a wx hf hsl hE => ?_) ?_
      · obtain ⟨(f_163 : a.eval (.tmp 163) = .bool (x247 && (decide (r226.1 = r229.1)))), -⟩ := hf
        exact sg_plain rfl rfl (or_move f_163)
      refine steps_cons (fun own a wx hf hsl hE => ?_) ?_
      · obtain ⟨(f_164 : a.eval (.tmp 164) = .bool (x247 && (decide (r226.1 = r229.1)))), -⟩ := hf
        obtain ⟨s_17, -⟩ := hsl
        refine sg_t rfl rfl rfl f_164 (fun hg => ?_)
        exact or_move (s_17.trans e240_17)
      refine steps_cons (fun own a wx hf hsl hE => ?_) ?_
      · obtain ⟨(f_164 : a.eval (.tmp 164) = .bool (x247 && (decide (r226.1 = r229.1)))), -⟩ := hf
        obtain ⟨s_21, -⟩ := hsl
        refine sg_t rfl rfl rfl f_164 (fun hg => ?_)
        exact or_move (s_21.trans e240_21)
      refine steps_cons (fun own a wx hf hsl hE => ?_) ?_
      · obtain ⟨(f_164 : a.eval (.tmp 164) = .bool (x247 && (decide (r226.1 = r229.1)))), c_165, c_166, -⟩ := hf
        refine sg_t rfl rfl rfl f_164 (fun hg => ?_)
        have f_165 : a.eval (.tmp 165) = .int .i64 r226.1 := c_165.1 hg
        have f_166 : a.eval (.tmp 166) = .int .i64 r233.1 := c_166.1 hg
        exact or_eql f_165 f_166 rfl
      refine steps_cons (fun own a wx hf hsl hE => ?_) ?_
      · obtain ⟨(f_164 : a.eval (.tmp 164) = .bool (x247 && (decide (r226.1 = r229.1)))), c_167, -⟩ := hf
        exact sg_plain rfl rfl (or_and f_164 (fun hx => c_167.1 hx) rfl (osome hx248).symm)
      refine steps_cons (fun own a wx hf hsl hE => ?_) ?_
      · obtain ⟨(f_168 : a.eval (.tmp 168) = .bool x248), -⟩ := hf
        exact sg_plain rfl rfl (or_move f_168)
      refine steps_cons (fun own a wx hf hsl hE => ?_) ?_
      · obtain ⟨(f_169 : a.eval (.tmp 169) = .bool x248), -⟩ := hf
        obtain ⟨s_18, -⟩ := hsl
        refine sg_t rfl rfl rfl f_169 (fun hg => ?_)
        exact or_move (s_18.trans e240_18)
      refine steps_cons (fun own a wx hf hsl hE => ?_) ?_
      · obtain ⟨(f_169 : a.eval (.tmp 169) = .bool x248), -⟩ := hf
        obtain ⟨s_20, -⟩ := hsl
        refine sg_t rfl rfl rfl f_169 (fun hg => ?_)
        exact or_move (s_20.trans e240_20)
      refine steps_cons (fun own a wx hf hsl hE => ?_) ?_
      · obtain ⟨(f_169 : a.eval (.tmp 169) = .bool x248), c_170, c_171, -⟩ := hf
        refine sg_t rfl rfl rfl f_169 (fun hg => ?_)
        have f_170 : a.eval (.tmp 170) = .bool r226.2 := c_170.1 hg
        have f_171 : a.eval (.tmp 171) = .bool r229.2 := c_171.1 hg
        exact or_eqlb tb4 f_170 f_171 rfl
      refine steps_cons (fun own a wx hf hsl hE => ?_) ?_
      · obtain ⟨(f_169 : a.eval (.tmp 169) = .bool x248), c_172, -⟩ := hf
        exact sg_plain rfl rfl (or_and f_169 (fun hx => c_172.1 hx) rfl rfl)
      refine steps_cons (fun own a wx hf hsl hE => ?_) ?_
      · obtain ⟨(f_173 : a.eval (.tmp 173) = .bool (x248 && (r226.2 == r229.2))), -⟩ := hf
        exact sg_plain rfl rfl (or_move f_173)
      refine steps_cons (fun own a wx hf hsl hE => ?_) ?_
      · obtain ⟨(f_174 : a.eval (.tmp 174) = .bool (x248 && (r226.2 == r229.2))), -⟩ := hf
        obtain ⟨s_18, -⟩ := hsl
        refine sg_t rfl rfl rfl f_174 (fun hg => ?_)
        exact or_move (s_18.trans e240_18)
      refine steps_cons (fun own a wx hf hsl hE => ?_) ?_
      · obtain ⟨(f_174 : a.eval (.tmp 174) = .bool (x248 && (r226.2 == r229.2))), -⟩ := hf
        obtain ⟨s_22, -⟩ := hsl
        refine sg_t rfl rfl rfl f_174 (fun hg => ?_)
        exact or_move (s_22.trans e240_22)
      refine steps_cons (fun own a wx hf hsl hE => ?_) ?_
      · obtain ⟨(f_174 : a.eval (.tmp 174) = .bool (x248 && (r226.2 == r229.2))), c_175, c_176, -⟩ := hf
        refine sg_t rfl rfl rfl f_174 (fun hg => ?_)
        have f_175 : a.eval (.tmp 175) = .bool r226.2 := c_175.1 hg
        have f_176 : a.eval (.tmp 176) = .bool r233.2 := c_176.1 hg
        exact or_eqlb tb4 f_175 f_176 rfl
      refine steps_cons (fun own a wx hf hsl hE => ?_) ?_
      · obtain ⟨(f_174 : a.eval (.tmp 174) = .bool (x248 && (r226.2 == r229.2))), c_177, -⟩ := hf
        exact sg_plain rfl rfl (or_and f_174 (fun hx => c_177.1 hx) rfl (osome hx249).symm)
      refine steps_cons (fun own a wx hf hsl hE => ?_) ?_
      · obtain ⟨(f_178 : a.eval (.tmp 178) = .bool x249), -⟩ := hf
        exact sg_plain rfl rfl (or_move f_178)
      refine steps_cons (fun own a wx hf hsl hE => ?_) ?_
      · obtain ⟨(f_179 : a.eval (.tmp 179) = .bool x249), -⟩ := hf
        obtain ⟨s_23, -⟩ := hsl
        refine sg_t rfl rfl rfl f_179 (fun hg => ?_)
        exact or_move (s_23.trans e240_23)
      refine steps_cons (fun own a wx hf hsl hE => ?_) ?_
      · obtain ⟨(f_179 : a.eval (.tmp 179) = .bool x249), -⟩ := hf
        obtain ⟨s_25, -⟩ := hsl
        refine sg_t rfl rfl rfl f_179 (fun hg => ?_)
        exact or_move (s_25.trans e240_25)
      refine steps_cons (fun own a wx hf hsl hE => ?_) ?_
      · obtain ⟨(f_179 : a.eval (.tmp 179) = .bool x249), c_180, c_181, -⟩ := hf
        refine sg_t rfl rfl rfl f_179 (fun hg => ?_)
        have f_180 : a.eval (.tmp 180) = .int .i64 r235.1 := c_180.1 hg
        have f_181 : a.eval (.tmp 181) = .int .i64 r239.1 := c_181.1 hg
        exact or_eql f_180 f_181 rfl
      refine steps_cons (fun own a wx hf hsl hE => ?_) ?_
      · obtain ⟨(f_179 : a.eval (.tmp 179) = .bool x249), c_182, -⟩ := hf
        exact sg_plain rfl rfl (or_and f_179 (fun hx => c_182.1 hx) rfl rfl)
      refine steps_cons (fun own a wx hf hsl hE => ?_) ?_
      · obtain ⟨(f_183 : a.eval (.tmp 183) = .bool (x249 && (decide (r235.1 = r239.1)))), -⟩ := hf
        exact sg_plain rfl rfl (or_move f_183)
      refine steps_cons (fun own a wx hf hsl hE => ?_) ?_
      · obtain ⟨(f_184 : a.eval (.tmp 184) = .bool (x249 && (decide (r235.1 = r239.1)))), -⟩ := hf
        obtain ⟨s_24, -⟩ := hsl
        refine sg_t rfl rfl rfl f_184 (fun hg => ?_)
        exact or_move (s_24.trans e240_24)
      refine steps_cons (fun own a wx hf hsl hE => ?_) ?_
      · obtain ⟨(f_184 : a.eval (.tmp 184) = .bool (x249 && (decide (r235.1 = r239.1)))), -⟩ := hf
        obtain ⟨s_26, -⟩ := hsl
        refine sg_t rfl rfl rfl f_184 (fun hg => ?_)
        exact or_move (s_26.trans e240_26)
      refine steps_cons (fun own a wx hf hsl hE => ?_) ?_
      · obtain ⟨(f_184 : a.eval (.tmp 184) = .bool (x249 && (decide (r235.1 = r239.1)))), c_185, c_186, -⟩ := hf
        refine sg_t rfl rfl rfl f_184 (fun hg => ?_)
        have f_185 : a.eval (.tmp 185) = .bool r235.2 := c_185.1 hg
        have f_186 : a.eval (.tmp 186) = .bool r239.2 := c_186.1 hg
        exact or_eqlb tb4 f_185 f_186 rfl
      refine steps_cons (fun own a wx hf hsl hE => ?_) ?_
      · obtain ⟨(f_184 : a.eval (.tmp 184) = .bool (x249 && (decide (r235.1 = r239.1)))), c_187, -⟩ := hf
        exact sg_plain rfl rfl (or_and f_184 (fun hx => c_187.1 hx) rfl (osome hx250).symm)
      refine steps_cons (fun own a wx hf hsl hE => ?_) ?_
      · obtain ⟨(f_188 : a.eval (.tmp 188) = .bool x250), -⟩ := hf
        exact sg_plain rfl rfl (or_move f_188)
      refine steps_cons (fun own a wx hf hsl hE => ?_) ?_
      · obtain ⟨(f_189 : a.eval (.tmp 189) = .bool x250), -⟩ := hf
        obtain ⟨s_15, -⟩ := hsl
        refine sg_t rfl rfl rfl f_189 (fun hg => ?_)
        exact or_move (s_15.trans e240_15)
      refine steps_cons (fun own a wx hf hsl hE => ?_) ?_
      · obtain ⟨(f_189 : a.eval (.tmp 189) = .bool x250), c_190, -⟩ := hf
        refine sg_t rfl rfl rfl f_189 (fun hg => ?_)
        have f_190 : a.eval (.tmp 190) = .slice A215 r214.length cA215 := c_190.1 hg
        exact or_call cf14 (args1 f_190) (ring_Simple_w _ r214 A215 cA215 (RdO.zero (RwO.rd (RwO.evo rfl hE b240_A215))) r251 (gd_t hr251 hg)) post_val
      refine steps_cons (fun own a wx hf hsl hE => ?_) ?_
      · obtain ⟨(f_189 : a.eval (.tmp 189) = .bool x250), -⟩ := hf
        obtain ⟨s_0, -⟩ := hsl
        refine sg_t rfl rfl rfl f_189 (fun hg => ?_)
        exact or_move (s_0.trans e240_0)
      refine steps_cons (fun own a wx hf hsl hE => ?_) ?_
      · obtain ⟨(f_189 : a.eval (.tmp 189) = .bool x250), c_192, -⟩ := hf
        refine sg_t rfl rfl rfl f_189 (fun hg => ?_)
        have f_192 : a.eval (.tmp 192) = .slice A144 r143.length cA144 := c_192.1 hg
        exact or_call cf14 (args1 f_192) (ring_Simple_w _ r143 A144 cA144 (RdO.zero (RdO.evo rfl hE b240_A144)) r252 (gd_t hr252 hg)) post_val
      refine steps_cons (fun own a wx hf hsl hE => ?_) ?_
      · obtain ⟨(f_189 : a.eval (.tmp 189) = .bool x250), c_191, c_193, -⟩ := hf
        refine sg_t rfl rfl rfl f_189 (fun hg => ?_)
        have f_191 : a.eval (.tmp 191) = .bool r251 := c_191.1 hg
        have f_193 : a.eval (.tmp 193) = .bool r252 := c_193.1 hg
        exact or_eqlb tb4 f_191 f_193 rfl
      refine steps_cons (fun own a wx hf hsl hE => ?_) ?_
      · obtain ⟨(f_189 : a.eval (.tmp 189) = .bool x250), c_194, -⟩ := hf
        exact sg_plain rfl rfl (or_and f_189 (fun hx => c_194.1 hx) rfl rfl)
      refine steps_cons (fun own a wx hf hsl hE => ?_) ?_
      · obtain ⟨(f_195 : a.eval (.tmp 195) = .bool (x250 && (r251 == r252))), -⟩ := hf
        exact sg_plain rfl rfl (or_move f_195)
      refine steps_cons (fun own a wx hf hsl hE => ?_) ?_
      · obtain ⟨(f_196 : a.eval (.tmp 196) = .bool (x250 && (r251 == r252))), -⟩ := hf
        obtain ⟨s_16, -⟩ := hsl
        refine sg_t rfl rfl rfl f_196 (fun hg => ?_)
        exact or_move (s_16.trans e240_16)
      refine steps_cons (fun own a wx hf hsl hE => ?_) ?_
      · obtain ⟨(f_196 : a.eval (.tmp 196) = .bool (x250 && (r251 == r252))), c_197, -⟩ := hf
        refine sg_t rfl rfl rfl f_196 (fun hg => ?_)
        have f_197 : a.eval (.tmp 197) = .slice A218 r217.length cA218 := c_197.1 hg
        exact or_call cf14 (args1 f_197) (ring_Simple_w _ r217 A218 cA218 (RdO.zero (RwO.rd (RwO.evo rfl hE b240_A218))) r253 (gd_t hr253 hg)) post_val
      refine steps_cons (fun own a wx hf hsl hE => ?_) ?_
      · obtain ⟨(f_196 : a.eval (.tmp 196) = .bool (x250 && (r251 == r252))), -⟩ := hf
        obtain ⟨s_0, -⟩ := hsl
        refine sg_t rfl rfl rfl f_196 (fun hg => ?_)
        exact or_move (s_0.trans e240_0)
      refine steps_cons (fun own a wx hf hsl hE => ?_) ?_
      · obtain ⟨(f_196 : a.eval (.tmp 196) = .bool (x250 && (r251 == r252))), c_199, -⟩ := hf
        refine sg_t rfl rfl rfl f_196 (fun hg => ?_)
        have f_199 : a.eval (.tmp 199) = .slice A144 r143.length cA144 := c_199.1 hg
        exact or_call cf14 (args1 f_199) (ring_Simple_w _ r143 A144 cA144 (RdO.zero (RdO.evo rfl hE b240_A144)) r254 (gd_t hr254 hg)) post_val
      refine steps_cons (fun own a wx hf hsl hE => ?_) ?_
      · obtain ⟨(f_196 : a.eval (.tmp 196) = .bool (x250 && (r251 == r252))), c_198, c_200, -⟩ := hf
        refine sg_t rfl rfl rfl f_196 (fun hg => ?_)
        have f_198 : a.eval (.tmp 198) = .bool r253 := c_198.1 hg
        have f_200 : a.eval (.tmp 200) = .bool r254 := c_200.1 hg
        exact or_eqlb tb4 f_198 f_200 rfl
      refine steps_cons (fun own a wx hf hsl hE => ?_) ?_
      · obtain ⟨(f_196 : a.eval (.tmp 196) = .bool (x250 && (r251 == r252))), c_201, -⟩ := hf
        exact sg_plain rfl rfl (or_and f_196 (fun hx => c_201.1 hx) rfl (osome hx255).symm)
      refine steps_cons (fun own a wx hf hsl hE => ?_) ?_
      · obtain ⟨(f_202 : a.eval (.tmp 202) = .bool x255), -⟩ := hf
        exact sg_plain rfl rfl (or_assign f_202)
      exact steps_nil
    intro own256 a256 w256 hd256 hz256 hk256 hf256 hE256
    obtain ⟨(f_12 : a256.eval (.tmp 12) = .bool x255), -⟩ := hf256 [63] rfl
    have e256_12 := f_12
    have hX256 := Evo.step hX240 (fun _ => Nat.le_refl 0) hE256 rfl
    refine fl_ret ?_
    obtain rfl := (osome hs).symm
    exact hret _ _ _ _ (.inl rfl) hd256 (results1_ rfl (RVal.tmp_ e256_12)) ⟨own256, rfl, hX256⟩

end Go.Proofs.Ythkmkmkcnljmaaa
