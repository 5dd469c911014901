/-
  Chapter 21. The walks.
-/
import Derived.Test.YtopnbammdeimcaaWp4
import Derived.Test.YtopnbammdeimcaaWp5
import Derived.Test.YtopnbammdeimcaaSp7
namespace Go.Proofs.Ytopnbammdeimcaa
open Go.RowKit
set_option linter.unusedVariables false
theorem law21_PolyclipTwice_w (w : World) (l1 : List (Int × Int)) (Al1 : Option Addr) (cl1 : Nat) (b2 : (Int × Int) × (Int × Int)) (hl1 : RdO (fun _ => 0) [0] w R25 Al1 cl1 l1) (r : Bool) (hs : law21_PolyclipTwice l1 b2 = some r) :
    Calls Try.prog 4 #[.slice Al1 l1.length cl1, .agg #[.int .i64 b2.1.1, .int .i64 b2.1.2, .int .i64 b2.2.1, .int .i64 b2.2.2]] w fun e w' => ∃ own' : Own, e = .returned (.bool r) ∧ Evo [] (fun _ => 0) own' w w' := by
  refine fl_enter (n := 35) rfl rfl rfl (Nat.le_of_ble_eq_true rfl) ?_
  intro a0 Q hd0 hz0 harg hret
  have ha0 := harg 0 _ rfl
  have ha1 := harg 1 _ rfl
  clear harg
  have hE0 : Evo [] (fun _ => 0) (fun _ => 0) w w := Evo.refl _ _ _
  refine rg_plain_seq (n := 35) (rs := []) (own0 := (fun _ => 0)) (K := [])
      (bs := [0, 0])
      (ds := [⟨[], [1], [], Fct.blk 36 3 (fun g => .pointer (some ⟨g, 0, none⟩)) 31 #[.int .i64 b2.1.1, .int .i64 b2.1.2, .int .i64 b2.2.1, .int .i64 b2.2.2]⟩,
      ⟨[], [], [], Fct.val 4 (.bool false)⟩]) (by kernel_rfl) hz0 hd0 (fun _ h => nomatch h) ?_ ?_
  · refine steps_cons (fun own a wx hf hsl hE => ?_) ?_
    · obtain ⟨s_1, -⟩ := hsl
      exact sg_plain rfl rfl (or_new [(1, .agg #[.int .i64 b2.1.1, .int .i64 b2.1.2, .int .i64 b2.2.1, .int .i64 b2.2.2])] rfl rfl ⟨(s_1.trans ha1), trivial⟩ (by kernel_rfl))
    refine steps_cons (fun own a wx hf hsl hE => ?_) ?_
    · exact sg_plain rfl rfl (or_assign rfl)
    exact steps_nil
  intro own37 a37 w37 hd37 hz37 hk37 hf37 hE37
  have e37_0 : a37.eval (.tmp 0) = .slice Al1 l1.length cl1 := (hk37 0 rfl).trans ha0
  obtain ⟨⟨g35, (f_3 : a37.eval (.tmp 3) = .pointer (some ⟨g35, 0, none⟩)), (b_g35 : BlkO own37 36 w37 g35 31 #[.int .i64 b2.1.1, .int .i64 b2.1.2, .int .i64 b2.2.1, .int .i64 b2.2.2])⟩, -⟩ := hf37 [0] rfl
  have e37_3 := f_3
  have hX37 := Evo.step hE0 (fun _ => Nat.le_refl 0) hE37 rfl
  have b37_Al1 := RdO.evo rfl hE37 hl1
  have b37_g35 := b_g35
  obtain ⟨r38, hr38, hs⟩ := obind hs
  refine rg_plain_seq (n := 35) (rs := []) (own0 := own37) (K := [])
      (bs := [0, 1, 3])
      (ds := [⟨[], [0], [], Fct.val 6 (.slice Al1 l1.length cl1)⟩,
      ⟨[0], [], [], Fct.mems [40, 41, 0] 7 (fun (x : Option Addr × Nat) => .slice x.1 r38.length x.2) (fun (x : Option Addr × Nat) own w => RdO own [40, 41, 0] w R25 x.1 x.2 r38) (fun hk he h => RdO.evo (hits_sub hk (by decide)) he h)⟩,
      ⟨[1], [], [], Fct.rel [0, 7] (fun l => ∀ (A39 : Option Addr) (cA39 : Nat), l.getD 1 undef = .slice A39 r38.length cA39 → l.getD 0 undef = .slice A39 r38.length cA39)⟩]) (by kernel_rfl) hz37 hd37 (fun _ h => nomatch h) ?_ ?_
  · refine steps_cons (fun own a wx hf hsl hE => ?_) ?_
    · obtain ⟨s_0, -⟩ := hsl
      exact sg_plain rfl rfl (or_move (s_0.trans e37_0))
    refine steps_cons (fun own a wx hf hsl hE => ?_) ?_
    · obtain ⟨(f_6 : a.eval (.tmp 6) = .slice Al1 l1.length cl1), -⟩ := hf
      exact sg_plain rfl rfl (or_call cf6 (args1 f_6) (law03_Cut_w _ (forth own (inL [0])) l1 Al1 cl1 inL_le (RdO.alias_ (La := [0]) (RdO.evo rfl hE b37_Al1) (by decide)) r38 hr38) (post_alias (La := [0]) (m' := (look0 [(1, 40), (2, 41)])) (fun own' w' a' x ho hsz h1 h => ⟨x, h1, RdO.backN_ ho hsz h (by decide) (by decide) (by decide)⟩)))
    refine steps_cons (fun own a wx hf hsl hE => ?_) ?_
    · obtain ⟨⟨⟨A39, cA39⟩, (f_7 : a.eval (.tmp 7) = .slice A39 r38.length cA39), (b_A39 : RdO own [40, 41, 0] wx R25 A39 cA39 r38)⟩, -⟩ := hf
      exact sg_plain rfl rfl (or_mono (f := Fct.val 0 (.slice A39 r38.length cA39)) (or_assign f_7) (fun own' a' w' v' hp h => fun _ _ h0' => by cases (f_7.symm.trans ((hp.2 7 (by decide)).symm.trans h0')); exact h))
    exact steps_nil
  intro own42 a42 w42 hd42 hz42 hk42 hf42 hE42
  have e42_3 : a42.eval (.tmp 3) = .pointer (some ⟨g35, 0, none⟩) := (hk42 3 rfl).trans e37_3
  obtain ⟨⟨⟨A39, cA39⟩, (f_7 : a42.eval (.tmp 7) = .slice A39 r38.length cA39), (b_A39 : RdO own42 [40, 41, 0] w42 R25 A39 cA39 r38)⟩, (q_0 : ∀ (A39 : Option Addr) (cA39 : Nat), a42.eval (.tmp 7) = .slice A39 r38.length cA39 → a42.eval (.tmp 0) = .slice A39 r38.length cA39), -⟩ := hf42 [1, 2] rfl
  have f_0 := q_0 _ _ f_7
  have e42_0 := f_0
  have hX42 := Evo.step hX37 (fun _ => Nat.le_refl 0) hE42 rfl
  have b42_g35 := BlkO.evo (by decide) hE42 b37_g35
  have b42_A39 := b_A39
  obtain ⟨r43, hr43, hs⟩ := obind hs
  refine rg_plain_seq (n := 35) (rs := []) (own0 := own42) (K := [])
      (bs := [0, 0, 3, 7])
      (ds := [⟨[], [0], [], Fct.val 8 (.slice A39 r38.length cA39)⟩,
      ⟨[], [3], [], Fct.val 9 (.agg #[.int .i64 b2.1.1, .int .i64 b2.1.2, .int .i64 b2.2.1, .int .i64 b2.2.2])⟩,
      ⟨[0, 1], [], [], Fct.mems [45] 10 (fun (x : Option Addr × Nat) => .slice x.1 r43.length x.2) (fun (x : Option Addr × Nat) own w => RdO own [45] w R25 x.1 x.2 r43) (fun hk he h => RdO.evo (hits_sub hk (by decide)) he h)⟩,
      ⟨[2], [], [], Fct.rel [5, 10] (fun l => ∀ (A44 : Option Addr) (cA44 : Nat), l.getD 1 undef = .slice A44 r43.length cA44 → l.getD 0 undef = .slice A44 r43.length cA44)⟩]) (by kernel_rfl) hz42 hd42 (fun _ h => nomatch h) ?_ ?_
  · refine steps_cons (fun own a wx hf hsl hE => ?_) ?_
    · obtain ⟨s_0, -⟩ := hsl
      exact sg_plain rfl rfl (or_move (s_0.trans e42_0))
    refine steps_cons (fun own a wx hf hsl hE => ?_) ?_
    · obtain ⟨s_3, -⟩ := hsl
      exact sg_plain rfl rfl (or_load (l := [.int .i64 b2.1.1, .int .i64 b2.1.2, .int .i64 b2.2.1, .int .i64 b2.2.2]) ta31 (s_3.trans e42_3) (Blk.cellsFrom (BlkO.evo (by decide) hE b42_g35).2 0 rfl) rfl)
    refine steps_cons (fun own a wx hf hsl hE => ?_) ?_
    · obtain ⟨(f_8 : a.eval (.tmp 8) = .slice A39 r38.length cA39), (f_9 : a.eval (.tmp 9) = .agg #[.int .i64 b2.1.1, .int .i64 b2.1.2, .int .i64 b2.2.1, .int .i64 b2.2.2]), -⟩ := hf
      exact sg_plain rfl rfl (or_call cf10 (args2 f_8 f_9) (polyclip_Ring_w _ r38 A39 cA39 b2 (RdO.zero (RdO.evo rfl hE b42_A39)) r43 hr43) (post_mems (m := (fun _ => 0)) (m' := (look0 [(1, 45)])) (fun _ _ => .inl rfl) (fun own' w' a' x h1 h => ⟨x, h1, RdO.back_ h (by decide)⟩)))
    refine steps_cons (fun own a wx hf hsl hE => ?_) ?_
    · obtain ⟨⟨⟨A44, cA44⟩, (f_10 : a.eval (.tmp 10) = .slice A44 r43.length cA44), (b_A44 : RdO own [45] wx R25 A44 cA44 r43)⟩, -⟩ := hf
      exact sg_plain rfl rfl (or_mono (f := Fct.val 5 (.slice A44 r43.length cA44)) (or_assign f_10) (fun own' a' w' v' hp h => fun _ _ h0' => by cases (f_10.symm.trans ((hp.2 10 (by decide)).symm.trans h0')); exact h))
    exact steps_nil
  intro own46 a46 w46 hd46 hz46 hk46 hf46 hE46
  have e46_3 : a46.eval (.tmp 3) = .pointer (some ⟨g35, 0, none⟩) := (hk46 3 rfl).trans e42_3
  obtain ⟨⟨⟨A44, cA44⟩, (f_10 : a46.eval (.tmp 10) = .slice A44 r43.length cA44), (b_A44 : RdO own46 [45] w46 R25 A44 cA44 r43)⟩, (q_5 : ∀ (A44 : Option Addr) (cA44 : Nat), a46.eval (.tmp 10) = .slice A44 r43.length cA44 → a46.eval (.tmp 5) = .slice A44 r43.length cA44), -⟩ := hf46 [2, 3] rfl
  have f_5 := q_5 _ _ f_10
  have e46_5 := f_5
  have hX46 := Evo.step hX42 (fun _ => Nat.le_refl 0) hE46 rfl
  have b46_g35 := BlkO.evo (by decide) hE46 b42_g35
  have b46_A44 := b_A44
  obtain ⟨r47, hr47, hs⟩ := obind hs
  obtain ⟨r48, hr48, hs⟩ := obind hs
  obtain ⟨r51, hr51, hs⟩ := obind hs
  obtain ⟨r54, hr54, hs⟩ := obind hs
  obtain ⟨r55, hr55, hs⟩ := obind hs
  obtain ⟨r56, hr56, hs⟩ := obind hs
  obtain ⟨x57, hx57, hs⟩ := obind hs
  refine rg_plain_seq (n := 35) (rs := []) (own0 := own46) (K := [])
      (bs := [0, 1, 3, 3, 15, 3, 63, 127, 255, 511, 1023, 2047, 4095, 8191, 16383, 16383, 65535, 131071, 262143, 524287, 1048575, 2097151, 4194303, 8388607, 16777215])
      (ds := [⟨[], [], [], Fct.val 11 (.bool r47)⟩,
      ⟨[0], [], [], Fct.val 12 (.bool r47)⟩,
      ⟨[1], [5], [], Fct.cond r47 (some 13) (Fct.val 13 (.slice A44 r43.length cA44))⟩,
      ⟨[1], [3], [], Fct.cond r47 (some 14) (Fct.val 14 (.agg #[.int .i64 b2.1.1, .int .i64 b2.1.2, .int .i64 b2.2.1, .int .i64 b2.2.2]))⟩,
      ⟨[1, 2, 3], [], [], Fct.cond r47 (some 15) (Fct.mems [50] 15 (fun (x : Option Addr × Nat) => .slice x.1 r48.length x.2) (fun (x : Option Addr × Nat) own w => RdO own [50] w R25 x.1 x.2 r48) (fun hk he h => RdO.evo (hits_sub hk (by decide)) he h))⟩,
      ⟨[1], [5], [], Fct.cond r47 (some 16) (Fct.val 16 (.slice A44 r43.length cA44))⟩,
      ⟨[1, 5], [], [], Fct.cond r47 (some 17) (Fct.row 53 [] 17 43 R43 r51)⟩,
      ⟨[1, 4, 6], [], [], Fct.cond r47 (some 18) (Fct.val 18 (.bool r54))⟩,
      ⟨[1, 7], [], [], Fct.val 19 (.bool (r47 && r54))⟩,
      ⟨[8], [], [], Fct.val 20 (.bool (r47 && r54))⟩,
      ⟨[9], [5], [], Fct.cond (r47 && r54) (some 21) (Fct.val 21 (.slice A44 r43.length cA44))⟩,
      ⟨[9, 10], [], [], Fct.cond (r47 && r54) (some 22) (Fct.val 22 (.int .i64 (r43.length : Int)))⟩,
      ⟨[9, 11], [], [], Fct.cond (r47 && r54) (some 23) (Fct.val 23 (.bool (decide ((r43.length : Int) = 0))))⟩,
      ⟨[9, 12], [], [], Fct.cond (r47 && r54) (some 24) (Fct.val 24 (.bool (decide ((r43.length : Int) = 0))))⟩,
      ⟨[13], [5], [], Fct.cond ((r47 && r54) && (!(decide ((r43.length : Int) = 0)))) (some 25) (Fct.val 25 (.slice A44 r43.length cA44))⟩,
      ⟨[13], [3], [], Fct.cond ((r47 && r54) && (!(decide ((r43.length : Int) = 0)))) (some 26) (Fct.val 26 (.agg #[.int .i64 b2.1.1, .int .i64 b2.1.2, .int .i64 b2.2.1, .int .i64 b2.2.2]))⟩,
      ⟨[13, 14, 15], [], [], Fct.cond ((r47 && r54) && (!(decide ((r43.length : Int) = 0)))) (some 27) (Fct.val 27 (.bool r55))⟩,
      ⟨[13, 16], [], [], Fct.cond ((r47 && r54) && (!(decide ((r43.length : Int) = 0)))) (some 28) (Fct.val 28 (.bool r55))⟩,
      ⟨[17], [5], [], Fct.cond (((r47 && r54) && (!(decide ((r43.length : Int) = 0)))) && r55) (some 29) (Fct.val 29 (.slice A44 r43.length cA44))⟩,
      ⟨[17, 18], [], [], Fct.cond (((r47 && r54) && (!(decide ((r43.length : Int) = 0)))) && r55) (some 30) (Fct.val 30 (.int .i64 r56))⟩,
      ⟨[17, 19], [], [], Fct.cond (((r47 && r54) && (!(decide ((r43.length : Int) = 0)))) && r55) (some 31) (Fct.val 31 (.bool (!decide (r56 = 0))))⟩,
      ⟨[13, 17, 20], [], [], Fct.cond ((r47 && r54) && (!(decide ((r43.length : Int) = 0)))) (some 32) (Fct.val 32 (.bool (r55 && (!decide (r56 = 0)))))⟩,
      ⟨[9, 13, 21], [], [], Fct.cond (r47 && r54) (some 33) (Fct.val 33 (.bool x57))⟩,
      ⟨[9, 22], [], [], Fct.val 34 (.bool ((r47 && r54) && x57))⟩,
      ⟨[23], [], [], Fct.val 4 (.bool ((r47 && r54) && x57))⟩]) (by kernel_rfl) hz46 hd46 (fun _ h => nomatch h) ?_ ?_
  · refine steps_cons (fun own a wx hf hsl hE => ?_) ?_
    · exact sg_plain rfl rfl (or_call cf7 (args0) (law21_known_w _   r47 hr47) post_val)
    refine steps_cons (fun own a wx hf hsl hE => ?_) ?_
    · obtain ⟨(f_11 : a.eval (.tmp 11) = .bool r47), -⟩ := hf
      exact sg_plain rfl rfl (or_move f_11)
    refine steps_cons (fun own a wx hf hsl hE => ?_) ?_
    · obtain ⟨(f_12 : a.eval (.tmp 12) = .bool r47), -⟩ := hf
      obtain ⟨s_5, -⟩ := hsl
      refine sg_t rfl rfl rfl f_12 (fun hg => ?_)
      exact or_move (s_5.trans e46_5)
    refine steps_cons (fun own a wx hf hsl hE => ?_) ?_
    · obtain ⟨(f_12 : a.eval (.tmp 12) = .bool r47), -⟩ := hf
      obtain ⟨s_3, -⟩ := hsl
      refine sg_t rfl rfl rfl f_12 (fun hg => ?_)
      exact or_load (l := [.int .i64 b2.1.1, .int .i64 b2.1.2, .int .i64 b2.2.1, .int .i64 b2.2.2]) ta31 (s_3.trans e46_3) (Blk.cellsFrom (BlkO.evo (by decide) hE b46_g35).2 0 rfl) rfl
    refine steps_cons (fun own a wx hf hsl hE => ?_) ?_
    · obtain ⟨(f_12 : a.eval (.tmp 12) = .bool r47), c_13, c_14, -⟩ := hf
      refine sg_t rfl rfl rfl f_12 (fun hg => ?_)
      have f_13 : a.eval (.tmp 13) = .slice A44 r43.length cA44 := c_13.1 hg
      have f_14 : a.eval (.tmp 14) = .agg #[.int .i64 b2.1.1, .int .i64 b2.1.2, .int .i64 b2.2.1, .int .i64 b2.2.2] := c_14.1 hg
      exact or_call cf10 (args2 f_13 f_14) (polyclip_Ring_w _ r43 A44 cA44 b2 (RdO.zero (RdO.evo rfl hE b46_A44)) r48 (gd_t hr48 hg)) (post_mems (m := (fun _ => 0)) (m' := (look0 [(1, 50)])) (fun _ _ => .inl rfl) (fun own' w' a' x h1 h => ⟨x, h1, RdO.back_ h (by decide)⟩))
    refine steps_cons (fun own a wx hf hsl hE => ?_) ?_
    · obtain ⟨(f_12 : a.eval (.tmp 12) = .bool r47), -⟩ := hf
      obtain ⟨s_5, -⟩ := hsl
      refine sg_t rfl rfl rfl f_12 (fun hg => ?_)
      exact or_move (s_5.trans e46_5)
    refine steps_cons (fun own a wx hf hsl hE => ?_) ?_
    · obtain ⟨(f_12 : a.eval (.tmp 12) = .bool r47), c_16, -⟩ := hf
      refine sg_t rfl rfl rfl f_12 (fun hg => ?_)
      have f_16 : a.eval (.tmp 16) = .slice A44 r43.length cA44 := c_16.1 hg
      exact or_call cf12 (args1 f_16) (law01_Ofs_w _ r43 A44 cA44 (RdO.zero (RdO.evo rfl hE b46_A44)) r51 (gd_t hr51 hg)) (post_row (m' := (look0 [(1, 53)])) (.inl (Rep.fl_flat _)) rfl rfl (fun _ => rfl))
    refine steps_cons (fun own a wx hf hsl hE => ?_) ?_
    · obtain ⟨(f_12 : a.eval (.tmp 12) = .bool r47), c_15, c_17, -⟩ := hf
      refine sg_t rfl rfl rfl f_12 (fun hg => ?_)
      obtain ⟨⟨A49, cA49⟩, (f_15 : a.eval (.tmp 15) = .slice A49 r48.length cA49), (b_A49 : RdO own [50] wx R25 A49 cA49 r48)⟩ := c_15.1 hg
      obtain ⟨⟨A52, cA52⟩, (f_17 : a.eval (.tmp 17) = .slice A52 r51.length cA52), (b_A52 : RwO own 53 [] wx 43 R43 A52 cA52 r51)⟩ := c_17.1 hg
      exact or_call cf11 (args2 f_15 f_17) (law03_Same_w _ r48 A49 cA49 r51 A52 cA52 (RdO.zero b_A49) (RdO.zero (RwO.rd b_A52)) r54 (gd_t hr54 hg)) post_val
    refine steps_cons (fun own a wx hf hsl hE => ?_) ?_
    · obtain ⟨(f_12 : a.eval (.tmp 12) = .bool r47), c_18, -⟩ := hf
      exact sg_plain rfl rfl (or_and f_12 (fun hx => c_18.1 hx) rfl rfl)
    refine steps_cons (fun own a wx hf hsl hE => ?_) ?_
    · obtain ⟨(f_19 : a.eval (.tmp 19) = .bool (r47 && r54)), -⟩ := hf
      exact sg_plain rfl rfl (or_move f_19)
    refine steps_cons (fun own a wx hf hsl hE => ?_) ?_
    · obtain ⟨(f_20 : a.eval (.tmp 20) = .bool (r47 && r54)), -⟩ := hf
      obtain ⟨s_5, -⟩ := hsl
      refine sg_t rfl rfl rfl f_20 (fun hg => ?_)
      exact or_move (s_5.trans e46_5)
    refine steps_cons (fun own a wx hf hsl hE => ?_) ?_
    · obtain ⟨(f_20 : a.eval (.tmp 20) = .bool (r47 && r54)), c_21, -⟩ := hf
      refine sg_t rfl rfl rfl f_20 (fun hg => ?_)
      have f_21 : a.eval (.tmp 21) = .slice A44 r43.length cA44 := c_21.1 hg
      exact or_len tu22 f_21 rfl
    refine steps_cons (fun own a wx hf hsl hE => ?_) ?_
    · obtain ⟨(f_20 : a.eval (.tmp 20) = .bool (r47 && r54)), c_22, -⟩ := hf
      refine sg_t rfl rfl rfl f_20 (fun hg => ?_)
      have f_22 : a.eval (.tmp 22) = .int .i64 (r43.length : Int) := c_22.1 hg
      exact or_eql f_22 rfl rfl
    refine steps_cons (fun own a wx hf hsl hE => ?_) ?_
    · obtain ⟨(f_20 : a.eval (.tmp 20) = .bool (r47 && r54)), c_23, -⟩ := hf
      refine sg_t rfl rfl rfl f_20 (fun hg => ?_)
      have f_23 : a.eval (.tmp 23) = .bool (decide ((r43.length : Int) = 0)) := c_23.1 hg
      exact or_move f_23
    refine steps_cons (fun own a wx hf hsl hE => ?_) ?_
    · obtain ⟨c_24, -⟩ := hf
      obtain ⟨s_5, -⟩ := hsl
      refine sg_fc rfl rfl rfl c_24 (fun hg => ?_)
      have f_24 : a.eval (.tmp 24) = .bool (decide ((r43.length : Int) = 0)) := c_24.1 (gL hg)
      exact or_move (s_5.trans e46_5)
    refine steps_cons (fun own a wx hf hsl hE => ?_) ?_
    · obtain ⟨c_24, -⟩ := hf
      obtain ⟨s_3, -⟩ := hsl
      refine sg_fc rfl rfl rfl c_24 (fun hg => ?_)
      have f_24 : a.eval (.tmp 24) = .bool (decide ((r43.length : Int) = 0)) := c_24.1 (gL hg)
      exact or_load (l := [.int .i64 b2.1.1, .int .i64 b2.1.2, .int .i64 b2.2.1, .int .i64 b2.2.2]) ta31 (s_3.trans e46_3) (Blk.cellsFrom (BlkO.evo (by decide) hE b46_g35).2 0 rfl) rfl
    refine steps_cons (fun own a wx hf hsl hE => ?_) ?_
    · obtain ⟨c_24, c_25, c_26, -⟩ := hf
      refine sg_fc rfl rfl rfl c_24 (fun hg => ?_)
      have f_24 : a.eval (.tmp 24) = .bool (decide ((r43.length : Int) = 0)) := c_24.1 (gL hg)
      have f_25 : a.eval (.tmp 25) = .slice A44 r43.length cA44 := c_25.1 hg
      have f_26 : a.eval (.tmp 26) = .agg #[.int .i64 b2.1.1, .int .i64 b2.1.2, .int .i64 b2.2.1, .int .i64 b2.2.2] := c_26.1 hg
      exact or_call cf13 (args2 f_25 f_26) (polyclip_Whole_w _ r43 A44 cA44 b2 (RdO.zero (RdO.evo rfl hE b46_A44)) r55 (gd_t hr55 hg)) post_val
    refine steps_cons (fun own a wx hf hsl hE => ?_) ?_
    · obtain ⟨c_24, c_27, -⟩ := hf
      refine sg_fc rfl rfl rfl c_24 (fun hg => ?_)
      have f_24 : a.eval (.tmp 24) = .bool (decide ((r43.length : Int) = 0)) := c_24.1 (gL hg)
      have f_27 : a.eval (.tmp 27) = .bool r55 := c_27.1 hg
      exact or_move f_27
    refine steps_cons (fun own a wx hf hsl hE => ?_) ?_
    · obtain ⟨c_28, -⟩ := hf
      obtain ⟨s_5, -⟩ := hsl
      refine sg_tc rfl rfl rfl c_28 (fun hg => ?_)
      have f_28 : a.eval (.tmp 28) = .bool r55 := c_28.1 (gL hg)
      exact or_move (s_5.trans e46_5)
    refine steps_cons (fun own a wx hf hsl hE => ?_) ?_
    · obtain ⟨c_28, c_29, -⟩ := hf
      refine sg_tc rfl rfl rfl c_28 (fun hg => ?_)
      have f_28 : a.eval (.tmp 28) = .bool r55 := c_28.1 (gL hg)
      have f_29 : a.eval (.tmp 29) = .slice A44 r43.length cA44 := c_29.1 hg
      exact or_call cf9 (args1 f_29) (ring_Area_w _ r43 A44 cA44 (RdO.zero (RdO.evo rfl hE b46_A44)) r56 (gd_t hr56 hg)) post_val
    refine steps_cons (fun own a wx hf hsl hE => ?_) ?_
    · obtain ⟨c_28, c_30, -⟩ := hf
      refine sg_tc rfl rfl rfl c_28 (fun hg => ?_)
      have f_28 : a.eval (.tmp 28) = .bool r55 := c_28.1 (gL hg)
      have f_30 : a.eval (.tmp 30) = .int .i64 r56 := c_30.1 hg
      exact or_neq f_30 rfl rfl
    refine steps_cons (fun own a wx hf hsl hE => ?_) ?_
    · obtain ⟨c_24, c_28, c_31, -⟩ := hf
      refine sg_fc rfl rfl rfl c_24 (fun hg => ?_)
      have f_24 : a.eval (.tmp 24) = .bool (decide ((r43.length : Int) = 0)) := c_24.1 (gL hg)
      have f_28 : a.eval (.tmp 28) = .bool r55 := c_28.1 hg
      exact or_and f_28 (fun hx => c_31.1 (gI hg hx)) rfl rfl
    refine steps_cons (fun own a wx hf hsl hE => ?_) ?_
    · obtain ⟨(f_20 : a.eval (.tmp 20) = .bool (r47 && r54)), c_24, c_32, -⟩ := hf
      refine sg_t rfl rfl rfl f_20 (fun hg => ?_)
      have f_24 : a.eval (.tmp 24) = .bool (decide ((r43.length : Int) = 0)) := c_24.1 hg
      exact or_or f_24 rfl (fun hx => c_32.1 (gI hg hx)) (osome hx57).symm
    refine steps_cons (fun own a wx hf hsl hE => ?_) ?_
    · obtain ⟨(f_20 : a.eval (.tmp 20) = .bool (r47 && r54)), c_33, -⟩ := hf
      exact sg_plain rfl rfl (or_and f_20 (fun hx => c_33.1 hx) rfl rfl)
    refine steps_cons (fun own a wx hf hsl hE => ?_) ?_
    · obtain ⟨(f_34 : a.eval (.tmp 34) = .bool ((r47 && r54) && x57)), -⟩ := hf
      exact sg_plain rfl rfl (or_assign f_34)
    exact steps_nil
  intro own58 a58 w58 hd58 hz58 hk58 hf58 hE58
  obtain ⟨(f_4 : a58.eval (.tmp 4) = .bool ((r47 && r54) && x57)), -⟩ := hf58 [24] rfl
  have e58_4 := f_4
  have hX58 := Evo.step hX46 (fun _ => Nat.le_refl 0) hE58 rfl
  refine fl_ret ?_
  obtain rfl := osome hs
  exact hret _ _ _ _ (.inl rfl) hd58 (results1_ rfl (RVal.tmp_ e58_4)) ⟨own58, rfl, hX58⟩

end Go.Proofs.Ytopnbammdeimcaa
