/-
  Chapter 21. The walks.
-/
import Derived.Test.YtopnbammdeimcaaWp1
import Derived.Test.YtopnbammdeimcaaSp2
namespace Go.Proofs.Ytopnbammdeimcaa
open Go.RowKit
set_option linter.unusedVariables false
theorem polyclip_Half_1_w (w : World) (p1 : Int × Int) (f1 : Bool) (gf1 : Nat) (tf1 : TypeId) (f2 : Int) (gf2 : Nat) (tf2 : TypeId) (f3 : Bool) (gf3 : Nat) (tf3 : TypeId) (hgf1 : BlkO (fun _ => 0) 0 w gf1 tf1 #[.bool f1]) (hgf2 : BlkO (fun _ => 0) 0 w gf2 tf2 #[.int .i64 f2]) (hgf3 : BlkO (fun _ => 0) 0 w gf3 tf3 #[.bool f3]) (r : Int) (hs : polyclip_Half_1 p1 f1 f2 f3 = some r) :
    Calls Try.prog 22 #[.agg #[.int .i64 p1.1, .int .i64 p1.2], .pointer (some ⟨gf1, 0, none⟩), .pointer (some ⟨gf2, 0, none⟩), .pointer (some ⟨gf3, 0, none⟩)] w fun e w' => ∃ own' : Own, e = .returned (.int .i64 r) ∧ Evo [] (fun _ => 0) own' w w' := by
  refine fl_enter (n := 22) rfl rfl rfl (Nat.le_of_ble_eq_true rfl) ?_
  intro a0 Q hd0 hz0 harg hret
  have ha0 := harg 0 _ rfl
  have ha1 := harg 1 _ rfl
  have ha2 := harg 2 _ rfl
  have ha3 := harg 3 _ rfl
  clear harg
  have hE0 : Evo [] (fun _ => 0) (fun _ => 0) w w := Evo.refl _ _ _
  refine rg_plain_seq (n := 22) (rs := []) (own0 := (fun _ => 0)) (K := [])
      (bs := [0, 0])
      (ds := [⟨[], [0], [], Fct.blk 35 4 (fun g => .pointer (some ⟨g, 0, none⟩)) 25 #[.int .i64 p1.1, .int .i64 p1.2]⟩,
      ⟨[], [], [], Fct.val 5 (.int .i64 0)⟩]) (by kernel_rfl) hz0 hd0 (fun _ h => nomatch h) ?_ ?_
  · refine steps_cons (fun own a wx hf hsl hE => ?_) ?_
    · obtain ⟨s_0, -⟩ := hsl
      exact sg_plain rfl rfl (or_new [(0, .agg #[.int .i64 p1.1, .int .i64 p1.2])] rfl rfl ⟨(s_0.trans ha0), trivial⟩ (by kernel_rfl))
    refine steps_cons (fun own a wx hf hsl hE => ?_) ?_
    · exact sg_plain rfl rfl (or_assign rfl)
    exact steps_nil
  intro own36 a36 w36 hd36 hz36 hk36 hf36 hE36
  have e36_1 : a36.eval (.tmp 1) = .pointer (some ⟨gf1, 0, none⟩) := (hk36 1 rfl).trans ha1
  have e36_2 : a36.eval (.tmp 2) = .pointer (some ⟨gf2, 0, none⟩) := (hk36 2 rfl).trans ha2
  have e36_3 : a36.eval (.tmp 3) = .pointer (some ⟨gf3, 0, none⟩) := (hk36 3 rfl).trans ha3
  obtain ⟨⟨g34, (f_4 : a36.eval (.tmp 4) = .pointer (some ⟨g34, 0, none⟩)), (b_g34 : BlkO own36 35 w36 g34 25 #[.int .i64 p1.1, .int .i64 p1.2])⟩, -⟩ := hf36 [0] rfl
  have e36_4 := f_4
  have hX36 := Evo.step hE0 (fun _ => Nat.le_refl 0) hE36 rfl
  have b36_gf1 := BlkO.evo (by decide) hE36 hgf1
  have b36_gf2 := BlkO.evo (by decide) hE36 hgf2
  have b36_gf3 := BlkO.evo (by decide) hE36 hgf3
  have b36_g34 := b_g34
  refine rg_plain_seq (n := 22) (rs := []) (own0 := own36) (K := [])
      (bs := [0, 1, 3])
      (ds := [⟨[], [4], [], Fct.val 7 (.pointer (some ⟨g34, 0, none⟩))⟩,
      ⟨[0], [], [], Fct.val 8 (.int .i64 p1.1)⟩,
      ⟨[1], [], [], Fct.val 6 (.int .i64 p1.1)⟩]) (by kernel_rfl) hz36 hd36 (fun _ h => nomatch h) ?_ ?_
  · refine steps_cons (fun own a wx hf hsl hE => ?_) ?_
    · obtain ⟨s_4, -⟩ := hsl
      exact sg_plain rfl rfl (or_field fo25_0 (s_4.trans e36_4) (by rfl))
    refine steps_cons (fun own a wx hf hsl hE => ?_) ?_
    · obtain ⟨(f_7 : a.eval (.tmp 7) = .pointer (some ⟨g34, 0, none⟩)), -⟩ := hf
      exact sg_plain rfl rfl (or_load1 to3 f_7 (Blk.at_ (BlkO.evo (by decide) hE b36_g34).2 0 rfl))
    refine steps_cons (fun own a wx hf hsl hE => ?_) ?_
    · obtain ⟨(f_8 : a.eval (.tmp 8) = .int .i64 p1.1), -⟩ := hf
      exact sg_plain rfl rfl (or_assign f_8)
    exact steps_nil
  intro own37 a37 w37 hd37 hz37 hk37 hf37 hE37
  have e37_1 : a37.eval (.tmp 1) = .pointer (some ⟨gf1, 0, none⟩) := (hk37 1 rfl).trans e36_1
  have e37_2 : a37.eval (.tmp 2) = .pointer (some ⟨gf2, 0, none⟩) := (hk37 2 rfl).trans e36_2
  have e37_3 : a37.eval (.tmp 3) = .pointer (some ⟨gf3, 0, none⟩) := (hk37 3 rfl).trans e36_3
  have e37_4 : a37.eval (.tmp 4) = .pointer (some ⟨g34, 0, none⟩) := (hk37 4 rfl).trans e36_4
  obtain ⟨(f_6 : a37.eval (.tmp 6) = .int .i64 p1.1), -⟩ := hf37 [2] rfl
  have e37_6 := f_6
  have hX37 := Evo.step hX36 (fun _ => Nat.le_refl 0) hE37 rfl
  have b37_gf1 := BlkO.evo (by decide) hE37 b36_gf1
  have b37_gf2 := BlkO.evo (by decide) hE37 b36_gf2
  have b37_gf3 := BlkO.evo (by decide) hE37 b36_gf3
  have b37_g34 := BlkO.evo (by decide) hE37 b36_g34
  refine fl_seq (fun Q38 hn38 hp38 => ?_)
  have K43 : ∀ (a43 : Act) (w43 : World) (own43 : Own) (n42 : Int), a43.defers = [] → a43.tmps.size = 22 → a43.eval (.tmp 2) = .pointer (some ⟨gf2, 0, none⟩) → a43.eval (.tmp 3) = .pointer (some ⟨gf3, 0, none⟩) → a43.eval (.tmp 6) = .int .i64 n42 → Evo [] (fun _ => 0) own43 w w43 → BlkO own43 0 w43 gf2 tf2 #[.int .i64 f2] → BlkO own43 0 w43 gf3 tf3 #[.bool f3] → polyclip_Half_1_k1 f2 f3 n42 = some r → Q38 .normal a43 w43 := by
    intro a43 w43 own43 n42 hd44 hz44 e44_2 e44_3 e44_6 hE44 b44_gf2 b44_gf3 hs
    refine hn38 _ _ ?_
    refine fl_seq (fun Q45 hn45 hp45 => ?_)
    refine fl_block (fun Q46 hn46 hx46 hp46 => ?_)
    refine rg_plain_seq (n := 22) (rs := []) (own0 := own43) (K := [])
        (bs := [0, 0, 3, 7])
        (ds := [⟨[], [6], [], Fct.val 13 (.int .i64 n42)⟩,
        ⟨[], [2], [], Fct.val 14 (.int .i64 f2)⟩,
        ⟨[0, 1], [], [], Fct.val 15 (.bool (decide (n42 = f2)))⟩,
        ⟨[2], [], [], Fct.val 12 (.bool (decide (n42 = f2)))⟩]) (by kernel_rfl) hz44 hd44 (fun _ h => nomatch h) ?_ ?_
    · refine steps_cons (fun own a wx hf hsl hE => ?_) ?_
      · obtain ⟨s_6, -⟩ := hsl
        exact sg_plain rfl rfl (or_move (s_6.trans e44_6))
      refine steps_cons (fun own a wx hf hsl hE => ?_) ?_
      · obtain ⟨s_2, -⟩ := hsl
        exact sg_plain rfl rfl (or_load1 to3 (s_2.trans e44_2) (Blk.at_ (BlkO.evo (by decide) hE b44_gf2).2 0 rfl))
      refine steps_cons (fun own a wx hf hsl hE => ?_) ?_
      · obtain ⟨(f_13 : a.eval (.tmp 13) = .int .i64 n42), (f_14 : a.eval (.tmp 14) = .int .i64 f2), -⟩ := hf
        exact sg_plain rfl rfl (or_eql f_13 f_14 rfl)
      refine steps_cons (fun own a wx hf hsl hE => ?_) ?_
      · obtain ⟨(f_15 : a.eval (.tmp 15) = .bool (decide (n42 = f2))), -⟩ := hf
        exact sg_plain rfl rfl (or_assign f_15)
      exact steps_nil
    intro own47 a47 w47 hd47 hz47 hk47 hf47 hE47
    have e47_2 : a47.eval (.tmp 2) = .pointer (some ⟨gf2, 0, none⟩) := (hk47 2 rfl).trans e44_2
    have e47_3 : a47.eval (.tmp 3) = .pointer (some ⟨gf3, 0, none⟩) := (hk47 3 rfl).trans e44_3
    have e47_6 : a47.eval (.tmp 6) = .int .i64 n42 := (hk47 6 rfl).trans e44_6
    obtain ⟨(f_12 : a47.eval (.tmp 12) = .bool (decide (n42 = f2))), -⟩ := hf47 [3] rfl
    have e47_12 := f_12
    have hX47 := Evo.step hE44 (fun _ => Nat.le_refl 0) hE47 rfl
    have b47_gf2 := BlkO.evo (by decide) hE47 b44_gf2
    have b47_gf3 := BlkO.evo (by decide) hE47 b44_gf3
    refine fl_cond e47_12 hs (fun c48 hs => ?_) (fun c48 hs => ?_)
    · refine rg_plain_seq (n := 22) (rs := []) (own0 := own47) (K := [])
          (bs := [0])
          (ds := [⟨[], [], [], Fct.val 5 (.int .i64 0)⟩]) (by kernel_rfl) hz47 hd47 (fun _ h => nomatch h) ?_ ?_
      · refine steps_cons (fun own a wx hf hsl hE => ?_) ?_
        · exact sg_plain rfl rfl (or_assign rfl)
        exact steps_nil
      intro own49 a49 w49 hd49 hz49 hk49 hf49 hE49
      obtain ⟨(f_5 : a49.eval (.tmp 5) = .int .i64 0), -⟩ := hf49 [0] rfl
      have e49_5 := f_5
      have hX49 := Evo.step hX47 (fun _ => Nat.le_refl 0) hE49 rfl
      refine fl_ret ?_
      refine hp46 _ _ _ rfl ?_
      refine hp45 _ _ _ rfl ?_
      obtain rfl := osome hs
      exact hret _ _ _ _ (.inl rfl) hd49 (results1_ rfl (RVal.tmp_ e49_5)) ⟨own49, rfl, hX49⟩
    refine rg_plain_seq (n := 22) (rs := []) (own0 := own47) (K := [])
        (bs := [0, 0, 3, 0, 15, 31])
        (ds := [⟨[], [6], [], Fct.val 17 (.int .i64 n42)⟩,
        ⟨[], [2], [], Fct.val 18 (.int .i64 f2)⟩,
        ⟨[0, 1], [], [], Fct.val 19 (.bool (decide (f2 < n42)))⟩,
        ⟨[], [3], [], Fct.val 20 (.bool f3)⟩,
        ⟨[2, 3], [], [], Fct.val 21 (.bool ((decide (f2 < n42)) == f3))⟩,
        ⟨[4], [], [], Fct.val 16 (.bool ((decide (f2 < n42)) == f3))⟩]) (by kernel_rfl) hz47 hd47 (fun _ h => nomatch h) ?_ ?_
    · refine steps_cons (fun own a wx hf hsl hE => ?_) ?_
      · obtain ⟨s_6, -⟩ := hsl
        exact sg_plain rfl rfl (or_move (s_6.trans e47_6))
      refine steps_cons (fun own a wx hf hsl hE => ?_) ?_
      · obtain ⟨s_2, -⟩ := hsl
        exact sg_plain rfl rfl (or_load1 to3 (s_2.trans e47_2) (Blk.at_ (BlkO.evo (by decide) hE b47_gf2).2 0 rfl))
      refine steps_cons (fun own a wx hf hsl hE => ?_) ?_
      · obtain ⟨(f_17 : a.eval (.tmp 17) = .int .i64 n42), (f_18 : a.eval (.tmp 18) = .int .i64 f2), -⟩ := hf
        exact sg_plain rfl rfl (or_gtr f_17 f_18 rfl)
      refine steps_cons (fun own a wx hf hsl hE => ?_) ?_
      · obtain ⟨s_3, -⟩ := hsl
        exact sg_plain rfl rfl (or_load1 to4 (s_3.trans e47_3) (Blk.at_ (BlkO.evo (by decide) hE b47_gf3).2 0 rfl))
      refine steps_cons (fun own a wx hf hsl hE => ?_) ?_
      · obtain ⟨(f_19 : a.eval (.tmp 19) = .bool (decide (f2 < n42))), (f_20 : a.eval (.tmp 20) = .bool f3), -⟩ := hf
        exact sg_plain rfl rfl (or_eqlb tb4 f_19 f_20 rfl)
      refine steps_cons (fun own a wx hf hsl hE => ?_) ?_
      · obtain ⟨(f_21 : a.eval (.tmp 21) = .bool ((decide (f2 < n42)) == f3)), -⟩ := hf
        exact sg_plain rfl rfl (or_assign f_21)
      exact steps_nil
    intro own50 a50 w50 hd50 hz50 hk50 hf50 hE50
    obtain ⟨(f_16 : a50.eval (.tmp 16) = .bool ((decide (f2 < n42)) == f3)), -⟩ := hf50 [5] rfl
    have e50_16 := f_16
    have hX50 := Evo.step hX47 (fun _ => Nat.le_refl 0) hE50 rfl
    refine fl_cond e50_16 hs (fun c51 hs => ?_) (fun c51 hs => ?_)
    · refine rg_plain_seq (n := 22) (rs := []) (own0 := own50) (K := [])
          (bs := [0])
          (ds := [⟨[], [], [], Fct.val 5 (.int .i64 1)⟩]) (by kernel_rfl) hz50 hd50 (fun _ h => nomatch h) ?_ ?_
      · refine steps_cons (fun own a wx hf hsl hE => ?_) ?_
        · exact sg_plain rfl rfl (or_assign rfl)
        exact steps_nil
      intro own52 a52 w52 hd52 hz52 hk52 hf52 hE52
      obtain ⟨(f_5 : a52.eval (.tmp 5) = .int .i64 1), -⟩ := hf52 [0] rfl
      have e52_5 := f_5
      have hX52 := Evo.step hX50 (fun _ => Nat.le_refl 0) hE52 rfl
      refine fl_ret ?_
      refine hp46 _ _ _ rfl ?_
      refine hp45 _ _ _ rfl ?_
      obtain rfl := osome hs
      exact hret _ _ _ _ (.inl rfl) hd52 (results1_ rfl (RVal.tmp_ e52_5)) ⟨own52, rfl, hX52⟩
    refine fl_skip ?_
    refine hn46 _ _ ?_
    refine hn45 _ _ ?_
    refine rg_plain_seq (n := 22) (rs := []) (own0 := own50) (K := [])
        (bs := [0])
        (ds := [⟨[], [], [], Fct.val 5 (.int .i64 (-1))⟩]) (by kernel_rfl) hz50 hd50 (fun _ h => nomatch h) ?_ ?_
    · refine steps_cons (fun own a wx hf hsl hE => ?_) ?_
      · exact sg_plain rfl rfl (or_assign rfl)
      exact steps_nil
    intro own53 a53 w53 hd53 hz53 hk53 hf53 hE53
    obtain ⟨(f_5 : a53.eval (.tmp 5) = .int .i64 (-1)), -⟩ := hf53 [0] rfl
    have e53_5 := f_5
    have hX53 := Evo.step hX50 (fun _ => Nat.le_refl 0) hE53 rfl
    refine fl_ret ?_
    obtain rfl := osome hs
    exact hret _ _ _ _ (.inl rfl) hd53 (results1_ rfl (RVal.tmp_ e53_5)) ⟨own53, rfl, hX53⟩
  refine rg_plain_seq (n := 22) (rs := []) (own0 := own37) (K := [])
      (bs := [0])
      (ds := [⟨[], [1], [], Fct.val 9 (.bool f1)⟩]) (by kernel_rfl) hz37 hd37 (fun _ h => nomatch h) ?_ ?_
  · refine steps_cons (fun own a wx hf hsl hE => ?_) ?_
    · obtain ⟨s_1, -⟩ := hsl
      exact sg_plain rfl rfl (or_load1 to4 (s_1.trans e37_1) (Blk.at_ (BlkO.evo (by decide) hE b37_gf1).2 0 rfl))
    exact steps_nil
  intro own54 a54 w54 hd54 hz54 hk54 hf54 hE54
  have e54_2 : a54.eval (.tmp 2) = .pointer (some ⟨gf2, 0, none⟩) := (hk54 2 rfl).trans e37_2
  have e54_3 : a54.eval (.tmp 3) = .pointer (some ⟨gf3, 0, none⟩) := (hk54 3 rfl).trans e37_3
  have e54_4 : a54.eval (.tmp 4) = .pointer (some ⟨g34, 0, none⟩) := (hk54 4 rfl).trans e37_4
  have e54_6 : a54.eval (.tmp 6) = .int .i64 p1.1 := (hk54 6 rfl).trans e37_6
  obtain ⟨(f_9 : a54.eval (.tmp 9) = .bool f1), -⟩ := hf54 [0] rfl
  have e54_9 := f_9
  have hX54 := Evo.step hX37 (fun _ => Nat.le_refl 0) hE54 rfl
  have b54_gf2 := BlkO.evo (by decide) hE54 b37_gf2
  have b54_gf3 := BlkO.evo (by decide) hE54 b37_gf3
  have b54_g34 := BlkO.evo (by decide) hE54 b37_g34
  refine fl_cond e54_9 hs (fun c55 hs => ?_) (fun c55 hs => ?_)
  · refine rg_plain (n := 22) (rs := []) (own0 := own54) (K := [])
        (bs := [0, 1, 3])
        (ds := [⟨[], [4], [], Fct.val 10 (.pointer (some ⟨g34, 1, none⟩))⟩,
        ⟨[0], [], [], Fct.val 11 (.int .i64 p1.2)⟩,
        ⟨[1], [], [], Fct.val 6 (.int .i64 p1.2)⟩]) (by kernel_rfl) hz54 hd54 (fun _ h => nomatch h) ?_ ?_
    · refine steps_cons (fun own a wx hf hsl hE => ?_) ?_
      · obtain ⟨s_4, -⟩ := hsl
        exact sg_plain rfl rfl (or_field fo25_1 (s_4.trans e54_4) (by rfl))
      refine steps_cons (fun own a wx hf hsl hE => ?_) ?_
      · obtain ⟨(f_10 : a.eval (.tmp 10) = .pointer (some ⟨g34, 1, none⟩)), -⟩ := hf
        exact sg_plain rfl rfl (or_load1 to3 f_10 (Blk.at_ (BlkO.evo (by decide) hE b54_g34).2 1 rfl))
      refine steps_cons (fun own a wx hf hsl hE => ?_) ?_
      · obtain ⟨(f_11 : a.eval (.tmp 11) = .int .i64 p1.2), -⟩ := hf
        exact sg_plain rfl rfl (or_assign f_11)
      exact steps_nil
    intro own56 a56 w56 hd56 hz56 hk56 hf56 hE56
    have e56_2 : a56.eval (.tmp 2) = .pointer (some ⟨gf2, 0, none⟩) := (hk56 2 rfl).trans e54_2
    have e56_3 : a56.eval (.tmp 3) = .pointer (some ⟨gf3, 0, none⟩) := (hk56 3 rfl).trans e54_3
    obtain ⟨(f_6 : a56.eval (.tmp 6) = .int .i64 p1.2), -⟩ := hf56 [2] rfl
    have e56_6 := f_6
    have hX56 := Evo.step hX54 (fun _ => Nat.le_refl 0) hE56 rfl
    have b56_gf2 := BlkO.evo (by decide) hE56 b54_gf2
    have b56_gf3 := BlkO.evo (by decide) hE56 b54_gf3
    exact (K43 _ _ own56 _ hd56 hz56 e56_2 e56_3 e56_6 hX56 b56_gf2 b56_gf3 hs)
  refine fl_skip ?_
  exact (K43 _ _ own54 _ hd54 hz54 e54_2 e54_3 e54_6 hX54 b54_gf2 b54_gf3 hs)

set_option maxHeartbeats 2000000 in
theorem polyclip_Half_w (w : World) (l1 : List (Int × Int)) (Al1 : Option Addr) (cl1 : Nat) (c2 : Int) (up3 : Bool) (y4 : Bool) (hl1 : RdO (fun _ => 0) [0] w R25 Al1 cl1 l1) (r : List (Int × Int)) (hs : polyclip_Half l1 c2 up3 y4 = some r) :
    Calls Try.prog 8 #[.slice Al1 l1.length cl1, .int .i64 c2, .bool up3, .bool y4] w fun e w' => ∃ (own' : Own) (x : Option Addr × Nat), e = .returned (.slice x.1 r.length x.2) ∧ Evo [] (fun _ => 0) own' w w' ∧ RwO own' 1 [] w' 25 R25 x.1 x.2 r := by
  refine fl_enter (n := 63) rfl rfl rfl (Nat.le_of_ble_eq_true rfl) ?_
  intro a0 Q hd0 hz0 harg hret
  have ha0 := harg 0 _ rfl
  have ha1 := harg 1 _ rfl
  have ha2 := harg 2 _ rfl
  have ha3 := harg 3 _ rfl
  clear harg
  have hE0 : Evo [] (fun _ => 0) (fun _ => 0) w w := Evo.refl _ _ _
  refine rg_plain_seq (n := 63) (rs := []) (own0 := (fun _ => 0)) (K := [])
      (bs := [0, 0, 0, 0])
      (ds := [⟨[], [1], [], Fct.blk 805 5 (fun g => .pointer (some ⟨g, 0, none⟩)) 3 #[.int .i64 c2]⟩,
      ⟨[], [2], [], Fct.blk 807 6 (fun g => .pointer (some ⟨g, 0, none⟩)) 4 #[.bool up3]⟩,
      ⟨[], [3], [], Fct.blk 809 7 (fun g => .pointer (some ⟨g, 0, none⟩)) 4 #[.bool y4]⟩,
      ⟨[], [], [], Fct.val 8 (.slice none 0 0)⟩]) (by kernel_rfl) hz0 hd0 (fun _ h => nomatch h) ?_ ?_
  · refine steps_cons (fun own a wx hf hsl hE => ?_) ?_
    · obtain ⟨s_1, -⟩ := hsl
      exact sg_plain rfl rfl (or_new [(1, .int .i64 c2)] rfl rfl ⟨(s_1.trans ha1), trivial⟩ (by kernel_rfl))
    refine steps_cons (fun own a wx hf hsl hE => ?_) ?_
    · obtain ⟨s_2, -⟩ := hsl
      exact sg_plain rfl rfl (or_new [(2, .bool up3)] rfl rfl ⟨(s_2.trans ha2), trivial⟩ (by kernel_rfl))
    refine steps_cons (fun own a wx hf hsl hE => ?_) ?_
    · obtain ⟨s_3, -⟩ := hsl
      exact sg_plain rfl rfl (or_new [(3, .bool y4)] rfl rfl ⟨(s_3.trans ha3), trivial⟩ (by kernel_rfl))
    refine steps_cons (fun own a wx hf hsl hE => ?_) ?_
    · exact sg_plain rfl rfl (or_assign rfl)
    exact steps_nil
  intro own810 a810 w810 hd810 hz810 hk810 hf810 hE810
  have e810_0 : a810.eval (.tmp 0) = .slice Al1 l1.length cl1 := (hk810 0 rfl).trans ha0
  obtain ⟨⟨g804, (f_5 : a810.eval (.tmp 5) = .pointer (some ⟨g804, 0, none⟩)), (b_g804 : BlkO own810 805 w810 g804 3 #[.int .i64 c2])⟩, ⟨g806, (f_6 : a810.eval (.tmp 6) = .pointer (some ⟨g806, 0, none⟩)), (b_g806 : BlkO own810 807 w810 g806 4 #[.bool up3])⟩, ⟨g808, (f_7 : a810.eval (.tmp 7) = .pointer (some ⟨g808, 0, none⟩)), (b_g808 : BlkO own810 809 w810 g808 4 #[.bool y4])⟩, -⟩ := hf810 [0, 1, 2] rfl
  have e810_5 := f_5
  have e810_6 := f_6
  have e810_7 := f_7
  have hX810 := Evo.step hE0 (fun _ => Nat.le_refl 0) hE810 rfl
  have b810_Al1 := RdO.evo rfl hE810 hl1
  have b810_g804 := b_g804
  have b810_g806 := b_g806
  have b810_g808 := b_g808
  refine fl_fwd (l := 0) rfl ?_
  intro Q811 hj811 hp811
  refine rg_plain_seq (n := 63) (rs := []) (own0 := own810) (K := [])
      (bs := [0, 1])
      (ds := [⟨[], [7, 5, 6], [], Fct.val 16 (.func (.func 22) #[] #[.pointer (some ⟨g808, 0, none⟩), .pointer (some ⟨g804, 0, none⟩), .pointer (some ⟨g806, 0, none⟩)])⟩,
      ⟨[0], [], [], Fct.val 9 (.func (.func 22) #[] #[.pointer (some ⟨g808, 0, none⟩), .pointer (some ⟨g804, 0, none⟩), .pointer (some ⟨g806, 0, none⟩)])⟩]) (by kernel_rfl) hz810 hd810 (fun _ h => nomatch h) ?_ ?_
  · refine steps_cons (fun own a wx hf hsl hE => ?_) ?_
    · obtain ⟨s_7, s_5, s_6, -⟩ := hsl
      exact sg_plain rfl rfl (or_k [(7, .pointer (some ⟨g808, 0, none⟩)), (5, .pointer (some ⟨g804, 0, none⟩)), (6, .pointer (some ⟨g806, 0, none⟩))] rfl rfl ⟨(s_7.trans e810_7), (s_5.trans e810_5), (s_6.trans e810_6), trivial⟩ (by kernel_rfl))
    refine steps_cons (fun own a wx hf hsl hE => ?_) ?_
    · obtain ⟨(f_16 : a.eval (.tmp 16) = .func (.func 22) #[] #[.pointer (some ⟨g808, 0, none⟩), .pointer (some ⟨g804, 0, none⟩), .pointer (some ⟨g806, 0, none⟩)]), -⟩ := hf
      exact sg_plain rfl rfl (or_assign f_16)
    exact steps_nil
  intro own812 a812 w812 hd812 hz812 hk812 hf812 hE812
  have e812_0 : a812.eval (.tmp 0) = .slice Al1 l1.length cl1 := (hk812 0 rfl).trans e810_0
  have e812_5 : a812.eval (.tmp 5) = .pointer (some ⟨g804, 0, none⟩) := (hk812 5 rfl).trans e810_5
  have e812_7 : a812.eval (.tmp 7) = .pointer (some ⟨g808, 0, none⟩) := (hk812 7 rfl).trans e810_7
  obtain ⟨(f_9 : a812.eval (.tmp 9) = .func (.func 22) #[] #[.pointer (some ⟨g808, 0, none⟩), .pointer (some ⟨g804, 0, none⟩), .pointer (some ⟨g806, 0, none⟩)]), -⟩ := hf812 [1] rfl
  have e812_9 := f_9
  have hX812 := Evo.step hX810 (fun _ => Nat.le_refl 0) hE812 rfl
  have b812_Al1 := RdO.evo rfl hE812 b810_Al1
  have b812_g804 := BlkO.evo (by decide) hE812 b810_g804
  have b812_g806 := BlkO.evo (by decide) hE812 b810_g806
  have b812_g808 := BlkO.evo (by decide) hE812 b810_g808
  refine rg_plain_seq (n := 63) (rs := []) (own0 := own812) (K := [])
      (bs := [0])
      (ds := [⟨[], [], [], Fct.val 10 (.slice none 0 0)⟩]) (by kernel_rfl) hz812 hd812 (fun _ h => nomatch h) ?_ ?_
  · refine steps_cons (fun own a wx hf hsl hE => ?_) ?_
    · exact sg_plain rfl rfl (or_assign rfl)
    exact steps_nil
  intro own813 a813 w813 hd813 hz813 hk813 hf813 hE813
  have e813_0 : a813.eval (.tmp 0) = .slice Al1 l1.length cl1 := (hk813 0 rfl).trans e812_0
  have e813_5 : a813.eval (.tmp 5) = .pointer (some ⟨g804, 0, none⟩) := (hk813 5 rfl).trans e812_5
  have e813_7 : a813.eval (.tmp 7) = .pointer (some ⟨g808, 0, none⟩) := (hk813 7 rfl).trans e812_7
  have e813_9 : a813.eval (.tmp 9) = .func (.func 22) #[] #[.pointer (some ⟨g808, 0, none⟩), .pointer (some ⟨g804, 0, none⟩), .pointer (some ⟨g806, 0, none⟩)] := (hk813 9 rfl).trans e812_9
  obtain ⟨(f_10 : a813.eval (.tmp 10) = .slice none 0 0), -⟩ := hf813 [0] rfl
  have e813_10 := f_10
  have hX813 := Evo.step hX812 (fun _ => Nat.le_refl 0) hE813 rfl
  have b813_Al1 := RdO.evo rfl hE813 b812_Al1
  have b813_g804 := BlkO.evo (by decide) hE813 b812_g804
  have b813_g806 := BlkO.evo (by decide) hE813 b812_g806
  have b813_g808 := BlkO.evo (by decide) hE813 b812_g808
  refine fl_seq (fun Q814 hn814 hp814 => ?_)
  refine fl_label ?_
  refine hn814 _ _ ?_
  refine fl_seq (fun Q815 hn815 hp815 => ?_)
  refine rg_plain_seq (n := 63) (rs := []) (own0 := own813) (K := [])
      (bs := [0, 1, 0])
      (ds := [⟨[], [0], [], Fct.val 17 (.slice Al1 l1.length cl1)⟩,
      ⟨[0], [], [], Fct.val 18 (.int .i64 (l1.length : Int))⟩,
      ⟨[], [], [], Fct.val 19 (.int .i64 0)⟩]) (by kernel_rfl) hz813 hd813 (fun _ h => nomatch h) ?_ ?_
  · refine steps_cons (fun own a wx hf hsl hE => ?_) ?_
    · obtain ⟨s_0, -⟩ := hsl
      exact sg_plain rfl rfl (or_move (s_0.trans e813_0))
    refine steps_cons (fun own a wx hf hsl hE => ?_) ?_
    · obtain ⟨(f_17 : a.eval (.tmp 17) = .slice Al1 l1.length cl1), -⟩ := hf
      exact sg_plain rfl rfl (or_len tu22 f_17 rfl)
    refine steps_cons (fun own a wx hf hsl hE => ?_) ?_
    · exact sg_plain rfl rfl (or_move rfl)
    exact steps_nil
  intro own816 a816 w816 hd816 hz816 hk816 hf816 hE816
  have e816_0 : a816.eval (.tmp 0) = .slice Al1 l1.length cl1 := (hk816 0 rfl).trans e813_0
  have e816_5 : a816.eval (.tmp 5) = .pointer (some ⟨g804, 0, none⟩) := (hk816 5 rfl).trans e813_5
  have e816_7 : a816.eval (.tmp 7) = .pointer (some ⟨g808, 0, none⟩) := (hk816 7 rfl).trans e813_7
  have e816_9 : a816.eval (.tmp 9) = .func (.func 22) #[] #[.pointer (some ⟨g808, 0, none⟩), .pointer (some ⟨g804, 0, none⟩), .pointer (some ⟨g806, 0, none⟩)] := (hk816 9 rfl).trans e813_9
  have e816_10 : a816.eval (.tmp 10) = .slice none 0 0 := (hk816 10 rfl).trans e813_10
  obtain ⟨(f_17 : a816.eval (.tmp 17) = .slice Al1 l1.length cl1), (f_18 : a816.eval (.tmp 18) = .int .i64 (l1.length : Int)), (f_19 : a816.eval (.tmp 19) = .int .i64 0), -⟩ := hf816 [0, 1, 2] rfl
  have e816_17 := f_17
  have e816_18 := f_18
  have e816_19 := f_19
  have hX816 := Evo.step hX813 (fun _ => Nat.le_refl 0) hE816 rfl
  have b816_Al1 := RdO.evo rfl hE816 b813_Al1
  have b816_g804 := BlkO.evo (by decide) hE816 b813_g804
  have b816_g806 := BlkO.evo (by decide) hE816 b813_g806
  have b816_g808 := BlkO.evo (by decide) hE816 b813_g808
  refine fl_block (fun Q817 hn817 hx817 hp817 => ?_)
  refine fl_loop (body := (fun s => polyclip_Half_b1 l1 c2 up3 y4 s.1 s.2)) (z := r) (show loopO _ _ = _ from hs) (fun (s : (List (Int × Int)) × Int) a wx => match s with | (out1072, x1074) => ∃ (ox : Own) (A1070 : Option Addr) (c1071 : Nat), a.defers = [] ∧ a.tmps.size = 63 ∧ a.eval (.tmp 0) = .slice Al1 l1.length cl1 ∧ a.eval (.tmp 5) = .pointer (some ⟨g804, 0, none⟩) ∧ a.eval (.tmp 7) = .pointer (some ⟨g808, 0, none⟩) ∧ a.eval (.tmp 9) = .func (.func 22) #[] #[.pointer (some ⟨g808, 0, none⟩), .pointer (some ⟨g804, 0, none⟩), .pointer (some ⟨g806, 0, none⟩)] ∧ a.eval (.tmp 10) = .slice A1070 out1072.length c1071 ∧ a.eval (.tmp 17) = .slice Al1 l1.length cl1 ∧ a.eval (.tmp 18) = .int .i64 (l1.length : Int) ∧ a.eval (.tmp 19) = .int .i64 x1074 ∧ Evo [] (fun _ => 0) ox w wx ∧ RdO ox [0] wx R25 Al1 cl1 l1 ∧ BlkO ox 805 wx g804 3 #[.int .i64 c2] ∧ BlkO ox 809 wx g808 4 #[.bool y4] ∧ BlkO ox 807 wx g806 4 #[.bool up3] ∧ RwO ox 1073 [] wx 25 R25 A1070 c1071 out1072) ?_ ?_
  · exact ⟨own816, none, 0, hd816, hz816, e816_0, e816_5, e816_7, e816_9, e816_10, e816_17, e816_18, e816_19, hX816, b816_Al1, b816_g804, b816_g808, b816_g806, RwO.nil_⟩
  · rintro ⟨out1072, x1074⟩ zz1335 a1335 w1335 ⟨own1335, A1070, c1071, hd1336, hz1336, e1336_0, e1336_5, e1336_7, e1336_9, e1336_10, e1336_17, e1336_18, e1336_19, hE1336, b1336_Al1, b1336_g804, b1336_g808, b1336_g806, b1336_A1070⟩ hs Q1335 hn1335 hp1335 hz1335
    have hs : polyclip_Half_b1 l1 c2 up3 y4 out1072 x1074 = some zz1335 := hs
    refine rg_plain_seq (n := 63) (rs := []) (own0 := own1335) (K := [])
        (bs := [0])
        (ds := [⟨[], [19, 18], [], Fct.val 20 (.bool (decide (x1074 < (l1.length : Int))))⟩]) (by kernel_rfl) hz1336 hd1336 (fun _ h => nomatch h) ?_ ?_
    · refine steps_cons (fun own a wx hf hsl hE => ?_) ?_
      · obtain ⟨s_19, s_18, -⟩ := hsl
        exact sg_plain rfl rfl (or_lss (s_19.trans e1336_19) (s_18.trans e1336_18) rfl)
      exact steps_nil
    intro own1337 a1337 w1337 hd1337 hz1337 hk1337 hf1337 hE1337
    have e1337_0 : a1337.eval (.tmp 0) = .slice Al1 l1.length cl1 := (hk1337 0 rfl).trans e1336_0
    have e1337_5 : a1337.eval (.tmp 5) = .pointer (some ⟨g804, 0, none⟩) := (hk1337 5 rfl).trans e1336_5
    have e1337_7 : a1337.eval (.tmp 7) = .pointer (some ⟨g808, 0, none⟩) := (hk1337 7 rfl).trans e1336_7
    have e1337_9 : a1337.eval (.tmp 9) = .func (.func 22) #[] #[.pointer (some ⟨g808, 0, none⟩), .pointer (some ⟨g804, 0, none⟩), .pointer (some ⟨g806, 0, none⟩)] := (hk1337 9 rfl).trans e1336_9
    have e1337_10 : a1337.eval (.tmp 10) = .slice A1070 out1072.length c1071 := (hk1337 10 rfl).trans e1336_10
    have e1337_17 : a1337.eval (.tmp 17) = .slice Al1 l1.length cl1 := (hk1337 17 rfl).trans e1336_17
    have e1337_18 : a1337.eval (.tmp 18) = .int .i64 (l1.length : Int) := (hk1337 18 rfl).trans e1336_18
    have e1337_19 : a1337.eval (.tmp 19) = .int .i64 x1074 := (hk1337 19 rfl).trans e1336_19
    obtain ⟨(f_20 : a1337.eval (.tmp 20) = .bool (decide (x1074 < (l1.length : Int)))), -⟩ := hf1337 [0] rfl
    have e1337_20 := f_20
    have hX1337 := Evo.step hE1336 (fun _ => Nat.le_refl 0) hE1337 rfl
    have b1337_Al1 := RdO.evo rfl hE1337 b1336_Al1
    have b1337_g804 := BlkO.evo (by decide) hE1337 b1336_g804
    have b1337_g808 := BlkO.evo (by decide) hE1337 b1336_g808
    have b1337_g806 := BlkO.evo (by decide) hE1337 b1336_g806
    have b1337_A1070 := RwO.evo rfl hE1337 b1336_A1070
    refine fl_seq (fun Q1338 hn1338 hp1338 => ?_)
    refine fl_cond e1337_20 hs (fun c1339 hs => ?_) (fun c1339 hs => ?_)
    · refine fl_skip ?_
      refine hn1338 _ _ ?_
      refine fl_seq (fun Q1340 hn1340 hp1340 => ?_)
      refine fl_block (fun Q1468 hn1468 hx1468 hp1468 => ?_)
      have K1533 : ∀ (a1533 : Act) (w1533 : World) (own1533 : Own) (out1531 : List (Int × Int)) (A1529 : Option Addr) (c1530 : Nat), a1533.defers = [] → a1533.tmps.size = 63 → a1533.eval (.tmp 0) = .slice Al1 l1.length cl1 → a1533.eval (.tmp 5) = .pointer (some ⟨g804, 0, none⟩) → a1533.eval (.tmp 7) = .pointer (some ⟨g808, 0, none⟩) → a1533.eval (.tmp 9) = .func (.func 22) #[] #[.pointer (some ⟨g808, 0, none⟩), .pointer (some ⟨g804, 0, none⟩), .pointer (some ⟨g806, 0, none⟩)] → a1533.eval (.tmp 10) = .slice A1529 out1531.length c1530 → a1533.eval (.tmp 17) = .slice Al1 l1.length cl1 → a1533.eval (.tmp 18) = .int .i64 (l1.length : Int) → a1533.eval (.tmp 19) = .int .i64 x1074 → Evo [] (fun _ => 0) own1533 w w1533 → RdO own1533 [0] w1533 R25 Al1 cl1 l1 → BlkO own1533 805 w1533 g804 3 #[.int .i64 c2] → BlkO own1533 809 w1533 g808 4 #[.bool y4] → BlkO own1533 807 w1533 g806 4 #[.bool up3] → RwO own1533 1532 [] w1533 25 R25 A1529 c1530 out1531 → polyclip_Half_k2 x1074 out1531 = some zz1335 → (Q1468 .normal a1533 w1533 ∧ Q1468 (.exit 1) a1533 w1533) := by
        intro a1533 w1533 own1533 out1531 A1529 c1530 hd1534 hz1534 e1534_0 e1534_5 e1534_7 e1534_9 e1534_10 e1534_17 e1534_18 e1534_19 hE1534 b1534_Al1 b1534_g804 b1534_g808 b1534_g806 b1534_A1529 hs
        refine and_both (hn1468 _ _) (hx1468 _ _) ?_
        refine hn1340 _ _ ?_
        refine rg_plain (n := 63) (rs := []) (own0 := own1533) (K := [])
            (bs := [0, 1])
            (ds := [⟨[], [19], [], Fct.val 61 (.int .i64 (ad x1074 1))⟩,
            ⟨[0], [], [], Fct.val 19 (.int .i64 (ad x1074 1))⟩]) (by kernel_rfl) hz1534 hd1534 (fun _ h => nomatch h) ?_ ?_
        · refine steps_cons (fun own a wx hf hsl hE => ?_) ?_
          · obtain ⟨s_19, -⟩ := hsl
            exact sg_plain rfl rfl (or_add (s_19.trans e1534_19) rfl rfl)
          refine steps_cons (fun own a wx hf hsl hE => ?_) ?_
          · obtain ⟨(f_61 : a.eval (.tmp 61) = .int .i64 (ad x1074 1)), -⟩ := hf
            exact sg_plain rfl rfl (or_move f_61)
          exact steps_nil
        intro own1535 a1535 w1535 hd1535 hz1535 hk1535 hf1535 hE1535
        have e1535_0 : a1535.eval (.tmp 0) = .slice Al1 l1.length cl1 := (hk1535 0 rfl).trans e1534_0
        have e1535_5 : a1535.eval (.tmp 5) = .pointer (some ⟨g804, 0, none⟩) := (hk1535 5 rfl).trans e1534_5
        have e1535_7 : a1535.eval (.tmp 7) = .pointer (some ⟨g808, 0, none⟩) := (hk1535 7 rfl).trans e1534_7
        have e1535_9 : a1535.eval (.tmp 9) = .func (.func 22) #[] #[.pointer (some ⟨g808, 0, none⟩), .pointer (some ⟨g804, 0, none⟩), .pointer (some ⟨g806, 0, none⟩)] := (hk1535 9 rfl).trans e1534_9
        have e1535_10 : a1535.eval (.tmp 10) = .slice A1529 out1531.length c1530 := (hk1535 10 rfl).trans e1534_10
        have e1535_17 : a1535.eval (.tmp 17) = .slice Al1 l1.length cl1 := (hk1535 17 rfl).trans e1534_17
        have e1535_18 : a1535.eval (.tmp 18) = .int .i64 (l1.length : Int) := (hk1535 18 rfl).trans e1534_18
        obtain ⟨(f_19 : a1535.eval (.tmp 19) = .int .i64 (ad x1074 1)), -⟩ := hf1535 [1] rfl
        have e1535_19 := f_19
        have hX1535 := Evo.step hE1534 (fun _ => Nat.le_refl 0) hE1535 rfl
        have b1535_Al1 := RdO.evo rfl hE1535 b1534_Al1
        have b1535_g804 := BlkO.evo (by decide) hE1535 b1534_g804
        have b1535_g808 := BlkO.evo (by decide) hE1535 b1534_g808
        have b1535_g806 := BlkO.evo (by decide) hE1535 b1534_g806
        have b1535_A1529 := RwO.evo rfl hE1535 b1534_A1529
        exact hn1335 _ _ _ hs ⟨(rl [(1532, 1073)] own1535), A1529, c1530, hd1535, hz1535, e1535_0, e1535_5, e1535_7, e1535_9, e1535_10, e1535_17, e1535_18, e1535_19, (Evo.rl_ hX1535 (fun _ => Nat.le_refl 0) rfl), (RdO.rl_ (mm := [(1532, 1073)]) b1535_Al1), (BlkO.rl_ (mm := [(1532, 1073)]) b1535_g804), (BlkO.rl_ (mm := [(1532, 1073)]) b1535_g808), (BlkO.rl_ (mm := [(1532, 1073)]) b1535_g806), (RwO.rl_ (mm := [(1532, 1073)]) b1535_A1529)⟩
      obtain ⟨x1536, hx1536, hs⟩ := obind hs
      refine rg_plain_seq (n := 63) (rs := []) (own0 := own1337) (K := [1538])
          (bs := [0, 0, 2, 0, 15, 31])
          (ds := [⟨[], [19], [], Fct.val 21 (.int .i64 x1074)⟩,
          ⟨[], [17, 19], [], Fct.val 22 (.pointer (some ((adr Al1).add ((x1074 : Int).toNat * R25.s))))⟩,
          ⟨[1], [], [], Fct.val 23 (.agg #[.int .i64 x1536.1, .int .i64 x1536.2])⟩,
          ⟨[], [], [], Fct.blk 1538 12 (fun g => .pointer (some ⟨g, 0, none⟩)) 25 #[.int .i64 0, .int .i64 0]⟩,
          ⟨[0], [], [], Fct.val 11 (.int .i64 x1074)⟩,
          ⟨[3, 2], [], [1538], Fct.blk 1539 12 (fun g => .pointer (some ⟨g, 0, none⟩)) 25 #[.int .i64 x1536.1, .int .i64 x1536.2]⟩]) (by kernel_rfl) hz1337 hd1337 (fun _ h => nomatch h) ?_ ?_
      · refine steps_cons (fun own a wx hf hsl hE => ?_) ?_
        · obtain ⟨s_19, -⟩ := hsl
          exact sg_plain rfl rfl (or_move (s_19.trans e1337_19))
        refine steps_cons (fun own a wx hf hsl hE => ?_) ?_
        · obtain ⟨s_17, s_19, -⟩ := hsl
          exact sg_plain rfl rfl (or_index (R := R25) (l := l1) tl22 (s_17.trans e1337_17) (s_19.trans e1337_19) (RdO.some_ b1337_Al1 hx1536) hx1536)
        refine steps_cons (fun own a wx hf hsl hE => ?_) ?_
        · obtain ⟨(f_22 : a.eval (.tmp 22) = .pointer (some ((adr Al1).add ((x1074 : Int).toNat * R25.s)))), -⟩ := hf
          exact sg_plain rfl rfl (or_load (l := E25.f x1536) ta25 f_22 (RdO.cells (F := E25) (RdO.evo rfl hE b1337_Al1) hx1536) rfl)
        refine steps_cons (fun own a wx hf hsl hE => ?_) ?_
        · exact sg_plain rfl rfl (or_new [] rfl rfl trivial (by kernel_rfl))
        refine steps_cons (fun own a wx hf hsl hE => ?_) ?_
        · obtain ⟨(f_21 : a.eval (.tmp 21) = .int .i64 x1074), -⟩ := hf
          exact sg_plain rfl rfl (or_assign f_21)
        refine steps_cons (fun own a wx hf hsl hE => ?_) ?_
        · obtain ⟨⟨g1537, (f_12 : a.eval (.tmp 12) = .pointer (some ⟨g1537, 0, none⟩)), (b_g1537 : BlkO own 1538 wx g1537 25 #[.int .i64 0, .int .i64 0])⟩, (f_23 : a.eval (.tmp 23) = .agg #[.int .i64 x1536.1, .int .i64 x1536.2]), -⟩ := hf
          exact sg_plain rfl rfl (or_store (l := #[.int .i64 x1536.1, .int .i64 x1536.2]) (lab := 1538) (lab2 := 1539) ts25 f_12 f_23 b_g1537 (by simp) (by kernel_rfl) (mem_of rfl) (by decide) (by kernel_rfl) (fun own' a' w' ha hb => ⟨_, (ha 12).trans f_12, hb⟩))
        exact steps_nil
      intro own1540 a1540 w1540 hd1540 hz1540 hk1540 hf1540 hE1540
      have e1540_0 : a1540.eval (.tmp 0) = .slice Al1 l1.length cl1 := (hk1540 0 rfl).trans e1337_0
      have e1540_5 : a1540.eval (.tmp 5) = .pointer (some ⟨g804, 0, none⟩) := (hk1540 5 rfl).trans e1337_5
      have e1540_7 : a1540.eval (.tmp 7) = .pointer (some ⟨g808, 0, none⟩) := (hk1540 7 rfl).trans e1337_7
      have e1540_9 : a1540.eval (.tmp 9) = .func (.func 22) #[] #[.pointer (some ⟨g808, 0, none⟩), .pointer (some ⟨g804, 0, none⟩), .pointer (some ⟨g806, 0, none⟩)] := (hk1540 9 rfl).trans e1337_9
      have e1540_10 : a1540.eval (.tmp 10) = .slice A1070 out1072.length c1071 := (hk1540 10 rfl).trans e1337_10
      have e1540_17 : a1540.eval (.tmp 17) = .slice Al1 l1.length cl1 := (hk1540 17 rfl).trans e1337_17
      have e1540_18 : a1540.eval (.tmp 18) = .int .i64 (l1.length : Int) := (hk1540 18 rfl).trans e1337_18
      have e1540_19 : a1540.eval (.tmp 19) = .int .i64 x1074 := (hk1540 19 rfl).trans e1337_19
      obtain ⟨⟨g1537, (f_12 : a1540.eval (.tmp 12) = .pointer (some ⟨g1537, 0, none⟩)), (b_g1537 : BlkO own1540 1539 w1540 g1537 25 #[.int .i64 x1536.1, .int .i64 x1536.2])⟩, (f_11 : a1540.eval (.tmp 11) = .int .i64 x1074), -⟩ := hf1540 [5, 4] rfl
      have e1540_12 := f_12
      have e1540_11 := f_11
      have hX1540 := Evo.step hX1337 (fun _ => Nat.le_refl 0) hE1540 rfl
      have b1540_Al1 := RdO.evo rfl hE1540 b1337_Al1
      have b1540_g804 := BlkO.evo (by decide) hE1540 b1337_g804
      have b1540_g808 := BlkO.evo (by decide) hE1540 b1337_g808
      have b1540_g806 := BlkO.evo (by decide) hE1540 b1337_g806
      have b1540_A1070 := RwO.evo rfl hE1540 b1337_A1070
      have b1540_g1537 := b_g1537
      obtain ⟨x1541, hx1541, hs⟩ := obind hs
      obtain ⟨x1542, hx1542, hs⟩ := obind hs
      refine rg_plain_seq (n := 63) (rs := []) (own0 := own1540) (K := [1544])
          (bs := [0, 0, 2, 0, 8, 30, 63, 127, 0, 511])
          (ds := [⟨[], [0], [], Fct.val 24 (.slice Al1 l1.length cl1)⟩,
          ⟨[], [11], [], Fct.val 25 (.int .i64 x1074)⟩,
          ⟨[1], [], [], Fct.val 26 (.int .i64 (ad x1074 1))⟩,
          ⟨[], [0], [], Fct.val 27 (.slice Al1 l1.length cl1)⟩,
          ⟨[3], [], [], Fct.val 28 (.int .i64 (l1.length : Int))⟩,
          ⟨[2, 4], [], [], Fct.val 29 (.int .i64 x1541)⟩,
          ⟨[0, 5], [], [], Fct.val 30 (.pointer (some ((adr Al1).add ((x1541 : Int).toNat * R25.s))))⟩,
          ⟨[6], [], [], Fct.val 31 (.agg #[.int .i64 x1542.1, .int .i64 x1542.2])⟩,
          ⟨[], [], [], Fct.blk 1544 13 (fun g => .pointer (some ⟨g, 0, none⟩)) 25 #[.int .i64 0, .int .i64 0]⟩,
          ⟨[8, 7], [], [1544], Fct.blk 1545 13 (fun g => .pointer (some ⟨g, 0, none⟩)) 25 #[.int .i64 x1542.1, .int .i64 x1542.2]⟩]) (by kernel_rfl) hz1540 hd1540 (fun _ h => nomatch h) ?_ ?_
      · refine steps_cons (fun own a wx hf hsl hE => ?_) ?_
        · obtain ⟨s_0, -⟩ := hsl
          exact sg_plain rfl rfl (or_move (s_0.trans e1540_0))
        refine steps_cons (fun own a wx hf hsl hE => ?_) ?_
        · obtain ⟨s_11, -⟩ := hsl
          exact sg_plain rfl rfl (or_move (s_11.trans e1540_11))
        refine steps_cons (fun own a wx hf hsl hE => ?_) ?_
        · obtain ⟨(f_25 : a.eval (.tmp 25) = .int .i64 x1074), -⟩ := hf
          exact sg_plain rfl rfl (or_add f_25 rfl rfl)
        refine steps_cons (fun own a wx hf hsl hE => ?_) ?_
        · obtain ⟨s_0, -⟩ := hsl
          exact sg_plain rfl rfl (or_move (s_0.trans e1540_0))
        refine steps_cons (fun own a wx hf hsl hE => ?_) ?_
        · obtain ⟨(f_27 : a.eval (.tmp 27) = .slice Al1 l1.length cl1), -⟩ := hf
          exact sg_plain rfl rfl (or_len tu22 f_27 rfl)
        refine steps_cons (fun own a wx hf hsl hE => ?_) ?_
        · obtain ⟨(f_26 : a.eval (.tmp 26) = .int .i64 (ad x1074 1)), (f_28 : a.eval (.tmp 28) = .int .i64 (l1.length : Int)), -⟩ := hf
          exact sg_plain rfl rfl (or_rem f_26 f_28 hx1541)
        refine steps_cons (fun own a wx hf hsl hE => ?_) ?_
        · obtain ⟨(f_24 : a.eval (.tmp 24) = .slice Al1 l1.length cl1), (f_29 : a.eval (.tmp 29) = .int .i64 x1541), -⟩ := hf
          exact sg_plain rfl rfl (or_index (R := R25) (l := l1) tl22 f_24 f_29 (RdO.some_ b1540_Al1 hx1542) hx1542)
        refine steps_cons (fun own a wx hf hsl hE => ?_) ?_
        · obtain ⟨(f_30 : a.eval (.tmp 30) = .pointer (some ((adr Al1).add ((x1541 : Int).toNat * R25.s)))), -⟩ := hf
          exact sg_plain rfl rfl (or_load (l := E25.f x1542) ta25 f_30 (RdO.cells (F := E25) (RdO.evo rfl hE b1540_Al1) hx1542) rfl)
        refine steps_cons (fun own a wx hf hsl hE => ?_) ?_
        · exact sg_plain rfl rfl (or_new [] rfl rfl trivial (by kernel_rfl))
        refine steps_cons (fun own a wx hf hsl hE => ?_) ?_
        · obtain ⟨⟨g1543, (f_13 : a.eval (.tmp 13) = .pointer (some ⟨g1543, 0, none⟩)), (b_g1543 : BlkO own 1544 wx g1543 25 #[.int .i64 0, .int .i64 0])⟩, (f_31 : a.eval (.tmp 31) = .agg #[.int .i64 x1542.1, .int .i64 x1542.2]), -⟩ := hf
          exact sg_plain rfl rfl (or_store (l := #[.int .i64 x1542.1, .int .i64 x1542.2]) (lab := 1544) (lab2 := 1545) ts25 f_13 f_31 b_g1543 (by simp) (by kernel_rfl) (mem_of rfl) (by decide) (by kernel_rfl) (fun own' a' w' ha hb => ⟨_, (ha 13).trans f_13, hb⟩))
        exact steps_nil
      intro own1546 a1546 w1546 hd1546 hz1546 hk1546 hf1546 hE1546
      have e1546_0 : a1546.eval (.tmp 0) = .slice Al1 l1.length cl1 := (hk1546 0 rfl).trans e1540_0
      have e1546_5 : a1546.eval (.tmp 5) = .pointer (some ⟨g804, 0, none⟩) := (hk1546 5 rfl).trans e1540_5
      have e1546_7 : a1546.eval (.tmp 7) = .pointer (some ⟨g808, 0, none⟩) := (hk1546 7 rfl).trans e1540_7
      have e1546_9 : a1546.eval (.tmp 9) = .func (.func 22) #[] #[.pointer (some ⟨g808, 0, none⟩), .pointer (some ⟨g804, 0, none⟩), .pointer (some ⟨g806, 0, none⟩)] := (hk1546 9 rfl).trans e1540_9
      have e1546_10 : a1546.eval (.tmp 10) = .slice A1070 out1072.length c1071 := (hk1546 10 rfl).trans e1540_10
      have e1546_12 : a1546.eval (.tmp 12) = .pointer (some ⟨g1537, 0, none⟩) := (hk1546 12 rfl).trans e1540_12
      have e1546_17 : a1546.eval (.tmp 17) = .slice Al1 l1.length cl1 := (hk1546 17 rfl).trans e1540_17
      have e1546_18 : a1546.eval (.tmp 18) = .int .i64 (l1.length : Int) := (hk1546 18 rfl).trans e1540_18
      have e1546_19 : a1546.eval (.tmp 19) = .int .i64 x1074 := (hk1546 19 rfl).trans e1540_19
      obtain ⟨⟨g1543, (f_13 : a1546.eval (.tmp 13) = .pointer (some ⟨g1543, 0, none⟩)), (b_g1543 : BlkO own1546 1545 w1546 g1543 25 #[.int .i64 x1542.1, .int .i64 x1542.2])⟩, -⟩ := hf1546 [9] rfl
      have e1546_13 := f_13
      have hX1546 := Evo.step hX1540 (fun _ => Nat.le_refl 0) hE1546 rfl
      have b1546_Al1 := RdO.evo rfl hE1546 b1540_Al1
      have b1546_g804 := BlkO.evo (by decide) hE1546 b1540_g804
      have b1546_g808 := BlkO.evo (by decide) hE1546 b1540_g808
      have b1546_g806 := BlkO.evo (by decide) hE1546 b1540_g806
      have b1546_A1070 := RwO.evo rfl hE1546 b1540_A1070
      have b1546_g1537 := BlkO.evo (by decide) hE1546 b1540_g1537
      have b1546_g1543 := b_g1543
      refine fl_seq (fun Q1547 hn1547 hp1547 => ?_)
      have K1563 : ∀ (a1563 : Act) (w1563 : World) (own1563 : Own) (out1561 : List (Int × Int)) (A1559 : Option Addr) (c1560 : Nat), a1563.defers = [] → a1563.tmps.size = 63 → a1563.eval (.tmp 0) = .slice Al1 l1.length cl1 → a1563.eval (.tmp 5) = .pointer (some ⟨g804, 0, none⟩) → a1563.eval (.tmp 7) = .pointer (some ⟨g808, 0, none⟩) → a1563.eval (.tmp 9) = .func (.func 22) #[] #[.pointer (some ⟨g808, 0, none⟩), .pointer (some ⟨g804, 0, none⟩), .pointer (some ⟨g806, 0, none⟩)] → a1563.eval (.tmp 10) = .slice A1559 out1561.length c1560 → a1563.eval (.tmp 12) = .pointer (some ⟨g1537, 0, none⟩) → a1563.eval (.tmp 13) = .pointer (some ⟨g1543, 0, none⟩) → a1563.eval (.tmp 17) = .slice Al1 l1.length cl1 → a1563.eval (.tmp 18) = .int .i64 (l1.length : Int) → a1563.eval (.tmp 19) = .int .i64 x1074 → Evo [] (fun _ => 0) own1563 w w1563 → RdO own1563 [0] w1563 R25 Al1 cl1 l1 → BlkO own1563 805 w1563 g804 3 #[.int .i64 c2] → BlkO own1563 809 w1563 g808 4 #[.bool y4] → BlkO own1563 807 w1563 g806 4 #[.bool up3] → RwO own1563 1562 [] w1563 25 R25 A1559 c1560 out1561 → BlkO own1563 1539 w1563 g1537 25 #[.int .i64 x1536.1, .int .i64 x1536.2] → BlkO own1563 1545 w1563 g1543 25 #[.int .i64 x1542.1, .int .i64 x1542.2] → polyclip_Half_k3 c2 up3 y4 x1074 x1536 x1542 out1561 = some zz1335 → Q1547 .normal a1563 w1563 := by
        intro a1563 w1563 own1563 out1561 A1559 c1560 hd1564 hz1564 e1564_0 e1564_5 e1564_7 e1564_9 e1564_10 e1564_12 e1564_13 e1564_17 e1564_18 e1564_19 hE1564 b1564_Al1 b1564_g804 b1564_g808 b1564_g806 b1564_A1559 b1564_g1537 b1564_g1543 hs
        refine hn1547 _ _ ?_
        refine fl_seq (fun Q1565 hn1565 hp1565 => ?_)
        obtain ⟨r1566, hr1566, hs⟩ := obind hs
        obtain ⟨r1567, hr1567, hs⟩ := obind hs
        refine rg_draw_seq g_mixed (n := 63) (rs := []) (own0 := own1563) (K := [])
            (bs := [0, 0, 3, 0, 0, 31, 63, 127])
            (ds := [⟨[], [9], [], Fct.val 40 (.func (.func 22) #[] #[.pointer (some ⟨g808, 0, none⟩), .pointer (some ⟨g804, 0, none⟩), .pointer (some ⟨g806, 0, none⟩)])⟩,
            ⟨[], [12], [], Fct.val 41 (.agg #[.int .i64 x1536.1, .int .i64 x1536.2])⟩,
            ⟨[0, 1], [], [], Fct.val 42 (.int .i64 r1566)⟩,
            ⟨[], [9], [], Fct.val 43 (.func (.func 22) #[] #[.pointer (some ⟨g808, 0, none⟩), .pointer (some ⟨g804, 0, none⟩), .pointer (some ⟨g806, 0, none⟩)])⟩,
            ⟨[], [13], [], Fct.val 44 (.agg #[.int .i64 x1542.1, .int .i64 x1542.2])⟩,
            ⟨[3, 4], [], [], Fct.val 45 (.int .i64 r1567)⟩,
            ⟨[2, 5], [], [], Fct.val 46 (.int .i64 (ml r1566 r1567))⟩,
            ⟨[6], [], [], Fct.val 47 (.bool (decide (0 ≤ (ml r1566 r1567))))⟩]) (by kernel_rfl) hz1564 hd1564 (fun _ h => nomatch h) ?_ ?_
        · refine steps_cons (fun own a wx hf hsl hE => ?_) ?_
          · obtain ⟨s_9, -⟩ := hsl
            exact sg_plain rfl rfl (or_move (s_9.trans e1564_9))
          refine steps_cons (fun own a wx hf hsl hE => ?_) ?_
          · obtain ⟨s_12, -⟩ := hsl
            exact sg_plain rfl rfl (or_load (l := [.int .i64 x1536.1, .int .i64 x1536.2]) ta25 (s_12.trans e1564_12) (Blk.cellsFrom (BlkO.evo (by decide) hE b1564_g1537).2 0 rfl) rfl)
          refine steps_cons (fun own a wx hf hsl hE => ?_) ?_
          · obtain ⟨(f_40 : a.eval (.tmp 40) = .func (.func 22) #[] #[.pointer (some ⟨g808, 0, none⟩), .pointer (some ⟨g804, 0, none⟩), .pointer (some ⟨g806, 0, none⟩)]), (f_41 : a.eval (.tmp 41) = .agg #[.int .i64 x1536.1, .int .i64 x1536.2]), -⟩ := hf
            exact sg_plain rfl rfl (or_callf cf22 f_40 (args1 f_41) rfl (polyclip_Half_1_w _ x1536 y4 g808 4 c2 g804 3 up3 g806 4 (BlkO.zero_ (BlkO.evo (by decide) hE b1564_g808)) (BlkO.zero_ (BlkO.evo (by decide) hE b1564_g804)) (BlkO.zero_ (BlkO.evo (by decide) hE b1564_g806)) r1566 hr1566) post_val)
          refine steps_cons (fun own a wx hf hsl hE => ?_) ?_
          · obtain ⟨s_9, -⟩ := hsl
            exact sg_plain rfl rfl (or_move (s_9.trans e1564_9))
          refine steps_cons (fun own a wx hf hsl hE => ?_) ?_
          · obtain ⟨s_13, -⟩ := hsl
            exact sg_plain rfl rfl (or_load (l := [.int .i64 x1542.1, .int .i64 x1542.2]) ta25 (s_13.trans e1564_13) (Blk.cellsFrom (BlkO.evo (by decide) hE b1564_g1543).2 0 rfl) rfl)
          refine steps_cons (fun own a wx hf hsl hE => ?_) ?_
          · obtain ⟨(f_43 : a.eval (.tmp 43) = .func (.func 22) #[] #[.pointer (some ⟨g808, 0, none⟩), .pointer (some ⟨g804, 0, none⟩), .pointer (some ⟨g806, 0, none⟩)]), (f_44 : a.eval (.tmp 44) = .agg #[.int .i64 x1542.1, .int .i64 x1542.2]), -⟩ := hf
            exact sg_plain rfl rfl (or_callf cf22 f_43 (args1 f_44) rfl (polyclip_Half_1_w _ x1542 y4 g808 4 c2 g804 3 up3 g806 4 (BlkO.zero_ (BlkO.evo (by decide) hE b1564_g808)) (BlkO.zero_ (BlkO.evo (by decide) hE b1564_g804)) (BlkO.zero_ (BlkO.evo (by decide) hE b1564_g806)) r1567 hr1567) post_val)
          refine steps_cons (fun own a wx hf hsl hE => ?_) ?_
          · obtain ⟨(f_42 : a.eval (.tmp 42) = .int .i64 r1566), (f_45 : a.eval (.tmp 45) = .int .i64 r1567), -⟩ := hf
            exact sg_plain rfl rfl (or_mul f_42 f_45 rfl)
          refine steps_cons (fun own a wx hf hsl hE => ?_) ?_
          · obtain ⟨(f_46 : a.eval (.tmp 46) = .int .i64 (ml r1566 r1567)), -⟩ := hf
            exact sg_plain rfl rfl (or_geq f_46 rfl rfl)
          exact steps_nil
        intro own1568 a1568 w1568 hd1568 hz1568 hk1568 hf1568 hE1568
        have e1568_0 : a1568.eval (.tmp 0) = .slice Al1 l1.length cl1 := (hk1568 0 rfl).trans e1564_0
        have e1568_5 : a1568.eval (.tmp 5) = .pointer (some ⟨g804, 0, none⟩) := (hk1568 5 rfl).trans e1564_5
        have e1568_7 : a1568.eval (.tmp 7) = .pointer (some ⟨g808, 0, none⟩) := (hk1568 7 rfl).trans e1564_7
        have e1568_9 : a1568.eval (.tmp 9) = .func (.func 22) #[] #[.pointer (some ⟨g808, 0, none⟩), .pointer (some ⟨g804, 0, none⟩), .pointer (some ⟨g806, 0, none⟩)] := (hk1568 9 rfl).trans e1564_9
        have e1568_10 : a1568.eval (.tmp 10) = .slice A1559 out1561.length c1560 := (hk1568 10 rfl).trans e1564_10
        have e1568_12 : a1568.eval (.tmp 12) = .pointer (some ⟨g1537, 0, none⟩) := (hk1568 12 rfl).trans e1564_12
        have e1568_13 : a1568.eval (.tmp 13) = .pointer (some ⟨g1543, 0, none⟩) := (hk1568 13 rfl).trans e1564_13
        have e1568_17 : a1568.eval (.tmp 17) = .slice Al1 l1.length cl1 := (hk1568 17 rfl).trans e1564_17
        have e1568_18 : a1568.eval (.tmp 18) = .int .i64 (l1.length : Int) := (hk1568 18 rfl).trans e1564_18
        have e1568_19 : a1568.eval (.tmp 19) = .int .i64 x1074 := (hk1568 19 rfl).trans e1564_19
        obtain ⟨(f_47 : a1568.eval (.tmp 47) = .bool (decide (0 ≤ (ml r1566 r1567)))), -⟩ := hf1568 [7] rfl
        have e1568_47 := f_47
        have hX1568 := Evo.step hE1564 (fun _ => Nat.le_refl 0) hE1568 rfl
        have b1568_Al1 := RdO.evo rfl hE1568 b1564_Al1
        have b1568_g804 := BlkO.evo (by decide) hE1568 b1564_g804
        have b1568_g808 := BlkO.evo (by decide) hE1568 b1564_g808
        have b1568_g806 := BlkO.evo (by decide) hE1568 b1564_g806
        have b1568_A1559 := RwO.evo rfl hE1568 b1564_A1559
        have b1568_g1537 := BlkO.evo (by decide) hE1568 b1564_g1537
        have b1568_g1543 := BlkO.evo (by decide) hE1568 b1564_g1543
        refine fl_cond e1568_47 hs (fun c1569 hs => ?_) (fun c1569 hs => ?_)
        · refine fl_exit ?_
          refine hp1565 _ _ _ rfl ?_
          exact (K1533 _ _ (rl [(1562, 1532)] own1568) _ A1559 c1560 hd1568 hz1568 e1568_0 e1568_5 e1568_7 e1568_9 e1568_10 e1568_17 e1568_18 e1568_19 (Evo.rl_ hX1568 (fun _ => Nat.le_refl 0) rfl) (RdO.rl_ (mm := [(1562, 1532)]) b1568_Al1) (BlkO.rl_ (mm := [(1562, 1532)]) b1568_g804) (BlkO.rl_ (mm := [(1562, 1532)]) b1568_g808) (BlkO.rl_ (mm := [(1562, 1532)]) b1568_g806) (RwO.rl_ (mm := [(1562, 1532)]) b1568_A1559) hs).2
        refine fl_skip ?_
        refine hn1565 _ _ ?_
        obtain ⟨r1570, hr1570, hs⟩ := obind hs
        refine rg_plain_seq (n := 63) (rs := []) (own0 := own1568) (K := [1572])
            (bs := [0, 0, 0, 0, 15, 31, 63, 63, 0, 383, 1023])
            (ds := [⟨[], [12], [], Fct.val 49 (.agg #[.int .i64 x1536.1, .int .i64 x1536.2])⟩,
            ⟨[], [13], [], Fct.val 50 (.agg #[.int .i64 x1542.1, .int .i64 x1542.2])⟩,
            ⟨[], [5], [], Fct.val 51 (.int .i64 c2)⟩,
            ⟨[], [7], [], Fct.val 52 (.bool y4)⟩,
            ⟨[0, 1, 2, 3], [], [], Fct.val 53 (.tuple #[.agg #[.int .i64 r1570.1.1, .int .i64 r1570.1.2], .bool r1570.2])⟩,
            ⟨[4], [], [], Fct.val 48 (.tuple #[.agg #[.int .i64 r1570.1.1, .int .i64 r1570.1.2], .bool r1570.2])⟩,
            ⟨[5], [], [], Fct.val 54 (.agg #[.int .i64 r1570.1.1, .int .i64 r1570.1.2])⟩,
            ⟨[5], [], [], Fct.val 55 (.bool r1570.2)⟩,
            ⟨[], [], [], Fct.blk 1572 14 (fun g => .pointer (some ⟨g, 0, none⟩)) 25 #[.int .i64 0, .int .i64 0]⟩,
            ⟨[8, 6], [], [1572], Fct.blk 1573 14 (fun g => .pointer (some ⟨g, 0, none⟩)) 25 #[.int .i64 r1570.1.1, .int .i64 r1570.1.2]⟩,
            ⟨[7], [], [], Fct.val 15 (.bool r1570.2)⟩]) (by kernel_rfl) hz1568 hd1568 (fun _ h => nomatch h) ?_ ?_
        · refine steps_cons (fun own a wx hf hsl hE => ?_) ?_
          · obtain ⟨s_12, -⟩ := hsl
            exact sg_plain rfl rfl (or_load (l := [.int .i64 x1536.1, .int .i64 x1536.2]) ta25 (s_12.trans e1568_12) (Blk.cellsFrom (BlkO.evo (by decide) hE b1568_g1537).2 0 rfl) rfl)
          refine steps_cons (fun own a wx hf hsl hE => ?_) ?_
          · obtain ⟨s_13, -⟩ := hsl
            exact sg_plain rfl rfl (or_load (l := [.int .i64 x1542.1, .int .i64 x1542.2]) ta25 (s_13.trans e1568_13) (Blk.cellsFrom (BlkO.evo (by decide) hE b1568_g1543).2 0 rfl) rfl)
          refine steps_cons (fun own a wx hf hsl hE => ?_) ?_
          · obtain ⟨s_5, -⟩ := hsl
            exact sg_plain rfl rfl (or_load1 to3 (s_5.trans e1568_5) (Blk.at_ (BlkO.evo (by decide) hE b1568_g804).2 0 rfl))
          refine steps_cons (fun own a wx hf hsl hE => ?_) ?_
          · obtain ⟨s_7, -⟩ := hsl
            exact sg_plain rfl rfl (or_load1 to4 (s_7.trans e1568_7) (Blk.at_ (BlkO.evo (by decide) hE b1568_g808).2 0 rfl))
          refine steps_cons (fun own a wx hf hsl hE => ?_) ?_
          · obtain ⟨(f_49 : a.eval (.tmp 49) = .agg #[.int .i64 x1536.1, .int .i64 x1536.2]), (f_50 : a.eval (.tmp 50) = .agg #[.int .i64 x1542.1, .int .i64 x1542.2]), (f_51 : a.eval (.tmp 51) = .int .i64 c2), (f_52 : a.eval (.tmp 52) = .bool y4), -⟩ := hf
            exact sg_plain rfl rfl (or_call cf23 (args4 f_49 f_50 f_51 f_52) (polyclip_cut_w _ x1536 x1542 c2 y4  r1570 hr1570) post_val)
          refine steps_cons (fun own a wx hf hsl hE => ?_) ?_
          · obtain ⟨(f_53 : a.eval (.tmp 53) = .tuple #[.agg #[.int .i64 r1570.1.1, .int .i64 r1570.1.2], .bool r1570.2]), -⟩ := hf
            exact sg_plain rfl rfl (or_move f_53)
          refine steps_cons (fun own a wx hf hsl hE => ?_) ?_
          · obtain ⟨(f_48 : a.eval (.tmp 48) = .tuple #[.agg #[.int .i64 r1570.1.1, .int .i64 r1570.1.2], .bool r1570.2]), -⟩ := hf
            exact sg_plain rfl rfl (or_k [(48, .tuple #[.agg #[.int .i64 r1570.1.1, .int .i64 r1570.1.2], .bool r1570.2])] rfl rfl ⟨f_48, trivial⟩ (by kernel_rfl))
          refine steps_cons (fun own a wx hf hsl hE => ?_) ?_
          · obtain ⟨(f_48 : a.eval (.tmp 48) = .tuple #[.agg #[.int .i64 r1570.1.1, .int .i64 r1570.1.2], .bool r1570.2]), -⟩ := hf
            exact sg_plain rfl rfl (or_k [(48, .tuple #[.agg #[.int .i64 r1570.1.1, .int .i64 r1570.1.2], .bool r1570.2])] rfl rfl ⟨f_48, trivial⟩ (by kernel_rfl))
          refine steps_cons (fun own a wx hf hsl hE => ?_) ?_
          · exact sg_plain rfl rfl (or_new [] rfl rfl trivial (by kernel_rfl))
          refine steps_cons (fun own a wx hf hsl hE => ?_) ?_
          · obtain ⟨⟨g1571, (f_14 : a.eval (.tmp 14) = .pointer (some ⟨g1571, 0, none⟩)), (b_g1571 : BlkO own 1572 wx g1571 25 #[.int .i64 0, .int .i64 0])⟩, (f_54 : a.eval (.tmp 54) = .agg #[.int .i64 r1570.1.1, .int .i64 r1570.1.2]), -⟩ := hf
            exact sg_plain rfl rfl (or_store (l := #[.int .i64 r1570.1.1, .int .i64 r1570.1.2]) (lab := 1572) (lab2 := 1573) ts25 f_14 f_54 b_g1571 (by simp) (by kernel_rfl) (mem_of rfl) (by decide) (by kernel_rfl) (fun own' a' w' ha hb => ⟨_, (ha 14).trans f_14, hb⟩))
          refine steps_cons (fun own a wx hf hsl hE => ?_) ?_
          · obtain ⟨(f_55 : a.eval (.tmp 55) = .bool r1570.2), -⟩ := hf
            exact sg_plain rfl rfl (or_assign f_55)
          exact steps_nil
        intro own1574 a1574 w1574 hd1574 hz1574 hk1574 hf1574 hE1574
        have e1574_0 : a1574.eval (.tmp 0) = .slice Al1 l1.length cl1 := (hk1574 0 rfl).trans e1568_0
        have e1574_5 : a1574.eval (.tmp 5) = .pointer (some ⟨g804, 0, none⟩) := (hk1574 5 rfl).trans e1568_5
        have e1574_7 : a1574.eval (.tmp 7) = .pointer (some ⟨g808, 0, none⟩) := (hk1574 7 rfl).trans e1568_7
        have e1574_9 : a1574.eval (.tmp 9) = .func (.func 22) #[] #[.pointer (some ⟨g808, 0, none⟩), .pointer (some ⟨g804, 0, none⟩), .pointer (some ⟨g806, 0, none⟩)] := (hk1574 9 rfl).trans e1568_9
        have e1574_10 : a1574.eval (.tmp 10) = .slice A1559 out1561.length c1560 := (hk1574 10 rfl).trans e1568_10
        have e1574_17 : a1574.eval (.tmp 17) = .slice Al1 l1.length cl1 := (hk1574 17 rfl).trans e1568_17
        have e1574_18 : a1574.eval (.tmp 18) = .int .i64 (l1.length : Int) := (hk1574 18 rfl).trans e1568_18
        have e1574_19 : a1574.eval (.tmp 19) = .int .i64 x1074 := (hk1574 19 rfl).trans e1568_19
        obtain ⟨⟨g1571, (f_14 : a1574.eval (.tmp 14) = .pointer (some ⟨g1571, 0, none⟩)), (b_g1571 : BlkO own1574 1573 w1574 g1571 25 #[.int .i64 r1570.1.1, .int .i64 r1570.1.2])⟩, (f_15 : a1574.eval (.tmp 15) = .bool r1570.2), -⟩ := hf1574 [9, 10] rfl
        have e1574_14 := f_14
        have e1574_15 := f_15
        have hX1574 := Evo.step hX1568 (fun _ => Nat.le_refl 0) hE1574 rfl
        have b1574_Al1 := RdO.evo rfl hE1574 b1568_Al1
        have b1574_g804 := BlkO.evo (by decide) hE1574 b1568_g804
        have b1574_g808 := BlkO.evo (by decide) hE1574 b1568_g808
        have b1574_g806 := BlkO.evo (by decide) hE1574 b1568_g806
        have b1574_A1559 := RwO.evo rfl hE1574 b1568_A1559
        have b1574_g1571 := b_g1571
        refine rg_plain_seq (n := 63) (rs := []) (own0 := own1574) (K := [])
            (bs := [0])
            (ds := [⟨[], [15], [], Fct.val 56 (.bool r1570.2)⟩]) (by kernel_rfl) hz1574 hd1574 (fun _ h => nomatch h) ?_ ?_
        · refine steps_cons (fun own a wx hf hsl hE => ?_) ?_
          · obtain ⟨s_15, -⟩ := hsl
            exact sg_plain rfl rfl (or_move (s_15.trans e1574_15))
          exact steps_nil
        intro own1575 a1575 w1575 hd1575 hz1575 hk1575 hf1575 hE1575
        have e1575_0 : a1575.eval (.tmp 0) = .slice Al1 l1.length cl1 := (hk1575 0 rfl).trans e1574_0
        have e1575_5 : a1575.eval (.tmp 5) = .pointer (some ⟨g804, 0, none⟩) := (hk1575 5 rfl).trans e1574_5
        have e1575_7 : a1575.eval (.tmp 7) = .pointer (some ⟨g808, 0, none⟩) := (hk1575 7 rfl).trans e1574_7
        have e1575_9 : a1575.eval (.tmp 9) = .func (.func 22) #[] #[.pointer (some ⟨g808, 0, none⟩), .pointer (some ⟨g804, 0, none⟩), .pointer (some ⟨g806, 0, none⟩)] := (hk1575 9 rfl).trans e1574_9
        have e1575_10 : a1575.eval (.tmp 10) = .slice A1559 out1561.length c1560 := (hk1575 10 rfl).trans e1574_10
        have e1575_14 : a1575.eval (.tmp 14) = .pointer (some ⟨g1571, 0, none⟩) := (hk1575 14 rfl).trans e1574_14
        have e1575_17 : a1575.eval (.tmp 17) = .slice Al1 l1.length cl1 := (hk1575 17 rfl).trans e1574_17
        have e1575_18 : a1575.eval (.tmp 18) = .int .i64 (l1.length : Int) := (hk1575 18 rfl).trans e1574_18
        have e1575_19 : a1575.eval (.tmp 19) = .int .i64 x1074 := (hk1575 19 rfl).trans e1574_19
        obtain ⟨(f_56 : a1575.eval (.tmp 56) = .bool r1570.2), -⟩ := hf1575 [0] rfl
        have e1575_56 := f_56
        have hX1575 := Evo.step hX1574 (fun _ => Nat.le_refl 0) hE1575 rfl
        have b1575_Al1 := RdO.evo rfl hE1575 b1574_Al1
        have b1575_g804 := BlkO.evo (by decide) hE1575 b1574_g804
        have b1575_g808 := BlkO.evo (by decide) hE1575 b1574_g808
        have b1575_g806 := BlkO.evo (by decide) hE1575 b1574_g806
        have b1575_A1559 := RwO.evo rfl hE1575 b1574_A1559
        have b1575_g1571 := BlkO.evo (by decide) hE1575 b1574_g1571
        refine fl_cond e1575_56 hs (fun c1576 hs => ?_) (fun c1576 hs => ?_)
        · obtain ⟨x1581, hx1581, hs⟩ := obind hs
          refine rg_plain (n := 63) (rs := [Fct.rowAt 1562 [] 25 R25 A1559 c1560 out1561]) (own0 := own1575) (K := [1562])
              (bs := [0, 0, 2, 7, 15])
              (ds := [⟨[], [10], [], Fct.val 57 (.slice A1559 out1561.length c1560)⟩,
              ⟨[], [14], [], Fct.val 58 (.agg #[.int .i64 r1570.1.1, .int .i64 r1570.1.2])⟩,
              ⟨[1], [], [], Fct.row 1580 [] 59 25 R25 [r1570.1]⟩,
              ⟨[0, 2, 5], [], [1562], Fct.row 1582 [] 60 25 R25 x1581⟩,
              ⟨[3], [], [], Fct.rel [10, 60] (fun l => ∀ (A1583 : Option Addr) (cA1583 : Nat), l.getD 1 undef = .slice A1583 x1581.length cA1583 → l.getD 0 undef = .slice A1583 x1581.length cA1583)⟩]) (by kernel_rfl) hz1575 hd1575 (by simp only [List.forall_mem_cons]; exact ⟨b1575_A1559, fun _ h => nomatch h⟩) ?_ ?_
          · refine steps_cons (fun own a wx hf hsl hE => ?_) ?_
            · obtain ⟨s_10, -⟩ := hsl
              exact sg_plain rfl rfl (or_move (s_10.trans e1575_10))
            refine steps_cons (fun own a wx hf hsl hE => ?_) ?_
            · obtain ⟨s_14, -⟩ := hsl
              exact sg_plain rfl rfl (or_load (l := [.int .i64 r1570.1.1, .int .i64 r1570.1.2]) ta25 (s_14.trans e1575_14) (Blk.cellsFrom (BlkO.evo (by decide) hE b1575_g1571).2 0 rfl) rfl)
            refine steps_cons (fun own a wx hf hsl hE => ?_) ?_
            · obtain ⟨(f_58 : a.eval (.tmp 58) = .agg #[.int .i64 r1570.1.1, .int .i64 r1570.1.2]), -⟩ := hf
              exact sg_plain rfl rfl (or_lit (lab := 1580) (e := 25) (cs := #[.int .i64 r1570.1.1, .int .i64 r1570.1.2]) (F := E25) (or_new [(58, .agg #[.int .i64 r1570.1.1, .int .i64 r1570.1.2])] rfl rfl ⟨f_58, trivial⟩ (by kernel_rfl)) rfl rfl (show 1 ≤ maxLen by decide))
            refine steps_cons (fun own a wx hf hsl hE => ?_) ?_
            · obtain ⟨(f_57 : a.eval (.tmp 57) = .slice A1559 out1561.length c1560), ⟨⟨A1579, cA1579⟩, (f_59 : a.eval (.tmp 59) = .slice A1579 [r1570.1].length cA1579), (b_A1579 : RwO own 1580 [] wx 25 R25 A1579 cA1579 [r1570.1])⟩, (b_A1559 : RwO own 1562 [] wx 25 R25 A1559 c1560 out1561), -⟩ := hf
              exact sg_plain rfl rfl (or_append (R := R25) (lab := 1562) (lab2 := 1582) (L := []) (L3 := []) tp22 f_57 b_A1559 (by decide) f_59 (RwO.rd b_A1579) hx1581 (by decide) (by decide) (mem_of rfl) (.inl (Rep.fl_flat _)))
            refine steps_cons (fun own a wx hf hsl hE => ?_) ?_
            · obtain ⟨⟨⟨A1583, cA1583⟩, (f_60 : a.eval (.tmp 60) = .slice A1583 x1581.length cA1583), (b_A1583 : RwO own 1582 [] wx 25 R25 A1583 cA1583 x1581)⟩, -⟩ := hf
              exact sg_plain rfl rfl (or_mono (f := Fct.val 10 (.slice A1583 x1581.length cA1583)) (or_assign f_60) (fun own' a' w' v' hp h => fun _ _ h0' => by cases (f_60.symm.trans ((hp.2 60 (by decide)).symm.trans h0')); exact h))
            exact steps_nil
          intro own1584 a1584 w1584 hd1584 hz1584 hk1584 hf1584 hE1584
          have e1584_0 : a1584.eval (.tmp 0) = .slice Al1 l1.length cl1 := (hk1584 0 rfl).trans e1575_0
          have e1584_5 : a1584.eval (.tmp 5) = .pointer (some ⟨g804, 0, none⟩) := (hk1584 5 rfl).trans e1575_5
          have e1584_7 : a1584.eval (.tmp 7) = .pointer (some ⟨g808, 0, none⟩) := (hk1584 7 rfl).trans e1575_7
          have e1584_9 : a1584.eval (.tmp 9) = .func (.func 22) #[] #[.pointer (some ⟨g808, 0, none⟩), .pointer (some ⟨g804, 0, none⟩), .pointer (some ⟨g806, 0, none⟩)] := (hk1584 9 rfl).trans e1575_9
          have e1584_17 : a1584.eval (.tmp 17) = .slice Al1 l1.length cl1 := (hk1584 17 rfl).trans e1575_17
          have e1584_18 : a1584.eval (.tmp 18) = .int .i64 (l1.length : Int) := (hk1584 18 rfl).trans e1575_18
          have e1584_19 : a1584.eval (.tmp 19) = .int .i64 x1074 := (hk1584 19 rfl).trans e1575_19
          obtain ⟨⟨⟨A1583, cA1583⟩, (f_60 : a1584.eval (.tmp 60) = .slice A1583 x1581.length cA1583), (b_A1583 : RwO own1584 1582 [] w1584 25 R25 A1583 cA1583 x1581)⟩, (q_10 : ∀ (A1583 : Option Addr) (cA1583 : Nat), a1584.eval (.tmp 60) = .slice A1583 x1581.length cA1583 → a1584.eval (.tmp 10) = .slice A1583 x1581.length cA1583), -⟩ := hf1584 [3, 4] rfl
          have f_10 := q_10 _ _ f_60
          have e1584_10 := f_10
          have hX1584 := Evo.step hX1575 (fun _ => Nat.le_refl 0) hE1584 rfl
          have b1584_Al1 := RdO.evo rfl hE1584 b1575_Al1
          have b1584_g804 := BlkO.evo (by decide) hE1584 b1575_g804
          have b1584_g808 := BlkO.evo (by decide) hE1584 b1575_g808
          have b1584_g806 := BlkO.evo (by decide) hE1584 b1575_g806
          have b1584_A1583 := b_A1583
          exact (K1533 _ _ (rl [(1582, 1532)] own1584) _ A1583 cA1583 hd1584 hz1584 e1584_0 e1584_5 e1584_7 e1584_9 e1584_10 e1584_17 e1584_18 e1584_19 (Evo.rl_ hX1584 (fun _ => Nat.le_refl 0) rfl) (RdO.rl_ (mm := [(1582, 1532)]) b1584_Al1) (BlkO.rl_ (mm := [(1582, 1532)]) b1584_g804) (BlkO.rl_ (mm := [(1582, 1532)]) b1584_g808) (BlkO.rl_ (mm := [(1582, 1532)]) b1584_g806) (RwO.rl_ (mm := [(1582, 1532)]) b1584_A1583) hs).1
        refine fl_skip ?_
        exact (K1533 _ _ (rl [(1562, 1532)] own1575) _ A1559 c1560 hd1575 hz1575 e1575_0 e1575_5 e1575_7 e1575_9 e1575_10 e1575_17 e1575_18 e1575_19 (Evo.rl_ hX1575 (fun _ => Nat.le_refl 0) rfl) (RdO.rl_ (mm := [(1562, 1532)]) b1575_Al1) (BlkO.rl_ (mm := [(1562, 1532)]) b1575_g804) (BlkO.rl_ (mm := [(1562, 1532)]) b1575_g808) (BlkO.rl_ (mm := [(1562, 1532)]) b1575_g806) (RwO.rl_ (mm := [(1562, 1532)]) b1575_A1559) hs).1
      obtain ⟨r1585, hr1585, hs⟩ := obind hs
      refine rg_plain_seq (n := 63) (rs := []) (own0 := own1546) (K := [])
          (bs := [0, 0, 3, 7])
          (ds := [⟨[], [9], [], Fct.val 32 (.func (.func 22) #[] #[.pointer (some ⟨g808, 0, none⟩), .pointer (some ⟨g804, 0, none⟩), .pointer (some ⟨g806, 0, none⟩)])⟩,
          ⟨[], [12], [], Fct.val 33 (.agg #[.int .i64 x1536.1, .int .i64 x1536.2])⟩,
          ⟨[0, 1], [], [], Fct.val 34 (.int .i64 r1585)⟩,
          ⟨[2], [], [], Fct.val 35 (.bool (decide (0 ≤ r1585)))⟩]) (by kernel_rfl) hz1546 hd1546 (fun _ h => nomatch h) ?_ ?_
      · refine steps_cons (fun own a wx hf hsl hE => ?_) ?_
        · obtain ⟨s_9, -⟩ := hsl
          exact sg_plain rfl rfl (or_move (s_9.trans e1546_9))
        refine steps_cons (fun own a wx hf hsl hE => ?_) ?_
        · obtain ⟨s_12, -⟩ := hsl
          exact sg_plain rfl rfl (or_load (l := [.int .i64 x1536.1, .int .i64 x1536.2]) ta25 (s_12.trans e1546_12) (Blk.cellsFrom (BlkO.evo (by decide) hE b1546_g1537).2 0 rfl) rfl)
        refine steps_cons (fun own a wx hf hsl hE => ?_) ?_
        · obtain ⟨(f_32 : a.eval (.tmp 32) = .func (.func 22) #[] #[.pointer (some ⟨g808, 0, none⟩), .pointer (some ⟨g804, 0, none⟩), .pointer (some ⟨g806, 0, none⟩)]), (f_33 : a.eval (.tmp 33) = .agg #[.int .i64 x1536.1, .int .i64 x1536.2]), -⟩ := hf
          exact sg_plain rfl rfl (or_callf cf22 f_32 (args1 f_33) rfl (polyclip_Half_1_w _ x1536 y4 g808 4 c2 g804 3 up3 g806 4 (BlkO.zero_ (BlkO.evo (by decide) hE b1546_g808)) (BlkO.zero_ (BlkO.evo (by decide) hE b1546_g804)) (BlkO.zero_ (BlkO.evo (by decide) hE b1546_g806)) r1585 hr1585) post_val)
        refine steps_cons (fun own a wx hf hsl hE => ?_) ?_
        · obtain ⟨(f_34 : a.eval (.tmp 34) = .int .i64 r1585), -⟩ := hf
          exact sg_plain rfl rfl (or_geq f_34 rfl rfl)
        exact steps_nil
      intro own1586 a1586 w1586 hd1586 hz1586 hk1586 hf1586 hE1586
      have e1586_0 : a1586.eval (.tmp 0) = .slice Al1 l1.length cl1 := (hk1586 0 rfl).trans e1546_0
      have e1586_5 : a1586.eval (.tmp 5) = .pointer (some ⟨g804, 0, none⟩) := (hk1586 5 rfl).trans e1546_5
      have e1586_7 : a1586.eval (.tmp 7) = .pointer (some ⟨g808, 0, none⟩) := (hk1586 7 rfl).trans e1546_7
      have e1586_9 : a1586.eval (.tmp 9) = .func (.func 22) #[] #[.pointer (some ⟨g808, 0, none⟩), .pointer (some ⟨g804, 0, none⟩), .pointer (some ⟨g806, 0, none⟩)] := (hk1586 9 rfl).trans e1546_9
      have e1586_10 : a1586.eval (.tmp 10) = .slice A1070 out1072.length c1071 := (hk1586 10 rfl).trans e1546_10
      have e1586_12 : a1586.eval (.tmp 12) = .pointer (some ⟨g1537, 0, none⟩) := (hk1586 12 rfl).trans e1546_12
      have e1586_13 : a1586.eval (.tmp 13) = .pointer (some ⟨g1543, 0, none⟩) := (hk1586 13 rfl).trans e1546_13
      have e1586_17 : a1586.eval (.tmp 17) = .slice Al1 l1.length cl1 := (hk1586 17 rfl).trans e1546_17
      have e1586_18 : a1586.eval (.tmp 18) = .int .i64 (l1.length : Int) := (hk1586 18 rfl).trans e1546_18
      have e1586_19 : a1586.eval (.tmp 19) = .int .i64 x1074 := (hk1586 19 rfl).trans e1546_19
      obtain ⟨(f_35 : a1586.eval (.tmp 35) = .bool (decide (0 ≤ r1585))), -⟩ := hf1586 [3] rfl
      have e1586_35 := f_35
      have hX1586 := Evo.step hX1546 (fun _ => Nat.le_refl 0) hE1586 rfl
      have b1586_Al1 := RdO.evo rfl hE1586 b1546_Al1
      have b1586_g804 := BlkO.evo (by decide) hE1586 b1546_g804
      have b1586_g808 := BlkO.evo (by decide) hE1586 b1546_g808
      have b1586_g806 := BlkO.evo (by decide) hE1586 b1546_g806
      have b1586_A1070 := RwO.evo rfl hE1586 b1546_A1070
      have b1586_g1537 := BlkO.evo (by decide) hE1586 b1546_g1537
      have b1586_g1543 := BlkO.evo (by decide) hE1586 b1546_g1543
      refine fl_cond e1586_35 hs (fun c1587 hs => ?_) (fun c1587 hs => ?_)
      · obtain ⟨x1592, hx1592, hs⟩ := obind hs
        refine rg_plain (n := 63) (rs := [Fct.rowAt 1073 [] 25 R25 A1070 c1071 out1072]) (own0 := own1586) (K := [1073])
            (bs := [0, 0, 2, 7, 15])
            (ds := [⟨[], [10], [], Fct.val 36 (.slice A1070 out1072.length c1071)⟩,
            ⟨[], [12], [], Fct.val 37 (.agg #[.int .i64 x1536.1, .int .i64 x1536.2])⟩,
            ⟨[1], [], [], Fct.row 1591 [] 38 25 R25 [x1536]⟩,
            ⟨[0, 2, 5], [], [1073], Fct.row 1593 [] 39 25 R25 x1592⟩,
            ⟨[3], [], [], Fct.rel [10, 39] (fun l => ∀ (A1594 : Option Addr) (cA1594 : Nat), l.getD 1 undef = .slice A1594 x1592.length cA1594 → l.getD 0 undef = .slice A1594 x1592.length cA1594)⟩]) (by kernel_rfl) hz1586 hd1586 (by simp only [List.forall_mem_cons]; exact ⟨b1586_A1070, fun _ h => nomatch h⟩) ?_ ?_
        · refine steps_cons (fun own a wx hf hsl hE => ?_) ?_
          · obtain ⟨s_10, -⟩ := hsl
            exact sg_plain rfl rfl (or_move (s_10.trans e1586_10))
          refine steps_cons (fun own a wx hf hsl hE => ?_) ?_
          · obtain ⟨s_12, -⟩ := hsl
            exact sg_plain rfl rfl (or_load (l := [.int .i64 x1536.1, .int .i64 x1536.2]) ta25 (s_12.trans e1586_12) (Blk.cellsFrom (BlkO.evo (by decide) hE b1586_g1537).2 0 rfl) rfl)
          refine steps_cons (fun own a wx hf hsl hE => ?_) ?_
          · obtain ⟨(f_37 : a.eval (.tmp 37) = .agg #[.int .i64 x1536.1, .int .i64 x1536.2]), -⟩ := hf
            exact sg_plain rfl rfl (or_lit (lab := 1591) (e := 25) (cs := #[.int .i64 x1536.1, .int .i64 x1536.2]) (F := E25) (or_new [(37, .agg #[.int .i64 x1536.1, .int .i64 x1536.2])] rfl rfl ⟨f_37, trivial⟩ (by kernel_rfl)) rfl rfl (show 1 ≤ maxLen by decide))
          refine steps_cons (fun own a wx hf hsl hE => ?_) ?_
          · obtain ⟨(f_36 : a.eval (.tmp 36) = .slice A1070 out1072.length c1071), ⟨⟨A1590, cA1590⟩, (f_38 : a.eval (.tmp 38) = .slice A1590 [x1536].length cA1590), (b_A1590 : RwO own 1591 [] wx 25 R25 A1590 cA1590 [x1536])⟩, (b_A1070 : RwO own 1073 [] wx 25 R25 A1070 c1071 out1072), -⟩ := hf
            exact sg_plain rfl rfl (or_append (R := R25) (lab := 1073) (lab2 := 1593) (L := []) (L3 := []) tp22 f_36 b_A1070 (by decide) f_38 (RwO.rd b_A1590) hx1592 (by decide) (by decide) (mem_of rfl) (.inl (Rep.fl_flat _)))
          refine steps_cons (fun own a wx hf hsl hE => ?_) ?_
          · obtain ⟨⟨⟨A1594, cA1594⟩, (f_39 : a.eval (.tmp 39) = .slice A1594 x1592.length cA1594), (b_A1594 : RwO own 1593 [] wx 25 R25 A1594 cA1594 x1592)⟩, -⟩ := hf
            exact sg_plain rfl rfl (or_mono (f := Fct.val 10 (.slice A1594 x1592.length cA1594)) (or_assign f_39) (fun own' a' w' v' hp h => fun _ _ h0' => by cases (f_39.symm.trans ((hp.2 39 (by decide)).symm.trans h0')); exact h))
          exact steps_nil
        intro own1595 a1595 w1595 hd1595 hz1595 hk1595 hf1595 hE1595
        have e1595_0 : a1595.eval (.tmp 0) = .slice Al1 l1.length cl1 := (hk1595 0 rfl).trans e1586_0
        have e1595_5 : a1595.eval (.tmp 5) = .pointer (some ⟨g804, 0, none⟩) := (hk1595 5 rfl).trans e1586_5
        have e1595_7 : a1595.eval (.tmp 7) = .pointer (some ⟨g808, 0, none⟩) := (hk1595 7 rfl).trans e1586_7
        have e1595_9 : a1595.eval (.tmp 9) = .func (.func 22) #[] #[.pointer (some ⟨g808, 0, none⟩), .pointer (some ⟨g804, 0, none⟩), .pointer (some ⟨g806, 0, none⟩)] := (hk1595 9 rfl).trans e1586_9
        have e1595_12 : a1595.eval (.tmp 12) = .pointer (some ⟨g1537, 0, none⟩) := (hk1595 12 rfl).trans e1586_12
        have e1595_13 : a1595.eval (.tmp 13) = .pointer (some ⟨g1543, 0, none⟩) := (hk1595 13 rfl).trans e1586_13
        have e1595_17 : a1595.eval (.tmp 17) = .slice Al1 l1.length cl1 := (hk1595 17 rfl).trans e1586_17
        have e1595_18 : a1595.eval (.tmp 18) = .int .i64 (l1.length : Int) := (hk1595 18 rfl).trans e1586_18
        have e1595_19 : a1595.eval (.tmp 19) = .int .i64 x1074 := (hk1595 19 rfl).trans e1586_19
        obtain ⟨⟨⟨A1594, cA1594⟩, (f_39 : a1595.eval (.tmp 39) = .slice A1594 x1592.length cA1594), (b_A1594 : RwO own1595 1593 [] w1595 25 R25 A1594 cA1594 x1592)⟩, (q_10 : ∀ (A1594 : Option Addr) (cA1594 : Nat), a1595.eval (.tmp 39) = .slice A1594 x1592.length cA1594 → a1595.eval (.tmp 10) = .slice A1594 x1592.length cA1594), -⟩ := hf1595 [3, 4] rfl
        have f_10 := q_10 _ _ f_39
        have e1595_10 := f_10
        have hX1595 := Evo.step hX1586 (fun _ => Nat.le_refl 0) hE1595 rfl
        have b1595_Al1 := RdO.evo rfl hE1595 b1586_Al1
        have b1595_g804 := BlkO.evo (by decide) hE1595 b1586_g804
        have b1595_g808 := BlkO.evo (by decide) hE1595 b1586_g808
        have b1595_g806 := BlkO.evo (by decide) hE1595 b1586_g806
        have b1595_g1537 := BlkO.evo (by decide) hE1595 b1586_g1537
        have b1595_g1543 := BlkO.evo (by decide) hE1595 b1586_g1543
        have b1595_A1594 := b_A1594
        exact (K1563 _ _ (rl [(1593, 1562)] own1595) _ A1594 cA1594 hd1595 hz1595 e1595_0 e1595_5 e1595_7 e1595_9 e1595_10 e1595_12 e1595_13 e1595_17 e1595_18 e1595_19 (Evo.rl_ hX1595 (fun _ => Nat.le_refl 0) rfl) (RdO.rl_ (mm := [(1593, 1562)]) b1595_Al1) (BlkO.rl_ (mm := [(1593, 1562)]) b1595_g804) (BlkO.rl_ (mm := [(1593, 1562)]) b1595_g808) (BlkO.rl_ (mm := [(1593, 1562)]) b1595_g806) (RwO.rl_ (mm := [(1593, 1562)]) b1595_A1594) (BlkO.rl_ (mm := [(1593, 1562)]) b1595_g1537) (BlkO.rl_ (mm := [(1593, 1562)]) b1595_g1543) hs)
      refine fl_skip ?_
      exact (K1563 _ _ (rl [(1073, 1562)] own1586) _ A1070 c1071 hd1586 hz1586 e1586_0 e1586_5 e1586_7 e1586_9 e1586_10 e1586_12 e1586_13 e1586_17 e1586_18 e1586_19 (Evo.rl_ hX1586 (fun _ => Nat.le_refl 0) rfl) (RdO.rl_ (mm := [(1073, 1562)]) b1586_Al1) (BlkO.rl_ (mm := [(1073, 1562)]) b1586_g804) (BlkO.rl_ (mm := [(1073, 1562)]) b1586_g808) (BlkO.rl_ (mm := [(1073, 1562)]) b1586_g806) (RwO.rl_ (mm := [(1073, 1562)]) b1586_A1070) (BlkO.rl_ (mm := [(1073, 1562)]) b1586_g1537) (BlkO.rl_ (mm := [(1073, 1562)]) b1586_g1543) hs)
    refine fl_exit ?_
    refine hp1338 _ _ _ rfl ?_
    replace hs := hz1335 _ hs
    refine hp1335 _ _ _ rfl ?_
    refine hx817 _ _ ?_
    refine hn815 _ _ ?_
    refine rg_plain_seq (n := 63) (rs := []) (own0 := own1337) (K := [])
        (bs := [0, 1])
        (ds := [⟨[], [10], [], Fct.val 62 (.slice A1070 out1072.length c1071)⟩,
        ⟨[0], [], [], Fct.val 8 (.slice A1070 out1072.length c1071)⟩]) (by kernel_rfl) hz1337 hd1337 (fun _ h => nomatch h) ?_ ?_
    · refine steps_cons (fun own a wx hf hsl hE => ?_) ?_
      · obtain ⟨s_10, -⟩ := hsl
        exact sg_plain rfl rfl (or_move (s_10.trans e1337_10))
      refine steps_cons (fun own a wx hf hsl hE => ?_) ?_
      · obtain ⟨(f_62 : a.eval (.tmp 62) = .slice A1070 out1072.length c1071), -⟩ := hf
        exact sg_plain rfl rfl (or_assign f_62)
      exact steps_nil
    intro own1596 a1596 w1596 hd1596 hz1596 hk1596 hf1596 hE1596
    obtain ⟨(f_8 : a1596.eval (.tmp 8) = .slice A1070 out1072.length c1071), -⟩ := hf1596 [1] rfl
    have e1596_8 := f_8
    have hX1596 := Evo.step hX1337 (fun _ => Nat.le_refl 0) hE1596 rfl
    have b1596_A1070 := RwO.evo rfl hE1596 b1337_A1070
    refine fl_ret ?_
    refine hp811.leaves _ _ _ rfl ?_
    obtain rfl := (osome hs).symm
    exact hret _ _ _ _ (.inl rfl) hd1596 (results1_ rfl (RVal.tmp_ e1596_8)) ⟨(rl [(1073, 1)] own1596), (A1070, c1071), rfl, (Evo.rl_ hX1596 (fun _ => Nat.le_refl 0) rfl), (RwO.rl_ (mm := [(1073, 1)]) b1596_A1070)⟩

theorem ring_edges_w (w : World) (l1 : List (Int × Int)) (Al1 : Option Addr) (cl1 : Nat) (hl1 : RdO (fun _ => 0) [0] w R25 Al1 cl1 l1) (r : Unit) (hs : ring_edges l1 = some r) :
    Calls Try.prog 25 #[.slice Al1 l1.length cl1] w fun e w' => ∃ (own' : Own) (x : Option Addr × Nat), e = .returned (.func (.func 39) #[] #[.pointer (some ⟨x.2, 0, none⟩)]) ∧ Evo [] (fun _ => 0) own' w w' ∧ BlkO own' 1 w' x.2 22 #[.slice Al1 l1.length cl1] := by
  refine fl_enter (n := 4) rfl rfl rfl (Nat.le_of_ble_eq_true rfl) ?_
  intro a0 Q hd0 hz0 harg hret
  have ha0 := harg 0 _ rfl
  clear harg
  have hE0 : Evo [] (fun _ => 0) (fun _ => 0) w w := Evo.refl _ _ _
  refine rg_plain_seq (n := 4) (rs := []) (own0 := (fun _ => 0)) (K := [])
      (bs := [0, 0])
      (ds := [⟨[], [0], [], Fct.blk 16 1 (fun g => .pointer (some ⟨g, 0, none⟩)) 22 #[.slice Al1 l1.length cl1]⟩,
      ⟨[], [], [], Fct.val 2 (.nilFunc)⟩]) (by kernel_rfl) hz0 hd0 (fun _ h => nomatch h) ?_ ?_
  · refine steps_cons (fun own a wx hf hsl hE => ?_) ?_
    · obtain ⟨s_0, -⟩ := hsl
      exact sg_plain rfl rfl (or_new [(0, .slice Al1 l1.length cl1)] rfl rfl ⟨(s_0.trans ha0), trivial⟩ (by kernel_rfl))
    refine steps_cons (fun own a wx hf hsl hE => ?_) ?_
    · exact sg_plain rfl rfl (or_assign rfl)
    exact steps_nil
  intro own17 a17 w17 hd17 hz17 hk17 hf17 hE17
  obtain ⟨⟨g15, (f_1 : a17.eval (.tmp 1) = .pointer (some ⟨g15, 0, none⟩)), (b_g15 : BlkO own17 16 w17 g15 22 #[.slice Al1 l1.length cl1])⟩, -⟩ := hf17 [0] rfl
  have e17_1 := f_1
  have hX17 := Evo.step hE0 (fun _ => Nat.le_refl 0) hE17 rfl
  have b17_Al1 := RdO.evo rfl hE17 hl1
  have b17_g15 := b_g15
  refine rg_plain_seq (n := 4) (rs := []) (own0 := own17) (K := [])
      (bs := [0, 1])
      (ds := [⟨[], [1], [], Fct.val 3 (.func (.func 39) #[] #[.pointer (some ⟨g15, 0, none⟩)])⟩,
      ⟨[0], [], [], Fct.val 2 (.func (.func 39) #[] #[.pointer (some ⟨g15, 0, none⟩)])⟩]) (by kernel_rfl) hz17 hd17 (fun _ h => nomatch h) ?_ ?_
  · refine steps_cons (fun own a wx hf hsl hE => ?_) ?_
    · obtain ⟨s_1, -⟩ := hsl
      exact sg_plain rfl rfl (or_k [(1, .pointer (some ⟨g15, 0, none⟩))] rfl rfl ⟨(s_1.trans e17_1), trivial⟩ (by kernel_rfl))
    refine steps_cons (fun own a wx hf hsl hE => ?_) ?_
    · obtain ⟨(f_3 : a.eval (.tmp 3) = .func (.func 39) #[] #[.pointer (some ⟨g15, 0, none⟩)]), -⟩ := hf
      exact sg_plain rfl rfl (or_assign f_3)
    exact steps_nil
  intro own18 a18 w18 hd18 hz18 hk18 hf18 hE18
  obtain ⟨(f_2 : a18.eval (.tmp 2) = .func (.func 39) #[] #[.pointer (some ⟨g15, 0, none⟩)]), -⟩ := hf18 [1] rfl
  have e18_2 := f_2
  have hX18 := Evo.step hX17 (fun _ => Nat.le_refl 0) hE18 rfl
  have b18_Al1 := RdO.evo rfl hE18 b17_Al1
  have b18_g15 := BlkO.evo (by decide) hE18 b17_g15
  refine fl_ret ?_
  obtain rfl := osome hs
  exact hret _ _ _ _ (.inl rfl) hd18 (results1_ rfl (RVal.tmp_ e18_2)) ⟨(rl [(16, 1)] own18), (none, g15), rfl, (Evo.rl_ hX18 (fun _ => Nat.le_refl 0) rfl), (BlkO.rl_ (mm := [(16, 1)]) b18_g15)⟩

theorem exact_Cross_w (w : World) (x1 : Int × Int) (b2 : Int × Int) (c3 : Int × Int) (r : Int) (hs : exact_Cross x1 b2 c3 = some r) :
    Calls Try.prog 26 #[.agg #[.int .i64 x1.1, .int .i64 x1.2], .agg #[.int .i64 b2.1, .int .i64 b2.2], .agg #[.int .i64 c3.1, .int .i64 c3.2]] w fun e w' => ∃ own' : Own, e = .returned (.int .i64 r) ∧ Evo [] (fun _ => 0) own' w w' := by
  refine fl_enter (n := 36) rfl rfl rfl (Nat.le_of_ble_eq_true rfl) ?_
  intro a0 Q hd0 hz0 harg hret
  have ha0 := harg 0 _ rfl
  have ha1 := harg 1 _ rfl
  have ha2 := harg 2 _ rfl
  clear harg
  have hE0 : Evo [] (fun _ => 0) (fun _ => 0) w w := Evo.refl _ _ _
  refine rg_plain_seq (n := 36) (rs := []) (own0 := (fun _ => 0)) (K := [])
      (bs := [0, 0, 0, 0])
      (ds := [⟨[], [0], [], Fct.blk 28 3 (fun g => .pointer (some ⟨g, 0, none⟩)) 25 #[.int .i64 x1.1, .int .i64 x1.2]⟩,
      ⟨[], [1], [], Fct.blk 30 4 (fun g => .pointer (some ⟨g, 0, none⟩)) 25 #[.int .i64 b2.1, .int .i64 b2.2]⟩,
      ⟨[], [2], [], Fct.blk 32 5 (fun g => .pointer (some ⟨g, 0, none⟩)) 25 #[.int .i64 c3.1, .int .i64 c3.2]⟩,
      ⟨[], [], [], Fct.val 6 (.int .i64 0)⟩]) (by kernel_rfl) hz0 hd0 (fun _ h => nomatch h) ?_ ?_
  · refine steps_cons (fun own a wx hf hsl hE => ?_) ?_
    · obtain ⟨s_0, -⟩ := hsl
      exact sg_plain rfl rfl (or_new [(0, .agg #[.int .i64 x1.1, .int .i64 x1.2])] rfl rfl ⟨(s_0.trans ha0), trivial⟩ (by kernel_rfl))
    refine steps_cons (fun own a wx hf hsl hE => ?_) ?_
    · obtain ⟨s_1, -⟩ := hsl
      exact sg_plain rfl rfl (or_new [(1, .agg #[.int .i64 b2.1, .int .i64 b2.2])] rfl rfl ⟨(s_1.trans ha1), trivial⟩ (by kernel_rfl))
    refine steps_cons (fun own a wx hf hsl hE => ?_) ?_
    · obtain ⟨s_2, -⟩ := hsl
      exact sg_plain rfl rfl (or_new [(2, .agg #[.int .i64 c3.1, .int .i64 c3.2])] rfl rfl ⟨(s_2.trans ha2), trivial⟩ (by kernel_rfl))
    refine steps_cons (fun own a wx hf hsl hE => ?_) ?_
    · exact sg_plain rfl rfl (or_assign rfl)
    exact steps_nil
  intro own33 a33 w33 hd33 hz33 hk33 hf33 hE33
  obtain ⟨⟨g27, (f_3 : a33.eval (.tmp 3) = .pointer (some ⟨g27, 0, none⟩)), (b_g27 : BlkO own33 28 w33 g27 25 #[.int .i64 x1.1, .int .i64 x1.2])⟩, ⟨g29, (f_4 : a33.eval (.tmp 4) = .pointer (some ⟨g29, 0, none⟩)), (b_g29 : BlkO own33 30 w33 g29 25 #[.int .i64 b2.1, .int .i64 b2.2])⟩, ⟨g31, (f_5 : a33.eval (.tmp 5) = .pointer (some ⟨g31, 0, none⟩)), (b_g31 : BlkO own33 32 w33 g31 25 #[.int .i64 c3.1, .int .i64 c3.2])⟩, -⟩ := hf33 [0, 1, 2] rfl
  have e33_3 := f_3
  have e33_4 := f_4
  have e33_5 := f_5
  have hX33 := Evo.step hE0 (fun _ => Nat.le_refl 0) hE33 rfl
  have b33_g27 := b_g27
  have b33_g29 := b_g29
  have b33_g31 := b_g31
  refine fl_seq (fun Q34 hn34 hp34 => ?_)
  obtain ⟨r37, hr37, hs⟩ := obind hs
  refine rg_plain_seq (n := 36) (rs := []) (own0 := own33) (K := [])
      (bs := [0, 0, 0, 7, 15, 31])
      (ds := [⟨[], [3], [], Fct.val 7 (.agg #[.int .i64 x1.1, .int .i64 x1.2])⟩,
      ⟨[], [4], [], Fct.val 8 (.agg #[.int .i64 b2.1, .int .i64 b2.2])⟩,
      ⟨[], [5], [], Fct.val 9 (.agg #[.int .i64 c3.1, .int .i64 c3.2])⟩,
      ⟨[0, 1, 2], [], [], Fct.row 36 [] 10 25 R25 [x1, b2, c3]⟩,
      ⟨[3], [], [], Fct.val 11 (.bool r37)⟩,
      ⟨[4], [], [], Fct.val 12 (.bool (!r37))⟩]) (by kernel_rfl) hz33 hd33 (fun _ h => nomatch h) ?_ ?_
  · refine steps_cons (fun own a wx hf hsl hE => ?_) ?_
    · obtain ⟨s_3, -⟩ := hsl
      exact sg_plain rfl rfl (or_load (l := [.int .i64 x1.1, .int .i64 x1.2]) ta25 (s_3.trans e33_3) (Blk.cellsFrom (BlkO.evo (by decide) hE b33_g27).2 0 rfl) rfl)
    refine steps_cons (fun own a wx hf hsl hE => ?_) ?_
    · obtain ⟨s_4, -⟩ := hsl
      exact sg_plain rfl rfl (or_load (l := [.int .i64 b2.1, .int .i64 b2.2]) ta25 (s_4.trans e33_4) (Blk.cellsFrom (BlkO.evo (by decide) hE b33_g29).2 0 rfl) rfl)
    refine steps_cons (fun own a wx hf hsl hE => ?_) ?_
    · obtain ⟨s_5, -⟩ := hsl
      exact sg_plain rfl rfl (or_load (l := [.int .i64 c3.1, .int .i64 c3.2]) ta25 (s_5.trans e33_5) (Blk.cellsFrom (BlkO.evo (by decide) hE b33_g31).2 0 rfl) rfl)
    refine steps_cons (fun own a wx hf hsl hE => ?_) ?_
    · obtain ⟨(f_7 : a.eval (.tmp 7) = .agg #[.int .i64 x1.1, .int .i64 x1.2]), (f_8 : a.eval (.tmp 8) = .agg #[.int .i64 b2.1, .int .i64 b2.2]), (f_9 : a.eval (.tmp 9) = .agg #[.int .i64 c3.1, .int .i64 c3.2]), -⟩ := hf
      exact sg_plain rfl rfl (or_lit (lab := 36) (e := 25) (cs := #[.int .i64 x1.1, .int .i64 x1.2, .int .i64 b2.1, .int .i64 b2.2, .int .i64 c3.1, .int .i64 c3.2]) (F := E25) (or_new [(7, .agg #[.int .i64 x1.1, .int .i64 x1.2]), (8, .agg #[.int .i64 b2.1, .int .i64 b2.2]), (9, .agg #[.int .i64 c3.1, .int .i64 c3.2])] rfl rfl ⟨f_7, f_8, f_9, trivial⟩ (by kernel_rfl)) rfl rfl (show 3 ≤ maxLen by decide))
    refine steps_cons (fun own a wx hf hsl hE => ?_) ?_
    · obtain ⟨⟨⟨A35, cA35⟩, (f_10 : a.eval (.tmp 10) = .slice A35 [x1, b2, c3].length cA35), (b_A35 : RwO own 36 [] wx 25 R25 A35 cA35 [x1, b2, c3])⟩, -⟩ := hf
      exact sg_plain rfl rfl (or_call cf24 (args1 f_10) (exact_Right_w _ [x1, b2, c3] A35 cA35 (RdO.zero (RwO.rd b_A35)) r37 hr37) post_val)
    refine steps_cons (fun own a wx hf hsl hE => ?_) ?_
    · obtain ⟨(f_11 : a.eval (.tmp 11) = .bool r37), -⟩ := hf
      exact sg_plain rfl rfl (or_not f_11 rfl)
    exact steps_nil
  intro own38 a38 w38 hd38 hz38 hk38 hf38 hE38
  have e38_3 : a38.eval (.tmp 3) = .pointer (some ⟨g27, 0, none⟩) := (hk38 3 rfl).trans e33_3
  have e38_4 : a38.eval (.tmp 4) = .pointer (some ⟨g29, 0, none⟩) := (hk38 4 rfl).trans e33_4
  have e38_5 : a38.eval (.tmp 5) = .pointer (some ⟨g31, 0, none⟩) := (hk38 5 rfl).trans e33_5
  obtain ⟨(f_12 : a38.eval (.tmp 12) = .bool (!r37)), -⟩ := hf38 [5] rfl
  have e38_12 := f_12
  have hX38 := Evo.step hX33 (fun _ => Nat.le_refl 0) hE38 rfl
  have b38_g27 := BlkO.evo (by decide) hE38 b33_g27
  have b38_g29 := BlkO.evo (by decide) hE38 b33_g29
  have b38_g31 := BlkO.evo (by decide) hE38 b33_g31
  refine fl_cond e38_12 hs (fun c39 hs => ?_) (fun c39 hs => ?_)
  · refine rg_plain_seq (n := 36) (rs := []) (own0 := own38) (K := [])
        (bs := [0])
        (ds := [⟨[], [], [], Fct.val 6 (.int .i64 0)⟩]) (by kernel_rfl) hz38 hd38 (fun _ h => nomatch h) ?_ ?_
    · refine steps_cons (fun own a wx hf hsl hE => ?_) ?_
      · exact sg_plain rfl rfl (or_assign rfl)
      exact steps_nil
    intro own40 a40 w40 hd40 hz40 hk40 hf40 hE40
    obtain ⟨(f_6 : a40.eval (.tmp 6) = .int .i64 0), -⟩ := hf40 [0] rfl
    have e40_6 := f_6
    have hX40 := Evo.step hX38 (fun _ => Nat.le_refl 0) hE40 rfl
    refine fl_ret ?_
    refine hp34 _ _ _ rfl ?_
    obtain rfl := osome hs
    exact hret _ _ _ _ (.inl rfl) hd40 (results1_ rfl (RVal.tmp_ e40_6)) ⟨own40, rfl, hX40⟩
  refine fl_skip ?_
  refine hn34 _ _ ?_
  obtain ⟨x41, hx41, hs⟩ := obind hs
  refine rg_plain_seq (n := 36) (rs := []) (own0 := own38) (K := [])
      (bs := [0, 1, 0, 4, 15, 0, 32, 0, 128, 480, 1023, 0, 2048, 0, 8192, 30720, 0, 65536, 0, 262144, 983040, 2095104, 4194303, 8388607])
      (ds := [⟨[], [4], [], Fct.val 13 (.pointer (some ⟨g29, 0, none⟩))⟩,
      ⟨[0], [], [], Fct.val 14 (.int .i64 b2.1)⟩,
      ⟨[], [3], [], Fct.val 15 (.pointer (some ⟨g27, 0, none⟩))⟩,
      ⟨[2], [], [], Fct.val 16 (.int .i64 x1.1)⟩,
      ⟨[1, 3], [], [], Fct.val 17 (.int .i64 (sb b2.1 x1.1))⟩,
      ⟨[], [5], [], Fct.val 18 (.pointer (some ⟨g31, 1, none⟩))⟩,
      ⟨[5], [], [], Fct.val 19 (.int .i64 c3.2)⟩,
      ⟨[], [3], [], Fct.val 20 (.pointer (some ⟨g27, 1, none⟩))⟩,
      ⟨[7], [], [], Fct.val 21 (.int .i64 x1.2)⟩,
      ⟨[6, 8], [], [], Fct.val 22 (.int .i64 (sb c3.2 x1.2))⟩,
      ⟨[4, 9], [], [], Fct.val 23 (.int .i64 (ml (sb b2.1 x1.1) (sb c3.2 x1.2)))⟩,
      ⟨[], [4], [], Fct.val 24 (.pointer (some ⟨g29, 1, none⟩))⟩,
      ⟨[11], [], [], Fct.val 25 (.int .i64 b2.2)⟩,
      ⟨[], [3], [], Fct.val 26 (.pointer (some ⟨g27, 1, none⟩))⟩,
      ⟨[13], [], [], Fct.val 27 (.int .i64 x1.2)⟩,
      ⟨[12, 14], [], [], Fct.val 28 (.int .i64 (sb b2.2 x1.2))⟩,
      ⟨[], [5], [], Fct.val 29 (.pointer (some ⟨g31, 0, none⟩))⟩,
      ⟨[16], [], [], Fct.val 30 (.int .i64 c3.1)⟩,
      ⟨[], [3], [], Fct.val 31 (.pointer (some ⟨g27, 0, none⟩))⟩,
      ⟨[18], [], [], Fct.val 32 (.int .i64 x1.1)⟩,
      ⟨[17, 19], [], [], Fct.val 33 (.int .i64 (sb c3.1 x1.1))⟩,
      ⟨[15, 20], [], [], Fct.val 34 (.int .i64 (ml (sb b2.2 x1.2) (sb c3.1 x1.1)))⟩,
      ⟨[10, 21], [], [], Fct.val 35 (.int .i64 x41)⟩,
      ⟨[22], [], [], Fct.val 6 (.int .i64 x41)⟩]) (by kernel_rfl) hz38 hd38 (fun _ h => nomatch h) ?_ ?_
  · refine steps_cons (fun own a wx hf hsl hE => ?_) ?_
    · obtain ⟨s_4, -⟩ := hsl
      exact sg_plain rfl rfl (or_field fo25_0 (s_4.trans e38_4) (by rfl))
    refine steps_cons (fun own a wx hf hsl hE => ?_) ?_
    · obtain ⟨(f_13 : a.eval (.tmp 13) = .pointer (some ⟨g29, 0, none⟩)), -⟩ := hf
      exact sg_plain rfl rfl (or_load1 to3 f_13 (Blk.at_ (BlkO.evo (by decide) hE b38_g29).2 0 rfl))
    refine steps_cons (fun own a wx hf hsl hE => ?_) ?_
    · obtain ⟨s_3, -⟩ := hsl
      exact sg_plain rfl rfl (or_field fo25_0 (s_3.trans e38_3) (by rfl))
    refine steps_cons (fun own a wx hf hsl hE => ?_) ?_
    · obtain ⟨(f_15 : a.eval (.tmp 15) = .pointer (some ⟨g27, 0, none⟩)), -⟩ := hf
      exact sg_plain rfl rfl (or_load1 to3 f_15 (Blk.at_ (BlkO.evo (by decide) hE b38_g27).2 0 rfl))
    refine steps_cons (fun own a wx hf hsl hE => ?_) ?_
    · obtain ⟨(f_14 : a.eval (.tmp 14) = .int .i64 b2.1), (f_16 : a.eval (.tmp 16) = .int .i64 x1.1), -⟩ := hf
      exact sg_plain rfl rfl (or_sub f_14 f_16 rfl)
    refine steps_cons (fun own a wx hf hsl hE => ?_) ?_
    · obtain ⟨s_5, -⟩ := hsl
      exact sg_plain rfl rfl (or_field fo25_1 (s_5.trans e38_5) (by rfl))
    refine steps_cons (fun own a wx hf hsl hE => ?_) ?_
    · obtain ⟨(f_18 : a.eval (.tmp 18) = .pointer (some ⟨g31, 1, none⟩)), -⟩ := hf
      exact sg_plain rfl rfl (or_load1 to3 f_18 (Blk.at_ (BlkO.evo (by decide) hE b38_g31).2 1 rfl))
    refine steps_cons (fun own a wx hf hsl hE => ?_) ?_
    · obtain ⟨s_3, -⟩ := hsl
      exact sg_plain rfl rfl (or_field fo25_1 (s_3.trans e38_3) (by rfl))
    refine steps_cons (fun own a wx hf hsl hE => ?_) ?_
    · obtain ⟨(f_20 : a.eval (.tmp 20) = .pointer (some ⟨g27, 1, none⟩)), -⟩ := hf
      exact sg_plain rfl rfl (or_load1 to3 f_20 (Blk.at_ (BlkO.evo (by decide) hE b38_g27).2 1 rfl))
    refine steps_cons (fun own a wx hf hsl hE => ?_) ?_
    · obtain ⟨(f_19 : a.eval (.tmp 19) = .int .i64 c3.2), (f_21 : a.eval (.tmp 21) = .int .i64 x1.2), -⟩ := hf
      exact sg_plain rfl rfl (or_sub f_19 f_21 rfl)
    refine steps_cons (fun own a wx hf hsl hE => ?_) ?_
    · obtain ⟨(f_17 : a.eval (.tmp 17) = .int .i64 (sb b2.1 x1.1)), (f_22 : a.eval (.tmp 22) = .int .i64 (sb c3.2 x1.2)), -⟩ := hf
      exact sg_plain rfl rfl (or_mul f_17 f_22 rfl)
    refine steps_cons (fun own a wx hf hsl hE => ?_) ?_
    · obtain ⟨s_4, -⟩ := hsl
      exact sg_plain rfl rfl (or_field fo25_1 (s_4.trans e38_4) (by rfl))
    refine steps_cons (fun own a wx hf hsl hE => ?_) ?_
    · obtain ⟨(f_24 : a.eval (.tmp 24) = .pointer (some ⟨g29, 1, none⟩)), -⟩ := hf
      exact sg_plain rfl rfl (or_load1 to3 f_24 (Blk.at_ (BlkO.evo (by decide) hE b38_g29).2 1 rfl))
    refine steps_cons (fun own a wx hf hsl hE => ?_) ?_
    · obtain ⟨s_3, -⟩ := hsl
      exact sg_plain rfl rfl (or_field fo25_1 (s_3.trans e38_3) (by rfl))
    refine steps_cons (fun own a wx hf hsl hE => ?_) ?_
    · obtain ⟨(f_26 : a.eval (.tmp 26) = .pointer (some ⟨g27, 1, none⟩)), -⟩ := hf
      exact sg_plain rfl rfl (or_load1 to3 f_26 (Blk.at_ (BlkO.evo (by decide) hE b38_g27).2 1 rfl))
    refine steps_cons (fun own a wx hf hsl hE => ?_) ?_
    · obtain ⟨(f_25 : a.eval (.tmp 25) = .int .i64 b2.2), (f_27 : a.eval (.tmp 27) = .int .i64 x1.2), -⟩ := hf
      exact sg_plain rfl rfl (or_sub f_25 f_27 rfl)
    refine steps_cons (fun own a wx hf hsl hE => ?_) ?_
    · obtain ⟨s_5, -⟩ := hsl
      exact sg_plain rfl rfl (or_field fo25_0 (s_5.trans e38_5) (by rfl))
    refine steps_cons (fun own a wx hf hsl hE => ?_) ?_
    · obtain ⟨(f_29 : a.eval (.tmp 29) = .pointer (some ⟨g31, 0, none⟩)), -⟩ := hf
      exact sg_plain rfl rfl (or_load1 to3 f_29 (Blk.at_ (BlkO.evo (by decide) hE b38_g31).2 0 rfl))
    refine steps_cons (fun own a wx hf hsl hE => ?_) ?_
    · obtain ⟨s_3, -⟩ := hsl
      exact sg_plain rfl rfl (or_field fo25_0 (s_3.trans e38_3) (by rfl))
    refine steps_cons (fun own a wx hf hsl hE => ?_) ?_
    · obtain ⟨(f_31 : a.eval (.tmp 31) = .pointer (some ⟨g27, 0, none⟩)), -⟩ := hf
      exact sg_plain rfl rfl (or_load1 to3 f_31 (Blk.at_ (BlkO.evo (by decide) hE b38_g27).2 0 rfl))
    refine steps_cons (fun own a wx hf hsl hE => ?_) ?_
    · obtain ⟨(f_30 : a.eval (.tmp 30) = .int .i64 c3.1), (f_32 : a.eval (.tmp 32) = .int .i64 x1.1), -⟩ := hf
      exact sg_plain rfl rfl (or_sub f_30 f_32 rfl)
    refine steps_cons (fun own a wx hf hsl hE => ?_) ?_
    · obtain ⟨(f_28 : a.eval (.tmp 28) = .int .i64 (sb b2.2 x1.2)), (f_33 : a.eval (.tmp 33) = .int .i64 (sb c3.1 x1.1)), -⟩ := hf
      exact sg_plain rfl rfl (or_mul f_28 f_33 rfl)
    refine steps_cons (fun own a wx hf hsl hE => ?_) ?_
    · obtain ⟨(f_23 : a.eval (.tmp 23) = .int .i64 (ml (sb b2.1 x1.1) (sb c3.2 x1.2))), (f_34 : a.eval (.tmp 34) = .int .i64 (ml (sb b2.2 x1.2) (sb c3.1 x1.1))), -⟩ := hf
      exact sg_plain rfl rfl (or_sub f_23 f_34 (osome hx41).symm)
    refine steps_cons (fun own a wx hf hsl hE => ?_) ?_
    · obtain ⟨(f_35 : a.eval (.tmp 35) = .int .i64 x41), -⟩ := hf
      exact sg_plain rfl rfl (or_assign f_35)
    exact steps_nil
  intro own42 a42 w42 hd42 hz42 hk42 hf42 hE42
  obtain ⟨(f_6 : a42.eval (.tmp 6) = .int .i64 x41), -⟩ := hf42 [23] rfl
  have e42_6 := f_6
  have hX42 := Evo.step hX38 (fun _ => Nat.le_refl 0) hE42 rfl
  refine fl_ret ?_
  obtain rfl := (osome hs).symm
  exact hret _ _ _ _ (.inl rfl) hd42 (results1_ rfl (RVal.tmp_ e42_6)) ⟨own42, rfl, hX42⟩

theorem ring_edges_1_w (w : World) (own : Own) (Sx : Type) (yy : Sx → ((Int × Int) × (Int × Int)) → Option (Bool × Sx)) (Jx : Sq Sx) (lx : Nat) (sx0 : Sx) (f1 : List (Int × Int)) (gf1 : Nat) (tf1 : TypeId) (Af1_0 : Option Addr) (cf1_0 : Nat) (hown : ∀ b, own b ≤ 1) (hYx : Rounds Try.prog lx (fun (x : (Int × Int) × (Int × Int)) => #[.agg #[.int .i64 x.1.1, .int .i64 x.1.2], .agg #[.int .i64 x.2.1, .int .i64 x.2.2]]) yy Jx) (hJx : SqO Jx own 1 w sx0) (hgf1 : BlkO own 0 w gf1 tf1 #[.slice Af1_0 f1.length cf1_0]) (hAf1_0 : RdO own [0] w R25 Af1_0 cf1_0 f1) (r : Sx) (hs : ring_edges_1 Sx yy sx0 f1 = some r) :
    Calls Try.prog 39 #[.func (.yield lx) #[] #[], .pointer (some ⟨gf1, 0, none⟩)] w fun e w' => ∃ (own' : Own), e = .returned (.tuple #[]) ∧ Evo [1] own own' w w' ∧ SqO Jx own' 1 w' r := by
  refine fl_enter (n := 25) rfl rfl rfl (Nat.le_of_ble_eq_true rfl) ?_
  intro a0 Q hd0 hz0 harg hret
  have ha0 := harg 0 _ rfl
  have ha1 := harg 1 _ rfl
  clear harg
  have hE0 : Evo [1] own own w w := Evo.refl _ _ _
  refine rg_plain_seq (n := 25) (rs := []) (own0 := own) (K := [])
      (bs := [0, 1, 0])
      (ds := [⟨[], [1], [], Fct.val 5 (.slice Af1_0 f1.length cf1_0)⟩,
      ⟨[0], [], [], Fct.val 6 (.int .i64 (f1.length : Int))⟩,
      ⟨[], [], [], Fct.val 7 (.int .i64 0)⟩]) (by kernel_rfl) hz0 hd0 (fun _ h => nomatch h) ?_ ?_
  · refine steps_cons (fun own a wx hf hsl hE => ?_) ?_
    · obtain ⟨s_1, -⟩ := hsl
      exact sg_plain rfl rfl (or_load1 to22 (s_1.trans ha1) (Blk.at_ (BlkO.evo (by decide) hE hgf1).2 0 rfl))
    refine steps_cons (fun own a wx hf hsl hE => ?_) ?_
    · obtain ⟨(f_5 : a.eval (.tmp 5) = .slice Af1_0 f1.length cf1_0), -⟩ := hf
      exact sg_plain rfl rfl (or_len tu22 f_5 rfl)
    refine steps_cons (fun own a wx hf hsl hE => ?_) ?_
    · exact sg_plain rfl rfl (or_move rfl)
    exact steps_nil
  intro own78 a78 w78 hd78 hz78 hk78 hf78 hE78
  have e78_0 : a78.eval (.tmp 0) = .func (.yield lx) #[] #[] := (hk78 0 rfl).trans ha0
  have e78_1 : a78.eval (.tmp 1) = .pointer (some ⟨gf1, 0, none⟩) := (hk78 1 rfl).trans ha1
  obtain ⟨(f_5 : a78.eval (.tmp 5) = .slice Af1_0 f1.length cf1_0), (f_6 : a78.eval (.tmp 6) = .int .i64 (f1.length : Int)), (f_7 : a78.eval (.tmp 7) = .int .i64 0), -⟩ := hf78 [0, 1, 2] rfl
  have e78_5 := f_5
  have e78_6 := f_6
  have e78_7 := f_7
  have hX78 := Evo.step hE0 hown hE78 rfl
  have b78_Jx := SqO.evo (by decide) hE78 hJx
  have b78_Af1_0 := RdO.evo rfl hE78 hAf1_0
  have b78_gf1 := BlkO.evo (by decide) hE78 hgf1
  refine fl_block (fun Q79 hn79 hx79 hp79 => ?_)
  refine fl_loop (body := (fun s => ring_edges_1_b1 Sx yy f1 s.1 s.2)) (z := r) (show loopO _ _ = _ from hs) (fun (s : Int × Sx) a wx => match s with | (x100, sx101) => ∃ (ox : Own), a.defers = [] ∧ a.tmps.size = 25 ∧ a.eval (.tmp 0) = .func (.yield lx) #[] #[] ∧ a.eval (.tmp 1) = .pointer (some ⟨gf1, 0, none⟩) ∧ a.eval (.tmp 5) = .slice Af1_0 f1.length cf1_0 ∧ a.eval (.tmp 6) = .int .i64 (f1.length : Int) ∧ a.eval (.tmp 7) = .int .i64 x100 ∧ Evo [1] own ox w wx ∧ BlkO ox 0 wx gf1 tf1 #[.slice Af1_0 f1.length cf1_0] ∧ RdO ox [0] wx R25 Af1_0 cf1_0 f1 ∧ SqO Jx ox 102 wx sx101) ?_ ?_
  · exact ⟨(rl [(1, 102)] own78), hd78, hz78, e78_0, e78_1, e78_5, e78_6, e78_7, (Evo.rl_ hX78 hown rfl), (BlkO.rl_ (mm := [(1, 102)]) b78_gf1), (RdO.rl_ (mm := [(1, 102)]) b78_Af1_0), (SqO.rl_ (mm := [(1, 102)]) b78_Jx rfl (by decide))⟩
  · rintro ⟨x100, sx101⟩ zz123 a123 w123 ⟨own123, hd124, hz124, e124_0, e124_1, e124_5, e124_6, e124_7, hE124, b124_gf1, b124_Af1_0, b124_Jx⟩ hs Q123 hn123 hp123 hz123
    have hs : ring_edges_1_b1 Sx yy f1 x100 sx101 = some zz123 := hs
    refine rg_plain_seq (n := 25) (rs := []) (own0 := own123) (K := [])
        (bs := [0])
        (ds := [⟨[], [7, 6], [], Fct.val 8 (.bool (decide (x100 < (f1.length : Int))))⟩]) (by kernel_rfl) hz124 hd124 (fun _ h => nomatch h) ?_ ?_
    · refine steps_cons (fun own a wx hf hsl hE => ?_) ?_
      · obtain ⟨s_7, s_6, -⟩ := hsl
        exact sg_plain rfl rfl (or_lss (s_7.trans e124_7) (s_6.trans e124_6) rfl)
      exact steps_nil
    intro own125 a125 w125 hd125 hz125 hk125 hf125 hE125
    have e125_0 : a125.eval (.tmp 0) = .func (.yield lx) #[] #[] := (hk125 0 rfl).trans e124_0
    have e125_1 : a125.eval (.tmp 1) = .pointer (some ⟨gf1, 0, none⟩) := (hk125 1 rfl).trans e124_1
    have e125_5 : a125.eval (.tmp 5) = .slice Af1_0 f1.length cf1_0 := (hk125 5 rfl).trans e124_5
    have e125_6 : a125.eval (.tmp 6) = .int .i64 (f1.length : Int) := (hk125 6 rfl).trans e124_6
    have e125_7 : a125.eval (.tmp 7) = .int .i64 x100 := (hk125 7 rfl).trans e124_7
    obtain ⟨(f_8 : a125.eval (.tmp 8) = .bool (decide (x100 < (f1.length : Int)))), -⟩ := hf125 [0] rfl
    have e125_8 := f_8
    have hX125 := Evo.step hE124 hown hE125 rfl
    have b125_gf1 := BlkO.evo (by decide) hE125 b124_gf1
    have b125_Af1_0 := RdO.evo rfl hE125 b124_Af1_0
    have b125_Jx := SqO.evo (by decide) hE125 b124_Jx
    refine fl_seq (fun Q126 hn126 hp126 => ?_)
    refine fl_cond e125_8 hs (fun c127 hs => ?_) (fun c127 hs => ?_)
    · refine fl_skip ?_
      refine hn126 _ _ ?_
      refine fl_seq (fun Q128 hn128 hp128 => ?_)
      refine fl_block (fun Q129 hn129 hx129 hp129 => ?_)
      obtain ⟨x130, hx130, hs⟩ := obind hs
      refine rg_plain_seq (n := 25) (rs := []) (own0 := own125) (K := [132])
          (bs := [0, 0, 2, 0, 15, 31])
          (ds := [⟨[], [7], [], Fct.val 9 (.int .i64 x100)⟩,
          ⟨[], [5, 7], [], Fct.val 10 (.pointer (some ((adr Af1_0).add ((x100 : Int).toNat * R25.s))))⟩,
          ⟨[1], [], [], Fct.val 11 (.agg #[.int .i64 x130.1, .int .i64 x130.2])⟩,
          ⟨[], [], [], Fct.blk 132 4 (fun g => .pointer (some ⟨g, 0, none⟩)) 25 #[.int .i64 0, .int .i64 0]⟩,
          ⟨[0], [], [], Fct.val 3 (.int .i64 x100)⟩,
          ⟨[3, 2], [], [132], Fct.blk 133 4 (fun g => .pointer (some ⟨g, 0, none⟩)) 25 #[.int .i64 x130.1, .int .i64 x130.2]⟩]) (by kernel_rfl) hz125 hd125 (fun _ h => nomatch h) ?_ ?_
      · refine steps_cons (fun own a wx hf hsl hE => ?_) ?_
        · obtain ⟨s_7, -⟩ := hsl
          exact sg_plain rfl rfl (or_move (s_7.trans e125_7))
        refine steps_cons (fun own a wx hf hsl hE => ?_) ?_
        · obtain ⟨s_5, s_7, -⟩ := hsl
          exact sg_plain rfl rfl (or_index (R := R25) (l := f1) tl22 (s_5.trans e125_5) (s_7.trans e125_7) (RdO.some_ b125_Af1_0 hx130) hx130)
        refine steps_cons (fun own a wx hf hsl hE => ?_) ?_
        · obtain ⟨(f_10 : a.eval (.tmp 10) = .pointer (some ((adr Af1_0).add ((x100 : Int).toNat * R25.s)))), -⟩ := hf
          exact sg_plain rfl rfl (or_load (l := E25.f x130) ta25 f_10 (RdO.cells (F := E25) (RdO.evo rfl hE b125_Af1_0) hx130) rfl)
        refine steps_cons (fun own a wx hf hsl hE => ?_) ?_
        · exact sg_plain rfl rfl (or_new [] rfl rfl trivial (by kernel_rfl))
        refine steps_cons (fun own a wx hf hsl hE => ?_) ?_
        · obtain ⟨(f_9 : a.eval (.tmp 9) = .int .i64 x100), -⟩ := hf
          exact sg_plain rfl rfl (or_assign f_9)
        refine steps_cons (fun own a wx hf hsl hE => ?_) ?_
        · obtain ⟨⟨g131, (f_4 : a.eval (.tmp 4) = .pointer (some ⟨g131, 0, none⟩)), (b_g131 : BlkO own 132 wx g131 25 #[.int .i64 0, .int .i64 0])⟩, (f_11 : a.eval (.tmp 11) = .agg #[.int .i64 x130.1, .int .i64 x130.2]), -⟩ := hf
          exact sg_plain rfl rfl (or_store (l := #[.int .i64 x130.1, .int .i64 x130.2]) (lab := 132) (lab2 := 133) ts25 f_4 f_11 b_g131 (by simp) (by kernel_rfl) (mem_of rfl) (by decide) (by kernel_rfl) (fun own' a' w' ha hb => ⟨_, (ha 4).trans f_4, hb⟩))
        exact steps_nil
      intro own134 a134 w134 hd134 hz134 hk134 hf134 hE134
      have e134_0 : a134.eval (.tmp 0) = .func (.yield lx) #[] #[] := (hk134 0 rfl).trans e125_0
      have e134_1 : a134.eval (.tmp 1) = .pointer (some ⟨gf1, 0, none⟩) := (hk134 1 rfl).trans e125_1
      have e134_5 : a134.eval (.tmp 5) = .slice Af1_0 f1.length cf1_0 := (hk134 5 rfl).trans e125_5
      have e134_6 : a134.eval (.tmp 6) = .int .i64 (f1.length : Int) := (hk134 6 rfl).trans e125_6
      have e134_7 : a134.eval (.tmp 7) = .int .i64 x100 := (hk134 7 rfl).trans e125_7
      obtain ⟨⟨g131, (f_4 : a134.eval (.tmp 4) = .pointer (some ⟨g131, 0, none⟩)), (b_g131 : BlkO own134 133 w134 g131 25 #[.int .i64 x130.1, .int .i64 x130.2])⟩, (f_3 : a134.eval (.tmp 3) = .int .i64 x100), -⟩ := hf134 [5, 4] rfl
      have e134_4 := f_4
      have e134_3 := f_3
      have hX134 := Evo.step hX125 hown hE134 rfl
      have b134_gf1 := BlkO.evo (by decide) hE134 b125_gf1
      have b134_Af1_0 := RdO.evo rfl hE134 b125_Af1_0
      have b134_Jx := SqO.evo (by decide) hE134 b125_Jx
      have b134_g131 := b_g131
      obtain ⟨x137, hx137, hs⟩ := obind hs
      obtain ⟨x138, hx138, hs⟩ := obind hs
      obtain ⟨z139, hz139, hs⟩ := obind hs
      refine rg_draw_seq g_mixed (n := 25) (rs := [Fct.seqAt Jx 102 sx101]) (own0 := own134) (K := [102])
          (bs := [0, 0, 0, 0, 8, 0, 32, 120, 252, 508, 1023, 2047])
          (ds := [⟨[], [0], [], Fct.val 12 (.func (.yield lx) #[] #[])⟩,
          ⟨[], [4], [], Fct.val 13 (.agg #[.int .i64 x130.1, .int .i64 x130.2])⟩,
          ⟨[], [1], [], Fct.val 14 (.slice Af1_0 f1.length cf1_0)⟩,
          ⟨[], [3], [], Fct.val 15 (.int .i64 x100)⟩,
          ⟨[3], [], [], Fct.val 16 (.int .i64 (ad x100 1))⟩,
          ⟨[], [1], [], Fct.val 17 (.slice Af1_0 f1.length cf1_0)⟩,
          ⟨[5], [], [], Fct.val 18 (.int .i64 (f1.length : Int))⟩,
          ⟨[4, 6], [], [], Fct.val 19 (.int .i64 x137)⟩,
          ⟨[2, 7], [], [], Fct.val 20 (.pointer (some ((adr Af1_0).add ((x137 : Int).toNat * R25.s))))⟩,
          ⟨[8], [], [], Fct.val 21 (.agg #[.int .i64 x138.1, .int .i64 x138.2])⟩,
          ⟨[0, 1, 9, 12], [], [102], Fct.seq Jx 140 22 z139.1 z139.2⟩,
          ⟨[10], [], [], Fct.val 23 (.bool (!z139.1))⟩]) (by kernel_rfl) hz134 hd134 (by simp only [List.forall_mem_cons]; exact ⟨b134_Jx, fun _ h => nomatch h⟩) ?_ ?_
      · refine steps_cons (fun own a wx hf hsl hE => ?_) ?_
        · obtain ⟨s_0, -⟩ := hsl
          exact sg_plain rfl rfl (or_move (s_0.trans e134_0))
        refine steps_cons (fun own a wx hf hsl hE => ?_) ?_
        · obtain ⟨s_4, -⟩ := hsl
          exact sg_plain rfl rfl (or_load (l := [.int .i64 x130.1, .int .i64 x130.2]) ta25 (s_4.trans e134_4) (Blk.cellsFrom (BlkO.evo (by decide) hE b134_g131).2 0 rfl) rfl)
        refine steps_cons (fun own a wx hf hsl hE => ?_) ?_
        · obtain ⟨s_1, -⟩ := hsl
          exact sg_plain rfl rfl (or_load1 to22 (s_1.trans e134_1) (Blk.at_ (BlkO.evo (by decide) hE b134_gf1).2 0 rfl))
        refine steps_cons (fun own a wx hf hsl hE => ?_) ?_
        · obtain ⟨s_3, -⟩ := hsl
          exact sg_plain rfl rfl (or_move (s_3.trans e134_3))
        refine steps_cons (fun own a wx hf hsl hE => ?_) ?_
        · obtain ⟨(f_15 : a.eval (.tmp 15) = .int .i64 x100), -⟩ := hf
          exact sg_plain rfl rfl (or_add f_15 rfl rfl)
        refine steps_cons (fun own a wx hf hsl hE => ?_) ?_
        · obtain ⟨s_1, -⟩ := hsl
          exact sg_plain rfl rfl (or_load1 to22 (s_1.trans e134_1) (Blk.at_ (BlkO.evo (by decide) hE b134_gf1).2 0 rfl))
        refine steps_cons (fun own a wx hf hsl hE => ?_) ?_
        · obtain ⟨(f_17 : a.eval (.tmp 17) = .slice Af1_0 f1.length cf1_0), -⟩ := hf
          exact sg_plain rfl rfl (or_len tu22 f_17 rfl)
        refine steps_cons (fun own a wx hf hsl hE => ?_) ?_
        · obtain ⟨(f_16 : a.eval (.tmp 16) = .int .i64 (ad x100 1)), (f_18 : a.eval (.tmp 18) = .int .i64 (f1.length : Int)), -⟩ := hf
          exact sg_plain rfl rfl (or_rem f_16 f_18 hx137)
        refine steps_cons (fun own a wx hf hsl hE => ?_) ?_
        · obtain ⟨(f_14 : a.eval (.tmp 14) = .slice Af1_0 f1.length cf1_0), (f_19 : a.eval (.tmp 19) = .int .i64 x137), -⟩ := hf
          exact sg_plain rfl rfl (or_index (R := R25) (l := f1) tl22 f_14 f_19 (RdO.some_ b134_Af1_0 hx138) hx138)
        refine steps_cons (fun own a wx hf hsl hE => ?_) ?_
        · obtain ⟨(f_20 : a.eval (.tmp 20) = .pointer (some ((adr Af1_0).add ((x137 : Int).toNat * R25.s)))), -⟩ := hf
          exact sg_plain rfl rfl (or_load (l := E25.f x138) ta25 f_20 (RdO.cells (F := E25) (RdO.evo rfl hE b134_Af1_0) hx138) rfl)
        refine steps_cons (fun own a wx hf hsl hE => ?_) ?_
        · obtain ⟨(f_12 : a.eval (.tmp 12) = .func (.yield lx) #[] #[]), (f_13 : a.eval (.tmp 13) = .agg #[.int .i64 x130.1, .int .i64 x130.2]), (f_21 : a.eval (.tmp 21) = .agg #[.int .i64 x138.1, .int .i64 x138.2]), (b_Jx : SqO Jx own 102 wx sx101), -⟩ := hf
          exact sg_plainF rfl (or_yield (x := (x130, x138)) (lab := 102) (lab2 := 140) f_12 (args2 f_13 f_21) hYx b_Jx hz139 (mem_of rfl) (by decide))
        refine steps_cons (fun own a wx hf hsl hE => ?_) ?_
        · obtain ⟨⟨(f_22 : a.eval (.tmp 22) = .bool z139.1), (b_Jx : SqO Jx own 140 wx z139.2)⟩, -⟩ := hf
          exact sg_plain rfl rfl (or_not f_22 rfl)
        exact steps_nil
      intro own141 a141 w141 hd141 hz141 hk141 hf141 hE141
      have e141_0 : a141.eval (.tmp 0) = .func (.yield lx) #[] #[] := (hk141 0 rfl).trans e134_0
      have e141_1 : a141.eval (.tmp 1) = .pointer (some ⟨gf1, 0, none⟩) := (hk141 1 rfl).trans e134_1
      have e141_5 : a141.eval (.tmp 5) = .slice Af1_0 f1.length cf1_0 := (hk141 5 rfl).trans e134_5
      have e141_6 : a141.eval (.tmp 6) = .int .i64 (f1.length : Int) := (hk141 6 rfl).trans e134_6
      have e141_7 : a141.eval (.tmp 7) = .int .i64 x100 := (hk141 7 rfl).trans e134_7
      obtain ⟨(f_23 : a141.eval (.tmp 23) = .bool (!z139.1)), ⟨(f_22 : a141.eval (.tmp 22) = .bool z139.1), (b_Jx : SqO Jx own141 140 w141 z139.2)⟩, -⟩ := hf141 [11, 10] rfl
      have e141_23 := f_23
      have hX141 := Evo.step hX134 hown hE141 rfl
      have b141_gf1 := BlkO.evo (by decide) hE141 b134_gf1
      have b141_Af1_0 := RdO.evo rfl hE141 b134_Af1_0
      have b141_Jx := b_Jx
      refine fl_cond e141_23 hs (fun c142 hs => ?_) (fun c142 hs => ?_)
      · refine fl_ret ?_
        refine hp129 _ _ _ rfl ?_
        refine hp128 _ _ _ rfl ?_
        replace hs := hz123 _ hs
        refine hp123 _ _ _ rfl ?_
        refine hp79 _ _ _ rfl ?_
        obtain rfl := osome hs
        exact hret _ _ _ _ (.inl rfl) hd141 (results0_ rfl ) ⟨(rl [(140, 1)] own141), rfl, (Evo.rl_ hX141 hown rfl), (SqO.rl_ (mm := [(140, 1)]) b141_Jx rfl (by decide))⟩
      refine fl_skip ?_
      refine hn129 _ _ ?_
      refine hn128 _ _ ?_
      refine rg_plain (n := 25) (rs := []) (own0 := own141) (K := [])
          (bs := [0, 1])
          (ds := [⟨[], [7], [], Fct.val 24 (.int .i64 (ad x100 1))⟩,
          ⟨[0], [], [], Fct.val 7 (.int .i64 (ad x100 1))⟩]) (by kernel_rfl) hz141 hd141 (fun _ h => nomatch h) ?_ ?_
      · refine steps_cons (fun own a wx hf hsl hE => ?_) ?_
        · obtain ⟨s_7, -⟩ := hsl
          exact sg_plain rfl rfl (or_add (s_7.trans e141_7) rfl rfl)
        refine steps_cons (fun own a wx hf hsl hE => ?_) ?_
        · obtain ⟨(f_24 : a.eval (.tmp 24) = .int .i64 (ad x100 1)), -⟩ := hf
          exact sg_plain rfl rfl (or_move f_24)
        exact steps_nil
      intro own143 a143 w143 hd143 hz143 hk143 hf143 hE143
      have e143_0 : a143.eval (.tmp 0) = .func (.yield lx) #[] #[] := (hk143 0 rfl).trans e141_0
      have e143_1 : a143.eval (.tmp 1) = .pointer (some ⟨gf1, 0, none⟩) := (hk143 1 rfl).trans e141_1
      have e143_5 : a143.eval (.tmp 5) = .slice Af1_0 f1.length cf1_0 := (hk143 5 rfl).trans e141_5
      have e143_6 : a143.eval (.tmp 6) = .int .i64 (f1.length : Int) := (hk143 6 rfl).trans e141_6
      obtain ⟨(f_7 : a143.eval (.tmp 7) = .int .i64 (ad x100 1)), -⟩ := hf143 [1] rfl
      have e143_7 := f_7
      have hX143 := Evo.step hX141 hown hE143 rfl
      have b143_gf1 := BlkO.evo (by decide) hE143 b141_gf1
      have b143_Af1_0 := RdO.evo rfl hE143 b141_Af1_0
      have b143_Jx := SqO.evo (by decide) hE143 b141_Jx
      exact hn123 _ _ _ hs ⟨(rl [(140, 102)] own143), hd143, hz143, e143_0, e143_1, e143_5, e143_6, e143_7, (Evo.rl_ hX143 hown rfl), (BlkO.rl_ (mm := [(140, 102)]) b143_gf1), (RdO.rl_ (mm := [(140, 102)]) b143_Af1_0), (SqO.rl_ (mm := [(140, 102)]) b143_Jx rfl (by decide))⟩
    refine fl_exit ?_
    refine hp126 _ _ _ rfl ?_
    replace hs := hz123 _ hs
    refine hp123 _ _ _ rfl ?_
    refine hx79 _ _ ?_
    obtain rfl := (osome hs).symm
    exact hret _ _ _ _ (.inr rfl) hd125 (results0_ rfl ) ⟨(rl [(102, 1)] own125), rfl, (Evo.rl_ hX125 hown rfl), (SqO.rl_ (mm := [(102, 1)]) b125_Jx rfl (by decide))⟩

theorem ring_Area_w (w : World) (l1 : List (Int × Int)) (Al1 : Option Addr) (cl1 : Nat) (hl1 : RdO (fun _ => 0) [0] w R25 Al1 cl1 l1) (r : Int) (hs : ring_Area l1 = some r) :
    Calls Try.prog 9 #[.slice Al1 l1.length cl1] w fun e w' => ∃ own' : Own, e = .returned (.int .i64 r) ∧ Evo [] (fun _ => 0) own' w w' := by
  refine fl_enterM (n := 27) (kD := 11) (by decide) rfl rfl rfl (Nat.le_of_ble_eq_true rfl) ?_
  intro a0 Q hd0 hz0 harg hret
  have ha0 := harg 0 _ rfl
  clear harg
  have hE0 : Evo [] (fun _ => 0) (fun _ => 0) w w := Evo.refl _ _ _
  have hmk0 : MkO (fun _ => 0) 11 w [] := MkO.nil_
  refine rg_plain_seq (n := 27) (rs := []) (own0 := (fun _ => 0)) (K := [])
      (bs := [0, 0])
      (ds := [⟨[], [0], [], Fct.blk 93 1 (fun g => .pointer (some ⟨g, 0, none⟩)) 22 #[.slice Al1 l1.length cl1]⟩,
      ⟨[], [], [], Fct.val 2 (.int .i64 0)⟩]) (by kernel_rfl) hz0 hd0 (fun _ h => nomatch h) ?_ ?_
  · refine steps_cons (fun own a wx hf hsl hE => ?_) ?_
    · obtain ⟨s_0, -⟩ := hsl
      exact sg_plain rfl rfl (or_new [(0, .slice Al1 l1.length cl1)] rfl rfl ⟨(s_0.trans ha0), trivial⟩ (by kernel_rfl))
    refine steps_cons (fun own a wx hf hsl hE => ?_) ?_
    · exact sg_plain rfl rfl (or_assign rfl)
    exact steps_nil
  intro own94 a94 w94 hd94 hz94 hk94 hf94 hE94
  obtain ⟨⟨g92, (f_1 : a94.eval (.tmp 1) = .pointer (some ⟨g92, 0, none⟩)), (b_g92 : BlkO own94 93 w94 g92 22 #[.slice Al1 l1.length cl1])⟩, -⟩ := hf94 [0] rfl
  have e94_1 := f_1
  have hX94 := Evo.step hE0 (fun _ => Nat.le_refl 0) hE94 rfl
  have b94_Al1 := RdO.evo rfl hE94 hl1
  have b94_mk := MkO.evo (by decide) hE94 hmk0
  have b94_g92 := b_g92
  refine fl_seq (fun Q95 hn95 hp95 => ?_)
  obtain ⟨r96, hr96, hs⟩ := obind hs
  obtain ⟨x97, hx97, hs⟩ := obind hs
  refine rg_plain_seq (n := 27) (rs := []) (own0 := own94) (K := [])
      (bs := [0, 1, 3, 7, 15, 31, 63, 127])
      (ds := [⟨[], [1], [], Fct.val 6 (.slice Al1 l1.length cl1)⟩,
      ⟨[0], [], [], Fct.val 7 (.int .i64 (l1.length : Int))⟩,
      ⟨[1], [], [], Fct.val 8 (.bool (decide ((l1.length : Int) < 3)))⟩,
      ⟨[2], [], [], Fct.val 9 (.bool (decide ((l1.length : Int) < 3)))⟩,
      ⟨[3], [1], [], Fct.cond (!(decide ((l1.length : Int) < 3))) (some 10) (Fct.val 10 (.slice Al1 l1.length cl1))⟩,
      ⟨[3, 4], [], [], Fct.cond (!(decide ((l1.length : Int) < 3))) (some 11) (Fct.val 11 (.bool r96))⟩,
      ⟨[3, 5], [], [], Fct.cond (!(decide ((l1.length : Int) < 3))) (some 12) (Fct.val 12 (.bool (!r96)))⟩,
      ⟨[3, 6], [], [], Fct.val 13 (.bool x97)⟩]) (by kernel_rfl) hz94 hd94 (fun _ h => nomatch h) ?_ ?_
  · refine steps_cons (fun own a wx hf hsl hE => ?_) ?_
    · obtain ⟨s_1, -⟩ := hsl
      exact sg_plain rfl rfl (or_load1 to22 (s_1.trans e94_1) (Blk.at_ (BlkO.evo (by decide) hE b94_g92).2 0 rfl))
    refine steps_cons (fun own a wx hf hsl hE => ?_) ?_
    · obtain ⟨(f_6 : a.eval (.tmp 6) = .slice Al1 l1.length cl1), -⟩ := hf
      exact sg_plain rfl rfl (or_len tu22 f_6 rfl)
    refine steps_cons (fun own a wx hf hsl hE => ?_) ?_
    · obtain ⟨(f_7 : a.eval (.tmp 7) = .int .i64 (l1.length : Int)), -⟩ := hf
      exact sg_plain rfl rfl (or_lss f_7 rfl rfl)
    refine steps_cons (fun own a wx hf hsl hE => ?_) ?_
    · obtain ⟨(f_8 : a.eval (.tmp 8) = .bool (decide ((l1.length : Int) < 3))), -⟩ := hf
      exact sg_plain rfl rfl (or_move f_8)
    refine steps_cons (fun own a wx hf hsl hE => ?_) ?_
    · obtain ⟨(f_9 : a.eval (.tmp 9) = .bool (decide ((l1.length : Int) < 3))), -⟩ := hf
      obtain ⟨s_1, -⟩ := hsl
      refine sg_f rfl rfl rfl f_9 (fun hg => ?_)
      exact or_load1 to22 (s_1.trans e94_1) (Blk.at_ (BlkO.evo (by decide) hE b94_g92).2 0 rfl)
    refine steps_cons (fun own a wx hf hsl hE => ?_) ?_
    · obtain ⟨(f_9 : a.eval (.tmp 9) = .bool (decide ((l1.length : Int) < 3))), c_10, -⟩ := hf
      refine sg_f rfl rfl rfl f_9 (fun hg => ?_)
      have f_10 : a.eval (.tmp 10) = .slice Al1 l1.length cl1 := c_10.1 hg
      exact or_call cf24 (args1 f_10) (exact_Right_w _ l1 Al1 cl1 (RdO.zero (RdO.evo rfl hE b94_Al1)) r96 (gd_t hr96 hg)) post_val
    refine steps_cons (fun own a wx hf hsl hE => ?_) ?_
    · obtain ⟨(f_9 : a.eval (.tmp 9) = .bool (decide ((l1.length : Int) < 3))), c_11, -⟩ := hf
      refine sg_f rfl rfl rfl f_9 (fun hg => ?_)
      have f_11 : a.eval (.tmp 11) = .bool r96 := c_11.1 hg
      exact or_not f_11 rfl
    refine steps_cons (fun own a wx hf hsl hE => ?_) ?_
    · obtain ⟨(f_9 : a.eval (.tmp 9) = .bool (decide ((l1.length : Int) < 3))), c_12, -⟩ := hf
      exact sg_plain rfl rfl (or_or f_9 rfl (fun hx => c_12.1 hx) (osome hx97).symm)
    exact steps_nil
  intro own98 a98 w98 hd98 hz98 hk98 hf98 hE98
  have e98_1 : a98.eval (.tmp 1) = .pointer (some ⟨g92, 0, none⟩) := (hk98 1 rfl).trans e94_1
  obtain ⟨(f_13 : a98.eval (.tmp 13) = .bool x97), -⟩ := hf98 [7] rfl
  have e98_13 := f_13
  have hX98 := Evo.step hX94 (fun _ => Nat.le_refl 0) hE98 rfl
  have b98_Al1 := RdO.evo rfl hE98 b94_Al1
  have b98_mk := MkO.evo (by decide) hE98 b94_mk
  have b98_g92 := BlkO.evo (by decide) hE98 b94_g92
  refine fl_cond e98_13 hs (fun c99 hs => ?_) (fun c99 hs => ?_)
  · refine rg_plain_seq (n := 27) (rs := []) (own0 := own98) (K := [])
        (bs := [0])
        (ds := [⟨[], [], [], Fct.val 2 (.int .i64 0)⟩]) (by kernel_rfl) hz98 hd98 (fun _ h => nomatch h) ?_ ?_
    · refine steps_cons (fun own a wx hf hsl hE => ?_) ?_
      · exact sg_plain rfl rfl (or_assign rfl)
      exact steps_nil
    intro own100 a100 w100 hd100 hz100 hk100 hf100 hE100
    obtain ⟨(f_2 : a100.eval (.tmp 2) = .int .i64 0), -⟩ := hf100 [0] rfl
    have e100_2 := f_2
    have hX100 := Evo.step hX98 (fun _ => Nat.le_refl 0) hE100 rfl
    have b100_mk := MkO.evo (by decide) hE100 b98_mk
    refine fl_ret ?_
    refine hp95 _ _ _ rfl ?_
    refine hret _ _ _ _ _ (.inl rfl) hd100 b100_mk (fun own101 w101 hE101 => ?_)
    have hX102 := Evo.step hX100 (fun _ => Nat.le_refl 0) hE101 rfl
    obtain rfl := osome hs
    exact ⟨_, results1_ rfl (RVal.tmp_ e100_2), ⟨own101, rfl, hX102⟩⟩
  refine fl_skip ?_
  refine hn95 _ _ ?_
  refine rg_plain_seq (n := 27) (rs := []) (own0 := own98) (K := [104])
      (bs := [0, 1])
      (ds := [⟨[], [], [], Fct.blk 104 3 (fun g => .pointer (some ⟨g, 0, none⟩)) 3 #[.int .i64 0]⟩,
      ⟨[0], [], [104], Fct.blk 105 3 (fun g => .pointer (some ⟨g, 0, none⟩)) 3 #[.int .i64 0]⟩]) (by kernel_rfl) hz98 hd98 (fun _ h => nomatch h) ?_ ?_
  · refine steps_cons (fun own a wx hf hsl hE => ?_) ?_
    · exact sg_plain rfl rfl (or_new [] rfl rfl trivial (by kernel_rfl))
    refine steps_cons (fun own a wx hf hsl hE => ?_) ?_
    · obtain ⟨⟨g103, (f_3 : a.eval (.tmp 3) = .pointer (some ⟨g103, 0, none⟩)), (b_g103 : BlkO own 104 wx g103 3 #[.int .i64 0])⟩, -⟩ := hf
      exact sg_plain rfl rfl (or_store1 (lab := 104) (lab2 := 105) ts3 f_3 rfl b_g103 (by simp) rfl (mem_of rfl) (by decide) rfl (fun own' a' w' ha hb => ⟨_, (ha 3).trans f_3, hb⟩))
    exact steps_nil
  intro own106 a106 w106 hd106 hz106 hk106 hf106 hE106
  have e106_1 : a106.eval (.tmp 1) = .pointer (some ⟨g92, 0, none⟩) := (hk106 1 rfl).trans e98_1
  obtain ⟨⟨g103, (f_3 : a106.eval (.tmp 3) = .pointer (some ⟨g103, 0, none⟩)), (b_g103 : BlkO own106 105 w106 g103 3 #[.int .i64 0])⟩, -⟩ := hf106 [1] rfl
  have e106_3 := f_3
  have hX106 := Evo.step hX98 (fun _ => Nat.le_refl 0) hE106 rfl
  have b106_Al1 := RdO.evo rfl hE106 b98_Al1
  have b106_mk := MkO.evo (by decide) hE106 b98_mk
  have b106_g92 := BlkO.evo (by decide) hE106 b98_g92
  have b106_g103 := b_g103
  refine fl_seq (fun Q107 hn107 hp107 => ?_)
  refine rg_plain_seq (n := 27) (rs := []) (own0 := own106) (K := [])
      (bs := [0, 1])
      (ds := [⟨[], [1], [], Fct.val 14 (.slice Al1 l1.length cl1)⟩,
      ⟨[0], [], [], Fct.mems [109] 15 (fun (x : Option Addr × Nat) => .func (.func 39) #[] #[.pointer (some ⟨x.2, 0, none⟩)]) (fun (x : Option Addr × Nat) own w => BlkO own 109 w x.2 22 #[.slice Al1 l1.length cl1]) (fun hk he h => BlkO.evo (not_hit hk (by decide)) he h)⟩]) (by kernel_rfl) hz106 hd106 (fun _ h => nomatch h) ?_ ?_
  · refine steps_cons (fun own a wx hf hsl hE => ?_) ?_
    · obtain ⟨s_1, -⟩ := hsl
      exact sg_plain rfl rfl (or_load1 to22 (s_1.trans e106_1) (Blk.at_ (BlkO.evo (by decide) hE b106_g92).2 0 rfl))
    refine steps_cons (fun own a wx hf hsl hE => ?_) ?_
    · obtain ⟨(f_14 : a.eval (.tmp 14) = .slice Al1 l1.length cl1), -⟩ := hf
      exact sg_plain rfl rfl (or_call cf25 (args1 f_14) (ring_edges_w _ l1 Al1 cl1 (RdO.zero (RdO.evo rfl hE b106_Al1)) () rfl) (post_mems (m := (fun _ => 0)) (m' := (look0 [(1, 109)])) (fun _ _ => .inl rfl) (fun own' w' a' x h1 h => ⟨x, h1, BlkO.back_ h (by decide)⟩)))
    exact steps_nil
  intro own110 a110 w110 hd110 hz110 hk110 hf110 hE110
  have e110_1 : a110.eval (.tmp 1) = .pointer (some ⟨g92, 0, none⟩) := (hk110 1 rfl).trans e106_1
  have e110_3 : a110.eval (.tmp 3) = .pointer (some ⟨g103, 0, none⟩) := (hk110 3 rfl).trans e106_3
  obtain ⟨⟨⟨A108, cA108⟩, (f_15 : a110.eval (.tmp 15) = .func (.func 39) #[] #[.pointer (some ⟨cA108, 0, none⟩)]), (b_cA108 : BlkO own110 109 w110 cA108 22 #[.slice Al1 l1.length cl1])⟩, -⟩ := hf110 [1] rfl
  have e110_15 := f_15
  have hX110 := Evo.step hX106 (fun _ => Nat.le_refl 0) hE110 rfl
  have b110_Al1 := RdO.evo rfl hE110 b106_Al1
  have b110_mk := MkO.evo (by decide) hE110 b106_mk
  have b110_g92 := BlkO.evo (by decide) hE110 b106_g92
  have b110_g103 := BlkO.evo (by decide) hE110 b106_g103
  have b110_cA108 := b_cA108
  refine fl_block (fun Q111 hn111 hx111 hp111 => ?_)
  obtain ⟨zz150, hzz150, hs⟩ := rngO_some hs
  refine fl_range (S := Int) (D := Empty) (X := (Int × Int) × (Int × Int)) (encs := (fun (x : (Int × Int) × (Int × Int)) => #[.agg #[.int .i64 x.1.1, .int .i64 x.1.2], .agg #[.int .i64 x.2.1, .int .i64 x.2.2]])) (n := 27) [105, 157, 161, 170] 151 11 rfl
      (fun (sum131 : Int) (ox : Own) (wx : World) => Evo [] (fun _ => 0) ox w wx ∧ BlkO ox 93 wx g92 22 #[.slice Al1 l1.length cl1] ∧ RdO ox [0] wx R25 Al1 cl1 l1 ∧ BlkO ox 105 wx g103 3 #[.int .i64 sum131] ∧ BlkO ox 109 wx cA108 22 #[.slice Al1 l1.length cl1])
      (fun (e : Empty) (_ : Own) (_ : World) => nomatch e)
      (fun (e : Empty) => nomatch e) (fun (sr : Int) (xr : (Int × Int) × (Int × Int)) => ring_Area_b1 l1 sr xr) hz110 rfl e110_15 cf39 (cargs := fun l => #[.func (.yield l) #[] #[], .pointer (some ⟨cA108, 0, none⟩)]) (fun _ => by simp) (fun _ => rfl) hd110 b110_mk ?_ ?_ 0 zz150 ⟨hX110, b110_g92, b110_Al1, b110_g103, b110_cA108⟩ ?_ ?_ ?_ ?_
  · rintro sum131 ox ox1 wx wx1 hEs ⟨h150_0, h150_1, h150_2, h150_3, h150_4⟩
    exact ⟨(Evo.step h150_0 (fun _ => Nat.le_refl 0) hEs rfl), (BlkO.evo (by decide) hEs h150_1), (RdO.evo rfl hEs h150_2), (BlkO.evo (by decide) hEs h150_3), (BlkO.evo (by decide) hEs h150_4)⟩
  · intro e; exact nomatch e
  · intro l150 own1 w1 J150 hE1 hJ1 hR1
    exact (ring_edges_1_w w1 (forth own1 (look0 (kj 151 [105, 157, 161, 170]))) (Int ⊕ Empty) (yb (fun (sr : Int) (xr : (Int × Int) × (Int × Int)) => ring_Area_b1 l1 sr xr)) J150 l150 (Sum.inl 0) l1 cA108 22 Al1 cl1 (look0_le rfl) hR1 hJ1 (BlkO.forth_ (BlkO.evo (by decide) hE1 b110_cA108)) (RdO.forth0_ (RdO.evo rfl hE1 b110_Al1) rfl) zz150 hzz150).mono fun e wz ⟨oz, he, _, hJz⟩ => ⟨_, oz, he, hJz⟩
  · rintro l154 sum131 x153 zz2 own154 a154 w154 Ds154 ⟨hE155, b155_g92, b155_Al1, b155_g103, b155_cA108⟩ - hrc154 hs ⟨hd154, hz154, hkp154, hpar154⟩ Q154 hn154
    have hs : ring_Area_b1 l1 sum131 x153 = some zz2 := hs
    replace hz154 := hz154.trans hz110
    have e154_1 : a154.eval (.tmp 1) = .pointer (some ⟨g92, 0, none⟩) := (hkp154 1 rfl).trans e110_1
    have e154_3 : a154.eval (.tmp 3) = .pointer (some ⟨g103, 0, none⟩) := (hkp154 3 rfl).trans e110_3
    have e154_15 : a154.eval (.tmp 15) = .func (.func 39) #[] #[.pointer (some ⟨cA108, 0, none⟩)] := (hkp154 15 rfl).trans e110_15
    have e154_16 : a154.eval (.tmp 16) = .agg #[.int .i64 x153.1.1, .int .i64 x153.1.2] := hpar154 0 16 _ rfl rfl
    have e154_17 : a154.eval (.tmp 17) = .agg #[.int .i64 x153.2.1, .int .i64 x153.2.2] := hpar154 1 17 _ rfl rfl
    have hE154 := Evo.refl [105, 157, 161, 170] own154 w154
    have hrc0_154 := hrc154
    refine rg_plain_seq (n := 27) (rs := []) (own0 := own154) (K := [157])
        (bs := [0, 1])
        (ds := [⟨[], [], [], Fct.blk 157 4 (fun g => .pointer (some ⟨g, 0, none⟩)) 25 #[.int .i64 0, .int .i64 0]⟩,
        ⟨[0], [16], [157], Fct.blk 158 4 (fun g => .pointer (some ⟨g, 0, none⟩)) 25 #[.int .i64 x153.1.1, .int .i64 x153.1.2]⟩]) (by kernel_rfl) hz154 hd154 (fun _ h => nomatch h) ?_ ?_
    · refine steps_cons (fun own a wx hf hsl hE => ?_) ?_
      · exact sg_plain rfl rfl (or_new [] rfl rfl trivial (by kernel_rfl))
      refine steps_cons (fun own a wx hf hsl hE => ?_) ?_
      · obtain ⟨⟨g156, (f_4 : a.eval (.tmp 4) = .pointer (some ⟨g156, 0, none⟩)), (b_g156 : BlkO own 157 wx g156 25 #[.int .i64 0, .int .i64 0])⟩, -⟩ := hf
        obtain ⟨s_16, -⟩ := hsl
        exact sg_plain rfl rfl (or_store (l := #[.int .i64 x153.1.1, .int .i64 x153.1.2]) (lab := 157) (lab2 := 158) ts25 f_4 (s_16.trans e154_16) b_g156 (by simp) (by kernel_rfl) (mem_of rfl) (by decide) (by kernel_rfl) (fun own' a' w' ha hb => ⟨_, (ha 4).trans f_4, hb⟩))
      exact steps_nil
    intro own159 a159 w159 hd159 hz159 hk159 hf159 hE159
    have e159_1 : a159.eval (.tmp 1) = .pointer (some ⟨g92, 0, none⟩) := (hk159 1 rfl).trans e154_1
    have e159_3 : a159.eval (.tmp 3) = .pointer (some ⟨g103, 0, none⟩) := (hk159 3 rfl).trans e154_3
    have e159_15 : a159.eval (.tmp 15) = .func (.func 39) #[] #[.pointer (some ⟨cA108, 0, none⟩)] := (hk159 15 rfl).trans e154_15
    have e159_17 : a159.eval (.tmp 17) = .agg #[.int .i64 x153.2.1, .int .i64 x153.2.2] := (hk159 17 rfl).trans e154_17
    obtain ⟨⟨g156, (f_4 : a159.eval (.tmp 4) = .pointer (some ⟨g156, 0, none⟩)), (b_g156 : BlkO own159 158 w159 g156 25 #[.int .i64 x153.1.1, .int .i64 x153.1.2])⟩, -⟩ := hf159 [1] rfl
    have e159_4 := f_4
    have hX159 := Evo.stepK hE154 hE159 rfl
    have b159_g92 := BlkO.evo (by decide) hE159 b155_g92
    have b159_Al1 := RdO.evo rfl hE159 b155_Al1
    have b159_g103 := BlkO.evo (by decide) hE159 b155_g103
    have b159_cA108 := BlkO.evo (by decide) hE159 b155_cA108
    have b159_g156 := b_g156
    refine rg_plain (n := 27) (rs := []) (own0 := own159) (K := [161])
        (bs := [0, 1])
        (ds := [⟨[], [], [], Fct.blk 161 5 (fun g => .pointer (some ⟨g, 0, none⟩)) 25 #[.int .i64 0, .int .i64 0]⟩,
        ⟨[0], [17], [161], Fct.blk 162 5 (fun g => .pointer (some ⟨g, 0, none⟩)) 25 #[.int .i64 x153.2.1, .int .i64 x153.2.2]⟩]) (by kernel_rfl) hz159 hd159 (fun _ h => nomatch h) ?_ ?_
    · refine steps_cons (fun own a wx hf hsl hE => ?_) ?_
      · exact sg_plain rfl rfl (or_new [] rfl rfl trivial (by kernel_rfl))
      refine steps_cons (fun own a wx hf hsl hE => ?_) ?_
      · obtain ⟨⟨g160, (f_5 : a.eval (.tmp 5) = .pointer (some ⟨g160, 0, none⟩)), (b_g160 : BlkO own 161 wx g160 25 #[.int .i64 0, .int .i64 0])⟩, -⟩ := hf
        obtain ⟨s_17, -⟩ := hsl
        exact sg_plain rfl rfl (or_store (l := #[.int .i64 x153.2.1, .int .i64 x153.2.2]) (lab := 161) (lab2 := 162) ts25 f_5 (s_17.trans e159_17) b_g160 (by simp) (by kernel_rfl) (mem_of rfl) (by decide) (by kernel_rfl) (fun own' a' w' ha hb => ⟨_, (ha 5).trans f_5, hb⟩))
      exact steps_nil
    intro own163 a163 w163 hd163 hz163 hk163 hf163 hE163
    have e163_1 : a163.eval (.tmp 1) = .pointer (some ⟨g92, 0, none⟩) := (hk163 1 rfl).trans e159_1
    have e163_3 : a163.eval (.tmp 3) = .pointer (some ⟨g103, 0, none⟩) := (hk163 3 rfl).trans e159_3
    have e163_4 : a163.eval (.tmp 4) = .pointer (some ⟨g156, 0, none⟩) := (hk163 4 rfl).trans e159_4
    have e163_15 : a163.eval (.tmp 15) = .func (.func 39) #[] #[.pointer (some ⟨cA108, 0, none⟩)] := (hk163 15 rfl).trans e159_15
    obtain ⟨⟨g160, (f_5 : a163.eval (.tmp 5) = .pointer (some ⟨g160, 0, none⟩)), (b_g160 : BlkO own163 162 w163 g160 25 #[.int .i64 x153.2.1, .int .i64 x153.2.2])⟩, -⟩ := hf163 [1] rfl
    have e163_5 := f_5
    have hX163 := Evo.stepK hX159 hE163 rfl
    have b163_g92 := BlkO.evo (by decide) hE163 b159_g92
    have b163_Al1 := RdO.evo rfl hE163 b159_Al1
    have b163_g103 := BlkO.evo (by decide) hE163 b159_g103
    have b163_cA108 := BlkO.evo (by decide) hE163 b159_cA108
    have b163_g156 := BlkO.evo (by decide) hE163 b159_g156
    have b163_g160 := b_g160
    refine hn154 _ _ _ hX163 (fun w164 own164 hE164 hrc164 => ?_)
    have b164_g92 := BlkO.evo (by decide) hE164 b163_g92
    have b164_Al1 := RdO.evo rfl hE164 b163_Al1
    have b164_g103 := BlkO.evo (by decide) hE164 b163_g103
    have b164_cA108 := BlkO.evo (by decide) hE164 b163_cA108
    have b164_g156 := BlkO.evo (by decide) hE164 b163_g156
    have b164_g160 := BlkO.evo (by decide) hE164 b163_g160
    have hU164 := Evo.step (Evo.step hE155 (fun _ => Nat.le_refl 0) hX163 rfl) (fun _ => Nat.le_refl 0) hE164 rfl
    have hX164 := Evo.refl [105, 157, 161, 170] own164 w164
    have hmk164 : MkO own164 11 w164 [] := MkO.nil_
    refine fl_block (fun Q165 hn165 hx165 hp165 => ?_)
    obtain ⟨x168, hx168, hs⟩ := obind hs
    obtain ⟨r169, hr169, hs⟩ := obind hs
    refine rg_draw g_mixed (n := 27) (rs := [Fct.at_ 105 g103 3 #[.int .i64 sum131]]) (own0 := own164) (K := [105])
        (bs := [0, 0, 2, 6, 0, 0, 62, 127, 255])
        (ds := [⟨[9], [3], [], Fct.val 18 (.int .i64 sum131)⟩,
        ⟨[], [1], [], Fct.val 19 (.slice Al1 l1.length cl1)⟩,
        ⟨[1], [], [], Fct.val 20 (.pointer (some ((adr Al1).add ((0 : Int).toNat * R25.s))))⟩,
        ⟨[2], [], [], Fct.val 21 (.agg #[.int .i64 x168.1, .int .i64 x168.2])⟩,
        ⟨[], [4], [], Fct.val 22 (.agg #[.int .i64 x153.1.1, .int .i64 x153.1.2])⟩,
        ⟨[], [5], [], Fct.val 23 (.agg #[.int .i64 x153.2.1, .int .i64 x153.2.2])⟩,
        ⟨[3, 4, 5], [], [], Fct.val 24 (.int .i64 r169)⟩,
        ⟨[0, 6], [], [], Fct.val 25 (.int .i64 (ad sum131 r169))⟩,
        ⟨[7, 9], [3], [105], Fct.at_ 170 g103 3 #[.int .i64 (ad sum131 r169)]⟩]) (by kernel_rfl) hz163 hd163 (by simp only [List.forall_mem_cons]; exact ⟨b164_g103, fun _ h => nomatch h⟩) ?_ ?_
    · refine steps_cons (fun own a wx hf hsl hE => ?_) ?_
      · obtain ⟨(b_g103 : BlkO own 105 wx g103 3 #[.int .i64 sum131]), -⟩ := hf
        obtain ⟨s_3, -⟩ := hsl
        exact sg_plain rfl rfl (or_load1 to3 (s_3.trans e163_3) (Blk.at_ b_g103.2 0 rfl))
      refine steps_cons (fun own a wx hf hsl hE => ?_) ?_
      · obtain ⟨s_1, -⟩ := hsl
        exact sg_plain rfl rfl (or_load1 to22 (s_1.trans e163_1) (Blk.at_ (BlkO.evo (by decide) hE b164_g92).2 0 rfl))
      refine steps_cons (fun own a wx hf hsl hE => ?_) ?_
      · obtain ⟨(f_19 : a.eval (.tmp 19) = .slice Al1 l1.length cl1), -⟩ := hf
        exact sg_plain rfl rfl (or_index (R := R25) (l := l1) tl22 f_19 rfl (RdO.some_ b164_Al1 hx168) hx168)
      refine steps_cons (fun own a wx hf hsl hE => ?_) ?_
      · obtain ⟨(f_20 : a.eval (.tmp 20) = .pointer (some ((adr Al1).add ((0 : Int).toNat * R25.s)))), -⟩ := hf
        exact sg_plain rfl rfl (or_load (l := E25.f x168) ta25 f_20 (RdO.cells (F := E25) (RdO.evo rfl hE b164_Al1) hx168) rfl)
      refine steps_cons (fun own a wx hf hsl hE => ?_) ?_
      · obtain ⟨s_4, -⟩ := hsl
        exact sg_plain rfl rfl (or_load (l := [.int .i64 x153.1.1, .int .i64 x153.1.2]) ta25 (s_4.trans e163_4) (Blk.cellsFrom (BlkO.evo (by decide) hE b164_g156).2 0 rfl) rfl)
      refine steps_cons (fun own a wx hf hsl hE => ?_) ?_
      · obtain ⟨s_5, -⟩ := hsl
        exact sg_plain rfl rfl (or_load (l := [.int .i64 x153.2.1, .int .i64 x153.2.2]) ta25 (s_5.trans e163_5) (Blk.cellsFrom (BlkO.evo (by decide) hE b164_g160).2 0 rfl) rfl)
      refine steps_cons (fun own a wx hf hsl hE => ?_) ?_
      · obtain ⟨(f_21 : a.eval (.tmp 21) = .agg #[.int .i64 x168.1, .int .i64 x168.2]), (f_22 : a.eval (.tmp 22) = .agg #[.int .i64 x153.1.1, .int .i64 x153.1.2]), (f_23 : a.eval (.tmp 23) = .agg #[.int .i64 x153.2.1, .int .i64 x153.2.2]), -⟩ := hf
        exact sg_plain rfl rfl (or_call cf26 (args3 f_21 f_22 f_23) (exact_Cross_w _ x168 x153.1 x153.2  r169 hr169) post_val)
      refine steps_cons (fun own a wx hf hsl hE => ?_) ?_
      · obtain ⟨(f_18 : a.eval (.tmp 18) = .int .i64 sum131), (f_24 : a.eval (.tmp 24) = .int .i64 r169), -⟩ := hf
        exact sg_plain rfl rfl (or_add f_18 f_24 rfl)
      refine steps_cons (fun own a wx hf hsl hE => ?_) ?_
      · obtain ⟨(f_25 : a.eval (.tmp 25) = .int .i64 (ad sum131 r169)), (b_g103 : BlkO own 105 wx g103 3 #[.int .i64 sum131]), -⟩ := hf
        obtain ⟨s_3, -⟩ := hsl
        exact sg_plain rfl rfl (or_store1 (lab := 105) (lab2 := 170) ts3 (s_3.trans e163_3) f_25 b_g103 (by simp) rfl (mem_of rfl) (by decide) rfl (fun own' a' w' ha hb => hb))
      exact steps_nil
    intro own171 a171 w171 hd171 hz171 hk171 hf171 hE171
    have e171_1 : a171.eval (.tmp 1) = .pointer (some ⟨g92, 0, none⟩) := (hk171 1 rfl).trans e163_1
    have e171_3 : a171.eval (.tmp 3) = .pointer (some ⟨g103, 0, none⟩) := (hk171 3 rfl).trans e163_3
    have e171_15 : a171.eval (.tmp 15) = .func (.func 39) #[] #[.pointer (some ⟨cA108, 0, none⟩)] := (hk171 15 rfl).trans e163_15
    obtain ⟨(b_g103 : BlkO own171 170 w171 g103 3 #[.int .i64 (ad sum131 r169)]), -⟩ := hf171 [8] rfl
    have hX171 := Evo.stepK hX164 hE171 rfl
    have b171_g92 := BlkO.evo (by decide) hE171 b164_g92
    have b171_Al1 := RdO.evo rfl hE171 b164_Al1
    have b171_cA108 := BlkO.evo (by decide) hE171 b164_cA108
    have b171_rc := RcO.evo (by decide) hE171 hrc164
    have b171_mk := MkO.evo (by decide) hE171 hmk164
    have b171_g103 := b_g103
    refine hn165 _ _ ?_
    exact ⟨_, (rl [(170, 105)] own171), osome hs, (Evo.rlK hX171 rfl), (Evo.step hU164 (fun _ => Nat.le_refl 0) (Evo.rlK hX171 rfl) rfl), (BlkO.rl_ (mm := [(170, 105)]) b171_g92), (RdO.rl_ (mm := [(170, 105)]) b171_Al1), (BlkO.rl_ (mm := [(170, 105)]) b171_g103), (BlkO.rl_ (mm := [(170, 105)]) b171_cA108)⟩
  · rintro sum131 a172 own172 w172 Ds172 hzz172 hd172 hz172 hkp172 hmk172 ⟨hE172, b172_g92, b172_Al1, b172_g103, b172_cA108⟩
    subst hzz172
    have hs : ring_Area_b2 sum131 = some r := hs
    have e172_1 : a172.eval (.tmp 1) = .pointer (some ⟨g92, 0, none⟩) := (hkp172 1).trans e110_1
    have e172_3 : a172.eval (.tmp 3) = .pointer (some ⟨g103, 0, none⟩) := (hkp172 3).trans e110_3
    have e172_15 : a172.eval (.tmp 15) = .func (.func 39) #[] #[.pointer (some ⟨cA108, 0, none⟩)] := (hkp172 15).trans e110_15
    refine hn111 _ _ ?_
    refine hn107 _ _ ?_
    refine rg_plain_seq (n := 27) (rs := []) (own0 := own172) (K := [])
        (bs := [0, 1])
        (ds := [⟨[], [3], [], Fct.val 26 (.int .i64 sum131)⟩,
        ⟨[0], [], [], Fct.val 2 (.int .i64 sum131)⟩]) (by kernel_rfl) hz172 hd172 (fun _ h => nomatch h) ?_ ?_
    · refine steps_cons (fun own a wx hf hsl hE => ?_) ?_
      · obtain ⟨s_3, -⟩ := hsl
        exact sg_plain rfl rfl (or_load1 to3 (s_3.trans e172_3) (Blk.at_ (BlkO.evo (by decide) hE b172_g103).2 0 rfl))
      refine steps_cons (fun own a wx hf hsl hE => ?_) ?_
      · obtain ⟨(f_26 : a.eval (.tmp 26) = .int .i64 sum131), -⟩ := hf
        exact sg_plain rfl rfl (or_assign f_26)
      exact steps_nil
    intro own173 a173 w173 hd173 hz173 hk173 hf173 hE173
    obtain ⟨(f_2 : a173.eval (.tmp 2) = .int .i64 sum131), -⟩ := hf173 [1] rfl
    have e173_2 := f_2
    have hX173 := Evo.step hE172 (fun _ => Nat.le_refl 0) hE173 rfl
    have b173_mk := MkO.evo (by decide) hE173 hmk172
    refine fl_ret ?_
    refine hret _ _ _ _ _ (.inl rfl) hd173 b173_mk (fun own174 w174 hE174 => ?_)
    have hX175 := Evo.step hX173 (fun _ => Nat.le_refl 0) hE174 rfl
    obtain rfl := (osome hs).symm
    exact ⟨_, results1_ rfl (RVal.tmp_ e173_2), ⟨own174, rfl, hX175⟩⟩
  · intro e; exact nomatch e

end Go.Proofs.Ytopnbammdeimcaa
