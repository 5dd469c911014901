/-
  Chapter 22. The walks.
-/
import Derived.Test.YthjcpojcpafbjaaWp2
import Derived.Test.YthjcpojcpafbjaaWp4
import Derived.Test.YthjcpojcpafbjaaSp6
namespace Go.Proofs.Ythjcpojcpafbjaa
open Go.RowKit
set_option linter.unusedVariables false
theorem lineclip_Count_w (w : World) (l1 : List (Int × Int)) (Al1 : Option Addr) (cl1 : Nat) (b2 : (Int × Int) × (Int × Int)) (hl1 : RdO (fun _ => 0) [0] w R34 Al1 cl1 l1) (r : Int) (hs : lineclip_Count l1 b2 = some r) :
    Calls Try.prog 18 #[.slice Al1 l1.length cl1, .agg #[.int .i64 b2.1.1, .int .i64 b2.1.2, .int .i64 b2.2.1, .int .i64 b2.2.2]] w fun e w' => ∃ own' : Own, e = .returned (.int .i64 r) ∧ Evo [] (fun _ => 0) own' w w' := by
  refine fl_enter (n := 23) rfl rfl rfl (Nat.le_of_ble_eq_true rfl) ?_
  intro a0 Q hd0 hz0 harg hret
  have ha0 := harg 0 _ rfl
  have ha1 := harg 1 _ rfl
  clear harg
  have hE0 : Evo [] (fun _ => 0) (fun _ => 0) w w := Evo.refl _ _ _
  refine rg_plain_seq (n := 23) (rs := []) (own0 := (fun _ => 0)) (K := [])
      (bs := [0, 0])
      (ds := [⟨[], [1], [], Fct.blk 62 3 (fun g => .pointer (some ⟨g, 0, none⟩)) 36 #[.int .i64 b2.1.1, .int .i64 b2.1.2, .int .i64 b2.2.1, .int .i64 b2.2.2]⟩,
      ⟨[], [], [], Fct.val 4 (.int .i64 0)⟩]) (by kernel_rfl) hz0 hd0 (fun _ h => nomatch h) ?_ ?_
  · refine steps_cons (fun own a wx hf hsl hE => ?_) ?_
    · obtain ⟨s_1, -⟩ := hsl
      exact sg_plain rfl rfl (or_new [(1, .agg #[.int .i64 b2.1.1, .int .i64 b2.1.2, .int .i64 b2.2.1, .int .i64 b2.2.2])] rfl rfl ⟨(s_1.trans ha1), trivial⟩ (by kernel_rfl))
    refine steps_cons (fun own a wx hf hsl hE => ?_) ?_
    · exact sg_plain rfl rfl (or_assign rfl)
    exact steps_nil
  intro own63 a63 w63 hd63 hz63 hk63 hf63 hE63
  have e63_0 : a63.eval (.tmp 0) = .slice Al1 l1.length cl1 := (hk63 0 rfl).trans ha0
  obtain ⟨⟨g61, (f_3 : a63.eval (.tmp 3) = .pointer (some ⟨g61, 0, none⟩)), (b_g61 : BlkO own63 62 w63 g61 36 #[.int .i64 b2.1.1, .int .i64 b2.1.2, .int .i64 b2.2.1, .int .i64 b2.2.2])⟩, -⟩ := hf63 [0] rfl
  have e63_3 := f_3
  have hX63 := Evo.step hE0 (fun _ => Nat.le_refl 0) hE63 rfl
  have b63_Al1 := RdO.evo rfl hE63 hl1
  have b63_g61 := b_g61
  refine rg_plain_seq (n := 23) (rs := []) (own0 := own63) (K := [])
      (bs := [0])
      (ds := [⟨[], [], [], Fct.val 5 (.int .i64 0)⟩]) (by kernel_rfl) hz63 hd63 (fun _ h => nomatch h) ?_ ?_
  · refine steps_cons (fun own a wx hf hsl hE => ?_) ?_
    · exact sg_plain rfl rfl (or_assign rfl)
    exact steps_nil
  intro own64 a64 w64 hd64 hz64 hk64 hf64 hE64
  have e64_0 : a64.eval (.tmp 0) = .slice Al1 l1.length cl1 := (hk64 0 rfl).trans e63_0
  have e64_3 : a64.eval (.tmp 3) = .pointer (some ⟨g61, 0, none⟩) := (hk64 3 rfl).trans e63_3
  obtain ⟨(f_5 : a64.eval (.tmp 5) = .int .i64 0), -⟩ := hf64 [0] rfl
  have e64_5 := f_5
  have hX64 := Evo.step hX63 (fun _ => Nat.le_refl 0) hE64 rfl
  have b64_Al1 := RdO.evo rfl hE64 b63_Al1
  have b64_g61 := BlkO.evo (by decide) hE64 b63_g61
  refine fl_seq (fun Q65 hn65 hp65 => ?_)
  obtain ⟨r66, hr66, hs⟩ := obind hs
  refine rg_plain_seq (n := 23) (rs := []) (own0 := own64) (K := [])
      (bs := [0, 0, 3, 7, 0])
      (ds := [⟨[], [0], [], Fct.val 8 (.slice Al1 l1.length cl1)⟩,
      ⟨[], [3], [], Fct.val 9 (.agg #[.int .i64 b2.1.1, .int .i64 b2.1.2, .int .i64 b2.2.1, .int .i64 b2.2.2])⟩,
      ⟨[0, 1], [], [], Fct.row 68 [69] 10 24 R24 r66⟩,
      ⟨[2], [], [], Fct.val 11 (.int .i64 (r66.length : Int))⟩,
      ⟨[], [], [], Fct.val 12 (.int .i64 0)⟩]) (by kernel_rfl) hz64 hd64 (fun _ h => nomatch h) ?_ ?_
  · refine steps_cons (fun own a wx hf hsl hE => ?_) ?_
    · obtain ⟨s_0, -⟩ := hsl
      exact sg_plain rfl rfl (or_move (s_0.trans e64_0))
    refine steps_cons (fun own a wx hf hsl hE => ?_) ?_
    · obtain ⟨s_3, -⟩ := hsl
      exact sg_plain rfl rfl (or_load (l := [.int .i64 b2.1.1, .int .i64 b2.1.2, .int .i64 b2.2.1, .int .i64 b2.2.2]) ta36 (s_3.trans e64_3) (Blk.cellsFrom (BlkO.evo (by decide) hE b64_g61).2 0 rfl) rfl)
    refine steps_cons (fun own a wx hf hsl hE => ?_) ?_
    · obtain ⟨(f_8 : a.eval (.tmp 8) = .slice Al1 l1.length cl1), (f_9 : a.eval (.tmp 9) = .agg #[.int .i64 b2.1.1, .int .i64 b2.1.2, .int .i64 b2.2.1, .int .i64 b2.2.2]), -⟩ := hf
      exact sg_plain rfl rfl (or_call cf16 (args2 f_8 f_9) (lineclip_Parts_w _ l1 Al1 cl1 b2 (RdO.zero (RdO.evo rfl hE b64_Al1)) r66 hr66) (post_row (m' := (look0 [(1, 68), (2, 69)])) (.inr (by decide)) rfl rfl (fun _ => rfl)))
    refine steps_cons (fun own a wx hf hsl hE => ?_) ?_
    · obtain ⟨⟨⟨A67, cA67⟩, (f_10 : a.eval (.tmp 10) = .slice A67 r66.length cA67), (b_A67 : RwO own 68 [69] wx 24 R24 A67 cA67 r66)⟩, -⟩ := hf
      exact sg_plain rfl rfl (or_len tu22 f_10 rfl)
    refine steps_cons (fun own a wx hf hsl hE => ?_) ?_
    · exact sg_plain rfl rfl (or_move rfl)
    exact steps_nil
  intro own70 a70 w70 hd70 hz70 hk70 hf70 hE70
  have e70_5 : a70.eval (.tmp 5) = .int .i64 0 := (hk70 5 rfl).trans e64_5
  obtain ⟨⟨⟨A67, cA67⟩, (f_10 : a70.eval (.tmp 10) = .slice A67 r66.length cA67), (b_A67 : RwO own70 68 [69] w70 24 R24 A67 cA67 r66)⟩, (f_11 : a70.eval (.tmp 11) = .int .i64 (r66.length : Int)), (f_12 : a70.eval (.tmp 12) = .int .i64 0), -⟩ := hf70 [2, 3, 4] rfl
  have e70_10 := f_10
  have e70_11 := f_11
  have e70_12 := f_12
  have hX70 := Evo.step hX64 (fun _ => Nat.le_refl 0) hE70 rfl
  have b70_A67 := b_A67
  refine fl_block (fun Q71 hn71 hx71 hp71 => ?_)
  refine fl_loop (body := (fun s => lineclip_Count_b1 r66 s.1 s.2)) (z := r) (show loopO _ _ = _ from hs) (fun (s : Int × Int) a wx => match s with | (n84, x86) => ∃ (ox : Own), a.defers = [] ∧ a.tmps.size = 23 ∧ a.eval (.tmp 5) = .int .i64 n84 ∧ a.eval (.tmp 10) = .slice A67 r66.length cA67 ∧ a.eval (.tmp 11) = .int .i64 (r66.length : Int) ∧ a.eval (.tmp 12) = .int .i64 x86 ∧ Evo [] (fun _ => 0) ox w wx ∧ RwO ox 68 [85] wx 24 R24 A67 cA67 r66) ?_ ?_
  · exact ⟨(rl [(69, 85)] own70), hd70, hz70, e70_5, e70_10, e70_11, e70_12, (Evo.rl_ hX70 (fun _ => Nat.le_refl 0) rfl), (RwO.rl_ (mm := [(69, 85)]) b70_A67)⟩
  · rintro ⟨n84, x86⟩ zz98 a98 w98 ⟨own98, hd99, hz99, e99_5, e99_10, e99_11, e99_12, hE99, b99_A67⟩ hs Q98 hn98 hp98 hz98
    have hs : lineclip_Count_b1 r66 n84 x86 = some zz98 := hs
    refine rg_plain_seq (n := 23) (rs := []) (own0 := own98) (K := [])
        (bs := [0])
        (ds := [⟨[], [12, 11], [], Fct.val 13 (.bool (decide (x86 < (r66.length : Int))))⟩]) (by kernel_rfl) hz99 hd99 (fun _ h => nomatch h) ?_ ?_
    · refine steps_cons (fun own a wx hf hsl hE => ?_) ?_
      · obtain ⟨s_12, s_11, -⟩ := hsl
        exact sg_plain rfl rfl (or_lss (s_12.trans e99_12) (s_11.trans e99_11) rfl)
      exact steps_nil
    intro own100 a100 w100 hd100 hz100 hk100 hf100 hE100
    have e100_5 : a100.eval (.tmp 5) = .int .i64 n84 := (hk100 5 rfl).trans e99_5
    have e100_10 : a100.eval (.tmp 10) = .slice A67 r66.length cA67 := (hk100 10 rfl).trans e99_10
    have e100_11 : a100.eval (.tmp 11) = .int .i64 (r66.length : Int) := (hk100 11 rfl).trans e99_11
    have e100_12 : a100.eval (.tmp 12) = .int .i64 x86 := (hk100 12 rfl).trans e99_12
    obtain ⟨(f_13 : a100.eval (.tmp 13) = .bool (decide (x86 < (r66.length : Int)))), -⟩ := hf100 [0] rfl
    have e100_13 := f_13
    have hX100 := Evo.step hE99 (fun _ => Nat.le_refl 0) hE100 rfl
    have b100_A67 := RwO.evo rfl hE100 b99_A67
    refine fl_seq (fun Q101 hn101 hp101 => ?_)
    refine fl_cond e100_13 hs (fun c102 hs => ?_) (fun c102 hs => ?_)
    · refine fl_skip ?_
      refine hn101 _ _ ?_
      refine fl_seq (fun Q103 hn103 hp103 => ?_)
      refine fl_block (fun Q104 hn104 hx104 hp104 => ?_)
      obtain ⟨x105, hx105, hs⟩ := obind hs
      refine rg_plain_seq (n := 23) (rs := []) (own0 := own100) (K := [])
          (bs := [0, 1, 3])
          (ds := [⟨[], [10, 12], [], Fct.val 14 (.pointer (some ((adr A67).add ((x86 : Int).toNat * R24.s))))⟩,
          ⟨[0], [], [], Fct.nest X24 [68, 85] 15 (fun (y : (Option Addr × Nat)) => .slice y.1 x105.length y.2) x105⟩,
          ⟨[1], [], [], Fct.rel [7, 15] (fun l => ∀ (A106 : Option Addr) (cA106 : Nat), l.getD 1 undef = .slice A106 x105.length cA106 → l.getD 0 undef = .slice A106 x105.length cA106)⟩]) (by kernel_rfl) hz100 hd100 (fun _ h => nomatch h) ?_ ?_
      · refine steps_cons (fun own a wx hf hsl hE => ?_) ?_
        · obtain ⟨s_10, s_12, -⟩ := hsl
          exact sg_plain rfl rfl (or_index (R := R24) (l := r66) tl22 (s_10.trans e100_10) (s_12.trans e100_12) (RdO.some_ (RwO.rd b100_A67) hx105) hx105)
        refine steps_cons (fun own a wx hf hsl hE => ?_) ?_
        · obtain ⟨(f_14 : a.eval (.tmp 14) = .pointer (some ((adr A67).add ((x86 : Int).toNat * R24.s)))), -⟩ := hf
          exact sg_plain rfl rfl (or_loadN1 X24 0 to24 f_14 (Addr.add_zero' _).symm (RwO.rd (RwO.evo rfl hE b100_A67)) hx105 (fun _ => rfl))
        refine steps_cons (fun own a wx hf hsl hE => ?_) ?_
        · obtain ⟨⟨⟨A106, cA106⟩, (f_15 : a.eval (.tmp 15) = .slice A106 x105.length cA106), (b_A106 : RdO own [68, 85] wx R34 A106 cA106 x105)⟩, -⟩ := hf
          exact sg_plain rfl rfl (or_mono (f := Fct.val 7 (.slice A106 x105.length cA106)) (or_assign f_15) (fun own' a' w' v' hp h => fun _ _ h0' => by cases (f_15.symm.trans ((hp.2 15 (by decide)).symm.trans h0')); exact h))
        exact steps_nil
      intro own107 a107 w107 hd107 hz107 hk107 hf107 hE107
      have e107_5 : a107.eval (.tmp 5) = .int .i64 n84 := (hk107 5 rfl).trans e100_5
      have e107_10 : a107.eval (.tmp 10) = .slice A67 r66.length cA67 := (hk107 10 rfl).trans e100_10
      have e107_11 : a107.eval (.tmp 11) = .int .i64 (r66.length : Int) := (hk107 11 rfl).trans e100_11
      have e107_12 : a107.eval (.tmp 12) = .int .i64 x86 := (hk107 12 rfl).trans e100_12
      obtain ⟨⟨⟨A106, cA106⟩, (f_15 : a107.eval (.tmp 15) = .slice A106 x105.length cA106), (b_A106 : RdO own107 [68, 85] w107 R34 A106 cA106 x105)⟩, (q_7 : ∀ (A106 : Option Addr) (cA106 : Nat), a107.eval (.tmp 15) = .slice A106 x105.length cA106 → a107.eval (.tmp 7) = .slice A106 x105.length cA106), -⟩ := hf107 [1, 2] rfl
      have f_7 := q_7 _ _ f_15
      have e107_7 := f_7
      have hX107 := Evo.step hX100 (fun _ => Nat.le_refl 0) hE107 rfl
      have b107_A67 := RwO.evo rfl hE107 b100_A67
      have b107_A106 := b_A106
      refine rg_plain (n := 23) (rs := []) (own0 := own107) (K := [])
          (bs := [0, 0, 2, 6, 15, 31])
          (ds := [⟨[], [5], [], Fct.val 16 (.int .i64 n84)⟩,
          ⟨[], [7], [], Fct.val 17 (.slice A106 x105.length cA106)⟩,
          ⟨[1], [], [], Fct.val 18 (.int .i64 (x105.length : Int))⟩,
          ⟨[2], [], [], Fct.val 19 (.int .i64 (sb (x105.length : Int) 1))⟩,
          ⟨[0, 3], [], [], Fct.val 20 (.int .i64 (ad n84 (sb (x105.length : Int) 1)))⟩,
          ⟨[4], [], [], Fct.val 5 (.int .i64 (ad n84 (sb (x105.length : Int) 1)))⟩]) (by kernel_rfl) hz107 hd107 (fun _ h => nomatch h) ?_ ?_
      · refine steps_cons (fun own a wx hf hsl hE => ?_) ?_
        · obtain ⟨s_5, -⟩ := hsl
          exact sg_plain rfl rfl (or_move (s_5.trans e107_5))
        refine steps_cons (fun own a wx hf hsl hE => ?_) ?_
        · obtain ⟨s_7, -⟩ := hsl
          exact sg_plain rfl rfl (or_move (s_7.trans e107_7))
        refine steps_cons (fun own a wx hf hsl hE => ?_) ?_
        · obtain ⟨(f_17 : a.eval (.tmp 17) = .slice A106 x105.length cA106), -⟩ := hf
          exact sg_plain rfl rfl (or_len tu24 f_17 rfl)
        refine steps_cons (fun own a wx hf hsl hE => ?_) ?_
        · obtain ⟨(f_18 : a.eval (.tmp 18) = .int .i64 (x105.length : Int)), -⟩ := hf
          exact sg_plain rfl rfl (or_sub f_18 rfl rfl)
        refine steps_cons (fun own a wx hf hsl hE => ?_) ?_
        · obtain ⟨(f_16 : a.eval (.tmp 16) = .int .i64 n84), (f_19 : a.eval (.tmp 19) = .int .i64 (sb (x105.length : Int) 1)), -⟩ := hf
          exact sg_plain rfl rfl (or_add f_16 f_19 rfl)
        refine steps_cons (fun own a wx hf hsl hE => ?_) ?_
        · obtain ⟨(f_20 : a.eval (.tmp 20) = .int .i64 (ad n84 (sb (x105.length : Int) 1))), -⟩ := hf
          exact sg_plain rfl rfl (or_assign f_20)
        exact steps_nil
      intro own108 a108 w108 hd108 hz108 hk108 hf108 hE108
      have e108_10 : a108.eval (.tmp 10) = .slice A67 r66.length cA67 := (hk108 10 rfl).trans e107_10
      have e108_11 : a108.eval (.tmp 11) = .int .i64 (r66.length : Int) := (hk108 11 rfl).trans e107_11
      have e108_12 : a108.eval (.tmp 12) = .int .i64 x86 := (hk108 12 rfl).trans e107_12
      obtain ⟨(f_5 : a108.eval (.tmp 5) = .int .i64 (ad n84 (sb (x105.length : Int) 1))), -⟩ := hf108 [5] rfl
      have e108_5 := f_5
      have hX108 := Evo.step hX107 (fun _ => Nat.le_refl 0) hE108 rfl
      have b108_A67 := RwO.evo rfl hE108 b107_A67
      refine hn104 _ _ ?_
      refine hn103 _ _ ?_
      refine rg_plain (n := 23) (rs := []) (own0 := own108) (K := [])
          (bs := [0, 1])
          (ds := [⟨[], [12], [], Fct.val 21 (.int .i64 (ad x86 1))⟩,
          ⟨[0], [], [], Fct.val 12 (.int .i64 (ad x86 1))⟩]) (by kernel_rfl) hz108 hd108 (fun _ h => nomatch h) ?_ ?_
      · refine steps_cons (fun own a wx hf hsl hE => ?_) ?_
        · obtain ⟨s_12, -⟩ := hsl
          exact sg_plain rfl rfl (or_add (s_12.trans e108_12) rfl rfl)
        refine steps_cons (fun own a wx hf hsl hE => ?_) ?_
        · obtain ⟨(f_21 : a.eval (.tmp 21) = .int .i64 (ad x86 1)), -⟩ := hf
          exact sg_plain rfl rfl (or_move f_21)
        exact steps_nil
      intro own109 a109 w109 hd109 hz109 hk109 hf109 hE109
      have e109_5 : a109.eval (.tmp 5) = .int .i64 (ad n84 (sb (x105.length : Int) 1)) := (hk109 5 rfl).trans e108_5
      have e109_10 : a109.eval (.tmp 10) = .slice A67 r66.length cA67 := (hk109 10 rfl).trans e108_10
      have e109_11 : a109.eval (.tmp 11) = .int .i64 (r66.length : Int) := (hk109 11 rfl).trans e108_11
      obtain ⟨(f_12 : a109.eval (.tmp 12) = .int .i64 (ad x86 1)), -⟩ := hf109 [1] rfl
      have e109_12 := f_12
      have hX109 := Evo.step hX108 (fun _ => Nat.le_refl 0) hE109 rfl
      have b109_A67 := RwO.evo rfl hE109 b108_A67
      exact hn98 _ _ _ hs ⟨own109, hd109, hz109, e109_5, e109_10, e109_11, e109_12, hX109, b109_A67⟩
    refine fl_exit ?_
    refine hp101 _ _ _ rfl ?_
    replace hs := hz98 _ hs
    refine hp98 _ _ _ rfl ?_
    refine hx71 _ _ ?_
    refine hn65 _ _ ?_
    refine rg_plain_seq (n := 23) (rs := []) (own0 := own100) (K := [])
        (bs := [0, 1])
        (ds := [⟨[], [5], [], Fct.val 22 (.int .i64 n84)⟩,
        ⟨[0], [], [], Fct.val 4 (.int .i64 n84)⟩]) (by kernel_rfl) hz100 hd100 (fun _ h => nomatch h) ?_ ?_
    · refine steps_cons (fun own a wx hf hsl hE => ?_) ?_
      · obtain ⟨s_5, -⟩ := hsl
        exact sg_plain rfl rfl (or_move (s_5.trans e100_5))
      refine steps_cons (fun own a wx hf hsl hE => ?_) ?_
      · obtain ⟨(f_22 : a.eval (.tmp 22) = .int .i64 n84), -⟩ := hf
        exact sg_plain rfl rfl (or_assign f_22)
      exact steps_nil
    intro own110 a110 w110 hd110 hz110 hk110 hf110 hE110
    obtain ⟨(f_4 : a110.eval (.tmp 4) = .int .i64 n84), -⟩ := hf110 [1] rfl
    have e110_4 := f_4
    have hX110 := Evo.step hX100 (fun _ => Nat.le_refl 0) hE110 rfl
    refine fl_ret ?_
    obtain rfl := (osome hs).symm
    exact hret _ _ _ _ (.inl rfl) hd110 (results1_ rfl (RVal.tmp_ e110_4)) ⟨own110, rfl, hX110⟩

end Go.Proofs.Ythjcpojcpafbjaa
