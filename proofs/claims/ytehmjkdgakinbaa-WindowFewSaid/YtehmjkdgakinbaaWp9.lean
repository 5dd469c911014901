/-
  Chapter 20. The walks.
-/
import Derived.Test.YtehmjkdgakinbaaWp2
import Derived.Test.YtehmjkdgakinbaaWp4
import Derived.Test.YtehmjkdgakinbaaWp6
import Derived.Test.YtehmjkdgakinbaaSp9
namespace Go.Proofs.Ytehmjkdgakinbaa
open Go.RowKit
set_option linter.unusedVariables false
set_option maxHeartbeats 2000000 in
theorem law20_WindowFew_w (w : World) (z1 : Int) (buffer2 : Int) (p3 : Int × Int) (t4 : Int × Int × Int) (r : Bool) (hs : law20_WindowFew z1 buffer2 p3 t4 = some r) :
    Calls Try.prog 4 #[.int .i64 z1, .int .i64 buffer2, .agg #[.int .i64 p3.1, .int .i64 p3.2], .agg #[.int .i64 t4.1, .int .i64 t4.2.1, .int .i64 t4.2.2]] w fun e w' => ∃ own' : Own, e = .returned (.bool r) ∧ Evo [] (fun _ => 0) own' w w' := by
  refine fl_enter (n := 167) rfl rfl rfl (Nat.le_of_ble_eq_true rfl) ?_
  intro a0 Q hd0 hz0 harg hret
  have ha0 := harg 0 _ rfl
  have ha1 := harg 1 _ rfl
  have ha2 := harg 2 _ rfl
  have ha3 := harg 3 _ rfl
  clear harg
  have hE0 : Evo [] (fun _ => 0) (fun _ => 0) w w := Evo.refl _ _ _
  refine rg_plain_seq (n := 167) (rs := []) (own0 := (fun _ => 0)) (K := [])
      (bs := [0, 0, 0])
      (ds := [⟨[], [2], [], Fct.blk 127 6 (fun g => .pointer (some ⟨g, 0, none⟩)) 23 #[.int .i64 p3.1, .int .i64 p3.2]⟩,
      ⟨[], [3], [], Fct.blk 129 7 (fun g => .pointer (some ⟨g, 0, none⟩)) 27 #[.int .i64 t4.1, .int .i64 t4.2.1, .int .i64 t4.2.2]⟩,
      ⟨[], [], [], Fct.val 8 (.bool false)⟩]) (by kernel_rfl) hz0 hd0 (fun _ h => nomatch h) ?_ ?_
  · refine steps_cons (fun own a wx hf hsl hE => ?_) ?_
    · obtain ⟨s_2, -⟩ := hsl
      exact sg_plain rfl rfl (or_new [(2, .agg #[.int .i64 p3.1, .int .i64 p3.2])] rfl rfl ⟨(s_2.trans ha2), trivial⟩ (by kernel_rfl))
    refine steps_cons (fun own a wx hf hsl hE => ?_) ?_
    · obtain ⟨s_3, -⟩ := hsl
      exact sg_plain rfl rfl (or_new [(3, .agg #[.int .i64 t4.1, .int .i64 t4.2.1, .int .i64 t4.2.2])] rfl rfl ⟨(s_3.trans ha3), trivial⟩ (by kernel_rfl))
    refine steps_cons (fun own a wx hf hsl hE => ?_) ?_
    · exact sg_plain rfl rfl (or_assign rfl)
    exact steps_nil
  intro own130 a130 w130 hd130 hz130 hk130 hf130 hE130
  have e130_0 : a130.eval (.tmp 0) = .int .i64 z1 := (hk130 0 rfl).trans ha0
  have e130_1 : a130.eval (.tmp 1) = .int .i64 buffer2 := (hk130 1 rfl).trans ha1
  obtain ⟨⟨g126, (f_6 : a130.eval (.tmp 6) = .pointer (some ⟨g126, 0, none⟩)), (b_g126 : BlkO own130 127 w130 g126 23 #[.int .i64 p3.1, .int .i64 p3.2])⟩, ⟨g128, (f_7 : a130.eval (.tmp 7) = .pointer (some ⟨g128, 0, none⟩)), (b_g128 : BlkO own130 129 w130 g128 27 #[.int .i64 t4.1, .int .i64 t4.2.1, .int .i64 t4.2.2])⟩, -⟩ := hf130 [0, 1] rfl
  have e130_6 := f_6
  have e130_7 := f_7
  have hX130 := Evo.step hE0 (fun _ => Nat.le_refl 0) hE130 rfl
  have b130_g126 := b_g126
  have b130_g128 := b_g128
  refine rg_plain_seq (n := 167) (rs := []) (own0 := own130) (K := [132])
      (bs := [0, 0, 3, 0, 15])
      (ds := [⟨[], [6], [], Fct.val 20 (.agg #[.int .i64 p3.1, .int .i64 p3.2])⟩,
      ⟨[], [6], [], Fct.val 21 (.agg #[.int .i64 p3.1, .int .i64 p3.2])⟩,
      ⟨[0, 1], [], [], Fct.val 22 (.agg #[.int .i64 p3.1, .int .i64 p3.2, .int .i64 p3.1, .int .i64 p3.2])⟩,
      ⟨[], [], [], Fct.blk 132 9 (fun g => .pointer (some ⟨g, 0, none⟩)) 25 #[.int .i64 0, .int .i64 0, .int .i64 0, .int .i64 0]⟩,
      ⟨[3, 2], [], [132], Fct.blk 133 9 (fun g => .pointer (some ⟨g, 0, none⟩)) 25 #[.int .i64 p3.1, .int .i64 p3.2, .int .i64 p3.1, .int .i64 p3.2]⟩]) (by kernel_rfl) hz130 hd130 (fun _ h => nomatch h) ?_ ?_
  · refine steps_cons (fun own a wx hf hsl hE => ?_) ?_
    · obtain ⟨s_6, -⟩ := hsl
      exact sg_plain rfl rfl (or_load (l := [.int .i64 p3.1, .int .i64 p3.2]) ta23 (s_6.trans e130_6) (Blk.cellsFrom (BlkO.evo (by decide) hE b130_g126).2 0 rfl) rfl)
    refine steps_cons (fun own a wx hf hsl hE => ?_) ?_
    · obtain ⟨s_6, -⟩ := hsl
      exact sg_plain rfl rfl (or_load (l := [.int .i64 p3.1, .int .i64 p3.2]) ta23 (s_6.trans e130_6) (Blk.cellsFrom (BlkO.evo (by decide) hE b130_g126).2 0 rfl) rfl)
    refine steps_cons (fun own a wx hf hsl hE => ?_) ?_
    · obtain ⟨(f_20 : a.eval (.tmp 20) = .agg #[.int .i64 p3.1, .int .i64 p3.2]), (f_21 : a.eval (.tmp 21) = .agg #[.int .i64 p3.1, .int .i64 p3.2]), -⟩ := hf
      exact sg_plain rfl rfl (or_k [(20, .agg #[.int .i64 p3.1, .int .i64 p3.2]), (21, .agg #[.int .i64 p3.1, .int .i64 p3.2])] rfl rfl ⟨f_20, f_21, trivial⟩ (by kernel_rfl))
    refine steps_cons (fun own a wx hf hsl hE => ?_) ?_
    · exact sg_plain rfl rfl (or_new [] rfl rfl trivial (by kernel_rfl))
    refine steps_cons (fun own a wx hf hsl hE => ?_) ?_
    · obtain ⟨⟨g131, (f_9 : a.eval (.tmp 9) = .pointer (some ⟨g131, 0, none⟩)), (b_g131 : BlkO own 132 wx g131 25 #[.int .i64 0, .int .i64 0, .int .i64 0, .int .i64 0])⟩, (f_22 : a.eval (.tmp 22) = .agg #[.int .i64 p3.1, .int .i64 p3.2, .int .i64 p3.1, .int .i64 p3.2]), -⟩ := hf
      exact sg_plain rfl rfl (or_store (l := #[.int .i64 p3.1, .int .i64 p3.2, .int .i64 p3.1, .int .i64 p3.2]) (lab := 132) (lab2 := 133) ts25 f_9 f_22 b_g131 (by simp) (by kernel_rfl) (mem_of rfl) (by decide) (by kernel_rfl) (fun own' a' w' ha hb => ⟨_, (ha 9).trans f_9, hb⟩))
    exact steps_nil
  intro own134 a134 w134 hd134 hz134 hk134 hf134 hE134
  have e134_0 : a134.eval (.tmp 0) = .int .i64 z1 := (hk134 0 rfl).trans e130_0
  have e134_1 : a134.eval (.tmp 1) = .int .i64 buffer2 := (hk134 1 rfl).trans e130_1
  have e134_6 : a134.eval (.tmp 6) = .pointer (some ⟨g126, 0, none⟩) := (hk134 6 rfl).trans e130_6
  have e134_7 : a134.eval (.tmp 7) = .pointer (some ⟨g128, 0, none⟩) := (hk134 7 rfl).trans e130_7
  obtain ⟨⟨g131, (f_9 : a134.eval (.tmp 9) = .pointer (some ⟨g131, 0, none⟩)), (b_g131 : BlkO own134 133 w134 g131 25 #[.int .i64 p3.1, .int .i64 p3.2, .int .i64 p3.1, .int .i64 p3.2])⟩, -⟩ := hf134 [4] rfl
  have e134_9 := f_9
  have hX134 := Evo.step hX130 (fun _ => Nat.le_refl 0) hE134 rfl
  have b134_g126 := BlkO.evo (by decide) hE134 b130_g126
  have b134_g128 := BlkO.evo (by decide) hE134 b130_g128
  have b134_g131 := b_g131
  obtain ⟨r135, hr135, hs⟩ := obind hs
  refine rg_plain_seq (n := 167) (rs := []) (own0 := own134) (K := [137])
      (bs := [0, 0, 3, 7, 15, 15, 0, 95, 255])
      (ds := [⟨[], [0], [], Fct.val 24 (.int .i64 z1)⟩,
      ⟨[], [6], [], Fct.val 25 (.agg #[.int .i64 p3.1, .int .i64 p3.2])⟩,
      ⟨[0, 1], [], [], Fct.val 26 (.tuple #[.agg #[.int .i64 r135.1.1, .int .i64 r135.1.2.1, .int .i64 r135.1.2.2], .bool r135.2])⟩,
      ⟨[2], [], [], Fct.val 23 (.tuple #[.agg #[.int .i64 r135.1.1, .int .i64 r135.1.2.1, .int .i64 r135.1.2.2], .bool r135.2])⟩,
      ⟨[3], [], [], Fct.val 27 (.agg #[.int .i64 r135.1.1, .int .i64 r135.1.2.1, .int .i64 r135.1.2.2])⟩,
      ⟨[3], [], [], Fct.val 28 (.bool r135.2)⟩,
      ⟨[], [], [], Fct.blk 137 10 (fun g => .pointer (some ⟨g, 0, none⟩)) 27 #[.int .i64 0, .int .i64 0, .int .i64 0]⟩,
      ⟨[6, 4], [], [137], Fct.blk 138 10 (fun g => .pointer (some ⟨g, 0, none⟩)) 27 #[.int .i64 r135.1.1, .int .i64 r135.1.2.1, .int .i64 r135.1.2.2]⟩,
      ⟨[5], [], [], Fct.val 11 (.bool r135.2)⟩]) (by kernel_rfl) hz134 hd134 (fun _ h => nomatch h) ?_ ?_
  · refine steps_cons (fun own a wx hf hsl hE => ?_) ?_
    · obtain ⟨s_0, -⟩ := hsl
      exact sg_plain rfl rfl (or_move (s_0.trans e134_0))
    refine steps_cons (fun own a wx hf hsl hE => ?_) ?_
    · obtain ⟨s_6, -⟩ := hsl
      exact sg_plain rfl rfl (or_load (l := [.int .i64 p3.1, .int .i64 p3.2]) ta23 (s_6.trans e134_6) (Blk.cellsFrom (BlkO.evo (by decide) hE b134_g126).2 0 rfl) rfl)
    refine steps_cons (fun own a wx hf hsl hE => ?_) ?_
    · obtain ⟨(f_24 : a.eval (.tmp 24) = .int .i64 z1), (f_25 : a.eval (.tmp 25) = .agg #[.int .i64 p3.1, .int .i64 p3.2]), -⟩ := hf
      exact sg_plain rfl rfl (or_call cf7 (args2 f_24 f_25) (window_Of_w _ z1 p3  r135 hr135) post_val)
    refine steps_cons (fun own a wx hf hsl hE => ?_) ?_
    · obtain ⟨(f_26 : a.eval (.tmp 26) = .tuple #[.agg #[.int .i64 r135.1.1, .int .i64 r135.1.2.1, .int .i64 r135.1.2.2], .bool r135.2]), -⟩ := hf
      exact sg_plain rfl rfl (or_move f_26)
    refine steps_cons (fun own a wx hf hsl hE => ?_) ?_
    · obtain ⟨(f_23 : a.eval (.tmp 23) = .tuple #[.agg #[.int .i64 r135.1.1, .int .i64 r135.1.2.1, .int .i64 r135.1.2.2], .bool r135.2]), -⟩ := hf
      exact sg_plain rfl rfl (or_k [(23, .tuple #[.agg #[.int .i64 r135.1.1, .int .i64 r135.1.2.1, .int .i64 r135.1.2.2], .bool r135.2])] rfl rfl ⟨f_23, trivial⟩ (by kernel_rfl))
    refine steps_cons (fun own a wx hf hsl hE => ?_) ?_
    · obtain ⟨(f_23 : a.eval (.tmp 23) = .tuple #[.agg #[.int .i64 r135.1.1, .int .i64 r135.1.2.1, .int .i64 r135.1.2.2], .bool r135.2]), -⟩ := hf
      exact sg_plain rfl rfl (or_k [(23, .tuple #[.agg #[.int .i64 r135.1.1, .int .i64 r135.1.2.1, .int .i64 r135.1.2.2], .bool r135.2])] rfl rfl ⟨f_23, trivial⟩ (by kernel_rfl))
    refine steps_cons (fun own a wx hf hsl hE => ?_) ?_
    · exact sg_plain rfl rfl (or_new [] rfl rfl trivial (by kernel_rfl))
    refine steps_cons (fun own a wx hf hsl hE => ?_) ?_
    · obtain ⟨⟨g136, (f_10 : a.eval (.tmp 10) = .pointer (some ⟨g136, 0, none⟩)), (b_g136 : BlkO own 137 wx g136 27 #[.int .i64 0, .int .i64 0, .int .i64 0])⟩, (f_27 : a.eval (.tmp 27) = .agg #[.int .i64 r135.1.1, .int .i64 r135.1.2.1, .int .i64 r135.1.2.2]), -⟩ := hf
      exact sg_plain rfl rfl (or_store (l := #[.int .i64 r135.1.1, .int .i64 r135.1.2.1, .int .i64 r135.1.2.2]) (lab := 137) (lab2 := 138) ts27 f_10 f_27 b_g136 (by simp) (by kernel_rfl) (mem_of rfl) (by decide) (by kernel_rfl) (fun own' a' w' ha hb => ⟨_, (ha 10).trans f_10, hb⟩))
    refine steps_cons (fun own a wx hf hsl hE => ?_) ?_
    · obtain ⟨(f_28 : a.eval (.tmp 28) = .bool r135.2), -⟩ := hf
      exact sg_plain rfl rfl (or_assign f_28)
    exact steps_nil
  intro own139 a139 w139 hd139 hz139 hk139 hf139 hE139
  have e139_0 : a139.eval (.tmp 0) = .int .i64 z1 := (hk139 0 rfl).trans e134_0
  have e139_1 : a139.eval (.tmp 1) = .int .i64 buffer2 := (hk139 1 rfl).trans e134_1
  have e139_7 : a139.eval (.tmp 7) = .pointer (some ⟨g128, 0, none⟩) := (hk139 7 rfl).trans e134_7
  have e139_9 : a139.eval (.tmp 9) = .pointer (some ⟨g131, 0, none⟩) := (hk139 9 rfl).trans e134_9
  obtain ⟨⟨g136, (f_10 : a139.eval (.tmp 10) = .pointer (some ⟨g136, 0, none⟩)), (b_g136 : BlkO own139 138 w139 g136 27 #[.int .i64 r135.1.1, .int .i64 r135.1.2.1, .int .i64 r135.1.2.2])⟩, (f_11 : a139.eval (.tmp 11) = .bool r135.2), -⟩ := hf139 [7, 8] rfl
  have e139_10 := f_10
  have e139_11 := f_11
  have hX139 := Evo.step hX134 (fun _ => Nat.le_refl 0) hE139 rfl
  have b139_g128 := BlkO.evo (by decide) hE139 b134_g128
  have b139_g131 := BlkO.evo (by decide) hE139 b134_g131
  have b139_g136 := b_g136
  obtain ⟨r140, hr140, hs⟩ := obind hs
  refine rg_plain_seq (n := 167) (rs := []) (own0 := own139) (K := [])
      (bs := [0, 0, 0, 7, 15])
      (ds := [⟨[], [0], [], Fct.val 29 (.int .i64 z1)⟩,
      ⟨[], [1], [], Fct.val 30 (.int .i64 buffer2)⟩,
      ⟨[], [9], [], Fct.val 31 (.agg #[.int .i64 p3.1, .int .i64 p3.2, .int .i64 p3.1, .int .i64 p3.2])⟩,
      ⟨[0, 1, 2], [], [], Fct.row 142 [] 32 27 R27 r140⟩,
      ⟨[3], [], [], Fct.rel [12, 32] (fun l => ∀ (A141 : Option Addr) (cA141 : Nat), l.getD 1 undef = .slice A141 r140.length cA141 → l.getD 0 undef = .slice A141 r140.length cA141)⟩]) (by kernel_rfl) hz139 hd139 (fun _ h => nomatch h) ?_ ?_
  · refine steps_cons (fun own a wx hf hsl hE => ?_) ?_
    · obtain ⟨s_0, -⟩ := hsl
      exact sg_plain rfl rfl (or_move (s_0.trans e139_0))
    refine steps_cons (fun own a wx hf hsl hE => ?_) ?_
    · obtain ⟨s_1, -⟩ := hsl
      exact sg_plain rfl rfl (or_move (s_1.trans e139_1))
    refine steps_cons (fun own a wx hf hsl hE => ?_) ?_
    · obtain ⟨s_9, -⟩ := hsl
      exact sg_plain rfl rfl (or_load (l := [.int .i64 p3.1, .int .i64 p3.2, .int .i64 p3.1, .int .i64 p3.2]) ta25 (s_9.trans e139_9) (Blk.cellsFrom (BlkO.evo (by decide) hE b139_g131).2 0 rfl) rfl)
    refine steps_cons (fun own a wx hf hsl hE => ?_) ?_
    · obtain ⟨(f_29 : a.eval (.tmp 29) = .int .i64 z1), (f_30 : a.eval (.tmp 30) = .int .i64 buffer2), (f_31 : a.eval (.tmp 31) = .agg #[.int .i64 p3.1, .int .i64 p3.2, .int .i64 p3.1, .int .i64 p3.2]), -⟩ := hf
      exact sg_plain rfl rfl (or_call cf10 (args3 f_29 f_30 f_31) (window_Shown_w _ z1 buffer2 (p3, p3)  r140 hr140) (post_row (m' := (look0 [(1, 142)])) (.inl (Rep.fl_flat _)) rfl rfl (fun _ => rfl)))
    refine steps_cons (fun own a wx hf hsl hE => ?_) ?_
    · obtain ⟨⟨⟨A141, cA141⟩, (f_32 : a.eval (.tmp 32) = .slice A141 r140.length cA141), (b_A141 : RwO own 142 [] wx 27 R27 A141 cA141 r140)⟩, -⟩ := hf
      exact sg_plain rfl rfl (or_mono (f := Fct.val 12 (.slice A141 r140.length cA141)) (or_assign f_32) (fun own' a' w' v' hp h => fun _ _ h0' => by cases (f_32.symm.trans ((hp.2 32 (by decide)).symm.trans h0')); exact h))
    exact steps_nil
  intro own143 a143 w143 hd143 hz143 hk143 hf143 hE143
  have e143_0 : a143.eval (.tmp 0) = .int .i64 z1 := (hk143 0 rfl).trans e139_0
  have e143_7 : a143.eval (.tmp 7) = .pointer (some ⟨g128, 0, none⟩) := (hk143 7 rfl).trans e139_7
  have e143_9 : a143.eval (.tmp 9) = .pointer (some ⟨g131, 0, none⟩) := (hk143 9 rfl).trans e139_9
  have e143_10 : a143.eval (.tmp 10) = .pointer (some ⟨g136, 0, none⟩) := (hk143 10 rfl).trans e139_10
  have e143_11 : a143.eval (.tmp 11) = .bool r135.2 := (hk143 11 rfl).trans e139_11
  obtain ⟨⟨⟨A141, cA141⟩, (f_32 : a143.eval (.tmp 32) = .slice A141 r140.length cA141), (b_A141 : RwO own143 142 [] w143 27 R27 A141 cA141 r140)⟩, (q_12 : ∀ (A141 : Option Addr) (cA141 : Nat), a143.eval (.tmp 32) = .slice A141 r140.length cA141 → a143.eval (.tmp 12) = .slice A141 r140.length cA141), -⟩ := hf143 [3, 4] rfl
  have f_12 := q_12 _ _ f_32
  have e143_12 := f_12
  have hX143 := Evo.step hX139 (fun _ => Nat.le_refl 0) hE143 rfl
  have b143_g128 := BlkO.evo (by decide) hE143 b139_g128
  have b143_g131 := BlkO.evo (by decide) hE143 b139_g131
  have b143_g136 := BlkO.evo (by decide) hE143 b139_g136
  have b143_A141 := b_A141
  refine fl_seq (fun Q144 hn144 hp144 => ?_)
  obtain ⟨x145, hx145, hs⟩ := obind hs
  obtain ⟨r146, hr146, hs⟩ := obind hs
  obtain ⟨x149, hx149, hs⟩ := obind hs
  refine rg_plain_seq (n := 167) (rs := []) (own0 := own143) (K := [])
      (bs := [0, 1, 3, 7, 15, 31, 63, 127, 127, 511, 1023, 2047, 4095])
      (ds := [⟨[], [12], [], Fct.val 33 (.slice A141 r140.length cA141)⟩,
      ⟨[0], [], [], Fct.val 34 (.int .i64 (r140.length : Int))⟩,
      ⟨[1], [], [], Fct.val 35 (.bool (decide (4 < (r140.length : Int))))⟩,
      ⟨[2], [], [], Fct.val 36 (.bool (decide (4 < (r140.length : Int))))⟩,
      ⟨[3], [11], [], Fct.cond (decide (4 < (r140.length : Int))) (some 37) (Fct.val 37 (.bool r135.2))⟩,
      ⟨[3, 4], [], [], Fct.val 38 (.bool x145)⟩,
      ⟨[5], [], [], Fct.val 39 (.bool x145)⟩,
      ⟨[6], [0], [], Fct.cond (!x145) (some 40) (Fct.val 40 (.int .i64 z1))⟩,
      ⟨[6], [9], [], Fct.cond (!x145) (some 41) (Fct.val 41 (.agg #[.int .i64 p3.1, .int .i64 p3.2, .int .i64 p3.1, .int .i64 p3.2]))⟩,
      ⟨[6, 7, 8], [], [], Fct.cond (!x145) (some 42) (Fct.row 148 [] 42 27 R27 r146)⟩,
      ⟨[6, 9], [], [], Fct.cond (!x145) (some 43) (Fct.val 43 (.int .i64 (r146.length : Int)))⟩,
      ⟨[6, 10], [], [], Fct.cond (!x145) (some 44) (Fct.val 44 (.bool (decide (1 < (r146.length : Int)))))⟩,
      ⟨[6, 11], [], [], Fct.val 45 (.bool x149)⟩]) (by kernel_rfl) hz143 hd143 (fun _ h => nomatch h) ?_ ?_
  · refine steps_cons (fun own a wx hf hsl hE => ?_) ?_
    · obtain ⟨s_12, -⟩ := hsl
      exact sg_plain rfl rfl (or_move (s_12.trans e143_12))
    refine steps_cons (fun own a wx hf hsl hE => ?_) ?_
    · obtain ⟨(f_33 : a.eval (.tmp 33) = .slice A141 r140.length cA141), -⟩ := hf
      exact sg_plain rfl rfl (or_len tu35 f_33 rfl)
    refine steps_cons (fun own a wx hf hsl hE => ?_) ?_
    · obtain ⟨(f_34 : a.eval (.tmp 34) = .int .i64 (r140.length : Int)), -⟩ := hf
      exact sg_plain rfl rfl (or_gtr f_34 rfl rfl)
    refine steps_cons (fun own a wx hf hsl hE => ?_) ?_
    · obtain ⟨(f_35 : a.eval (.tmp 35) = .bool (decide (4 < (r140.length : Int)))), -⟩ := hf
      exact sg_plain rfl rfl (or_move f_35)
    refine steps_cons (fun own a wx hf hsl hE => ?_) ?_
    · obtain ⟨(f_36 : a.eval (.tmp 36) = .bool (decide (4 < (r140.length : Int)))), -⟩ := hf
      obtain ⟨s_11, -⟩ := hsl
      refine sg_t rfl rfl rfl f_36 (fun hg => ?_)
      exact or_move (s_11.trans e143_11)
    refine steps_cons (fun own a wx hf hsl hE => ?_) ?_
    · obtain ⟨(f_36 : a.eval (.tmp 36) = .bool (decide (4 < (r140.length : Int)))), c_37, -⟩ := hf
      exact sg_plain rfl rfl (or_and f_36 (fun hx => c_37.1 hx) rfl (osome hx145).symm)
    refine steps_cons (fun own a wx hf hsl hE => ?_) ?_
    · obtain ⟨(f_38 : a.eval (.tmp 38) = .bool x145), -⟩ := hf
      exact sg_plain rfl rfl (or_move f_38)
    refine steps_cons (fun own a wx hf hsl hE => ?_) ?_
    · obtain ⟨(f_39 : a.eval (.tmp 39) = .bool x145), -⟩ := hf
      obtain ⟨s_0, -⟩ := hsl
      refine sg_f rfl rfl rfl f_39 (fun hg => ?_)
      exact or_move (s_0.trans e143_0)
    refine steps_cons (fun own a wx hf hsl hE => ?_) ?_
    · obtain ⟨(f_39 : a.eval (.tmp 39) = .bool x145), -⟩ := hf
      obtain ⟨s_9, -⟩ := hsl
      refine sg_f rfl rfl rfl f_39 (fun hg => ?_)
      exact or_load (l := [.int .i64 p3.1, .int .i64 p3.2, .int .i64 p3.1, .int .i64 p3.2]) ta25 (s_9.trans e143_9) (Blk.cellsFrom (BlkO.evo (by decide) hE b143_g131).2 0 rfl) rfl
    refine steps_cons (fun own a wx hf hsl hE => ?_) ?_
    · obtain ⟨(f_39 : a.eval (.tmp 39) = .bool x145), c_40, c_41, -⟩ := hf
      refine sg_f rfl rfl rfl f_39 (fun hg => ?_)
      have f_40 : a.eval (.tmp 40) = .int .i64 z1 := c_40.1 hg
      have f_41 : a.eval (.tmp 41) = .agg #[.int .i64 p3.1, .int .i64 p3.2, .int .i64 p3.1, .int .i64 p3.2] := c_41.1 hg
      exact or_call cf10 (args3 f_40 rfl f_41) (window_Shown_w _ z1 0 (p3, p3)  r146 (gd_t hr146 hg)) (post_row (m' := (look0 [(1, 148)])) (.inl (Rep.fl_flat _)) rfl rfl (fun _ => rfl))
    refine steps_cons (fun own a wx hf hsl hE => ?_) ?_
    · obtain ⟨(f_39 : a.eval (.tmp 39) = .bool x145), c_42, -⟩ := hf
      refine sg_f rfl rfl rfl f_39 (fun hg => ?_)
      obtain ⟨⟨A147, cA147⟩, (f_42 : a.eval (.tmp 42) = .slice A147 r146.length cA147), (b_A147 : RwO own 148 [] wx 27 R27 A147 cA147 r146)⟩ := c_42.1 hg
      exact or_len tu35 f_42 rfl
    refine steps_cons (fun own a wx hf hsl hE => ?_) ?_
    · obtain ⟨(f_39 : a.eval (.tmp 39) = .bool x145), c_43, -⟩ := hf
      refine sg_f rfl rfl rfl f_39 (fun hg => ?_)
      have f_43 : a.eval (.tmp 43) = .int .i64 (r146.length : Int) := c_43.1 hg
      exact or_gtr f_43 rfl rfl
    refine steps_cons (fun own a wx hf hsl hE => ?_) ?_
    · obtain ⟨(f_39 : a.eval (.tmp 39) = .bool x145), c_44, -⟩ := hf
      exact sg_plain rfl rfl (or_or f_39 rfl (fun hx => c_44.1 hx) (osome hx149).symm)
    exact steps_nil
  intro own150 a150 w150 hd150 hz150 hk150 hf150 hE150
  have e150_0 : a150.eval (.tmp 0) = .int .i64 z1 := (hk150 0 rfl).trans e143_0
  have e150_7 : a150.eval (.tmp 7) = .pointer (some ⟨g128, 0, none⟩) := (hk150 7 rfl).trans e143_7
  have e150_10 : a150.eval (.tmp 10) = .pointer (some ⟨g136, 0, none⟩) := (hk150 10 rfl).trans e143_10
  have e150_11 : a150.eval (.tmp 11) = .bool r135.2 := (hk150 11 rfl).trans e143_11
  have e150_12 : a150.eval (.tmp 12) = .slice A141 r140.length cA141 := (hk150 12 rfl).trans e143_12
  obtain ⟨(f_45 : a150.eval (.tmp 45) = .bool x149), -⟩ := hf150 [12] rfl
  have e150_45 := f_45
  have hX150 := Evo.step hX143 (fun _ => Nat.le_refl 0) hE150 rfl
  have b150_g128 := BlkO.evo (by decide) hE150 b143_g128
  have b150_g136 := BlkO.evo (by decide) hE150 b143_g136
  have b150_A141 := RwO.evo rfl hE150 b143_A141
  refine fl_cond e150_45 hs (fun c151 hs => ?_) (fun c151 hs => ?_)
  · refine rg_plain_seq (n := 167) (rs := []) (own0 := own150) (K := [])
        (bs := [0])
        (ds := [⟨[], [], [], Fct.val 8 (.bool false)⟩]) (by kernel_rfl) hz150 hd150 (fun _ h => nomatch h) ?_ ?_
    · refine steps_cons (fun own a wx hf hsl hE => ?_) ?_
      · exact sg_plain rfl rfl (or_assign rfl)
      exact steps_nil
    intro own152 a152 w152 hd152 hz152 hk152 hf152 hE152
    obtain ⟨(f_8 : a152.eval (.tmp 8) = .bool false), -⟩ := hf152 [0] rfl
    have e152_8 := f_8
    have hX152 := Evo.step hX150 (fun _ => Nat.le_refl 0) hE152 rfl
    refine fl_ret ?_
    refine hp144 _ _ _ rfl ?_
    obtain rfl := osome hs
    exact hret _ _ _ _ (.inl rfl) hd152 (results1_ rfl (RVal.tmp_ e152_8)) ⟨own152, rfl, hX152⟩
  refine fl_skip ?_
  refine hn144 _ _ ?_
  refine fl_seq (fun Q153 hn153 hp153 => ?_)
  refine rg_plain_seq (n := 167) (rs := []) (own0 := own150) (K := [])
      (bs := [0])
      (ds := [⟨[], [], [], Fct.val 13 (.int .i64 0)⟩]) (by kernel_rfl) hz150 hd150 (fun _ h => nomatch h) ?_ ?_
  · refine steps_cons (fun own a wx hf hsl hE => ?_) ?_
    · exact sg_plain rfl rfl (or_assign rfl)
    exact steps_nil
  intro own154 a154 w154 hd154 hz154 hk154 hf154 hE154
  have e154_0 : a154.eval (.tmp 0) = .int .i64 z1 := (hk154 0 rfl).trans e150_0
  have e154_7 : a154.eval (.tmp 7) = .pointer (some ⟨g128, 0, none⟩) := (hk154 7 rfl).trans e150_7
  have e154_10 : a154.eval (.tmp 10) = .pointer (some ⟨g136, 0, none⟩) := (hk154 10 rfl).trans e150_10
  have e154_11 : a154.eval (.tmp 11) = .bool r135.2 := (hk154 11 rfl).trans e150_11
  have e154_12 : a154.eval (.tmp 12) = .slice A141 r140.length cA141 := (hk154 12 rfl).trans e150_12
  obtain ⟨(f_13 : a154.eval (.tmp 13) = .int .i64 0), -⟩ := hf154 [0] rfl
  have e154_13 := f_13
  have hX154 := Evo.step hX150 (fun _ => Nat.le_refl 0) hE154 rfl
  have b154_g128 := BlkO.evo (by decide) hE154 b150_g128
  have b154_g136 := BlkO.evo (by decide) hE154 b150_g136
  have b154_A141 := RwO.evo rfl hE154 b150_A141
  refine fl_block (fun Q155 hn155 hx155 hp155 => ?_)
  refine fl_loop (body := (fun s => law20_WindowFew_b1 z1 t4 r135 r140 s)) (z := r) (show loopO _ _ = _ from hs) (fun (i175 : Int) a wx => ∃ (ox : Own), a.defers = [] ∧ a.tmps.size = 167 ∧ a.eval (.tmp 0) = .int .i64 z1 ∧ a.eval (.tmp 7) = .pointer (some ⟨g128, 0, none⟩) ∧ a.eval (.tmp 10) = .pointer (some ⟨g136, 0, none⟩) ∧ a.eval (.tmp 11) = .bool r135.2 ∧ a.eval (.tmp 12) = .slice A141 r140.length cA141 ∧ a.eval (.tmp 13) = .int .i64 i175 ∧ Evo [] (fun _ => 0) ox w wx ∧ BlkO ox 129 wx g128 27 #[.int .i64 t4.1, .int .i64 t4.2.1, .int .i64 t4.2.2] ∧ BlkO ox 138 wx g136 27 #[.int .i64 r135.1.1, .int .i64 r135.1.2.1, .int .i64 r135.1.2.2] ∧ RwO ox 142 [] wx 27 R27 A141 cA141 r140) ?_ ?_
  · exact ⟨own154, hd154, hz154, e154_0, e154_7, e154_10, e154_11, e154_12, e154_13, hX154, b154_g128, b154_g136, b154_A141⟩
  · rintro i175 zz195 a195 w195 ⟨own195, hd196, hz196, e196_0, e196_7, e196_10, e196_11, e196_12, e196_13, hE196, b196_g128, b196_g136, b196_A141⟩ hs Q195 hn195 hp195 hz195
    have hs : law20_WindowFew_b1 z1 t4 r135 r140 i175 = some zz195 := hs
    refine fl_seq (fun Q197 hn197 hp197 => ?_)
    obtain ⟨x198, hx198, hs⟩ := obind hs
    refine rg_plain_seq (n := 167) (rs := []) (own0 := own195) (K := [])
        (bs := [0, 0, 2, 7, 15, 31, 63])
        (ds := [⟨[], [13], [], Fct.val 46 (.int .i64 i175)⟩,
        ⟨[], [12], [], Fct.val 47 (.slice A141 r140.length cA141)⟩,
        ⟨[1], [], [], Fct.val 48 (.int .i64 (r140.length : Int))⟩,
        ⟨[0, 2], [], [], Fct.val 49 (.bool (decide (i175 < (r140.length : Int))))⟩,
        ⟨[3], [], [], Fct.val 50 (.bool (decide (i175 < (r140.length : Int))))⟩,
        ⟨[4], [11], [], Fct.cond (decide (i175 < (r140.length : Int))) (some 51) (Fct.val 51 (.bool r135.2))⟩,
        ⟨[4, 5], [], [], Fct.val 52 (.bool x198)⟩]) (by kernel_rfl) hz196 hd196 (fun _ h => nomatch h) ?_ ?_
    · refine steps_cons (fun own a wx hf hsl hE => ?_) ?_
      · obtain ⟨s_13, -⟩ := hsl
        exact sg_plain rfl rfl (or_move (s_13.trans e196_13))
      refine steps_cons (fun own a wx hf hsl hE => ?_) ?_
      · obtain ⟨s_12, -⟩ := hsl
        exact sg_plain rfl rfl (or_move (s_12.trans e196_12))
      refine steps_cons (fun own a wx hf hsl hE => ?_) ?_
      · obtain ⟨(f_47 : a.eval (.tmp 47) = .slice A141 r140.length cA141), -⟩ := hf
        exact sg_plain rfl rfl (or_len tu35 f_47 rfl)
      refine steps_cons (fun own a wx hf hsl hE => ?_) ?_
      · obtain ⟨(f_46 : a.eval (.tmp 46) = .int .i64 i175), (f_48 : a.eval (.tmp 48) = .int .i64 (r140.length : Int)), -⟩ := hf
        exact sg_plain rfl rfl (or_lss f_46 f_48 rfl)
      refine steps_cons (fun own a wx hf hsl hE => ?_) ?_
      · obtain ⟨(f_49 : a.eval (.tmp 49) = .bool (decide (i175 < (r140.length : Int)))), -⟩ := hf
        exact sg_plain rfl rfl (or_move f_49)
      refine steps_cons (fun own a wx hf hsl hE => ?_) ?_
      · obtain ⟨(f_50 : a.eval (.tmp 50) = .bool (decide (i175 < (r140.length : Int)))), -⟩ := hf
        obtain ⟨s_11, -⟩ := hsl
        refine sg_t rfl rfl rfl f_50 (fun hg => ?_)
        exact or_move (s_11.trans e196_11)
      refine steps_cons (fun own a wx hf hsl hE => ?_) ?_
      · obtain ⟨(f_50 : a.eval (.tmp 50) = .bool (decide (i175 < (r140.length : Int)))), c_51, -⟩ := hf
        exact sg_plain rfl rfl (or_and f_50 (fun hx => c_51.1 hx) rfl (osome hx198).symm)
      exact steps_nil
    intro own199 a199 w199 hd199 hz199 hk199 hf199 hE199
    have e199_0 : a199.eval (.tmp 0) = .int .i64 z1 := (hk199 0 rfl).trans e196_0
    have e199_7 : a199.eval (.tmp 7) = .pointer (some ⟨g128, 0, none⟩) := (hk199 7 rfl).trans e196_7
    have e199_10 : a199.eval (.tmp 10) = .pointer (some ⟨g136, 0, none⟩) := (hk199 10 rfl).trans e196_10
    have e199_11 : a199.eval (.tmp 11) = .bool r135.2 := (hk199 11 rfl).trans e196_11
    have e199_12 : a199.eval (.tmp 12) = .slice A141 r140.length cA141 := (hk199 12 rfl).trans e196_12
    have e199_13 : a199.eval (.tmp 13) = .int .i64 i175 := (hk199 13 rfl).trans e196_13
    obtain ⟨(f_52 : a199.eval (.tmp 52) = .bool x198), -⟩ := hf199 [6] rfl
    have e199_52 := f_52
    have hX199 := Evo.step hE196 (fun _ => Nat.le_refl 0) hE199 rfl
    have b199_g128 := BlkO.evo (by decide) hE199 b196_g128
    have b199_g136 := BlkO.evo (by decide) hE199 b196_g136
    have b199_A141 := RwO.evo rfl hE199 b196_A141
    refine fl_cond e199_52 hs (fun c200 hs => ?_) (fun c200 hs => ?_)
    · refine fl_skip ?_
      refine hn197 _ _ ?_
      refine fl_seq (fun Q201 hn201 hp201 => ?_)
      refine fl_block (fun Q202 hn202 hx202 hp202 => ?_)
      obtain ⟨x203, hx203, hs⟩ := obind hs
      obtain ⟨x204, hx204, hs⟩ := obind hs
      obtain ⟨x205, hx205, hs⟩ := obind hs
      obtain ⟨x206, hx206, hs⟩ := obind hs
      obtain ⟨x207, hx207, hs⟩ := obind hs
      obtain ⟨x208, hx208, hs⟩ := obind hs
      obtain ⟨x209, hx209, hs⟩ := obind hs
      obtain ⟨x210, hx210, hs⟩ := obind hs
      refine rg_draw_seq g_mixed (n := 167) (rs := []) (own0 := own199) (K := [])
          (bs := [0, 0, 3, 7, 15, 0, 63, 127, 255, 255, 1023, 2047, 4095, 255, 8447, 32767, 255, 65791, 255, 255, 786687, 1835263, 3932415, 8323327, 16777215, 33554431, 67108863, 134217727, 268435455, 268435455, 1073741823, 2147483647, 4294967295, 268435455, 8858370047, 34359738367, 268435455, 68987912191, 268435455, 268435455, 824902156287, 1924413784063, 4123437039615, 8727641980927, 17592186044415, 35184372088831, 70368744177663])
          (ds := [⟨[], [12], [], Fct.val 55 (.slice A141 r140.length cA141)⟩,
          ⟨[], [13], [], Fct.val 56 (.int .i64 i175)⟩,
          ⟨[0, 1], [], [], Fct.val 57 (.pointer (some ((adr A141).add ((i175 : Int).toNat * R27.s))))⟩,
          ⟨[2], [], [], Fct.val 58 (.pointer (some ((adr A141).add ((i175 : Int).toNat * R27.s))))⟩,
          ⟨[3], [], [], Fct.val 59 (.int .i64 x203.1)⟩,
          ⟨[], [0], [], Fct.val 60 (.int .i64 z1)⟩,
          ⟨[4, 5], [], [], Fct.val 61 (.bool (!decide (x203.1 = z1)))⟩,
          ⟨[6], [], [], Fct.val 62 (.bool (!decide (x203.1 = z1)))⟩,
          ⟨[7], [12], [], Fct.cond (!(!decide (x203.1 = z1))) (some 63) (Fct.val 63 (.slice A141 r140.length cA141))⟩,
          ⟨[7], [13], [], Fct.cond (!(!decide (x203.1 = z1))) (some 64) (Fct.val 64 (.int .i64 i175))⟩,
          ⟨[7, 8, 9], [], [], Fct.cond (!(!decide (x203.1 = z1))) (some 65) (Fct.val 65 (.pointer (some ((adr A141).add ((i175 : Int).toNat * R27.s)))))⟩,
          ⟨[7, 10], [], [], Fct.cond (!(!decide (x203.1 = z1))) (some 66) (Fct.val 66 (.pointer (some (((adr A141).add ((i175 : Int).toNat * R27.s)).add 1))))⟩,
          ⟨[7, 11], [], [], Fct.cond (!(!decide (x203.1 = z1))) (some 67) (Fct.val 67 (.int .i64 x204.2.1))⟩,
          ⟨[7], [10], [], Fct.cond (!(!decide (x203.1 = z1))) (some 68) (Fct.val 68 (.pointer (some ⟨g136, 1, none⟩)))⟩,
          ⟨[7, 13], [], [], Fct.cond (!(!decide (x203.1 = z1))) (some 69) (Fct.val 69 (.int .i64 r135.1.2.1))⟩,
          ⟨[7, 12, 14], [], [], Fct.cond (!(!decide (x203.1 = z1))) (some 70) (Fct.val 70 (.int .i64 (sb x204.2.1 r135.1.2.1)))⟩,
          ⟨[7], [10], [], Fct.cond (!(!decide (x203.1 = z1))) (some 71) (Fct.val 71 (.pointer (some ⟨g136, 1, none⟩)))⟩,
          ⟨[7, 16], [], [], Fct.cond (!(!decide (x203.1 = z1))) (some 72) (Fct.val 72 (.int .i64 r135.1.2.1))⟩,
          ⟨[7], [12], [], Fct.cond (!(!decide (x203.1 = z1))) (some 73) (Fct.val 73 (.slice A141 r140.length cA141))⟩,
          ⟨[7], [13], [], Fct.cond (!(!decide (x203.1 = z1))) (some 74) (Fct.val 74 (.int .i64 i175))⟩,
          ⟨[7, 18, 19], [], [], Fct.cond (!(!decide (x203.1 = z1))) (some 75) (Fct.val 75 (.pointer (some ((adr A141).add ((i175 : Int).toNat * R27.s)))))⟩,
          ⟨[7, 20], [], [], Fct.cond (!(!decide (x203.1 = z1))) (some 76) (Fct.val 76 (.pointer (some (((adr A141).add ((i175 : Int).toNat * R27.s)).add 1))))⟩,
          ⟨[7, 21], [], [], Fct.cond (!(!decide (x203.1 = z1))) (some 77) (Fct.val 77 (.int .i64 x205.2.1))⟩,
          ⟨[7, 17, 22], [], [], Fct.cond (!(!decide (x203.1 = z1))) (some 78) (Fct.val 78 (.int .i64 (sb r135.1.2.1 x205.2.1)))⟩,
          ⟨[7, 15, 23], [], [], Fct.cond (!(!decide (x203.1 = z1))) (some 79) (Fct.val 79 (.int .i64 x206))⟩,
          ⟨[7, 24], [], [], Fct.cond (!(!decide (x203.1 = z1))) (some 80) (Fct.val 80 (.bool (decide (1 < x206))))⟩,
          ⟨[7, 25], [], [], Fct.val 81 (.bool x207)⟩,
          ⟨[26], [], [], Fct.val 82 (.bool x207)⟩,
          ⟨[27], [12], [], Fct.cond (!x207) (some 83) (Fct.val 83 (.slice A141 r140.length cA141))⟩,
          ⟨[27], [13], [], Fct.cond (!x207) (some 84) (Fct.val 84 (.int .i64 i175))⟩,
          ⟨[27, 28, 29], [], [], Fct.cond (!x207) (some 85) (Fct.val 85 (.pointer (some ((adr A141).add ((i175 : Int).toNat * R27.s)))))⟩,
          ⟨[27, 30], [], [], Fct.cond (!x207) (some 86) (Fct.val 86 (.pointer (some (((adr A141).add ((i175 : Int).toNat * R27.s)).add 2))))⟩,
          ⟨[27, 31], [], [], Fct.cond (!x207) (some 87) (Fct.val 87 (.int .i64 x208.2.2))⟩,
          ⟨[27], [10], [], Fct.cond (!x207) (some 88) (Fct.val 88 (.pointer (some ⟨g136, 2, none⟩)))⟩,
          ⟨[27, 33], [], [], Fct.cond (!x207) (some 89) (Fct.val 89 (.int .i64 r135.1.2.2))⟩,
          ⟨[27, 32, 34], [], [], Fct.cond (!x207) (some 90) (Fct.val 90 (.int .i64 (sb x208.2.2 r135.1.2.2)))⟩,
          ⟨[27], [10], [], Fct.cond (!x207) (some 91) (Fct.val 91 (.pointer (some ⟨g136, 2, none⟩)))⟩,
          ⟨[27, 36], [], [], Fct.cond (!x207) (some 92) (Fct.val 92 (.int .i64 r135.1.2.2))⟩,
          ⟨[27], [12], [], Fct.cond (!x207) (some 93) (Fct.val 93 (.slice A141 r140.length cA141))⟩,
          ⟨[27], [13], [], Fct.cond (!x207) (some 94) (Fct.val 94 (.int .i64 i175))⟩,
          ⟨[27, 38, 39], [], [], Fct.cond (!x207) (some 95) (Fct.val 95 (.pointer (some ((adr A141).add ((i175 : Int).toNat * R27.s)))))⟩,
          ⟨[27, 40], [], [], Fct.cond (!x207) (some 96) (Fct.val 96 (.pointer (some (((adr A141).add ((i175 : Int).toNat * R27.s)).add 2))))⟩,
          ⟨[27, 41], [], [], Fct.cond (!x207) (some 97) (Fct.val 97 (.int .i64 x209.2.2))⟩,
          ⟨[27, 37, 42], [], [], Fct.cond (!x207) (some 98) (Fct.val 98 (.int .i64 (sb r135.1.2.2 x209.2.2)))⟩,
          ⟨[27, 35, 43], [], [], Fct.cond (!x207) (some 99) (Fct.val 99 (.int .i64 x210))⟩,
          ⟨[27, 44], [], [], Fct.cond (!x207) (some 100) (Fct.val 100 (.bool (decide (1 < x210))))⟩,
          ⟨[27, 45], [], [], Fct.val 101 (.bool (x207 || (decide (1 < x210))))⟩]) (by kernel_rfl) hz199 hd199 (fun _ h => nomatch h) ?_ ?_
      · refine steps_cons (fun own a wx hf hsl hE => ?_) ?_
        · obtain ⟨s_12, -⟩ := hsl
          exact sg_plain rfl rfl (or_move (s_12.trans e199_12))
        refine steps_cons (fun own a wx hf hsl hE => ?_) ?_
        · obtain ⟨s_13, -⟩ := hsl
          exact sg_plain rfl rfl (or_move (s_13.trans e199_13))
        refine steps_cons (fun own a wx hf hsl hE => ?_) ?_
        · obtain ⟨(f_55 : a.eval (.tmp 55) = .slice A141 r140.length cA141), (f_56 : a.eval (.tmp 56) = .int .i64 i175), -⟩ := hf
          exact sg_plain rfl rfl (or_index (R := R27) (l := r140) tl35 f_55 f_56 (RdO.some_ (RwO.rd b199_A141) hx203) hx203)
        refine steps_cons (fun own a wx hf hsl hE => ?_) ?_
        · obtain ⟨(f_57 : a.eval (.tmp 57) = .pointer (some ((adr A141).add ((i175 : Int).toNat * R27.s)))), -⟩ := hf
          exact sg_plain rfl rfl (or_field fo27_0 f_57 (Addr.add_zero' _))
        refine steps_cons (fun own a wx hf hsl hE => ?_) ?_
        · obtain ⟨(f_58 : a.eval (.tmp 58) = .pointer (some ((adr A141).add ((i175 : Int).toNat * R27.s)))), -⟩ := hf
          exact sg_plain rfl rfl (or_load1 to3 f_58 (CellsAt.zero (RdO.cells (F := E27) (RwO.rd (RwO.evo rfl hE b199_A141)) hx203) rfl))
        refine steps_cons (fun own a wx hf hsl hE => ?_) ?_
        · obtain ⟨s_0, -⟩ := hsl
          exact sg_plain rfl rfl (or_move (s_0.trans e199_0))
        refine steps_cons (fun own a wx hf hsl hE => ?_) ?_
        · obtain ⟨(f_59 : a.eval (.tmp 59) = .int .i64 x203.1), (f_60 : a.eval (.tmp 60) = .int .i64 z1), -⟩ := hf
          exact sg_plain rfl rfl (or_neq f_59 f_60 rfl)
        refine steps_cons (fun own a wx hf hsl hE => ?_) ?_
        · obtain ⟨(f_61 : a.eval (.tmp 61) = .bool (!decide (x203.1 = z1))), -⟩ := hf
          exact sg_plain rfl rfl (or_move f_61)
        refine steps_cons (fun own a wx hf hsl hE => ?_) ?_
        · obtain ⟨(f_62 : a.eval (.tmp 62) = .bool (!decide (x203.1 = z1))), -⟩ := hf
          obtain ⟨s_12, -⟩ := hsl
          refine sg_f rfl rfl rfl f_62 (fun hg => ?_)
          exact or_move (s_12.trans e199_12)
        refine steps_cons (fun own a wx hf hsl hE => ?_) ?_
        · obtain ⟨(f_62 : a.eval (.tmp 62) = .bool (!decide (x203.1 = z1))), -⟩ := hf
          obtain ⟨s_13, -⟩ := hsl
          refine sg_f rfl rfl rfl f_62 (fun hg => ?_)
          exact or_move (s_13.trans e199_13)
        refine steps_cons (fun own a wx hf hsl hE => ?_) ?_
        · obtain ⟨(f_62 : a.eval (.tmp 62) = .bool (!decide (x203.1 = z1))), c_63, c_64, -⟩ := hf
          refine sg_f rfl rfl rfl f_62 (fun hg => ?_)
          have f_63 : a.eval (.tmp 63) = .slice A141 r140.length cA141 := c_63.1 hg
          have f_64 : a.eval (.tmp 64) = .int .i64 i175 := c_64.1 hg
          exact or_index (R := R27) (l := r140) tl35 f_63 f_64 (RdO.some_ (RwO.rd b199_A141) (gd_t hx204 hg)) (gd_t hx204 hg)
        refine steps_cons (fun own a wx hf hsl hE => ?_) ?_
        · obtain ⟨(f_62 : a.eval (.tmp 62) = .bool (!decide (x203.1 = z1))), c_65, -⟩ := hf
          refine sg_f rfl rfl rfl f_62 (fun hg => ?_)
          have f_65 : a.eval (.tmp 65) = .pointer (some ((adr A141).add ((i175 : Int).toNat * R27.s))) := c_65.1 hg
          exact or_field fo27_1 f_65 rfl
        refine steps_cons (fun own a wx hf hsl hE => ?_) ?_
        · obtain ⟨(f_62 : a.eval (.tmp 62) = .bool (!decide (x203.1 = z1))), c_66, -⟩ := hf
          refine sg_f rfl rfl rfl f_62 (fun hg => ?_)
          have f_66 : a.eval (.tmp 66) = .pointer (some (((adr A141).add ((i175 : Int).toNat * R27.s)).add 1)) := c_66.1 hg
          exact or_load1 to3 f_66 (CellsAt.one (RdO.cells (F := E27) (RwO.rd (RwO.evo rfl hE b199_A141)) (gd_t hx204 hg)) rfl)
        refine steps_cons (fun own a wx hf hsl hE => ?_) ?_
        · obtain ⟨(f_62 : a.eval (.tmp 62) = .bool (!decide (x203.1 = z1))), -⟩ := hf
          obtain ⟨s_10, -⟩ := hsl
          refine sg_f rfl rfl rfl f_62 (fun hg => ?_)
          exact or_field fo27_1 (s_10.trans e199_10) (by rfl)
        refine steps_cons (fun own a wx hf hsl hE => ?_) ?_
        · obtain ⟨(f_62 : a.eval (.tmp 62) = .bool (!decide (x203.1 = z1))), c_68, -⟩ := hf
          refine sg_f rfl rfl rfl f_62 (fun hg => ?_)
          have f_68 : a.eval (.tmp 68) = .pointer (some ⟨g136, 1, none⟩) := c_68.1 hg
          exact or_load1 to3 f_68 (Blk.at_ (BlkO.evo (by decide) hE b199_g136).2 1 rfl)
        refine steps_cons (fun own a wx hf hsl hE => ?_) ?_
        · obtain ⟨(f_62 : a.eval (.tmp 62) = .bool (!decide (x203.1 = z1))), c_67, c_69, -⟩ := hf
          refine sg_f rfl rfl rfl f_62 (fun hg => ?_)
          have f_67 : a.eval (.tmp 67) = .int .i64 x204.2.1 := c_67.1 hg
          have f_69 : a.eval (.tmp 69) = .int .i64 r135.1.2.1 := c_69.1 hg
          exact or_sub f_67 f_69 rfl
        refine steps_cons (fun own a wx hf hsl hE => ?_) ?_
        · obtain ⟨(f_62 : a.eval (.tmp 62) = .bool (!decide (x203.1 = z1))), -⟩ := hf
          obtain ⟨s_10, -⟩ := hsl
          refine sg_f rfl rfl rfl f_62 (fun hg => ?_)
          exact or_field fo27_1 (s_10.trans e199_10) (by rfl)
        refine steps_cons (fun own a wx hf hsl hE => ?_) ?_
        · obtain ⟨(f_62 : a.eval (.tmp 62) = .bool (!decide (x203.1 = z1))), c_71, -⟩ := hf
          refine sg_f rfl rfl rfl f_62 (fun hg => ?_)
          have f_71 : a.eval (.tmp 71) = .pointer (some ⟨g136, 1, none⟩) := c_71.1 hg
          exact or_load1 to3 f_71 (Blk.at_ (BlkO.evo (by decide) hE b199_g136).2 1 rfl)
        refine steps_cons (fun own a wx hf hsl hE => ?_) ?_
        · obtain ⟨(f_62 : a.eval (.tmp 62) = .bool (!decide (x203.1 = z1))), -⟩ := hf
          obtain ⟨s_12, -⟩ := hsl
          refine sg_f rfl rfl rfl f_62 (fun hg => ?_)
          exact or_move (s_12.trans e199_12)
        refine steps_cons (fun own a wx hf hsl hE => ?_) ?_
        · obtain ⟨(f_62 : a.eval (.tmp 62) = .bool (!decide (x203.1 = z1))), -⟩ := hf
          obtain ⟨s_13, -⟩ := hsl
          refine sg_f rfl rfl rfl f_62 (fun hg => ?_)
          exact or_move (s_13.trans e199_13)
        refine steps_cons (fun own a wx hf hsl hE => ?_) ?_
        · obtain ⟨(f_62 : a.eval (.tmp 62) = .bool (!decide (x203.1 = z1))), c_73, c_74, -⟩ := hf
          refine sg_f rfl rfl rfl f_62 (fun hg => ?_)
          have f_73 : a.eval (.tmp 73) = .slice A141 r140.length cA141 := c_73.1 hg
          have f_74 : a.eval (.tmp 74) = .int .i64 i175 := c_74.1 hg
          exact or_index (R := R27) (l := r140) tl35 f_73 f_74 (RdO.some_ (RwO.rd b199_A141) (gd_t hx205 hg)) (gd_t hx205 hg)
        refine steps_cons (fun own a wx hf hsl hE => ?_) ?_
        · obtain ⟨(f_62 : a.eval (.tmp 62) = .bool (!decide (x203.1 = z1))), c_75, -⟩ := hf
          refine sg_f rfl rfl rfl f_62 (fun hg => ?_)
          have f_75 : a.eval (.tmp 75) = .pointer (some ((adr A141).add ((i175 : Int).toNat * R27.s))) := c_75.1 hg
          exact or_field fo27_1 f_75 rfl
        refine steps_cons (fun own a wx hf hsl hE => ?_) ?_
        · obtain ⟨(f_62 : a.eval (.tmp 62) = .bool (!decide (x203.1 = z1))), c_76, -⟩ := hf
          refine sg_f rfl rfl rfl f_62 (fun hg => ?_)
          have f_76 : a.eval (.tmp 76) = .pointer (some (((adr A141).add ((i175 : Int).toNat * R27.s)).add 1)) := c_76.1 hg
          exact or_load1 to3 f_76 (CellsAt.one (RdO.cells (F := E27) (RwO.rd (RwO.evo rfl hE b199_A141)) (gd_t hx205 hg)) rfl)
        refine steps_cons (fun own a wx hf hsl hE => ?_) ?_
        · obtain ⟨(f_62 : a.eval (.tmp 62) = .bool (!decide (x203.1 = z1))), c_72, c_77, -⟩ := hf
          refine sg_f rfl rfl rfl f_62 (fun hg => ?_)
          have f_72 : a.eval (.tmp 72) = .int .i64 r135.1.2.1 := c_72.1 hg
          have f_77 : a.eval (.tmp 77) = .int .i64 x205.2.1 := c_77.1 hg
          exact or_sub f_72 f_77 rfl
        refine steps_cons (fun own a wx hf hsl hE => ?_) ?_
        · obtain ⟨(f_62 : a.eval (.tmp 62) = .bool (!decide (x203.1 = z1))), c_70, c_78, -⟩ := hf
          refine sg_f rfl rfl rfl f_62 (fun hg => ?_)
          have f_70 : a.eval (.tmp 70) = .int .i64 (sb x204.2.1 r135.1.2.1) := c_70.1 hg
          have f_78 : a.eval (.tmp 78) = .int .i64 (sb r135.1.2.1 x205.2.1) := c_78.1 hg
          exact or_eq_ (osome hx206).symm (or_max f_70 f_78)
        refine steps_cons (fun own a wx hf hsl hE => ?_) ?_
        · obtain ⟨(f_62 : a.eval (.tmp 62) = .bool (!decide (x203.1 = z1))), c_79, -⟩ := hf
          refine sg_f rfl rfl rfl f_62 (fun hg => ?_)
          have f_79 : a.eval (.tmp 79) = .int .i64 x206 := c_79.1 hg
          exact or_gtr f_79 rfl rfl
        refine steps_cons (fun own a wx hf hsl hE => ?_) ?_
        · obtain ⟨(f_62 : a.eval (.tmp 62) = .bool (!decide (x203.1 = z1))), c_80, -⟩ := hf
          exact sg_plain rfl rfl (or_or f_62 rfl (fun hx => c_80.1 hx) (osome hx207).symm)
        refine steps_cons (fun own a wx hf hsl hE => ?_) ?_
        · obtain ⟨(f_81 : a.eval (.tmp 81) = .bool x207), -⟩ := hf
          exact sg_plain rfl rfl (or_move f_81)
        refine steps_cons (fun own a wx hf hsl hE => ?_) ?_
        · obtain ⟨(f_82 : a.eval (.tmp 82) = .bool x207), -⟩ := hf
          obtain ⟨s_12, -⟩ := hsl
          refine sg_f rfl rfl rfl f_82 (fun hg => ?_)
          exact or_move (s_12.trans e199_12)
        refine steps_cons (fun own a wx hf hsl hE => ?_) ?_
        · obtain ⟨(f_82 : a.eval (.tmp 82) = .bool x207), -⟩ := hf
          obtain ⟨s_13, -⟩ := hsl
          refine sg_f rfl rfl rfl f_82 (fun hg => ?_)
          exact or_move (s_13.trans e199_13)
        refine steps_cons (fun own a wx hf hsl hE => ?_) ?_
        · obtain ⟨(f_82 : a.eval (.tmp 82) = .bool x207), c_83, c_84, -⟩ := hf
          refine sg_f rfl rfl rfl f_82 (fun hg => ?_)
          have f_83 : a.eval (.tmp 83) = .slice A141 r140.length cA141 := c_83.1 hg
          have f_84 : a.eval (.tmp 84) = .int .i64 i175 := c_84.1 hg
          exact or_index (R := R27) (l := r140) tl35 f_83 f_84 (RdO.some_ (RwO.rd b199_A141) (gd_t hx208 hg)) (gd_t hx208 hg)
        refine steps_cons (fun own a wx hf hsl hE => ?_) ?_
        · obtain ⟨(f_82 : a.eval (.tmp 82) = .bool x207), c_85, -⟩ := hf
          refine sg_f rfl rfl rfl f_82 (fun hg => ?_)
          have f_85 : a.eval (.tmp 85) = .pointer (some ((adr A141).add ((i175 : Int).toNat * R27.s))) := c_85.1 hg
          exact or_field fo27_2 f_85 rfl
        refine steps_cons (fun own a wx hf hsl hE => ?_) ?_
        · obtain ⟨(f_82 : a.eval (.tmp 82) = .bool x207), c_86, -⟩ := hf
          refine sg_f rfl rfl rfl f_82 (fun hg => ?_)
          have f_86 : a.eval (.tmp 86) = .pointer (some (((adr A141).add ((i175 : Int).toNat * R27.s)).add 2)) := c_86.1 hg
          exact or_load1 to3 f_86 (CellsAt.one (RdO.cells (F := E27) (RwO.rd (RwO.evo rfl hE b199_A141)) (gd_t hx208 hg)) rfl)
        refine steps_cons (fun own a wx hf hsl hE => ?_) ?_
        · obtain ⟨(f_82 : a.eval (.tmp 82) = .bool x207), -⟩ := hf
          obtain ⟨s_10, -⟩ := hsl
          refine sg_f rfl rfl rfl f_82 (fun hg => ?_)
          exact or_field fo27_2 (s_10.trans e199_10) (by rfl)
        refine steps_cons (fun own a wx hf hsl hE => ?_) ?_
        · obtain ⟨(f_82 : a.eval (.tmp 82) = .bool x207), c_88, -⟩ := hf
          refine sg_f rfl rfl rfl f_82 (fun hg => ?_)
          have f_88 : a.eval (.tmp 88) = .pointer (some ⟨g136, 2, none⟩) := c_88.1 hg
          exact or_load1 to3 f_88 (Blk.at_ (BlkO.evo (by decide) hE b199_g136).2 2 rfl)
        refine steps_cons (fun own a wx hf hsl hE => ?_) ?_
        · obtain ⟨(f_82 : a.eval (.tmp 82) = .bool x207), c_87, c_89, -⟩ := hf
          refine sg_f rfl rfl rfl f_82 (fun hg => ?_)
          have f_87 : a.eval (.tmp 87) = .int .i64 x208.2.2 := c_87.1 hg
          have f_89 : a.eval (.tmp 89) = .int .i64 r135.1.2.2 := c_89.1 hg
          exact or_sub f_87 f_89 rfl
        refine steps_cons (fun own a wx hf hsl hE => ?_) ?_
        · obtain ⟨(f_82 : a.eval (.tmp 82) = .bool x207), -⟩ := hf
          obtain ⟨s_10, -⟩ := hsl
          refine sg_f rfl rfl rfl f_82 (fun hg => ?_)
          exact or_field fo27_2 (s_10.trans e199_10) (by rfl)
        refine steps_cons (fun own a wx hf hsl hE => ?_) ?_
        · obtain ⟨(f_82 : a.eval (.tmp 82) = .bool x207), c_91, -⟩ := hf
          refine sg_f rfl rfl rfl f_82 (fun hg => ?_)
          have f_91 : a.eval (.tmp 91) = .pointer (some ⟨g136, 2, none⟩) := c_91.1 hg
          exact or_load1 to3 f_91 (Blk.at_ (BlkO.evo (by decide) hE b199_g136).2 2 rfl)
        refine steps_cons (fun own a wx hf hsl hE => ?_) ?_
        · obtain ⟨(f_82 : a.eval (.tmp 82) = .bool x207), -⟩ := hf
          obtain ⟨s_12, -⟩ := hsl
          refine sg_f rfl rfl rfl f_82 (fun hg => ?_)
          exact or_move (s_12.trans e199_12)
        refine steps_cons (fun own a wx hf hsl hE => ?_) ?_
        · obtain ⟨(f_82 : a.eval (.tmp 82) = .bool x207), -⟩ := hf
          obtain ⟨s_13, -⟩ := hsl
          refine sg_f rfl rfl rfl f_82 (fun hg => ?_)
          exact or_move (s_13.trans e199_13)
        refine steps_cons (fun own a wx hf hsl hE => ?_) ?_
        · obtain ⟨(f_82 : a.eval (.tmp 82) = .bool x207), c_93, c_94, -⟩ := hf
          refine sg_f rfl rfl rfl f_82 (fun hg => ?_)
          have f_93 : a.eval (.tmp 93) = .slice A141 r140.length cA141 := c_93.1 hg
          have f_94 : a.eval (.tmp 94) = .int .i64 i175 := c_94.1 hg
          exact or_index (R := R27) (l := r140) tl35 f_93 f_94 (RdO.some_ (RwO.rd b199_A141) (gd_t hx209 hg)) (gd_t hx209 hg)
        refine steps_cons (fun own a wx hf hsl hE => ?_) ?_
        · obtain ⟨(f_82 : a.eval (.tmp 82) = .bool x207), c_95, -⟩ := hf
          refine sg_f rfl rfl rfl f_82 (fun hg => ?_)
          have f_95 : a.eval (.tmp 95) = .pointer (some ((adr A141).add ((i175 : Int).toNat * R27.s))) := c_95.1 hg
          exact or_field fo27_2 f_95 rfl
        refine steps_cons (fun own a wx hf hsl hE => ?_) ?_
        · obtain ⟨(f_82 : a.eval (.tmp 82) = .bool x207), c_96, -⟩ := hf
          refine sg_f rfl rfl rfl f_82 (fun hg => ?_)
          have f_96 : a.eval (.tmp 96) = .pointer (some (((adr A141).add ((i175 : Int).toNat * R27.s)).add 2)) := c_96.1 hg
          exact or_load1 to3 f_96 (CellsAt.one (RdO.cells (F := E27) (RwO.rd (RwO.evo rfl hE b199_A141)) (gd_t hx209 hg)) rfl)
        refine steps_cons (fun own a wx hf hsl hE => ?_) ?_
        · obtain ⟨(f_82 : a.eval (.tmp 82) = .bool x207), c_92, c_97, -⟩ := hf
          refine sg_f rfl rfl rfl f_82 (fun hg => ?_)
          have f_92 : a.eval (.tmp 92) = .int .i64 r135.1.2.2 := c_92.1 hg
          have f_97 : a.eval (.tmp 97) = .int .i64 x209.2.2 := c_97.1 hg
          exact or_sub f_92 f_97 rfl
        refine steps_cons (fun own a wx hf hsl hE => ?_) ?_
        · obtain ⟨(f_82 : a.eval (.tmp 82) = .bool x207), c_90, c_98, -⟩ := hf
          refine sg_f rfl rfl rfl f_82 (fun hg => ?_)
          have f_90 : a.eval (.tmp 90) = .int .i64 (sb x208.2.2 r135.1.2.2) := c_90.1 hg
          have f_98 : a.eval (.tmp 98) = .int .i64 (sb r135.1.2.2 x209.2.2) := c_98.1 hg
          exact or_eq_ (osome hx210).symm (or_max f_90 f_98)
        refine steps_cons (fun own a wx hf hsl hE => ?_) ?_
        · obtain ⟨(f_82 : a.eval (.tmp 82) = .bool x207), c_99, -⟩ := hf
          refine sg_f rfl rfl rfl f_82 (fun hg => ?_)
          have f_99 : a.eval (.tmp 99) = .int .i64 x210 := c_99.1 hg
          exact or_gtr f_99 rfl rfl
        refine steps_cons (fun own a wx hf hsl hE => ?_) ?_
        · obtain ⟨(f_82 : a.eval (.tmp 82) = .bool x207), c_100, -⟩ := hf
          exact sg_plain rfl rfl (or_or f_82 rfl (fun hx => c_100.1 hx) rfl)
        exact steps_nil
      intro own211 a211 w211 hd211 hz211 hk211 hf211 hE211
      have e211_0 : a211.eval (.tmp 0) = .int .i64 z1 := (hk211 0 rfl).trans e199_0
      have e211_7 : a211.eval (.tmp 7) = .pointer (some ⟨g128, 0, none⟩) := (hk211 7 rfl).trans e199_7
      have e211_10 : a211.eval (.tmp 10) = .pointer (some ⟨g136, 0, none⟩) := (hk211 10 rfl).trans e199_10
      have e211_11 : a211.eval (.tmp 11) = .bool r135.2 := (hk211 11 rfl).trans e199_11
      have e211_12 : a211.eval (.tmp 12) = .slice A141 r140.length cA141 := (hk211 12 rfl).trans e199_12
      have e211_13 : a211.eval (.tmp 13) = .int .i64 i175 := (hk211 13 rfl).trans e199_13
      obtain ⟨(f_101 : a211.eval (.tmp 101) = .bool (x207 || (decide (1 < x210)))), -⟩ := hf211 [46] rfl
      have e211_101 := f_101
      have hX211 := Evo.step hX199 (fun _ => Nat.le_refl 0) hE211 rfl
      have b211_g128 := BlkO.evo (by decide) hE211 b199_g128
      have b211_g136 := BlkO.evo (by decide) hE211 b199_g136
      have b211_A141 := RwO.evo rfl hE211 b199_A141
      refine fl_cond e211_101 hs (fun c212 hs => ?_) (fun c212 hs => ?_)
      · refine rg_plain_seq (n := 167) (rs := []) (own0 := own211) (K := [])
            (bs := [0])
            (ds := [⟨[], [], [], Fct.val 8 (.bool false)⟩]) (by kernel_rfl) hz211 hd211 (fun _ h => nomatch h) ?_ ?_
        · refine steps_cons (fun own a wx hf hsl hE => ?_) ?_
          · exact sg_plain rfl rfl (or_assign rfl)
          exact steps_nil
        intro own213 a213 w213 hd213 hz213 hk213 hf213 hE213
        obtain ⟨(f_8 : a213.eval (.tmp 8) = .bool false), -⟩ := hf213 [0] rfl
        have e213_8 := f_8
        have hX213 := Evo.step hX211 (fun _ => Nat.le_refl 0) hE213 rfl
        refine fl_ret ?_
        refine hp202 _ _ _ rfl ?_
        refine hp201 _ _ _ rfl ?_
        replace hs := hz195 _ hs
        refine hp195 _ _ _ rfl ?_
        refine hp155 _ _ _ rfl ?_
        refine hp153 _ _ _ rfl ?_
        obtain rfl := osome hs
        exact hret _ _ _ _ (.inl rfl) hd213 (results1_ rfl (RVal.tmp_ e213_8)) ⟨own213, rfl, hX213⟩
      refine fl_skip ?_
      refine hn202 _ _ ?_
      refine hn201 _ _ ?_
      refine rg_plain (n := 167) (rs := []) (own0 := own211) (K := [])
          (bs := [0, 1, 3])
          (ds := [⟨[], [13], [], Fct.val 53 (.int .i64 i175)⟩,
          ⟨[0], [], [], Fct.val 54 (.int .i64 (ad i175 1))⟩,
          ⟨[1], [], [], Fct.val 13 (.int .i64 (ad i175 1))⟩]) (by kernel_rfl) hz211 hd211 (fun _ h => nomatch h) ?_ ?_
      · refine steps_cons (fun own a wx hf hsl hE => ?_) ?_
        · obtain ⟨s_13, -⟩ := hsl
          exact sg_plain rfl rfl (or_move (s_13.trans e211_13))
        refine steps_cons (fun own a wx hf hsl hE => ?_) ?_
        · obtain ⟨(f_53 : a.eval (.tmp 53) = .int .i64 i175), -⟩ := hf
          exact sg_plain rfl rfl (or_add f_53 rfl rfl)
        refine steps_cons (fun own a wx hf hsl hE => ?_) ?_
        · obtain ⟨(f_54 : a.eval (.tmp 54) = .int .i64 (ad i175 1)), -⟩ := hf
          exact sg_plain rfl rfl (or_assign f_54)
        exact steps_nil
      intro own214 a214 w214 hd214 hz214 hk214 hf214 hE214
      have e214_0 : a214.eval (.tmp 0) = .int .i64 z1 := (hk214 0 rfl).trans e211_0
      have e214_7 : a214.eval (.tmp 7) = .pointer (some ⟨g128, 0, none⟩) := (hk214 7 rfl).trans e211_7
      have e214_10 : a214.eval (.tmp 10) = .pointer (some ⟨g136, 0, none⟩) := (hk214 10 rfl).trans e211_10
      have e214_11 : a214.eval (.tmp 11) = .bool r135.2 := (hk214 11 rfl).trans e211_11
      have e214_12 : a214.eval (.tmp 12) = .slice A141 r140.length cA141 := (hk214 12 rfl).trans e211_12
      obtain ⟨(f_13 : a214.eval (.tmp 13) = .int .i64 (ad i175 1)), -⟩ := hf214 [2] rfl
      have e214_13 := f_13
      have hX214 := Evo.step hX211 (fun _ => Nat.le_refl 0) hE214 rfl
      have b214_g128 := BlkO.evo (by decide) hE214 b211_g128
      have b214_g136 := BlkO.evo (by decide) hE214 b211_g136
      have b214_A141 := RwO.evo rfl hE214 b211_A141
      exact hn195 _ _ _ hs ⟨own214, hd214, hz214, e214_0, e214_7, e214_10, e214_11, e214_12, e214_13, hX214, b214_g128, b214_g136, b214_A141⟩
    refine fl_exit ?_
    refine hp197 _ _ _ rfl ?_
    replace hs := hz195 _ hs
    refine hp195 _ _ _ rfl ?_
    refine hx155 _ _ ?_
    refine hn153 _ _ ?_
    obtain ⟨r215, hr215, hs⟩ := obind hs
    refine rg_plain_seq (n := 167) (rs := []) (own0 := own199) (K := [217])
        (bs := [0, 1, 3, 7, 7, 0, 47, 127])
        (ds := [⟨[], [7], [], Fct.val 103 (.agg #[.int .i64 t4.1, .int .i64 t4.2.1, .int .i64 t4.2.2])⟩,
        ⟨[0], [], [], Fct.val 104 (.tuple #[.agg #[.int .i64 r215.1.1, .int .i64 r215.1.2.1, .int .i64 r215.1.2.2], .bool r215.2])⟩,
        ⟨[1], [], [], Fct.val 102 (.tuple #[.agg #[.int .i64 r215.1.1, .int .i64 r215.1.2.1, .int .i64 r215.1.2.2], .bool r215.2])⟩,
        ⟨[2], [], [], Fct.val 105 (.agg #[.int .i64 r215.1.1, .int .i64 r215.1.2.1, .int .i64 r215.1.2.2])⟩,
        ⟨[2], [], [], Fct.val 106 (.bool r215.2)⟩,
        ⟨[], [], [], Fct.blk 217 14 (fun g => .pointer (some ⟨g, 0, none⟩)) 27 #[.int .i64 0, .int .i64 0, .int .i64 0]⟩,
        ⟨[5, 3], [], [217], Fct.blk 218 14 (fun g => .pointer (some ⟨g, 0, none⟩)) 27 #[.int .i64 r215.1.1, .int .i64 r215.1.2.1, .int .i64 r215.1.2.2]⟩,
        ⟨[4], [], [], Fct.val 15 (.bool r215.2)⟩]) (by kernel_rfl) hz199 hd199 (fun _ h => nomatch h) ?_ ?_
    · refine steps_cons (fun own a wx hf hsl hE => ?_) ?_
      · obtain ⟨s_7, -⟩ := hsl
        exact sg_plain rfl rfl (or_load (l := [.int .i64 t4.1, .int .i64 t4.2.1, .int .i64 t4.2.2]) ta27 (s_7.trans e199_7) (Blk.cellsFrom (BlkO.evo (by decide) hE b199_g128).2 0 rfl) rfl)
      refine steps_cons (fun own a wx hf hsl hE => ?_) ?_
      · obtain ⟨(f_103 : a.eval (.tmp 103) = .agg #[.int .i64 t4.1, .int .i64 t4.2.1, .int .i64 t4.2.2]), -⟩ := hf
        exact sg_plain rfl rfl (or_call cf17 (args1 f_103) (window_Parent_w _ t4  r215 hr215) post_val)
      refine steps_cons (fun own a wx hf hsl hE => ?_) ?_
      · obtain ⟨(f_104 : a.eval (.tmp 104) = .tuple #[.agg #[.int .i64 r215.1.1, .int .i64 r215.1.2.1, .int .i64 r215.1.2.2], .bool r215.2]), -⟩ := hf
        exact sg_plain rfl rfl (or_move f_104)
      refine steps_cons (fun own a wx hf hsl hE => ?_) ?_
      · obtain ⟨(f_102 : a.eval (.tmp 102) = .tuple #[.agg #[.int .i64 r215.1.1, .int .i64 r215.1.2.1, .int .i64 r215.1.2.2], .bool r215.2]), -⟩ := hf
        exact sg_plain rfl rfl (or_k [(102, .tuple #[.agg #[.int .i64 r215.1.1, .int .i64 r215.1.2.1, .int .i64 r215.1.2.2], .bool r215.2])] rfl rfl ⟨f_102, trivial⟩ (by kernel_rfl))
      refine steps_cons (fun own a wx hf hsl hE => ?_) ?_
      · obtain ⟨(f_102 : a.eval (.tmp 102) = .tuple #[.agg #[.int .i64 r215.1.1, .int .i64 r215.1.2.1, .int .i64 r215.1.2.2], .bool r215.2]), -⟩ := hf
        exact sg_plain rfl rfl (or_k [(102, .tuple #[.agg #[.int .i64 r215.1.1, .int .i64 r215.1.2.1, .int .i64 r215.1.2.2], .bool r215.2])] rfl rfl ⟨f_102, trivial⟩ (by kernel_rfl))
      refine steps_cons (fun own a wx hf hsl hE => ?_) ?_
      · exact sg_plain rfl rfl (or_new [] rfl rfl trivial (by kernel_rfl))
      refine steps_cons (fun own a wx hf hsl hE => ?_) ?_
      · obtain ⟨⟨g216, (f_14 : a.eval (.tmp 14) = .pointer (some ⟨g216, 0, none⟩)), (b_g216 : BlkO own 217 wx g216 27 #[.int .i64 0, .int .i64 0, .int .i64 0])⟩, (f_105 : a.eval (.tmp 105) = .agg #[.int .i64 r215.1.1, .int .i64 r215.1.2.1, .int .i64 r215.1.2.2]), -⟩ := hf
        exact sg_plain rfl rfl (or_store (l := #[.int .i64 r215.1.1, .int .i64 r215.1.2.1, .int .i64 r215.1.2.2]) (lab := 217) (lab2 := 218) ts27 f_14 f_105 b_g216 (by simp) (by kernel_rfl) (mem_of rfl) (by decide) (by kernel_rfl) (fun own' a' w' ha hb => ⟨_, (ha 14).trans f_14, hb⟩))
      refine steps_cons (fun own a wx hf hsl hE => ?_) ?_
      · obtain ⟨(f_106 : a.eval (.tmp 106) = .bool r215.2), -⟩ := hf
        exact sg_plain rfl rfl (or_assign f_106)
      exact steps_nil
    intro own219 a219 w219 hd219 hz219 hk219 hf219 hE219
    have e219_7 : a219.eval (.tmp 7) = .pointer (some ⟨g128, 0, none⟩) := (hk219 7 rfl).trans e199_7
    obtain ⟨⟨g216, (f_14 : a219.eval (.tmp 14) = .pointer (some ⟨g216, 0, none⟩)), (b_g216 : BlkO own219 218 w219 g216 27 #[.int .i64 r215.1.1, .int .i64 r215.1.2.1, .int .i64 r215.1.2.2])⟩, (f_15 : a219.eval (.tmp 15) = .bool r215.2), -⟩ := hf219 [6, 7] rfl
    have e219_14 := f_14
    have e219_15 := f_15
    have hX219 := Evo.step hX199 (fun _ => Nat.le_refl 0) hE219 rfl
    have b219_g128 := BlkO.evo (by decide) hE219 b199_g128
    have b219_g216 := b_g216
    refine fl_seq (fun Q220 hn220 hp220 => ?_)
    refine rg_plain_seq (n := 167) (rs := []) (own0 := own219) (K := [])
        (bs := [0, 1])
        (ds := [⟨[], [15], [], Fct.val 107 (.bool r215.2)⟩,
        ⟨[0], [], [], Fct.val 108 (.bool (!r215.2))⟩]) (by kernel_rfl) hz219 hd219 (fun _ h => nomatch h) ?_ ?_
    · refine steps_cons (fun own a wx hf hsl hE => ?_) ?_
      · obtain ⟨s_15, -⟩ := hsl
        exact sg_plain rfl rfl (or_move (s_15.trans e219_15))
      refine steps_cons (fun own a wx hf hsl hE => ?_) ?_
      · obtain ⟨(f_107 : a.eval (.tmp 107) = .bool r215.2), -⟩ := hf
        exact sg_plain rfl rfl (or_not f_107 rfl)
      exact steps_nil
    intro own221 a221 w221 hd221 hz221 hk221 hf221 hE221
    have e221_7 : a221.eval (.tmp 7) = .pointer (some ⟨g128, 0, none⟩) := (hk221 7 rfl).trans e219_7
    have e221_14 : a221.eval (.tmp 14) = .pointer (some ⟨g216, 0, none⟩) := (hk221 14 rfl).trans e219_14
    obtain ⟨(f_108 : a221.eval (.tmp 108) = .bool (!r215.2)), -⟩ := hf221 [1] rfl
    have e221_108 := f_108
    have hX221 := Evo.step hX219 (fun _ => Nat.le_refl 0) hE221 rfl
    have b221_g128 := BlkO.evo (by decide) hE221 b219_g128
    have b221_g216 := BlkO.evo (by decide) hE221 b219_g216
    refine fl_cond e221_108 hs (fun c222 hs => ?_) (fun c222 hs => ?_)
    · obtain ⟨r223, hr223, hs⟩ := obind hs
      refine rg_plain_seq (n := 167) (rs := []) (own0 := own221) (K := [])
          (bs := [0, 1])
          (ds := [⟨[], [], [], Fct.val 109 (.bool r223)⟩,
          ⟨[0], [], [], Fct.val 8 (.bool r223)⟩]) (by kernel_rfl) hz221 hd221 (fun _ h => nomatch h) ?_ ?_
      · refine steps_cons (fun own a wx hf hsl hE => ?_) ?_
        · exact sg_plain rfl rfl (or_call cf15 (args0) (law20_known_w _   r223 hr223) post_val)
        refine steps_cons (fun own a wx hf hsl hE => ?_) ?_
        · obtain ⟨(f_109 : a.eval (.tmp 109) = .bool r223), -⟩ := hf
          exact sg_plain rfl rfl (or_assign f_109)
        exact steps_nil
      intro own224 a224 w224 hd224 hz224 hk224 hf224 hE224
      obtain ⟨(f_8 : a224.eval (.tmp 8) = .bool r223), -⟩ := hf224 [1] rfl
      have e224_8 := f_8
      have hX224 := Evo.step hX221 (fun _ => Nat.le_refl 0) hE224 rfl
      refine fl_ret ?_
      refine hp220 _ _ _ rfl ?_
      obtain rfl := (osome hs).symm
      exact hret _ _ _ _ (.inl rfl) hd224 (results1_ rfl (RVal.tmp_ e224_8)) ⟨own224, rfl, hX224⟩
    refine fl_skip ?_
    refine hn220 _ _ ?_
    obtain ⟨r225, hr225, hs⟩ := obind hs
    refine rg_plain_seq (n := 167) (rs := []) (own0 := own221) (K := [227])
        (bs := [0, 1, 3, 7, 7, 0, 47, 127])
        (ds := [⟨[], [14], [], Fct.val 111 (.agg #[.int .i64 r215.1.1, .int .i64 r215.1.2.1, .int .i64 r215.1.2.2])⟩,
        ⟨[0], [], [], Fct.val 112 (.tuple #[.agg #[.int .i64 r225.1.1.1, .int .i64 r225.1.1.2, .int .i64 r225.1.2.1, .int .i64 r225.1.2.2], .bool r225.2])⟩,
        ⟨[1], [], [], Fct.val 110 (.tuple #[.agg #[.int .i64 r225.1.1.1, .int .i64 r225.1.1.2, .int .i64 r225.1.2.1, .int .i64 r225.1.2.2], .bool r225.2])⟩,
        ⟨[2], [], [], Fct.val 113 (.agg #[.int .i64 r225.1.1.1, .int .i64 r225.1.1.2, .int .i64 r225.1.2.1, .int .i64 r225.1.2.2])⟩,
        ⟨[2], [], [], Fct.val 114 (.bool r225.2)⟩,
        ⟨[], [], [], Fct.blk 227 16 (fun g => .pointer (some ⟨g, 0, none⟩)) 25 #[.int .i64 0, .int .i64 0, .int .i64 0, .int .i64 0]⟩,
        ⟨[5, 3], [], [227], Fct.blk 228 16 (fun g => .pointer (some ⟨g, 0, none⟩)) 25 #[.int .i64 r225.1.1.1, .int .i64 r225.1.1.2, .int .i64 r225.1.2.1, .int .i64 r225.1.2.2]⟩,
        ⟨[4], [], [], Fct.val 17 (.bool r225.2)⟩]) (by kernel_rfl) hz221 hd221 (fun _ h => nomatch h) ?_ ?_
    · refine steps_cons (fun own a wx hf hsl hE => ?_) ?_
      · obtain ⟨s_14, -⟩ := hsl
        exact sg_plain rfl rfl (or_load (l := [.int .i64 r215.1.1, .int .i64 r215.1.2.1, .int .i64 r215.1.2.2]) ta27 (s_14.trans e221_14) (Blk.cellsFrom (BlkO.evo (by decide) hE b221_g216).2 0 rfl) rfl)
      refine steps_cons (fun own a wx hf hsl hE => ?_) ?_
      · obtain ⟨(f_111 : a.eval (.tmp 111) = .agg #[.int .i64 r215.1.1, .int .i64 r215.1.2.1, .int .i64 r215.1.2.2]), -⟩ := hf
        exact sg_plain rfl rfl (or_call cf18 (args1 f_111) (window_Place_w _ r215.1  r225 hr225) post_val)
      refine steps_cons (fun own a wx hf hsl hE => ?_) ?_
      · obtain ⟨(f_112 : a.eval (.tmp 112) = .tuple #[.agg #[.int .i64 r225.1.1.1, .int .i64 r225.1.1.2, .int .i64 r225.1.2.1, .int .i64 r225.1.2.2], .bool r225.2]), -⟩ := hf
        exact sg_plain rfl rfl (or_move f_112)
      refine steps_cons (fun own a wx hf hsl hE => ?_) ?_
      · obtain ⟨(f_110 : a.eval (.tmp 110) = .tuple #[.agg #[.int .i64 r225.1.1.1, .int .i64 r225.1.1.2, .int .i64 r225.1.2.1, .int .i64 r225.1.2.2], .bool r225.2]), -⟩ := hf
        exact sg_plain rfl rfl (or_k [(110, .tuple #[.agg #[.int .i64 r225.1.1.1, .int .i64 r225.1.1.2, .int .i64 r225.1.2.1, .int .i64 r225.1.2.2], .bool r225.2])] rfl rfl ⟨f_110, trivial⟩ (by kernel_rfl))
      refine steps_cons (fun own a wx hf hsl hE => ?_) ?_
      · obtain ⟨(f_110 : a.eval (.tmp 110) = .tuple #[.agg #[.int .i64 r225.1.1.1, .int .i64 r225.1.1.2, .int .i64 r225.1.2.1, .int .i64 r225.1.2.2], .bool r225.2]), -⟩ := hf
        exact sg_plain rfl rfl (or_k [(110, .tuple #[.agg #[.int .i64 r225.1.1.1, .int .i64 r225.1.1.2, .int .i64 r225.1.2.1, .int .i64 r225.1.2.2], .bool r225.2])] rfl rfl ⟨f_110, trivial⟩ (by kernel_rfl))
      refine steps_cons (fun own a wx hf hsl hE => ?_) ?_
      · exact sg_plain rfl rfl (or_new [] rfl rfl trivial (by kernel_rfl))
      refine steps_cons (fun own a wx hf hsl hE => ?_) ?_
      · obtain ⟨⟨g226, (f_16 : a.eval (.tmp 16) = .pointer (some ⟨g226, 0, none⟩)), (b_g226 : BlkO own 227 wx g226 25 #[.int .i64 0, .int .i64 0, .int .i64 0, .int .i64 0])⟩, (f_113 : a.eval (.tmp 113) = .agg #[.int .i64 r225.1.1.1, .int .i64 r225.1.1.2, .int .i64 r225.1.2.1, .int .i64 r225.1.2.2]), -⟩ := hf
        exact sg_plain rfl rfl (or_store (l := #[.int .i64 r225.1.1.1, .int .i64 r225.1.1.2, .int .i64 r225.1.2.1, .int .i64 r225.1.2.2]) (lab := 227) (lab2 := 228) ts25 f_16 f_113 b_g226 (by simp) (by kernel_rfl) (mem_of rfl) (by decide) (by kernel_rfl) (fun own' a' w' ha hb => ⟨_, (ha 16).trans f_16, hb⟩))
      refine steps_cons (fun own a wx hf hsl hE => ?_) ?_
      · obtain ⟨(f_114 : a.eval (.tmp 114) = .bool r225.2), -⟩ := hf
        exact sg_plain rfl rfl (or_assign f_114)
      exact steps_nil
    intro own229 a229 w229 hd229 hz229 hk229 hf229 hE229
    have e229_7 : a229.eval (.tmp 7) = .pointer (some ⟨g128, 0, none⟩) := (hk229 7 rfl).trans e221_7
    obtain ⟨⟨g226, (f_16 : a229.eval (.tmp 16) = .pointer (some ⟨g226, 0, none⟩)), (b_g226 : BlkO own229 228 w229 g226 25 #[.int .i64 r225.1.1.1, .int .i64 r225.1.1.2, .int .i64 r225.1.2.1, .int .i64 r225.1.2.2])⟩, (f_17 : a229.eval (.tmp 17) = .bool r225.2), -⟩ := hf229 [6, 7] rfl
    have e229_16 := f_16
    have e229_17 := f_17
    have hX229 := Evo.step hX221 (fun _ => Nat.le_refl 0) hE229 rfl
    have b229_g128 := BlkO.evo (by decide) hE229 b221_g128
    have b229_g226 := b_g226
    obtain ⟨r230, hr230, hs⟩ := obind hs
    refine rg_plain_seq (n := 167) (rs := []) (own0 := own229) (K := [232])
        (bs := [0, 1, 3, 7, 7, 0, 47, 127])
        (ds := [⟨[], [7], [], Fct.val 116 (.agg #[.int .i64 t4.1, .int .i64 t4.2.1, .int .i64 t4.2.2])⟩,
        ⟨[0], [], [], Fct.val 117 (.tuple #[.agg #[.int .i64 r230.1.1.1, .int .i64 r230.1.1.2, .int .i64 r230.1.2.1, .int .i64 r230.1.2.2], .bool r230.2])⟩,
        ⟨[1], [], [], Fct.val 115 (.tuple #[.agg #[.int .i64 r230.1.1.1, .int .i64 r230.1.1.2, .int .i64 r230.1.2.1, .int .i64 r230.1.2.2], .bool r230.2])⟩,
        ⟨[2], [], [], Fct.val 118 (.agg #[.int .i64 r230.1.1.1, .int .i64 r230.1.1.2, .int .i64 r230.1.2.1, .int .i64 r230.1.2.2])⟩,
        ⟨[2], [], [], Fct.val 119 (.bool r230.2)⟩,
        ⟨[], [], [], Fct.blk 232 18 (fun g => .pointer (some ⟨g, 0, none⟩)) 25 #[.int .i64 0, .int .i64 0, .int .i64 0, .int .i64 0]⟩,
        ⟨[5, 3], [], [232], Fct.blk 233 18 (fun g => .pointer (some ⟨g, 0, none⟩)) 25 #[.int .i64 r230.1.1.1, .int .i64 r230.1.1.2, .int .i64 r230.1.2.1, .int .i64 r230.1.2.2]⟩,
        ⟨[4], [], [], Fct.val 19 (.bool r230.2)⟩]) (by kernel_rfl) hz229 hd229 (fun _ h => nomatch h) ?_ ?_
    · refine steps_cons (fun own a wx hf hsl hE => ?_) ?_
      · obtain ⟨s_7, -⟩ := hsl
        exact sg_plain rfl rfl (or_load (l := [.int .i64 t4.1, .int .i64 t4.2.1, .int .i64 t4.2.2]) ta27 (s_7.trans e229_7) (Blk.cellsFrom (BlkO.evo (by decide) hE b229_g128).2 0 rfl) rfl)
      refine steps_cons (fun own a wx hf hsl hE => ?_) ?_
      · obtain ⟨(f_116 : a.eval (.tmp 116) = .agg #[.int .i64 t4.1, .int .i64 t4.2.1, .int .i64 t4.2.2]), -⟩ := hf
        exact sg_plain rfl rfl (or_call cf18 (args1 f_116) (window_Place_w _ t4  r230 hr230) post_val)
      refine steps_cons (fun own a wx hf hsl hE => ?_) ?_
      · obtain ⟨(f_117 : a.eval (.tmp 117) = .tuple #[.agg #[.int .i64 r230.1.1.1, .int .i64 r230.1.1.2, .int .i64 r230.1.2.1, .int .i64 r230.1.2.2], .bool r230.2]), -⟩ := hf
        exact sg_plain rfl rfl (or_move f_117)
      refine steps_cons (fun own a wx hf hsl hE => ?_) ?_
      · obtain ⟨(f_115 : a.eval (.tmp 115) = .tuple #[.agg #[.int .i64 r230.1.1.1, .int .i64 r230.1.1.2, .int .i64 r230.1.2.1, .int .i64 r230.1.2.2], .bool r230.2]), -⟩ := hf
        exact sg_plain rfl rfl (or_k [(115, .tuple #[.agg #[.int .i64 r230.1.1.1, .int .i64 r230.1.1.2, .int .i64 r230.1.2.1, .int .i64 r230.1.2.2], .bool r230.2])] rfl rfl ⟨f_115, trivial⟩ (by kernel_rfl))
      refine steps_cons (fun own a wx hf hsl hE => ?_) ?_
      · obtain ⟨(f_115 : a.eval (.tmp 115) = .tuple #[.agg #[.int .i64 r230.1.1.1, .int .i64 r230.1.1.2, .int .i64 r230.1.2.1, .int .i64 r230.1.2.2], .bool r230.2]), -⟩ := hf
        exact sg_plain rfl rfl (or_k [(115, .tuple #[.agg #[.int .i64 r230.1.1.1, .int .i64 r230.1.1.2, .int .i64 r230.1.2.1, .int .i64 r230.1.2.2], .bool r230.2])] rfl rfl ⟨f_115, trivial⟩ (by kernel_rfl))
      refine steps_cons (fun own a wx hf hsl hE => ?_) ?_
      · exact sg_plain rfl rfl (or_new [] rfl rfl trivial (by kernel_rfl))
      refine steps_cons (fun own a wx hf hsl hE => ?_) ?_
      · obtain ⟨⟨g231, (f_18 : a.eval (.tmp 18) = .pointer (some ⟨g231, 0, none⟩)), (b_g231 : BlkO own 232 wx g231 25 #[.int .i64 0, .int .i64 0, .int .i64 0, .int .i64 0])⟩, (f_118 : a.eval (.tmp 118) = .agg #[.int .i64 r230.1.1.1, .int .i64 r230.1.1.2, .int .i64 r230.1.2.1, .int .i64 r230.1.2.2]), -⟩ := hf
        exact sg_plain rfl rfl (or_store (l := #[.int .i64 r230.1.1.1, .int .i64 r230.1.1.2, .int .i64 r230.1.2.1, .int .i64 r230.1.2.2]) (lab := 232) (lab2 := 233) ts25 f_18 f_118 b_g231 (by simp) (by kernel_rfl) (mem_of rfl) (by decide) (by kernel_rfl) (fun own' a' w' ha hb => ⟨_, (ha 18).trans f_18, hb⟩))
      refine steps_cons (fun own a wx hf hsl hE => ?_) ?_
      · obtain ⟨(f_119 : a.eval (.tmp 119) = .bool r230.2), -⟩ := hf
        exact sg_plain rfl rfl (or_assign f_119)
      exact steps_nil
    intro own234 a234 w234 hd234 hz234 hk234 hf234 hE234
    have e234_16 : a234.eval (.tmp 16) = .pointer (some ⟨g226, 0, none⟩) := (hk234 16 rfl).trans e229_16
    have e234_17 : a234.eval (.tmp 17) = .bool r225.2 := (hk234 17 rfl).trans e229_17
    obtain ⟨⟨g231, (f_18 : a234.eval (.tmp 18) = .pointer (some ⟨g231, 0, none⟩)), (b_g231 : BlkO own234 233 w234 g231 25 #[.int .i64 r230.1.1.1, .int .i64 r230.1.1.2, .int .i64 r230.1.2.1, .int .i64 r230.1.2.2])⟩, (f_19 : a234.eval (.tmp 19) = .bool r230.2), -⟩ := hf234 [6, 7] rfl
    have e234_18 := f_18
    have e234_19 := f_19
    have hX234 := Evo.step hX229 (fun _ => Nat.le_refl 0) hE234 rfl
    have b234_g226 := BlkO.evo (by decide) hE234 b229_g226
    have b234_g231 := b_g231
    obtain ⟨r235, hr235, hs⟩ := obind hs
    obtain ⟨x236, hx236, hs⟩ := obind hs
    obtain ⟨x237, hx237, hs⟩ := obind hs
    obtain ⟨x238, hx238, hs⟩ := obind hs
    obtain ⟨x239, hx239, hs⟩ := obind hs
    refine rg_plain_seq (n := 167) (rs := []) (own0 := own234) (K := [])
        (bs := [0, 1, 3, 7, 15, 31, 63, 127, 255, 511, 1023, 2047, 255, 4351, 12543, 32767, 65535, 131071, 262143, 524287, 1048575, 2097151, 262143, 4456447, 12845055, 33554431, 67108863, 134217727, 268435455, 536870911, 1073741823, 2147483647, 268435455, 4563402751, 13153337343, 34359738367, 68719476735, 137438953471, 274877906943, 549755813887, 1099511627775, 2199023255551, 274877906943, 4672924418047, 13469017440255, 35184372088831, 70368744177663, 140737488355327])
        (ds := [⟨[], [], [], Fct.val 120 (.bool r235)⟩,
        ⟨[0], [], [], Fct.val 121 (.bool r235)⟩,
        ⟨[1], [17], [], Fct.cond r235 (some 122) (Fct.val 122 (.bool r225.2))⟩,
        ⟨[1, 2], [], [], Fct.val 123 (.bool (r235 && r225.2))⟩,
        ⟨[3], [], [], Fct.val 124 (.bool (r235 && r225.2))⟩,
        ⟨[4], [19], [], Fct.cond (r235 && r225.2) (some 125) (Fct.val 125 (.bool r230.2))⟩,
        ⟨[4, 5], [], [], Fct.val 126 (.bool ((r235 && r225.2) && r230.2))⟩,
        ⟨[6], [], [], Fct.val 127 (.bool ((r235 && r225.2) && r230.2))⟩,
        ⟨[7], [16], [], Fct.cond ((r235 && r225.2) && r230.2) (some 128) (Fct.val 128 (.pointer (some ⟨g226, 0, none⟩)))⟩,
        ⟨[7, 8], [], [], Fct.cond ((r235 && r225.2) && r230.2) (some 129) (Fct.val 129 (.pointer (some ⟨g226, 0, none⟩)))⟩,
        ⟨[7, 9], [], [], Fct.cond ((r235 && r225.2) && r230.2) (some 130) (Fct.val 130 (.int .i64 r225.1.1.1))⟩,
        ⟨[7, 10], [], [], Fct.cond ((r235 && r225.2) && r230.2) (some 131) (Fct.val 131 (.int .i64 (ml 2 r225.1.1.1)))⟩,
        ⟨[7], [18], [], Fct.cond ((r235 && r225.2) && r230.2) (some 132) (Fct.val 132 (.pointer (some ⟨g231, 0, none⟩)))⟩,
        ⟨[7, 12], [], [], Fct.cond ((r235 && r225.2) && r230.2) (some 133) (Fct.val 133 (.pointer (some ⟨g231, 0, none⟩)))⟩,
        ⟨[7, 13], [], [], Fct.cond ((r235 && r225.2) && r230.2) (some 134) (Fct.val 134 (.int .i64 r230.1.1.1))⟩,
        ⟨[7, 11, 14], [], [], Fct.cond ((r235 && r225.2) && r230.2) (some 135) (Fct.val 135 (.bool (decide ((ml 2 r225.1.1.1) ≤ r230.1.1.1))))⟩,
        ⟨[7, 15], [], [], Fct.val 136 (.bool x236)⟩,
        ⟨[16], [], [], Fct.val 137 (.bool x236)⟩,
        ⟨[17], [16], [], Fct.cond x236 (some 138) (Fct.val 138 (.pointer (some ⟨g226, 2, none⟩)))⟩,
        ⟨[17, 18], [], [], Fct.cond x236 (some 139) (Fct.val 139 (.pointer (some ⟨g226, 2, none⟩)))⟩,
        ⟨[17, 19], [], [], Fct.cond x236 (some 140) (Fct.val 140 (.int .i64 r225.1.2.1))⟩,
        ⟨[17, 20], [], [], Fct.cond x236 (some 141) (Fct.val 141 (.int .i64 (ml 2 r225.1.2.1)))⟩,
        ⟨[17], [18], [], Fct.cond x236 (some 142) (Fct.val 142 (.pointer (some ⟨g231, 2, none⟩)))⟩,
        ⟨[17, 22], [], [], Fct.cond x236 (some 143) (Fct.val 143 (.pointer (some ⟨g231, 2, none⟩)))⟩,
        ⟨[17, 23], [], [], Fct.cond x236 (some 144) (Fct.val 144 (.int .i64 r230.1.2.1))⟩,
        ⟨[17, 21, 24], [], [], Fct.cond x236 (some 145) (Fct.val 145 (.bool (decide (r230.1.2.1 ≤ (ml 2 r225.1.2.1)))))⟩,
        ⟨[17, 25], [], [], Fct.val 146 (.bool x237)⟩,
        ⟨[26], [], [], Fct.val 147 (.bool x237)⟩,
        ⟨[27], [16], [], Fct.cond x237 (some 148) (Fct.val 148 (.pointer (some ⟨g226, 0, none⟩)))⟩,
        ⟨[27, 28], [], [], Fct.cond x237 (some 149) (Fct.val 149 (.pointer (some ⟨g226, 1, none⟩)))⟩,
        ⟨[27, 29], [], [], Fct.cond x237 (some 150) (Fct.val 150 (.int .i64 r225.1.1.2))⟩,
        ⟨[27, 30], [], [], Fct.cond x237 (some 151) (Fct.val 151 (.int .i64 (ml 2 r225.1.1.2)))⟩,
        ⟨[27], [18], [], Fct.cond x237 (some 152) (Fct.val 152 (.pointer (some ⟨g231, 0, none⟩)))⟩,
        ⟨[27, 32], [], [], Fct.cond x237 (some 153) (Fct.val 153 (.pointer (some ⟨g231, 1, none⟩)))⟩,
        ⟨[27, 33], [], [], Fct.cond x237 (some 154) (Fct.val 154 (.int .i64 r230.1.1.2))⟩,
        ⟨[27, 31, 34], [], [], Fct.cond x237 (some 155) (Fct.val 155 (.bool (decide ((ml 2 r225.1.1.2) ≤ r230.1.1.2))))⟩,
        ⟨[27, 35], [], [], Fct.val 156 (.bool x238)⟩,
        ⟨[36], [], [], Fct.val 157 (.bool x238)⟩,
        ⟨[37], [16], [], Fct.cond x238 (some 158) (Fct.val 158 (.pointer (some ⟨g226, 2, none⟩)))⟩,
        ⟨[37, 38], [], [], Fct.cond x238 (some 159) (Fct.val 159 (.pointer (some ⟨g226, 3, none⟩)))⟩,
        ⟨[37, 39], [], [], Fct.cond x238 (some 160) (Fct.val 160 (.int .i64 r225.1.2.2))⟩,
        ⟨[37, 40], [], [], Fct.cond x238 (some 161) (Fct.val 161 (.int .i64 (ml 2 r225.1.2.2)))⟩,
        ⟨[37], [18], [], Fct.cond x238 (some 162) (Fct.val 162 (.pointer (some ⟨g231, 2, none⟩)))⟩,
        ⟨[37, 42], [], [], Fct.cond x238 (some 163) (Fct.val 163 (.pointer (some ⟨g231, 3, none⟩)))⟩,
        ⟨[37, 43], [], [], Fct.cond x238 (some 164) (Fct.val 164 (.int .i64 r230.1.2.2))⟩,
        ⟨[37, 41, 44], [], [], Fct.cond x238 (some 165) (Fct.val 165 (.bool (decide (r230.1.2.2 ≤ (ml 2 r225.1.2.2)))))⟩,
        ⟨[37, 45], [], [], Fct.val 166 (.bool x239)⟩,
        ⟨[46], [], [], Fct.val 8 (.bool x239)⟩]) (by kernel_rfl) hz234 hd234 (fun _ h => nomatch h) ?_ ?_
    · refine steps_cons (fun own a wx hf hsl hE => ?_) ?_
      · exact sg_plain rfl rfl (or_call cf15 (args0) (law20_known_w _   r235 hr235) post_val)
      refine steps_cons (fun own a wx hf hsl hE => ?_) ?_
      · obtain ⟨(f_120 : a.eval (.tmp 120) = .bool r235), -⟩ := hf
        exact sg_plain rfl rfl (or_move f_120)
      refine steps_cons (fun own a wx hf hsl hE => ?_) ?_
      · obtain ⟨(f_121 : a.eval (.tmp 121) = .bool r235), -⟩ := hf
        obtain ⟨s_17, -⟩ := hsl
        refine sg_t rfl rfl rfl f_121 (fun hg => ?_)
        exact or_move (s_17.trans e234_17)
      refine steps_cons (fun own a wx hf hsl hE => ?_) ?_
      · obtain ⟨(f_121 : a.eval (.tmp 121) = .bool r235), c_122, -⟩ := hf
        exact sg_plain rfl rfl (or_and f_121 (fun hx => c_122.1 hx) rfl rfl)
      refine steps_cons (fun own a wx hf hsl hE => ?_) ?_
      · obtain ⟨(f_123 : a.eval (.tmp 123) = .bool (r235 && r225.2)), -⟩ := hf
        exact sg_plain rfl rfl (or_move f_123)
      refine steps_cons (fun own a wx hf hsl hE => ?_) ?_
      · obtain ⟨(f_124 : a.eval (.tmp 124) = .bool (r235 && r225.2)), -⟩ := hf
        obtain ⟨s_19, -⟩ := hsl
        refine sg_t rfl rfl rfl f_124 (fun hg => ?_)
        exact or_move (s_19.trans e234_19)
      refine steps_cons (fun own a wx hf hsl hE => ?_) ?_
      · obtain ⟨(f_124 : a.eval (.tmp 124) = .bool (r235 && r225.2)), c_125, -⟩ := hf
        exact sg_plain rfl rfl (or_and f_124 (fun hx => c_125.1 hx) rfl rfl)
      refine steps_cons (fun own a wx hf hsl hE => ?_) ?_
      · obtain ⟨(f_126 : a.eval (.tmp 126) = .bool ((r235 && r225.2) && r230.2)), -⟩ := hf
        exact sg_plain rfl rfl (or_move f_126)
      refine steps_cons (fun own a wx hf hsl hE => ?_) ?_
      · obtain ⟨(f_127 : a.eval (.tmp 127) = .bool ((r235 && r225.2) && r230.2)), -⟩ := hf
        obtain ⟨s_16, -⟩ := hsl
        refine sg_t rfl rfl rfl f_127 (fun hg => ?_)
        exact or_field fo25_0 (s_16.trans e234_16) (by rfl)
      refine steps_cons (fun own a wx hf hsl hE => ?_) ?_
      · obtain ⟨(f_127 : a.eval (.tmp 127) = .bool ((r235 && r225.2) && r230.2)), c_128, -⟩ := hf
        refine sg_t rfl rfl rfl f_127 (fun hg => ?_)
        have f_128 : a.eval (.tmp 128) = .pointer (some ⟨g226, 0, none⟩) := c_128.1 hg
        exact or_field fo23_0 f_128 (by rfl)
      refine steps_cons (fun own a wx hf hsl hE => ?_) ?_
      · obtain ⟨(f_127 : a.eval (.tmp 127) = .bool ((r235 && r225.2) && r230.2)), c_129, -⟩ := hf
        refine sg_t rfl rfl rfl f_127 (fun hg => ?_)
        have f_129 : a.eval (.tmp 129) = .pointer (some ⟨g226, 0, none⟩) := c_129.1 hg
        exact or_load1 to3 f_129 (Blk.at_ (BlkO.evo (by decide) hE b234_g226).2 0 rfl)
      refine steps_cons (fun own a wx hf hsl hE => ?_) ?_
      · obtain ⟨(f_127 : a.eval (.tmp 127) = .bool ((r235 && r225.2) && r230.2)), c_130, -⟩ := hf
        refine sg_t rfl rfl rfl f_127 (fun hg => ?_)
        have f_130 : a.eval (.tmp 130) = .int .i64 r225.1.1.1 := c_130.1 hg
        exact or_mul rfl f_130 rfl
      refine steps_cons (fun own a wx hf hsl hE => ?_) ?_
      · obtain ⟨(f_127 : a.eval (.tmp 127) = .bool ((r235 && r225.2) && r230.2)), -⟩ := hf
        obtain ⟨s_18, -⟩ := hsl
        refine sg_t rfl rfl rfl f_127 (fun hg => ?_)
        exact or_field fo25_0 (s_18.trans e234_18) (by rfl)
      refine steps_cons (fun own a wx hf hsl hE => ?_) ?_
      · obtain ⟨(f_127 : a.eval (.tmp 127) = .bool ((r235 && r225.2) && r230.2)), c_132, -⟩ := hf
        refine sg_t rfl rfl rfl f_127 (fun hg => ?_)
        have f_132 : a.eval (.tmp 132) = .pointer (some ⟨g231, 0, none⟩) := c_132.1 hg
        exact or_field fo23_0 f_132 (by rfl)
      refine steps_cons (fun own a wx hf hsl hE => ?_) ?_
      · obtain ⟨(f_127 : a.eval (.tmp 127) = .bool ((r235 && r225.2) && r230.2)), c_133, -⟩ := hf
        refine sg_t rfl rfl rfl f_127 (fun hg => ?_)
        have f_133 : a.eval (.tmp 133) = .pointer (some ⟨g231, 0, none⟩) := c_133.1 hg
        exact or_load1 to3 f_133 (Blk.at_ (BlkO.evo (by decide) hE b234_g231).2 0 rfl)
      refine steps_cons (fun own a wx hf hsl hE => ?_) ?_
      · obtain ⟨(f_127 : a.eval (.tmp 127) = .bool ((r235 && r225.2) && r230.2)), c_131, c_134, -⟩ := hf
        refine sg_t rfl rfl rfl f_127 (fun hg => ?_)
        have f_131 : a.eval (.tmp 131) = .int .i64 (ml 2 r225.1.1.1) := c_131.1 hg
        have f_134 : a.eval (.tmp 134) = .int .i64 r230.1.1.1 := c_134.1 hg
        exact or_leq f_131 f_134 rfl
      refine steps_cons (fun own a wx hf hsl hE => ?_) ?_
      · obtain ⟨(f_127 : a.eval (.tmp 127) = .bool ((r235 && r225.2) && r230.2)), c_135, -⟩ := hf
        exact sg_plain rfl rfl (or_and f_127 (fun hx => c_135.1 hx) rfl (osome hx236).symm)
      refine steps_cons (fun own a wx hf hsl hE => ?_) ?_
      · obtain ⟨(f_136 : a.eval (.tmp 136) = .bool x236), -⟩ := hf
        exact sg_plain rfl rfl (or_move f_136)
      refine steps_cons (fun own a wx hf hsl hE => ?_) ?_
      · obtain ⟨(f_137 : a.eval (.tmp 137) = .bool x236), -⟩ := hf
        obtain ⟨s_16, -⟩ := hsl
        refine sg_t rfl rfl rfl f_137 (fun hg => ?_)
        exact or_field fo25_1 (s_16.trans e234_16) (by rfl)
      refine steps_cons (fun own a wx hf hsl hE => ?_) ?_
      · obtain ⟨(f_137 : a.eval (.tmp 137) = .bool x236), c_138, -⟩ := hf
        refine sg_t rfl rfl rfl f_137 (fun hg => ?_)
        have f_138 : a.eval (.tmp 138) = .pointer (some ⟨g226, 2, none⟩) := c_138.1 hg
        exact or_field fo23_0 f_138 (by rfl)
      refine steps_cons (fun own a wx hf hsl hE => ?_) ?_
      · obtain ⟨(f_137 : a.eval (.tmp 137) = .bool x236), c_139, -⟩ := hf
        refine sg_t rfl rfl rfl f_137 (fun hg => ?_)
        have f_139 : a.eval (.tmp 139) = .pointer (some ⟨g226, 2, none⟩) := c_139.1 hg
        exact or_load1 to3 f_139 (Blk.at_ (BlkO.evo (by decide) hE b234_g226).2 2 rfl)
      refine steps_cons (fun own a wx hf hsl hE => ?_) ?_
      · obtain ⟨(f_137 : a.eval (.tmp 137) = .bool x236), c_140, -⟩ := hf
        refine sg_t rfl rfl rfl f_137 (fun hg => ?_)
        have f_140 : a.eval (.tmp 140) = .int .i64 r225.1.2.1 := c_140.1 hg
        exact or_mul rfl f_140 rfl
      refine steps_cons (fun own a wx hf hsl hE => ?_) ?_
      · obtain ⟨(f_137 : a.eval (.tmp 137) = .bool x236), -⟩ := hf
        obtain ⟨s_18, -⟩ := hsl
        refine sg_t rfl rfl rfl f_137 (fun hg => ?_)
        exact or_field fo25_1 (s_18.trans e234_18) (by rfl)
      refine steps_cons (fun own a wx hf hsl hE => ?_) ?_
      · obtain ⟨(f_137 : a.eval (.tmp 137) = .bool x236), c_142, -⟩ := hf
        refine sg_t rfl rfl rfl f_137 (fun hg => ?_)
        have f_142 : a.eval (.tmp 142) = .pointer (some ⟨g231, 2, none⟩) := c_142.1 hg
        exact or_field fo23_0 f_142 (by rfl)
      refine steps_cons (fun own a wx hf hsl hE => ?_) ?_
      · obtain ⟨(f_137 : a.eval (.tmp 137) = .bool x236), c_143, -⟩ := hf
        refine sg_t rfl rfl rfl f_137 (fun hg => ?_)
        have f_143 : a.eval (.tmp 143) = .pointer (some ⟨g231, 2, none⟩) := c_143.1 hg
        exact or_load1 to3 f_143 (Blk.at_ (BlkO.evo (by decide) hE b234_g231).2 2 rfl)
      refine steps_cons (fun own a wx hf hsl hE => ?_) ?_
      · obtain ⟨(f_137 : a.eval (.tmp 137) = .bool x236), c_141, c_144, -⟩ := hf
        refine sg_t rfl rfl rfl f_137 (fun hg => ?_)
        have f_141 : a.eval (.tmp 141) = .int .i64 (ml 2 r225.1.2.1) := c_141.1 hg
        have f_144 : a.eval (.tmp 144) = .int .i64 r230.1.2.1 := c_144.1 hg
        exact or_geq f_141 f_144 rfl
      refine steps_cons (fun own a wx hf hsl hE => ?_) ?_
      · obtain ⟨(f_137 : a.eval (.tmp 137) = .bool x236), c_145, -⟩ := hf
        exact sg_plain rfl rfl (or_and f_137 (fun hx => c_145.1 hx) rfl (osome hx237).symm)
      refine steps_cons (fun own a wx hf hsl hE => ?_) ?_
      · obtain ⟨(f_146 : a.eval (.tmp 146) = .bool x237), -⟩ := hf
        exact sg_plain rfl rfl (or_move f_146)
      refine steps_cons (fun own a wx hf hsl hE => ?_) ?_
      · obtain ⟨(f_147 : a.eval (.tmp 147) = .bool x237), -⟩ := hf
        obtain ⟨s_16, -⟩ := hsl
        refine sg_t rfl rfl rfl f_147 (fun hg => ?_)
        exact or_field fo25_0 (s_16.trans e234_16) (by rfl)
      refine steps_cons (fun own a wx hf hsl hE => ?_) ?_
      · obtain ⟨(f_147 : a.eval (.tmp 147) = .bool x237), c_148, -⟩ := hf
        refine sg_t rfl rfl rfl f_147 (fun hg => ?_)
        have f_148 : a.eval (.tmp 148) = .pointer (some ⟨g226, 0, none⟩) := c_148.1 hg
        exact or_field fo23_1 f_148 (by rfl)
      refine steps_cons (fun own a wx hf hsl hE => ?_) ?_
      · obtain ⟨(f_147 : a.eval (.tmp 147) = .bool x237), c_149, -⟩ := hf
        refine sg_t rfl rfl rfl f_147 (fun hg => ?_)
        have f_149 : a.eval (.tmp 149) = .pointer (some ⟨g226, 1, none⟩) := c_149.1 hg
        exact or_load1 to3 f_149 (Blk.at_ (BlkO.evo (by decide) hE b234_g226).2 1 rfl)
      refine steps_cons (fun own a wx hf hsl hE => ?_) ?_
      · obtain ⟨(f_147 : a.eval (.tmp 147) = .bool x237), c_150, -⟩ := hf
        refine sg_t rfl rfl rfl f_147 (fun hg => ?_)
        have f_150 : a.eval (.tmp 150) = .int .i64 r225.1.1.2 := c_150.1 hg
        exact or_mul rfl f_150 rfl
      refine steps_cons (fun own a wx hf hsl hE => ?_) ?_
      · obtain ⟨(f_147 : a.eval (.tmp 147) = .bool x237), -⟩ := hf
        obtain ⟨s_18, -⟩ := hsl
        refine sg_t rfl rfl rfl f_147 (fun hg => ?_)
        exact or_field fo25_0 (s_18.trans e234_18) (by rfl)
      refine steps_cons (fun own a wx hf hsl hE => ?_) ?_
      · obtain ⟨(f_147 : a.eval (.tmp 147) = .bool x237), c_152, -⟩ := hf
        refine sg_t rfl rfl rfl f_147 (fun hg => ?_)
        have f_152 : a.eval (.tmp 152) = .pointer (some ⟨g231, 0, none⟩) := c_152.1 hg
        exact or_field fo23_1 f_152 (by rfl)
      refine steps_cons (fun own a wx hf hsl hE => ?_) ?_
      · obtain ⟨(f_147 : a.eval (.tmp 147) = .bool x237), c_153, -⟩ := hf
        refine sg_t rfl rfl rfl f_147 (fun hg => ?_)
        have f_153 : a.eval (.tmp 153) = .pointer (some ⟨g231, 1, none⟩) := c_153.1 hg
        exact or_load1 to3 f_153 (Blk.at_ (BlkO.evo (by decide) hE b234_g231).2 1 rfl)
      refine steps_cons (fun own a wx hf hsl hE => ?_) ?_
      · obtain ⟨(f_147 : a.eval (.tmp 147) = .bool x237), c_151, c_154, -⟩ := hf
        refine sg_t rfl rfl rfl f_147 (fun hg => ?_)
        have f_151 : a.eval (.tmp 151) = .int .i64 (ml 2 r225.1.1.2) := c_151.1 hg
        have f_154 : a.eval (.tmp 154) = .int .i64 r230.1.1.2 := c_154.1 hg
        exact or_leq f_151 f_154 rfl
      refine steps_cons (fun own a wx hf hsl hE => ?_) ?_
      · obtain ⟨(f_147 : a.eval (.tmp 147) = .bool x237), c_155, -⟩ := hf
        exact sg_plain rfl rfl (or_and f_147 (fun hx => c_155.1 hx) rfl (osome hx238).symm)
      refine steps_cons (fun own a wx hf hsl hE => ?_) ?_
      · obtain ⟨(f_156 : a.eval (.tmp 156) = .bool x238), -⟩ := hf
        exact sg_plain rfl rfl (or_move f_156)
      refine steps_cons (fun own a wx hf hsl hE => ?_) ?_
      · obtain ⟨(f_157 : a.eval (.tmp 157) = .bool x238), -⟩ := hf
        obtain ⟨s_16, -⟩ := hsl
        refine sg_t rfl rfl rfl f_157 (fun hg => ?_)
        exact or_field fo25_1 (s_16.trans e234_16) (by rfl)
      refine steps_cons (fun own a wx hf hsl hE => ?_) ?_
      · obtain ⟨(f_157 : a.eval (.tmp 157) = .bool x238), c_158, -⟩ := hf
        refine sg_t rfl rfl rfl f_157 (fun hg => ?_)
        have f_158 : a.eval (.tmp 158) = .pointer (some ⟨g226, 2, none⟩) := c_158.1 hg
        exact or_field fo23_1 f_158 (by rfl)
      refine steps_cons (fun own a wx hf hsl hE => ?_) ?_
      · obtain ⟨(f_157 : a.eval (.tmp 157) = .bool x238), c_159, -⟩ := hf
        refine sg_t rfl rfl rfl f_157 (fun hg => ?_)
        have f_159 : a.eval (.tmp 159) = .pointer (some ⟨g226, 3, none⟩) := c_159.1 hg
        exact or_load1 to3 f_159 (Blk.at_ (BlkO.evo (by decide) hE b234_g226).2 3 rfl)
      refine steps_cons (fun own a wx hf hsl hE => ?_) ?_
      · obtain ⟨(f_157 : a.eval (.tmp 157) = .bool x238), c_160, -⟩ := hf
        refine sg_t rfl rfl rfl f_157 (fun hg => ?_)
        have f_160 : a.eval (.tmp 160) = .int .i64 r225.1.2.2 := c_160.1 hg
        exact or_mul rfl f_160 rfl
      refine steps_cons (fun own a wx hf hsl hE => ?_) ?_
      · obtain ⟨(f_157 : a.eval (.tmp 157) = .bool x238), -⟩ := hf
        obtain ⟨s_18, -⟩ := hsl
        refine sg_t rfl rfl rfl f_157 (fun hg => ?_)
        exact or_field fo25_1 (s_18.trans e234_18) (by rfl)
      refine steps_cons (fun own a wx hf hsl hE => ?_) ?_
      · obtain ⟨(f_157 : a.eval (.tmp 157) = .bool x238), c_162, -⟩ := hf
        refine sg_t rfl rfl rfl f_157 (fun hg => ?_)
        have f_162 : a.eval (.tmp 162) = .pointer (some ⟨g231, 2, none⟩) := c_162.1 hg
        exact or_field fo23_1 f_162 (by rfl)
      refine steps_cons (fun own a wx hf hsl hE => ?_) ?_
      · obtain ⟨(f_157 : a.eval (.tmp 157) = .bool x238), c_163, -⟩ := hf
        refine sg_t rfl rfl rfl f_157 (fun hg => ?_)
        have f_163 : a.eval (.tmp 163) = .pointer (some ⟨g231, 3, none⟩) := c_163.1 hg
        exact or_load1 to3 f_163 (Blk.at_ (BlkO.evo (by decide) hE b234_g231).2 3 rfl)
      refine steps_cons (fun own a wx hf hsl hE => ?_) ?_
      · obtain ⟨(f_157 : a.eval (.tmp 157) = .bool x238), c_161, c_164, -⟩ := hf
        refine sg_t rfl rfl rfl f_157 (fun hg => ?_)
        have f_161 : a.eval (.tmp 161) = .int .i64 (ml 2 r225.1.2.2) := c_161.1 hg
        have f_164 : a.eval (.tmp 164) = .int .i64 r230.1.2.2 := c_164.1 hg
        exact or_geq f_161 f_164 rfl
      refine steps_cons (fun own a wx hf hsl hE => ?_) ?_
      · obtain ⟨(f_157 : a.eval (.tmp 157) = .bool x238), c_165, -⟩ := hf
        exact sg_plain rfl rfl (or_and f_157 (fun hx => c_165.1 hx) rfl (osome hx239).symm)
      refine steps_cons (fun own a wx hf hsl hE => ?_) ?_
      · obtain ⟨(f_166 : a.eval (.tmp 166) = .bool x239), -⟩ := hf
        exact sg_plain rfl rfl (or_assign f_166)
      exact steps_nil
    intro own240 a240 w240 hd240 hz240 hk240 hf240 hE240
    obtain ⟨(f_8 : a240.eval (.tmp 8) = .bool x239), -⟩ := hf240 [47] rfl
    have e240_8 := f_8
    have hX240 := Evo.step hX234 (fun _ => Nat.le_refl 0) hE240 rfl
    refine fl_ret ?_
    obtain rfl := (osome hs).symm
    exact hret _ _ _ _ (.inl rfl) hd240 (results1_ rfl (RVal.tmp_ e240_8)) ⟨own240, rfl, hX240⟩

end Go.Proofs.Ytehmjkdgakinbaa
