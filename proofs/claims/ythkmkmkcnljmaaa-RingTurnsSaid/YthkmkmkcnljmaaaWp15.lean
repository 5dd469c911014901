/-
  Chapter 03. The walks.
-/
import Derived.Test.YthkmkmkcnljmaaaWp14
import Derived.Test.YthkmkmkcnljmaaaSp15
namespace Go.Proofs.Ythkmkmkcnljmaaa
open Go.RowKit
set_option linter.unusedVariables false
set_option maxHeartbeats 2000000 in
theorem law03_RingTurns_w (w : World) (x1 : List (Int × Int)) (Ax1 : Option Addr) (cx1 : Nat) (b2 : List (Int × Int)) (Ab2 : Option Addr) (cb2 : Nat) (x3 : Int) (hx1 : RdO (fun _ => 0) [0] w R32 Ax1 cx1 x1) (hb2 : RdO (fun _ => 0) [0] w R32 Ab2 cb2 b2) (r : Bool) (hs : law03_RingTurns x1 b2 x3 = some r) :
    Calls Try.prog 7 #[.slice Ax1 x1.length cx1, .slice Ab2 b2.length cb2, .int .i64 x3] w fun e w' => ∃ own' : Own, e = .returned (.bool r) ∧ Evo [] (fun _ => 0) own' w w' := by
  refine fl_enter (n := 87) rfl rfl rfl (Nat.le_of_ble_eq_true rfl) ?_
  intro a0 Q hd0 hz0 harg hret
  have ha0 := harg 0 _ rfl
  have ha1 := harg 1 _ rfl
  have ha2 := harg 2 _ rfl
  clear harg
  have hE0 : Evo [] (fun _ => 0) (fun _ => 0) w w := Evo.refl _ _ _
  refine rg_plain_seq (n := 87) (rs := []) (own0 := (fun _ => 0)) (K := [])
      (bs := [0])
      (ds := [⟨[], [], [], Fct.val 6 (.bool false)⟩]) (by kernel_rfl) hz0 hd0 (fun _ h => nomatch h) ?_ ?_
  · refine steps_cons (fun own a wx hf hsl hE => ?_) ?_
    · exact sg_plain rfl rfl (or_assign rfl)
    exact steps_nil
  intro own130 a130 w130 hd130 hz130 hk130 hf130 hE130
  have e130_0 : a130.eval (.tmp 0) = .slice Ax1 x1.length cx1 := (hk130 0 rfl).trans ha0
  have e130_1 : a130.eval (.tmp 1) = .slice Ab2 b2.length cb2 := (hk130 1 rfl).trans ha1
  have e130_2 : a130.eval (.tmp 2) = .int .i64 x3 := (hk130 2 rfl).trans ha2
  have hX130 := Evo.step hE0 (fun _ => Nat.le_refl 0) hE130 rfl
  have b130_Ax1 := RdO.evo rfl hE130 hx1
  have b130_Ab2 := RdO.evo rfl hE130 hb2
  obtain ⟨r131, hr131, hs⟩ := obind hs
  obtain ⟨r135, hr135, hs⟩ := obind hs
  refine rg_plain_seq (n := 87) (rs := []) (own0 := own130) (K := [])
      (bs := [0, 1, 0, 7, 15, 31])
      (ds := [⟨[], [0], [], Fct.val 11 (.slice Ax1 x1.length cx1)⟩,
      ⟨[0], [], [], Fct.mems [133, 134, 0] 12 (fun (x : Option Addr × Nat) => .slice x.1 r131.length x.2) (fun (x : Option Addr × Nat) own w => RdO own [133, 134, 0] w R32 x.1 x.2 r131) (fun hk he h => RdO.evo (hits_sub hk (by decide)) he h)⟩,
      ⟨[], [1], [], Fct.val 13 (.slice Ab2 b2.length cb2)⟩,
      ⟨[2], [], [], Fct.mems [137, 138, 0] 14 (fun (x : Option Addr × Nat) => .slice x.1 r135.length x.2) (fun (x : Option Addr × Nat) own w => RdO own [137, 138, 0] w R32 x.1 x.2 r135) (fun hk he h => RdO.evo (hits_sub hk (by decide)) he h)⟩,
      ⟨[1], [], [], Fct.rel [0, 12] (fun l => ∀ (A132 : Option Addr) (cA132 : Nat), l.getD 1 undef = .slice A132 r131.length cA132 → l.getD 0 undef = .slice A132 r131.length cA132)⟩,
      ⟨[3], [], [], Fct.rel [1, 14] (fun l => ∀ (A136 : Option Addr) (cA136 : Nat), l.getD 1 undef = .slice A136 r135.length cA136 → l.getD 0 undef = .slice A136 r135.length cA136)⟩]) (by kernel_rfl) hz130 hd130 (fun _ h => nomatch h) ?_ ?_
  · refine steps_cons (fun own a wx hf hsl hE => ?_) ?_
    · obtain ⟨s_0, -⟩ := hsl
      exact sg_plain rfl rfl (or_move (s_0.trans e130_0))
    refine steps_cons (fun own a wx hf hsl hE => ?_) ?_
    · obtain ⟨(f_11 : a.eval (.tmp 11) = .slice Ax1 x1.length cx1), -⟩ := hf
      exact sg_plain rfl rfl (or_call cf8 (args1 f_11) (law03_Cut_w _ (forth own (inL [0])) x1 Ax1 cx1 inL_le (RdO.alias_ (La := [0]) (RdO.evo rfl hE b130_Ax1) (by decide)) r131 hr131) (post_alias (La := [0]) (m' := (look0 [(1, 133), (2, 134)])) (fun own' w' a' x ho hsz h1 h => ⟨x, h1, RdO.backN_ ho hsz h (by decide) (by decide) (by decide)⟩)))
    refine steps_cons (fun own a wx hf hsl hE => ?_) ?_
    · obtain ⟨s_1, -⟩ := hsl
      exact sg_plain rfl rfl (or_move (s_1.trans e130_1))
    refine steps_cons (fun own a wx hf hsl hE => ?_) ?_
    · obtain ⟨(f_13 : a.eval (.tmp 13) = .slice Ab2 b2.length cb2), -⟩ := hf
      exact sg_plain rfl rfl (or_call cf8 (args1 f_13) (law03_Cut_w _ (forth own (inL [0])) b2 Ab2 cb2 inL_le (RdO.alias_ (La := [0]) (RdO.evo rfl hE b130_Ab2) (by decide)) r135 hr135) (post_alias (La := [0]) (m' := (look0 [(1, 137), (2, 138)])) (fun own' w' a' x ho hsz h1 h => ⟨x, h1, RdO.backN_ ho hsz h (by decide) (by decide) (by decide)⟩)))
    refine steps_cons (fun own a wx hf hsl hE => ?_) ?_
    · obtain ⟨⟨⟨A132, cA132⟩, (f_12 : a.eval (.tmp 12) = .slice A132 r131.length cA132), (b_A132 : RdO own [133, 134, 0] wx R32 A132 cA132 r131)⟩, -⟩ := hf
      exact sg_plain rfl rfl (or_mono (f := Fct.val 0 (.slice A132 r131.length cA132)) (or_assign f_12) (fun own' a' w' v' hp h => fun _ _ h0' => by cases (f_12.symm.trans ((hp.2 12 (by decide)).symm.trans h0')); exact h))
    refine steps_cons (fun own a wx hf hsl hE => ?_) ?_
    · obtain ⟨⟨⟨A136, cA136⟩, (f_14 : a.eval (.tmp 14) = .slice A136 r135.length cA136), (b_A136 : RdO own [137, 138, 0] wx R32 A136 cA136 r135)⟩, -⟩ := hf
      exact sg_plain rfl rfl (or_mono (f := Fct.val 1 (.slice A136 r135.length cA136)) (or_assign f_14) (fun own' a' w' v' hp h => fun _ _ h0' => by cases (f_14.symm.trans ((hp.2 14 (by decide)).symm.trans h0')); exact h))
    exact steps_nil
  intro own139 a139 w139 hd139 hz139 hk139 hf139 hE139
  have e139_2 : a139.eval (.tmp 2) = .int .i64 x3 := (hk139 2 rfl).trans e130_2
  obtain ⟨⟨⟨A132, cA132⟩, (f_12 : a139.eval (.tmp 12) = .slice A132 r131.length cA132), (b_A132 : RdO own139 [133, 134, 0] w139 R32 A132 cA132 r131)⟩, (q_0 : ∀ (A132 : Option Addr) (cA132 : Nat), a139.eval (.tmp 12) = .slice A132 r131.length cA132 → a139.eval (.tmp 0) = .slice A132 r131.length cA132), ⟨⟨A136, cA136⟩, (f_14 : a139.eval (.tmp 14) = .slice A136 r135.length cA136), (b_A136 : RdO own139 [137, 138, 0] w139 R32 A136 cA136 r135)⟩, (q_1 : ∀ (A136 : Option Addr) (cA136 : Nat), a139.eval (.tmp 14) = .slice A136 r135.length cA136 → a139.eval (.tmp 1) = .slice A136 r135.length cA136), -⟩ := hf139 [1, 4, 3, 5] rfl
  have f_0 := q_0 _ _ f_12
  have f_1 := q_1 _ _ f_14
  have e139_0 := f_0
  have e139_1 := f_1
  have hX139 := Evo.step hX130 (fun _ => Nat.le_refl 0) hE139 rfl
  have b139_A132 := b_A132
  have b139_A136 := b_A136
  obtain ⟨r140, hr140, hs⟩ := obind hs
  obtain ⟨r143, hr143, hs⟩ := obind hs
  refine rg_plain_seq (n := 87) (rs := []) (own0 := own139) (K := [])
      (bs := [0, 1, 0, 7, 15, 31])
      (ds := [⟨[], [0], [], Fct.val 15 (.slice A132 r131.length cA132)⟩,
      ⟨[0], [], [], Fct.row 142 [] 16 49 R49 r140⟩,
      ⟨[], [1], [], Fct.val 17 (.slice A136 r135.length cA136)⟩,
      ⟨[2], [], [], Fct.row 145 [] 18 49 R49 r143⟩,
      ⟨[1], [], [], Fct.rel [7, 16] (fun l => ∀ (A141 : Option Addr) (cA141 : Nat), l.getD 1 undef = .slice A141 r140.length cA141 → l.getD 0 undef = .slice A141 r140.length cA141)⟩,
      ⟨[3], [], [], Fct.rel [8, 18] (fun l => ∀ (A144 : Option Addr) (cA144 : Nat), l.getD 1 undef = .slice A144 r143.length cA144 → l.getD 0 undef = .slice A144 r143.length cA144)⟩]) (by kernel_rfl) hz139 hd139 (fun _ h => nomatch h) ?_ ?_
  · refine steps_cons (fun own a wx hf hsl hE => ?_) ?_
    · obtain ⟨s_0, -⟩ := hsl
      exact sg_plain rfl rfl (or_move (s_0.trans e139_0))
    refine steps_cons (fun own a wx hf hsl hE => ?_) ?_
    · obtain ⟨(f_15 : a.eval (.tmp 15) = .slice A132 r131.length cA132), -⟩ := hf
      exact sg_plain rfl rfl (or_call cf9 (args1 f_15) (law01_Ofs_w _ r131 A132 cA132 (RdO.zero (RdO.evo rfl hE b139_A132)) r140 hr140) (post_row (m' := (look0 [(1, 142)])) (.inl (Rep.fl_flat _)) rfl rfl (fun _ => rfl)))
    refine steps_cons (fun own a wx hf hsl hE => ?_) ?_
    · obtain ⟨s_1, -⟩ := hsl
      exact sg_plain rfl rfl (or_move (s_1.trans e139_1))
    refine steps_cons (fun own a wx hf hsl hE => ?_) ?_
    · obtain ⟨(f_17 : a.eval (.tmp 17) = .slice A136 r135.length cA136), -⟩ := hf
      exact sg_plain rfl rfl (or_call cf9 (args1 f_17) (law01_Ofs_w _ r135 A136 cA136 (RdO.zero (RdO.evo rfl hE b139_A136)) r143 hr143) (post_row (m' := (look0 [(1, 145)])) (.inl (Rep.fl_flat _)) rfl rfl (fun _ => rfl)))
    refine steps_cons (fun own a wx hf hsl hE => ?_) ?_
    · obtain ⟨⟨⟨A141, cA141⟩, (f_16 : a.eval (.tmp 16) = .slice A141 r140.length cA141), (b_A141 : RwO own 142 [] wx 49 R49 A141 cA141 r140)⟩, -⟩ := hf
      exact sg_plain rfl rfl (or_mono (f := Fct.val 7 (.slice A141 r140.length cA141)) (or_assign f_16) (fun own' a' w' v' hp h => fun _ _ h0' => by cases (f_16.symm.trans ((hp.2 16 (by decide)).symm.trans h0')); exact h))
    refine steps_cons (fun own a wx hf hsl hE => ?_) ?_
    · obtain ⟨⟨⟨A144, cA144⟩, (f_18 : a.eval (.tmp 18) = .slice A144 r143.length cA144), (b_A144 : RwO own 145 [] wx 49 R49 A144 cA144 r143)⟩, -⟩ := hf
      exact sg_plain rfl rfl (or_mono (f := Fct.val 8 (.slice A144 r143.length cA144)) (or_assign f_18) (fun own' a' w' v' hp h => fun _ _ h0' => by cases (f_18.symm.trans ((hp.2 18 (by decide)).symm.trans h0')); exact h))
    exact steps_nil
  intro own146 a146 w146 hd146 hz146 hk146 hf146 hE146
  have e146_0 : a146.eval (.tmp 0) = .slice A132 r131.length cA132 := (hk146 0 rfl).trans e139_0
  have e146_1 : a146.eval (.tmp 1) = .slice A136 r135.length cA136 := (hk146 1 rfl).trans e139_1
  have e146_2 : a146.eval (.tmp 2) = .int .i64 x3 := (hk146 2 rfl).trans e139_2
  obtain ⟨⟨⟨A141, cA141⟩, (f_16 : a146.eval (.tmp 16) = .slice A141 r140.length cA141), (b_A141 : RwO own146 142 [] w146 49 R49 A141 cA141 r140)⟩, (q_7 : ∀ (A141 : Option Addr) (cA141 : Nat), a146.eval (.tmp 16) = .slice A141 r140.length cA141 → a146.eval (.tmp 7) = .slice A141 r140.length cA141), ⟨⟨A144, cA144⟩, (f_18 : a146.eval (.tmp 18) = .slice A144 r143.length cA144), (b_A144 : RwO own146 145 [] w146 49 R49 A144 cA144 r143)⟩, (q_8 : ∀ (A144 : Option Addr) (cA144 : Nat), a146.eval (.tmp 18) = .slice A144 r143.length cA144 → a146.eval (.tmp 8) = .slice A144 r143.length cA144), -⟩ := hf146 [1, 4, 3, 5] rfl
  have f_7 := q_7 _ _ f_16
  have f_8 := q_8 _ _ f_18
  have e146_7 := f_7
  have e146_8 := f_8
  have hX146 := Evo.step hX139 (fun _ => Nat.le_refl 0) hE146 rfl
  have b146_A132 := RdO.evo rfl hE146 b139_A132
  have b146_A136 := RdO.evo rfl hE146 b139_A136
  have b146_A141 := b_A141
  have b146_A144 := b_A144
  refine fl_seq (fun Q147 hn147 hp147 => ?_)
  obtain ⟨r148, hr148, hs⟩ := obind hs
  obtain ⟨r151, hr151, hs⟩ := obind hs
  obtain ⟨r154, hr154, hs⟩ := obind hs
  obtain ⟨r155, hr155, hs⟩ := obind hs
  obtain ⟨r158, hr158, hs⟩ := obind hs
  obtain ⟨r161, hr161, hs⟩ := obind hs
  obtain ⟨r162, hr162, hs⟩ := obind hs
  obtain ⟨r165, hr165, hs⟩ := obind hs
  obtain ⟨r166, hr166, hs⟩ := obind hs
  obtain ⟨r169, hr169, hs⟩ := obind hs
  obtain ⟨r170, hr170, hs⟩ := obind hs
  obtain ⟨r171, hr171, hs⟩ := obind hs
  obtain ⟨x172, hx172, hs⟩ := obind hs
  refine rg_plain_seq (n := 87) (rs := []) (own0 := own146) (K := [])
      (bs := [0, 1, 0, 7, 15, 31, 63, 127, 255, 127, 1023, 2047, 4095, 8191, 16383, 32767, 65535, 32767, 32767, 393215, 1048575, 2097151, 4194303, 8388607, 16777215, 33554431, 33554431, 134217727, 33554431, 33554431, 1073741823, 2147483647, 4294967295])
      (ds := [⟨[], [0], [], Fct.val 19 (.slice A132 r131.length cA132)⟩,
      ⟨[0], [], [], Fct.mems [150] 20 (fun (x : Option Addr × Nat) => .slice x.1 r148.length x.2) (fun (x : Option Addr × Nat) own w => RdO own [150] w R32 x.1 x.2 r148) (fun hk he h => RdO.evo (hits_sub hk (by decide)) he h)⟩,
      ⟨[], [7], [], Fct.val 21 (.slice A141 r140.length cA141)⟩,
      ⟨[2], [], [], Fct.row 153 [] 22 49 R49 r151⟩,
      ⟨[1, 3], [], [], Fct.val 23 (.bool r154)⟩,
      ⟨[4], [], [], Fct.val 24 (.bool (!r154))⟩,
      ⟨[5], [], [], Fct.val 25 (.bool (!r154))⟩,
      ⟨[6], [0], [], Fct.cond (!(!r154)) (some 26) (Fct.val 26 (.slice A132 r131.length cA132))⟩,
      ⟨[6, 7], [], [], Fct.cond (!(!r154)) (some 27) (Fct.row 157 [] 27 32 R32 r155)⟩,
      ⟨[6], [7], [], Fct.cond (!(!r154)) (some 28) (Fct.val 28 (.slice A141 r140.length cA141))⟩,
      ⟨[6, 9], [], [], Fct.cond (!(!r154)) (some 29) (Fct.row 160 [] 29 49 R49 r158)⟩,
      ⟨[6, 8, 10], [], [], Fct.cond (!(!r154)) (some 30) (Fct.val 30 (.bool r161))⟩,
      ⟨[6, 11], [], [], Fct.cond (!(!r154)) (some 31) (Fct.val 31 (.bool (!r161)))⟩,
      ⟨[6, 12], [], [], Fct.val 32 (.bool ((!r154) || (!r161)))⟩,
      ⟨[13], [], [], Fct.val 33 (.bool ((!r154) || (!r161)))⟩,
      ⟨[14], [0], [], Fct.cond (!((!r154) || (!r161))) (some 34) (Fct.val 34 (.slice A132 r131.length cA132))⟩,
      ⟨[14, 15], [], [], Fct.cond (!((!r154) || (!r161))) (some 35) (Fct.row 164 [] 35 32 R32 r162)⟩,
      ⟨[14], [7], [], Fct.cond (!((!r154) || (!r161))) (some 36) (Fct.val 36 (.slice A141 r140.length cA141))⟩,
      ⟨[14], [7], [], Fct.cond (!((!r154) || (!r161))) (some 37) (Fct.val 37 (.slice A141 r140.length cA141))⟩,
      ⟨[14, 18], [], [], Fct.cond (!((!r154) || (!r161))) (some 38) (Fct.val 38 (.int .i64 r165))⟩,
      ⟨[14, 17, 19], [], [], Fct.cond (!((!r154) || (!r161))) (some 39) (Fct.row 168 [] 39 49 R49 r166)⟩,
      ⟨[14, 16, 20], [], [], Fct.cond (!((!r154) || (!r161))) (some 40) (Fct.val 40 (.bool r169))⟩,
      ⟨[14, 21], [], [], Fct.cond (!((!r154) || (!r161))) (some 41) (Fct.val 41 (.bool (!r169)))⟩,
      ⟨[14, 22], [], [], Fct.val 42 (.bool (((!r154) || (!r161)) || (!r169)))⟩,
      ⟨[23], [], [], Fct.val 43 (.bool (((!r154) || (!r161)) || (!r169)))⟩,
      ⟨[24], [0], [], Fct.cond (!(((!r154) || (!r161)) || (!r169))) (some 44) (Fct.val 44 (.slice A132 r131.length cA132))⟩,
      ⟨[24], [1], [], Fct.cond (!(((!r154) || (!r161)) || (!r169))) (some 45) (Fct.val 45 (.slice A136 r135.length cA136))⟩,
      ⟨[24, 25, 26], [], [], Fct.cond (!(((!r154) || (!r161)) || (!r169))) (some 46) (Fct.val 46 (.bool r170))⟩,
      ⟨[24], [7], [], Fct.cond (!(((!r154) || (!r161)) || (!r169))) (some 47) (Fct.val 47 (.slice A141 r140.length cA141))⟩,
      ⟨[24], [8], [], Fct.cond (!(((!r154) || (!r161)) || (!r169))) (some 48) (Fct.val 48 (.slice A144 r143.length cA144))⟩,
      ⟨[24, 28, 29], [], [], Fct.cond (!(((!r154) || (!r161)) || (!r169))) (some 49) (Fct.val 49 (.bool r171))⟩,
      ⟨[24, 27, 30], [], [], Fct.cond (!(((!r154) || (!r161)) || (!r169))) (some 50) (Fct.val 50 (.bool (!(r170 == r171))))⟩,
      ⟨[24, 31], [], [], Fct.val 51 (.bool x172)⟩]) (by kernel_rfl) hz146 hd146 (fun _ h => nomatch h) ?_ ?_
  · refine steps_cons (fun own a wx hf hsl hE => ?_) ?_
    · obtain ⟨s_0, -⟩ := hsl
      exact sg_plain rfl rfl (or_move (s_0.trans e146_0))
    refine steps_cons (fun own a wx hf hsl hE => ?_) ?_
    · obtain ⟨(f_19 : a.eval (.tmp 19) = .slice A132 r131.length cA132), -⟩ := hf
      exact sg_plain rfl rfl (or_call cf24 (args1 f_19) (ring_Thin_w _ r131 A132 cA132 (RdO.zero (RdO.evo rfl hE b146_A132)) r148 hr148) (post_mems (m := (fun _ => 0)) (m' := (look0 [(1, 150)])) (fun _ _ => .inl rfl) (fun own' w' a' x h1 h => ⟨x, h1, RdO.back_ h (by decide)⟩)))
    refine steps_cons (fun own a wx hf hsl hE => ?_) ?_
    · obtain ⟨s_7, -⟩ := hsl
      exact sg_plain rfl rfl (or_move (s_7.trans e146_7))
    refine steps_cons (fun own a wx hf hsl hE => ?_) ?_
    · obtain ⟨(f_21 : a.eval (.tmp 21) = .slice A141 r140.length cA141), -⟩ := hf
      exact sg_plain rfl rfl (or_call cf25 (args1 f_21) (ref03_Thin_w _ r140 A141 cA141 (RdO.zero (RwO.rd (RwO.evo rfl hE b146_A141))) r151 hr151) (post_row (m' := (look0 [(1, 153)])) (.inl (Rep.fl_flat _)) rfl rfl (fun _ => rfl)))
    refine steps_cons (fun own a wx hf hsl hE => ?_) ?_
    · obtain ⟨⟨⟨A149, cA149⟩, (f_20 : a.eval (.tmp 20) = .slice A149 r148.length cA149), (b_A149 : RdO own [150] wx R32 A149 cA149 r148)⟩, ⟨⟨A152, cA152⟩, (f_22 : a.eval (.tmp 22) = .slice A152 r151.length cA152), (b_A152 : RwO own 153 [] wx 49 R49 A152 cA152 r151)⟩, -⟩ := hf
      exact sg_plain rfl rfl (or_call cf23 (args2 f_20 f_22) (law03_Same_w _ r148 A149 cA149 r151 A152 cA152 (RdO.zero b_A149) (RdO.zero (RwO.rd b_A152)) r154 hr154) post_val)
    refine steps_cons (fun own a wx hf hsl hE => ?_) ?_
    · obtain ⟨(f_23 : a.eval (.tmp 23) = .bool r154), -⟩ := hf
      exact sg_plain rfl rfl (or_not f_23 rfl)
    refine steps_cons (fun own a wx hf hsl hE => ?_) ?_
    · obtain ⟨(f_24 : a.eval (.tmp 24) = .bool (!r154)), -⟩ := hf
      exact sg_plain rfl rfl (or_move f_24)
    refine steps_cons (fun own a wx hf hsl hE => ?_) ?_
    · obtain ⟨(f_25 : a.eval (.tmp 25) = .bool (!r154)), -⟩ := hf
      obtain ⟨s_0, -⟩ := hsl
      refine sg_f rfl rfl rfl f_25 (fun hg => ?_)
      exact or_move (s_0.trans e146_0)
    refine steps_cons (fun own a wx hf hsl hE => ?_) ?_
    · obtain ⟨(f_25 : a.eval (.tmp 25) = .bool (!r154)), c_26, -⟩ := hf
      refine sg_f rfl rfl rfl f_25 (fun hg => ?_)
      have f_26 : a.eval (.tmp 26) = .slice A132 r131.length cA132 := c_26.1 hg
      exact or_call cf21 (args1 f_26) (ring_Turned_w _ r131 A132 cA132 (RdO.zero (RdO.evo rfl hE b146_A132)) r155 (gd_t hr155 hg)) (post_row (m' := (look0 [(1, 157)])) (.inl (Rep.fl_flat _)) rfl rfl (fun _ => rfl))
    refine steps_cons (fun own a wx hf hsl hE => ?_) ?_
    · obtain ⟨(f_25 : a.eval (.tmp 25) = .bool (!r154)), -⟩ := hf
      obtain ⟨s_7, -⟩ := hsl
      refine sg_f rfl rfl rfl f_25 (fun hg => ?_)
      exact or_move (s_7.trans e146_7)
    refine steps_cons (fun own a wx hf hsl hE => ?_) ?_
    · obtain ⟨(f_25 : a.eval (.tmp 25) = .bool (!r154)), c_28, -⟩ := hf
      refine sg_f rfl rfl rfl f_25 (fun hg => ?_)
      have f_28 : a.eval (.tmp 28) = .slice A141 r140.length cA141 := c_28.1 hg
      exact or_call cf26 (args1 f_28) (ref03_Turned_w _ r140 A141 cA141 (RdO.zero (RwO.rd (RwO.evo rfl hE b146_A141))) r158 (gd_t hr158 hg)) (post_row (m' := (look0 [(1, 160)])) (.inl (Rep.fl_flat _)) rfl rfl (fun _ => rfl))
    refine steps_cons (fun own a wx hf hsl hE => ?_) ?_
    · obtain ⟨(f_25 : a.eval (.tmp 25) = .bool (!r154)), c_27, c_29, -⟩ := hf
      refine sg_f rfl rfl rfl f_25 (fun hg => ?_)
      obtain ⟨⟨A156, cA156⟩, (f_27 : a.eval (.tmp 27) = .slice A156 r155.length cA156), (b_A156 : RwO own 157 [] wx 32 R32 A156 cA156 r155)⟩ := c_27.1 hg
      obtain ⟨⟨A159, cA159⟩, (f_29 : a.eval (.tmp 29) = .slice A159 r158.length cA159), (b_A159 : RwO own 160 [] wx 49 R49 A159 cA159 r158)⟩ := c_29.1 hg
      exact or_call cf23 (args2 f_27 f_29) (law03_Same_w _ r155 A156 cA156 r158 A159 cA159 (RdO.zero (RwO.rd b_A156)) (RdO.zero (RwO.rd b_A159)) r161 (gd_t hr161 hg)) post_val
    refine steps_cons (fun own a wx hf hsl hE => ?_) ?_
    · obtain ⟨(f_25 : a.eval (.tmp 25) = .bool (!r154)), c_30, -⟩ := hf
      refine sg_f rfl rfl rfl f_25 (fun hg => ?_)
      have f_30 : a.eval (.tmp 30) = .bool r161 := c_30.1 hg
      exact or_not f_30 rfl
    refine steps_cons (fun own a wx hf hsl hE => ?_) ?_
    · obtain ⟨(f_25 : a.eval (.tmp 25) = .bool (!r154)), c_31, -⟩ := hf
      exact sg_plain rfl rfl (or_or f_25 rfl (fun hx => c_31.1 hx) rfl)
    refine steps_cons (fun own a wx hf hsl hE => ?_) ?_
    · obtain ⟨(f_32 : a.eval (.tmp 32) = .bool ((!r154) || (!r161))), -⟩ := hf
      exact sg_plain rfl rfl (or_move f_32)
    refine steps_cons (fun own a wx hf hsl hE => ?_) ?_
    · obtain ⟨(f_33 : a.eval (.tmp 33) = .bool ((!r154) || (!r161))), -⟩ := hf
      obtain ⟨s_0, -⟩ := hsl
      refine sg_f rfl rfl rfl f_33 (fun hg => ?_)
      exact or_move (s_0.trans e146_0)
    refine steps_cons (fun own a wx hf hsl hE => ?_) ?_
    · obtain ⟨(f_33 : a.eval (.tmp 33) = .bool ((!r154) || (!r161))), c_34, -⟩ := hf
      refine sg_f rfl rfl rfl f_33 (fun hg => ?_)
      have f_34 : a.eval (.tmp 34) = .slice A132 r131.length cA132 := c_34.1 hg
      exact or_call cf22 (args1 f_34) (ring_First_w _ r131 A132 cA132 (RdO.zero (RdO.evo rfl hE b146_A132)) r162 (gd_t hr162 hg)) (post_row (m' := (look0 [(1, 164)])) (.inl (Rep.fl_flat _)) rfl rfl (fun _ => rfl))
    refine steps_cons (fun own a wx hf hsl hE => ?_) ?_
    · obtain ⟨(f_33 : a.eval (.tmp 33) = .bool ((!r154) || (!r161))), -⟩ := hf
      obtain ⟨s_7, -⟩ := hsl
      refine sg_f rfl rfl rfl f_33 (fun hg => ?_)
      exact or_move (s_7.trans e146_7)
    refine steps_cons (fun own a wx hf hsl hE => ?_) ?_
    · obtain ⟨(f_33 : a.eval (.tmp 33) = .bool ((!r154) || (!r161))), -⟩ := hf
      obtain ⟨s_7, -⟩ := hsl
      refine sg_f rfl rfl rfl f_33 (fun hg => ?_)
      exact or_move (s_7.trans e146_7)
    refine steps_cons (fun own a wx hf hsl hE => ?_) ?_
    · obtain ⟨(f_33 : a.eval (.tmp 33) = .bool ((!r154) || (!r161))), c_37, -⟩ := hf
      refine sg_f rfl rfl rfl f_33 (fun hg => ?_)
      have f_37 : a.eval (.tmp 37) = .slice A141 r140.length cA141 := c_37.1 hg
      exact or_call cf28 (args1 f_37) (ref03_First_w _ r140 A141 cA141 (RdO.zero (RwO.rd (RwO.evo rfl hE b146_A141))) r165 (gd_t hr165 hg)) post_val
    refine steps_cons (fun own a wx hf hsl hE => ?_) ?_
    · obtain ⟨(f_33 : a.eval (.tmp 33) = .bool ((!r154) || (!r161))), c_36, c_38, -⟩ := hf
      refine sg_f rfl rfl rfl f_33 (fun hg => ?_)
      have f_36 : a.eval (.tmp 36) = .slice A141 r140.length cA141 := c_36.1 hg
      have f_38 : a.eval (.tmp 38) = .int .i64 r165 := c_38.1 hg
      exact or_call cf27 (args2 f_36 f_38) (ref03_From_w _ r140 A141 cA141 r165 (RdO.zero (RwO.rd (RwO.evo rfl hE b146_A141))) r166 (gd_t hr166 hg)) (post_row (m' := (look0 [(1, 168)])) (.inl (Rep.fl_flat _)) rfl rfl (fun _ => rfl))
    refine steps_cons (fun own a wx hf hsl hE => ?_) ?_
    · obtain ⟨(f_33 : a.eval (.tmp 33) = .bool ((!r154) || (!r161))), c_35, c_39, -⟩ := hf
      refine sg_f rfl rfl rfl f_33 (fun hg => ?_)
      obtain ⟨⟨A163, cA163⟩, (f_35 : a.eval (.tmp 35) = .slice A163 r162.length cA163), (b_A163 : RwO own 164 [] wx 32 R32 A163 cA163 r162)⟩ := c_35.1 hg
      obtain ⟨⟨A167, cA167⟩, (f_39 : a.eval (.tmp 39) = .slice A167 r166.length cA167), (b_A167 : RwO own 168 [] wx 49 R49 A167 cA167 r166)⟩ := c_39.1 hg
      exact or_call cf23 (args2 f_35 f_39) (law03_Same_w _ r162 A163 cA163 r166 A167 cA167 (RdO.zero (RwO.rd b_A163)) (RdO.zero (RwO.rd b_A167)) r169 (gd_t hr169 hg)) post_val
    refine steps_cons (fun own a wx hf hsl hE => ?_) ?_
    · obtain ⟨(f_33 : a.eval (.tmp 33) = .bool ((!r154) || (!r161))), c_40, -⟩ := hf
      refine sg_f rfl rfl rfl f_33 (fun hg => ?_)
      have f_40 : a.eval (.tmp 40) = .bool r169 := c_40.1 hg
      exact or_not f_40 rfl
    refine steps_cons (fun own a wx hf hsl hE => ?_) ?_
    · obtain ⟨(f_33 : a.eval (.tmp 33) = .bool ((!r154) || (!r161))), c_41, -⟩ := hf
      exact sg_plain rfl rfl (or_or f_33 rfl (fun hx => c_41.1 hx) rfl)
    refine steps_cons (fun own a wx hf hsl hE => ?_) ?_
    · obtain ⟨(f_42 : a.eval (.tmp 42) = .bool (((!r154) || (!r161)) || (!r169))), -⟩ := hf
      exact sg_plain rfl rfl (or_move f_42)
    refine steps_cons (fun own a wx hf hsl hE => ?_) ?_
    · obtain ⟨(f_43 : a.eval (.tmp 43) = .bool (((!r154) || (!r161)) || (!r169))), -⟩ := hf
      obtain ⟨s_0, -⟩ := hsl
      refine sg_f rfl rfl rfl f_43 (fun hg => ?_)
      exact or_move (s_0.trans e146_0)
    refine steps_cons (fun own a wx hf hsl hE => ?_) ?_
    · obtain ⟨(f_43 : a.eval (.tmp 43) = .bool (((!r154) || (!r161)) || (!r169))), -⟩ := hf
      obtain ⟨s_1, -⟩ := hsl
      refine sg_f rfl rfl rfl f_43 (fun hg => ?_)
      exact or_move (s_1.trans e146_1)
    refine steps_cons (fun own a wx hf hsl hE => ?_) ?_
    · obtain ⟨(f_43 : a.eval (.tmp 43) = .bool (((!r154) || (!r161)) || (!r169))), c_44, c_45, -⟩ := hf
      refine sg_f rfl rfl rfl f_43 (fun hg => ?_)
      have f_44 : a.eval (.tmp 44) = .slice A132 r131.length cA132 := c_44.1 hg
      have f_45 : a.eval (.tmp 45) = .slice A136 r135.length cA136 := c_45.1 hg
      exact or_call cf29 (args2 f_44 f_45) (ring_Alike_w _ r131 A132 cA132 r135 A136 cA136 (RdO.zero (RdO.evo rfl hE b146_A132)) (RdO.zero (RdO.evo rfl hE b146_A136)) r170 (gd_t hr170 hg)) post_val
    refine steps_cons (fun own a wx hf hsl hE => ?_) ?_
    · obtain ⟨(f_43 : a.eval (.tmp 43) = .bool (((!r154) || (!r161)) || (!r169))), -⟩ := hf
      obtain ⟨s_7, -⟩ := hsl
      refine sg_f rfl rfl rfl f_43 (fun hg => ?_)
      exact or_move (s_7.trans e146_7)
    refine steps_cons (fun own a wx hf hsl hE => ?_) ?_
    · obtain ⟨(f_43 : a.eval (.tmp 43) = .bool (((!r154) || (!r161)) || (!r169))), -⟩ := hf
      obtain ⟨s_8, -⟩ := hsl
      refine sg_f rfl rfl rfl f_43 (fun hg => ?_)
      exact or_move (s_8.trans e146_8)
    refine steps_cons (fun own a wx hf hsl hE => ?_) ?_
    · obtain ⟨(f_43 : a.eval (.tmp 43) = .bool (((!r154) || (!r161)) || (!r169))), c_47, c_48, -⟩ := hf
      refine sg_f rfl rfl rfl f_43 (fun hg => ?_)
      have f_47 : a.eval (.tmp 47) = .slice A141 r140.length cA141 := c_47.1 hg
      have f_48 : a.eval (.tmp 48) = .slice A144 r143.length cA144 := c_48.1 hg
      exact or_call cf30 (args2 f_47 f_48) (ref03_Alike_w _ r140 A141 cA141 r143 A144 cA144 (RdO.zero (RwO.rd (RwO.evo rfl hE b146_A141))) (RdO.zero (RwO.rd (RwO.evo rfl hE b146_A144))) r171 (gd_t hr171 hg)) post_val
    refine steps_cons (fun own a wx hf hsl hE => ?_) ?_
    · obtain ⟨(f_43 : a.eval (.tmp 43) = .bool (((!r154) || (!r161)) || (!r169))), c_46, c_49, -⟩ := hf
      refine sg_f rfl rfl rfl f_43 (fun hg => ?_)
      have f_46 : a.eval (.tmp 46) = .bool r170 := c_46.1 hg
      have f_49 : a.eval (.tmp 49) = .bool r171 := c_49.1 hg
      exact or_neqb tb4 f_46 f_49 rfl
    refine steps_cons (fun own a wx hf hsl hE => ?_) ?_
    · obtain ⟨(f_43 : a.eval (.tmp 43) = .bool (((!r154) || (!r161)) || (!r169))), c_50, -⟩ := hf
      exact sg_plain rfl rfl (or_or f_43 rfl (fun hx => c_50.1 hx) (osome hx172).symm)
    exact steps_nil
  intro own173 a173 w173 hd173 hz173 hk173 hf173 hE173
  have e173_0 : a173.eval (.tmp 0) = .slice A132 r131.length cA132 := (hk173 0 rfl).trans e146_0
  have e173_2 : a173.eval (.tmp 2) = .int .i64 x3 := (hk173 2 rfl).trans e146_2
  obtain ⟨(f_51 : a173.eval (.tmp 51) = .bool x172), -⟩ := hf173 [32] rfl
  have e173_51 := f_51
  have hX173 := Evo.step hX146 (fun _ => Nat.le_refl 0) hE173 rfl
  have b173_A132 := RdO.evo rfl hE173 b146_A132
  refine fl_cond e173_51 hs (fun c174 hs => ?_) (fun c174 hs => ?_)
  · refine rg_plain_seq (n := 87) (rs := []) (own0 := own173) (K := [])
        (bs := [0])
        (ds := [⟨[], [], [], Fct.val 6 (.bool false)⟩]) (by kernel_rfl) hz173 hd173 (fun _ h => nomatch h) ?_ ?_
    · refine steps_cons (fun own a wx hf hsl hE => ?_) ?_
      · exact sg_plain rfl rfl (or_assign rfl)
      exact steps_nil
    intro own175 a175 w175 hd175 hz175 hk175 hf175 hE175
    obtain ⟨(f_6 : a175.eval (.tmp 6) = .bool false), -⟩ := hf175 [0] rfl
    have e175_6 := f_6
    have hX175 := Evo.step hX173 (fun _ => Nat.le_refl 0) hE175 rfl
    refine fl_ret ?_
    refine hp147 _ _ _ rfl ?_
    obtain rfl := osome hs
    exact hret _ _ _ _ (.inl rfl) hd175 (results1_ rfl (RVal.tmp_ e175_6)) ⟨own175, rfl, hX175⟩
  refine fl_skip ?_
  refine hn147 _ _ ?_
  refine rg_plain_seq (n := 87) (rs := []) (own0 := own173) (K := [])
      (bs := [0])
      (ds := [⟨[], [], [], Fct.val 9 (.slice none 0 0)⟩]) (by kernel_rfl) hz173 hd173 (fun _ h => nomatch h) ?_ ?_
  · refine steps_cons (fun own a wx hf hsl hE => ?_) ?_
    · exact sg_plain rfl rfl (or_assign rfl)
    exact steps_nil
  intro own176 a176 w176 hd176 hz176 hk176 hf176 hE176
  have e176_0 : a176.eval (.tmp 0) = .slice A132 r131.length cA132 := (hk176 0 rfl).trans e173_0
  have e176_2 : a176.eval (.tmp 2) = .int .i64 x3 := (hk176 2 rfl).trans e173_2
  obtain ⟨(f_9 : a176.eval (.tmp 9) = .slice none 0 0), -⟩ := hf176 [0] rfl
  have e176_9 := f_9
  have hX176 := Evo.step hX173 (fun _ => Nat.le_refl 0) hE176 rfl
  have b176_A132 := RdO.evo rfl hE176 b173_A132
  refine fl_seq (fun Q177 hn177 hp177 => ?_)
  refine rg_plain_seq (n := 87) (rs := []) (own0 := own176) (K := [])
      (bs := [0])
      (ds := [⟨[], [], [], Fct.val 10 (.int .i64 0)⟩]) (by kernel_rfl) hz176 hd176 (fun _ h => nomatch h) ?_ ?_
  · refine steps_cons (fun own a wx hf hsl hE => ?_) ?_
    · exact sg_plain rfl rfl (or_assign rfl)
    exact steps_nil
  intro own178 a178 w178 hd178 hz178 hk178 hf178 hE178
  have e178_0 : a178.eval (.tmp 0) = .slice A132 r131.length cA132 := (hk178 0 rfl).trans e176_0
  have e178_2 : a178.eval (.tmp 2) = .int .i64 x3 := (hk178 2 rfl).trans e176_2
  have e178_9 : a178.eval (.tmp 9) = .slice none 0 0 := (hk178 9 rfl).trans e176_9
  obtain ⟨(f_10 : a178.eval (.tmp 10) = .int .i64 0), -⟩ := hf178 [0] rfl
  have e178_10 := f_10
  have hX178 := Evo.step hX176 (fun _ => Nat.le_refl 0) hE178 rfl
  have b178_A132 := RdO.evo rfl hE178 b176_A132
  refine fl_block (fun Q179 hn179 hx179 hp179 => ?_)
  refine fl_loop (body := (fun s => law03_RingTurns_b1 x3 r131 s.1 s.2)) (z := r) (show loopO _ _ = _ from hs) (fun (s : (List (Int × Int)) × Int) a wx => match s with | (c199, i201) => ∃ (ox : Own) (A197 : Option Addr) (c198 : Nat), a.defers = [] ∧ a.tmps.size = 87 ∧ a.eval (.tmp 0) = .slice A132 r131.length cA132 ∧ a.eval (.tmp 2) = .int .i64 x3 ∧ a.eval (.tmp 9) = .slice A197 c199.length c198 ∧ a.eval (.tmp 10) = .int .i64 i201 ∧ Evo [] (fun _ => 0) ox w wx ∧ RdO ox [133, 134, 0] wx R32 A132 cA132 r131 ∧ RwO ox 200 [] wx 32 R32 A197 c198 c199) ?_ ?_
  · exact ⟨own178, none, 0, hd178, hz178, e178_0, e178_2, e178_9, e178_10, hX178, b178_A132, RwO.nil_⟩
  · rintro ⟨c199, i201⟩ zz223 a223 w223 ⟨own223, A197, c198, hd224, hz224, e224_0, e224_2, e224_9, e224_10, hE224, b224_A132, b224_A197⟩ hs Q223 hn223 hp223 hz223
    have hs : law03_RingTurns_b1 x3 r131 c199 i201 = some zz223 := hs
    refine fl_seq (fun Q225 hn225 hp225 => ?_)
    refine rg_plain_seq (n := 87) (rs := []) (own0 := own223) (K := [])
        (bs := [0, 0, 2, 7])
        (ds := [⟨[], [10], [], Fct.val 52 (.int .i64 i201)⟩,
        ⟨[], [0], [], Fct.val 53 (.slice A132 r131.length cA132)⟩,
        ⟨[1], [], [], Fct.val 54 (.int .i64 (r131.length : Int))⟩,
        ⟨[0, 2], [], [], Fct.val 55 (.bool (decide (i201 < (r131.length : Int))))⟩]) (by kernel_rfl) hz224 hd224 (fun _ h => nomatch h) ?_ ?_
    · refine steps_cons (fun own a wx hf hsl hE => ?_) ?_
      · obtain ⟨s_10, -⟩ := hsl
        exact sg_plain rfl rfl (or_move (s_10.trans e224_10))
      refine steps_cons (fun own a wx hf hsl hE => ?_) ?_
      · obtain ⟨s_0, -⟩ := hsl
        exact sg_plain rfl rfl (or_move (s_0.trans e224_0))
      refine steps_cons (fun own a wx hf hsl hE => ?_) ?_
      · obtain ⟨(f_53 : a.eval (.tmp 53) = .slice A132 r131.length cA132), -⟩ := hf
        exact sg_plain rfl rfl (or_len tu22 f_53 rfl)
      refine steps_cons (fun own a wx hf hsl hE => ?_) ?_
      · obtain ⟨(f_52 : a.eval (.tmp 52) = .int .i64 i201), (f_54 : a.eval (.tmp 54) = .int .i64 (r131.length : Int)), -⟩ := hf
        exact sg_plain rfl rfl (or_lss f_52 f_54 rfl)
      exact steps_nil
    intro own226 a226 w226 hd226 hz226 hk226 hf226 hE226
    have e226_0 : a226.eval (.tmp 0) = .slice A132 r131.length cA132 := (hk226 0 rfl).trans e224_0
    have e226_2 : a226.eval (.tmp 2) = .int .i64 x3 := (hk226 2 rfl).trans e224_2
    have e226_9 : a226.eval (.tmp 9) = .slice A197 c199.length c198 := (hk226 9 rfl).trans e224_9
    have e226_10 : a226.eval (.tmp 10) = .int .i64 i201 := (hk226 10 rfl).trans e224_10
    obtain ⟨(f_55 : a226.eval (.tmp 55) = .bool (decide (i201 < (r131.length : Int)))), -⟩ := hf226 [3] rfl
    have e226_55 := f_55
    have hX226 := Evo.step hE224 (fun _ => Nat.le_refl 0) hE226 rfl
    have b226_A132 := RdO.evo rfl hE226 b224_A132
    have b226_A197 := RwO.evo rfl hE226 b224_A197
    refine fl_cond e226_55 hs (fun c227 hs => ?_) (fun c227 hs => ?_)
    · refine fl_skip ?_
      refine hn225 _ _ ?_
      refine fl_seq (fun Q228 hn228 hp228 => ?_)
      refine fl_block (fun Q229 hn229 hx229 hp229 => ?_)
      obtain ⟨x235, hx235, hs⟩ := obind hs
      obtain ⟨x236, hx236, hs⟩ := obind hs
      obtain ⟨x237, hx237, hs⟩ := obind hs
      obtain ⟨x240, hx240, hs⟩ := obind hs
      refine rg_plain (n := 87) (rs := [Fct.rowAt 200 [] 32 R32 A197 c198 c199]) (own0 := own226) (K := [200])
          (bs := [0, 0, 0, 4, 0, 16, 48, 124, 252, 0, 1020, 0, 2048, 8188, 16382, 32766, 65534, 131071, 262143])
          (ds := [⟨[], [9], [], Fct.val 58 (.slice A197 c199.length c198)⟩,
          ⟨[], [0], [], Fct.val 59 (.slice A132 r131.length cA132)⟩,
          ⟨[], [2], [], Fct.val 60 (.int .i64 x3)⟩,
          ⟨[2], [], [], Fct.val 61 (.int .u64 (IntKind.u64.wrap x3))⟩,
          ⟨[], [0], [], Fct.val 62 (.slice A132 r131.length cA132)⟩,
          ⟨[4], [], [], Fct.val 63 (.int .i64 (r131.length : Int))⟩,
          ⟨[5], [], [], Fct.val 64 (.int .u64 (IntKind.u64.wrap (r131.length : Int)))⟩,
          ⟨[3, 6], [], [], Fct.val 65 (.int .u64 x235)⟩,
          ⟨[7], [], [], Fct.val 66 (.int .i64 (IntKind.i64.wrap x235))⟩,
          ⟨[], [10], [], Fct.val 67 (.int .i64 i201)⟩,
          ⟨[8, 9], [], [], Fct.val 68 (.int .i64 (ad (IntKind.i64.wrap x235) i201))⟩,
          ⟨[], [0], [], Fct.val 69 (.slice A132 r131.length cA132)⟩,
          ⟨[11], [], [], Fct.val 70 (.int .i64 (r131.length : Int))⟩,
          ⟨[10, 12], [], [], Fct.val 71 (.int .i64 x236)⟩,
          ⟨[1, 13], [], [], Fct.val 72 (.pointer (some ((adr A132).add ((x236 : Int).toNat * R32.s))))⟩,
          ⟨[14], [], [], Fct.val 73 (.agg #[.int .i64 x237.1, .int .i64 x237.2])⟩,
          ⟨[15], [], [], Fct.row 239 [] 74 32 R32 [x237]⟩,
          ⟨[0, 16, 19], [], [200], Fct.row 241 [] 75 32 R32 x240⟩,
          ⟨[17], [], [], Fct.rel [9, 75] (fun l => ∀ (A242 : Option Addr) (cA242 : Nat), l.getD 1 undef = .slice A242 x240.length cA242 → l.getD 0 undef = .slice A242 x240.length cA242)⟩]) (by kernel_rfl) hz226 hd226 (by simp only [List.forall_mem_cons]; exact ⟨b226_A197, fun _ h => nomatch h⟩) ?_ ?_
      · refine steps_cons (fun own a wx hf hsl hE => ?_) ?_
        · obtain ⟨s_9, -⟩ := hsl
          exact sg_plain rfl rfl (or_move (s_9.trans e226_9))
        refine steps_cons (fun own a wx hf hsl hE => ?_) ?_
        · obtain ⟨s_0, -⟩ := hsl
          exact sg_plain rfl rfl (or_move (s_0.trans e226_0))
        refine steps_cons (fun own a wx hf hsl hE => ?_) ?_
        · obtain ⟨s_2, -⟩ := hsl
          exact sg_plain rfl rfl (or_move (s_2.trans e226_2))
        refine steps_cons (fun own a wx hf hsl hE => ?_) ?_
        · obtain ⟨(f_60 : a.eval (.tmp 60) = .int .i64 x3), -⟩ := hf
          exact sg_plain rfl rfl (or_conv f_60 tn3 tn37 rfl)
        refine steps_cons (fun own a wx hf hsl hE => ?_) ?_
        · obtain ⟨s_0, -⟩ := hsl
          exact sg_plain rfl rfl (or_move (s_0.trans e226_0))
        refine steps_cons (fun own a wx hf hsl hE => ?_) ?_
        · obtain ⟨(f_62 : a.eval (.tmp 62) = .slice A132 r131.length cA132), -⟩ := hf
          exact sg_plain rfl rfl (or_len tu22 f_62 rfl)
        refine steps_cons (fun own a wx hf hsl hE => ?_) ?_
        · obtain ⟨(f_63 : a.eval (.tmp 63) = .int .i64 (r131.length : Int)), -⟩ := hf
          exact sg_plain rfl rfl (or_conv f_63 tn3 tn37 rfl)
        refine steps_cons (fun own a wx hf hsl hE => ?_) ?_
        · obtain ⟨(f_61 : a.eval (.tmp 61) = .int .u64 (IntKind.u64.wrap x3)), (f_64 : a.eval (.tmp 64) = .int .u64 (IntKind.u64.wrap (r131.length : Int))), -⟩ := hf
          exact sg_plain rfl rfl (or_rem f_61 f_64 hx235)
        refine steps_cons (fun own a wx hf hsl hE => ?_) ?_
        · obtain ⟨(f_65 : a.eval (.tmp 65) = .int .u64 x235), -⟩ := hf
          exact sg_plain rfl rfl (or_conv f_65 tn37 tn3 rfl)
        refine steps_cons (fun own a wx hf hsl hE => ?_) ?_
        · obtain ⟨s_10, -⟩ := hsl
          exact sg_plain rfl rfl (or_move (s_10.trans e226_10))
        refine steps_cons (fun own a wx hf hsl hE => ?_) ?_
        · obtain ⟨(f_66 : a.eval (.tmp 66) = .int .i64 (IntKind.i64.wrap x235)), (f_67 : a.eval (.tmp 67) = .int .i64 i201), -⟩ := hf
          exact sg_plain rfl rfl (or_add f_66 f_67 rfl)
        refine steps_cons (fun own a wx hf hsl hE => ?_) ?_
        · obtain ⟨s_0, -⟩ := hsl
          exact sg_plain rfl rfl (or_move (s_0.trans e226_0))
        refine steps_cons (fun own a wx hf hsl hE => ?_) ?_
        · obtain ⟨(f_69 : a.eval (.tmp 69) = .slice A132 r131.length cA132), -⟩ := hf
          exact sg_plain rfl rfl (or_len tu22 f_69 rfl)
        refine steps_cons (fun own a wx hf hsl hE => ?_) ?_
        · obtain ⟨(f_68 : a.eval (.tmp 68) = .int .i64 (ad (IntKind.i64.wrap x235) i201)), (f_70 : a.eval (.tmp 70) = .int .i64 (r131.length : Int)), -⟩ := hf
          exact sg_plain rfl rfl (or_rem f_68 f_70 hx236)
        refine steps_cons (fun own a wx hf hsl hE => ?_) ?_
        · obtain ⟨(f_59 : a.eval (.tmp 59) = .slice A132 r131.length cA132), (f_71 : a.eval (.tmp 71) = .int .i64 x236), -⟩ := hf
          exact sg_plain rfl rfl (or_index (R := R32) (l := r131) tl22 f_59 f_71 (RdO.some_ b226_A132 hx237) hx237)
        refine steps_cons (fun own a wx hf hsl hE => ?_) ?_
        · obtain ⟨(f_72 : a.eval (.tmp 72) = .pointer (some ((adr A132).add ((x236 : Int).toNat * R32.s)))), -⟩ := hf
          exact sg_plain rfl rfl (or_load (l := E32.f x237) ta32 f_72 (RdO.cells (F := E32) (RdO.evo rfl hE b226_A132) hx237) rfl)
        refine steps_cons (fun own a wx hf hsl hE => ?_) ?_
        · obtain ⟨(f_73 : a.eval (.tmp 73) = .agg #[.int .i64 x237.1, .int .i64 x237.2]), -⟩ := hf
          exact sg_plain rfl rfl (or_lit (lab := 239) (e := 32) (cs := #[.int .i64 x237.1, .int .i64 x237.2]) (F := E32) (or_new [(73, .agg #[.int .i64 x237.1, .int .i64 x237.2])] rfl rfl ⟨f_73, trivial⟩ (by kernel_rfl)) rfl rfl (show 1 ≤ maxLen by decide))
        refine steps_cons (fun own a wx hf hsl hE => ?_) ?_
        · obtain ⟨(f_58 : a.eval (.tmp 58) = .slice A197 c199.length c198), ⟨⟨A238, cA238⟩, (f_74 : a.eval (.tmp 74) = .slice A238 [x237].length cA238), (b_A238 : RwO own 239 [] wx 32 R32 A238 cA238 [x237])⟩, (b_A197 : RwO own 200 [] wx 32 R32 A197 c198 c199), -⟩ := hf
          exact sg_plain rfl rfl (or_append (R := R32) (lab := 200) (lab2 := 241) (L := []) (L3 := []) tp22 f_58 b_A197 (by decide) f_74 (RwO.rd b_A238) hx240 (by decide) (by decide) (mem_of rfl) (.inl (Rep.fl_flat _)))
        refine steps_cons (fun own a wx hf hsl hE => ?_) ?_
        · obtain ⟨⟨⟨A242, cA242⟩, (f_75 : a.eval (.tmp 75) = .slice A242 x240.length cA242), (b_A242 : RwO own 241 [] wx 32 R32 A242 cA242 x240)⟩, -⟩ := hf
          exact sg_plain rfl rfl (or_mono (f := Fct.val 9 (.slice A242 x240.length cA242)) (or_assign f_75) (fun own' a' w' v' hp h => fun _ _ h0' => by cases (f_75.symm.trans ((hp.2 75 (by decide)).symm.trans h0')); exact h))
        exact steps_nil
      intro own243 a243 w243 hd243 hz243 hk243 hf243 hE243
      have e243_0 : a243.eval (.tmp 0) = .slice A132 r131.length cA132 := (hk243 0 rfl).trans e226_0
      have e243_2 : a243.eval (.tmp 2) = .int .i64 x3 := (hk243 2 rfl).trans e226_2
      have e243_10 : a243.eval (.tmp 10) = .int .i64 i201 := (hk243 10 rfl).trans e226_10
      obtain ⟨⟨⟨A242, cA242⟩, (f_75 : a243.eval (.tmp 75) = .slice A242 x240.length cA242), (b_A242 : RwO own243 241 [] w243 32 R32 A242 cA242 x240)⟩, (q_9 : ∀ (A242 : Option Addr) (cA242 : Nat), a243.eval (.tmp 75) = .slice A242 x240.length cA242 → a243.eval (.tmp 9) = .slice A242 x240.length cA242), -⟩ := hf243 [17, 18] rfl
      have f_9 := q_9 _ _ f_75
      have e243_9 := f_9
      have hX243 := Evo.step hX226 (fun _ => Nat.le_refl 0) hE243 rfl
      have b243_A132 := RdO.evo rfl hE243 b226_A132
      have b243_A242 := b_A242
      refine hn229 _ _ ?_
      refine hn228 _ _ ?_
      refine rg_plain (n := 87) (rs := []) (own0 := own243) (K := [])
          (bs := [0, 1, 3])
          (ds := [⟨[], [10], [], Fct.val 56 (.int .i64 i201)⟩,
          ⟨[0], [], [], Fct.val 57 (.int .i64 (ad i201 1))⟩,
          ⟨[1], [], [], Fct.val 10 (.int .i64 (ad i201 1))⟩]) (by kernel_rfl) hz243 hd243 (fun _ h => nomatch h) ?_ ?_
      · refine steps_cons (fun own a wx hf hsl hE => ?_) ?_
        · obtain ⟨s_10, -⟩ := hsl
          exact sg_plain rfl rfl (or_move (s_10.trans e243_10))
        refine steps_cons (fun own a wx hf hsl hE => ?_) ?_
        · obtain ⟨(f_56 : a.eval (.tmp 56) = .int .i64 i201), -⟩ := hf
          exact sg_plain rfl rfl (or_add f_56 rfl rfl)
        refine steps_cons (fun own a wx hf hsl hE => ?_) ?_
        · obtain ⟨(f_57 : a.eval (.tmp 57) = .int .i64 (ad i201 1)), -⟩ := hf
          exact sg_plain rfl rfl (or_assign f_57)
        exact steps_nil
      intro own244 a244 w244 hd244 hz244 hk244 hf244 hE244
      have e244_0 : a244.eval (.tmp 0) = .slice A132 r131.length cA132 := (hk244 0 rfl).trans e243_0
      have e244_2 : a244.eval (.tmp 2) = .int .i64 x3 := (hk244 2 rfl).trans e243_2
      have e244_9 : a244.eval (.tmp 9) = .slice A242 x240.length cA242 := (hk244 9 rfl).trans e243_9
      obtain ⟨(f_10 : a244.eval (.tmp 10) = .int .i64 (ad i201 1)), -⟩ := hf244 [2] rfl
      have e244_10 := f_10
      have hX244 := Evo.step hX243 (fun _ => Nat.le_refl 0) hE244 rfl
      have b244_A132 := RdO.evo rfl hE244 b243_A132
      have b244_A242 := RwO.evo rfl hE244 b243_A242
      exact hn223 _ _ _ hs ⟨(rl [(241, 200)] own244), A242, cA242, hd244, hz244, e244_0, e244_2, e244_9, e244_10, (Evo.rl_ hX244 (fun _ => Nat.le_refl 0) rfl), (RdO.rl_ (mm := [(241, 200)]) b244_A132), (RwO.rl_ (mm := [(241, 200)]) b244_A242)⟩
    refine fl_exit ?_
    refine hp225 _ _ _ rfl ?_
    replace hs := hz223 _ hs
    refine hp223 _ _ _ rfl ?_
    refine hx179 _ _ ?_
    refine hn177 _ _ ?_
    obtain ⟨r245, hr245, hs⟩ := obind hs
    obtain ⟨r246, hr246, hs⟩ := obind hs
    obtain ⟨r247, hr247, hs⟩ := obind hs
    refine rg_plain_seq (n := 87) (rs := []) (own0 := own226) (K := [])
        (bs := [0, 1, 3, 3, 15, 31, 63, 127, 127, 511, 1023, 2047])
        (ds := [⟨[], [], [], Fct.val 76 (.bool r245)⟩,
        ⟨[0], [], [], Fct.val 77 (.bool r245)⟩,
        ⟨[1], [0], [], Fct.cond r245 (some 78) (Fct.val 78 (.slice A132 r131.length cA132))⟩,
        ⟨[1], [9], [], Fct.cond r245 (some 79) (Fct.val 79 (.slice A197 c199.length c198))⟩,
        ⟨[1, 2, 3], [], [], Fct.cond r245 (some 80) (Fct.val 80 (.bool r246))⟩,
        ⟨[1, 4], [], [], Fct.val 81 (.bool (r245 && r246))⟩,
        ⟨[5], [], [], Fct.val 82 (.bool (r245 && r246))⟩,
        ⟨[6], [9], [], Fct.cond (r245 && r246) (some 83) (Fct.val 83 (.slice A197 c199.length c198))⟩,
        ⟨[6], [0], [], Fct.cond (r245 && r246) (some 84) (Fct.val 84 (.slice A132 r131.length cA132))⟩,
        ⟨[6, 7, 8], [], [], Fct.cond (r245 && r246) (some 85) (Fct.val 85 (.bool r247))⟩,
        ⟨[6, 9], [], [], Fct.val 86 (.bool ((r245 && r246) && r247))⟩,
        ⟨[10], [], [], Fct.val 6 (.bool ((r245 && r246) && r247))⟩]) (by kernel_rfl) hz226 hd226 (fun _ h => nomatch h) ?_ ?_
    · refine steps_cons (fun own a wx hf hsl hE => ?_) ?_
      · exact sg_plain rfl rfl (or_call cf12 (args0) (law03_known_w _   r245 hr245) post_val)
      refine steps_cons (fun own a wx hf hsl hE => ?_) ?_
      · obtain ⟨(f_76 : a.eval (.tmp 76) = .bool r245), -⟩ := hf
        exact sg_plain rfl rfl (or_move f_76)
      refine steps_cons (fun own a wx hf hsl hE => ?_) ?_
      · obtain ⟨(f_77 : a.eval (.tmp 77) = .bool r245), -⟩ := hf
        obtain ⟨s_0, -⟩ := hsl
        refine sg_t rfl rfl rfl f_77 (fun hg => ?_)
        exact or_move (s_0.trans e226_0)
      refine steps_cons (fun own a wx hf hsl hE => ?_) ?_
      · obtain ⟨(f_77 : a.eval (.tmp 77) = .bool r245), -⟩ := hf
        obtain ⟨s_9, -⟩ := hsl
        refine sg_t rfl rfl rfl f_77 (fun hg => ?_)
        exact or_move (s_9.trans e226_9)
      refine steps_cons (fun own a wx hf hsl hE => ?_) ?_
      · obtain ⟨(f_77 : a.eval (.tmp 77) = .bool r245), c_78, c_79, -⟩ := hf
        refine sg_t rfl rfl rfl f_77 (fun hg => ?_)
        have f_78 : a.eval (.tmp 78) = .slice A132 r131.length cA132 := c_78.1 hg
        have f_79 : a.eval (.tmp 79) = .slice A197 c199.length c198 := c_79.1 hg
        exact or_call cf29 (args2 f_78 f_79) (ring_Alike_w _ r131 A132 cA132 c199 A197 c198 (RdO.zero (RdO.evo rfl hE b226_A132)) (RdO.zero (RwO.rd (RwO.evo rfl hE b226_A197))) r246 (gd_t hr246 hg)) post_val
      refine steps_cons (fun own a wx hf hsl hE => ?_) ?_
      · obtain ⟨(f_77 : a.eval (.tmp 77) = .bool r245), c_80, -⟩ := hf
        exact sg_plain rfl rfl (or_and f_77 (fun hx => c_80.1 hx) rfl rfl)
      refine steps_cons (fun own a wx hf hsl hE => ?_) ?_
      · obtain ⟨(f_81 : a.eval (.tmp 81) = .bool (r245 && r246)), -⟩ := hf
        exact sg_plain rfl rfl (or_move f_81)
      refine steps_cons (fun own a wx hf hsl hE => ?_) ?_
      · obtain ⟨(f_82 : a.eval (.tmp 82) = .bool (r245 && r246)), -⟩ := hf
        obtain ⟨s_9, -⟩ := hsl
        refine sg_t rfl rfl rfl f_82 (fun hg => ?_)
        exact or_move (s_9.trans e226_9)
      refine steps_cons (fun own a wx hf hsl hE => ?_) ?_
      · obtain ⟨(f_82 : a.eval (.tmp 82) = .bool (r245 && r246)), -⟩ := hf
        obtain ⟨s_0, -⟩ := hsl
        refine sg_t rfl rfl rfl f_82 (fun hg => ?_)
        exact or_move (s_0.trans e226_0)
      refine steps_cons (fun own a wx hf hsl hE => ?_) ?_
      · obtain ⟨(f_82 : a.eval (.tmp 82) = .bool (r245 && r246)), c_83, c_84, -⟩ := hf
        refine sg_t rfl rfl rfl f_82 (fun hg => ?_)
        have f_83 : a.eval (.tmp 83) = .slice A197 c199.length c198 := c_83.1 hg
        have f_84 : a.eval (.tmp 84) = .slice A132 r131.length cA132 := c_84.1 hg
        exact or_call cf29 (args2 f_83 f_84) (ring_Alike_w _ c199 A197 c198 r131 A132 cA132 (RdO.zero (RwO.rd (RwO.evo rfl hE b226_A197))) (RdO.zero (RdO.evo rfl hE b226_A132)) r247 (gd_t hr247 hg)) post_val
      refine steps_cons (fun own a wx hf hsl hE => ?_) ?_
      · obtain ⟨(f_82 : a.eval (.tmp 82) = .bool (r245 && r246)), c_85, -⟩ := hf
        exact sg_plain rfl rfl (or_and f_82 (fun hx => c_85.1 hx) rfl rfl)
      refine steps_cons (fun own a wx hf hsl hE => ?_) ?_
      · obtain ⟨(f_86 : a.eval (.tmp 86) = .bool ((r245 && r246) && r247)), -⟩ := hf
        exact sg_plain rfl rfl (or_assign f_86)
      exact steps_nil
    intro own248 a248 w248 hd248 hz248 hk248 hf248 hE248
    obtain ⟨(f_6 : a248.eval (.tmp 6) = .bool ((r245 && r246) && r247)), -⟩ := hf248 [11] rfl
    have e248_6 := f_6
    have hX248 := Evo.step hX226 (fun _ => Nat.le_refl 0) hE248 rfl
    refine fl_ret ?_
    obtain rfl := osome hs
    exact hret _ _ _ _ (.inl rfl) hd248 (results1_ rfl (RVal.tmp_ e248_6)) ⟨own248, rfl, hX248⟩

end Go.Proofs.Ythkmkmkcnljmaaa
