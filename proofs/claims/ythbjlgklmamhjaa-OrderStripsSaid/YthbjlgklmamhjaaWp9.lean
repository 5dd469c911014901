/-
  Chapter 04. The walks.
-/
import Derived.Test.YthbjlgklmamhjaaWp2
import Derived.Test.YthbjlgklmamhjaaWp3
import Derived.Test.YthbjlgklmamhjaaSp9
namespace Go.Proofs.Ythbjlgklmamhjaa
open Go.RowKit
set_option linter.unusedVariables false
set_option maxHeartbeats 2000000 in
theorem law04_OrderStrips_w (w : World) (l1 : List Int) (Al1 : Option Addr) (cl1 : Nat) (x2 : Int) (b3 : Int) (c4 : Int) (hl1 : RdO (fun _ => 0) [0] w R3 Al1 cl1 l1) (r : Bool) (hs : law04_OrderStrips l1 x2 b3 c4 = some r) :
    Calls Try.prog 3 #[.slice Al1 l1.length cl1, .int .i64 x2, .int .i64 b3, .int .i64 c4] w fun e w' => ∃ own' : Own, e = .returned (.bool r) ∧ Evo [] (fun _ => 0) own' w w' := by
  refine fl_enter (n := 135) rfl rfl rfl (Nat.le_of_ble_eq_true rfl) ?_
  intro a0 Q hd0 hz0 harg hret
  have ha0 := harg 0 _ rfl
  have ha1 := harg 1 _ rfl
  have ha2 := harg 2 _ rfl
  have ha3 := harg 3 _ rfl
  clear harg
  have hE0 : Evo [] (fun _ => 0) (fun _ => 0) w w := Evo.refl _ _ _
  refine rg_plain_seq (n := 135) (rs := []) (own0 := (fun _ => 0)) (K := [])
      (bs := [0])
      (ds := [⟨[], [], [], Fct.val 8 (.bool false)⟩]) (by kernel_rfl) hz0 hd0 (fun _ h => nomatch h) ?_ ?_
  · refine steps_cons (fun own a wx hf hsl hE => ?_) ?_
    · exact sg_plain rfl rfl (or_assign rfl)
    exact steps_nil
  intro own127 a127 w127 hd127 hz127 hk127 hf127 hE127
  have e127_0 : a127.eval (.tmp 0) = .slice Al1 l1.length cl1 := (hk127 0 rfl).trans ha0
  have e127_1 : a127.eval (.tmp 1) = .int .i64 x2 := (hk127 1 rfl).trans ha1
  have e127_2 : a127.eval (.tmp 2) = .int .i64 b3 := (hk127 2 rfl).trans ha2
  have e127_3 : a127.eval (.tmp 3) = .int .i64 c4 := (hk127 3 rfl).trans ha3
  have hX127 := Evo.step hE0 (fun _ => Nat.le_refl 0) hE127 rfl
  have b127_Al1 := RdO.evo rfl hE127 hl1
  refine rg_plain_seq (n := 135) (rs := []) (own0 := own127) (K := [])
      (bs := [0])
      (ds := [⟨[], [], [], Fct.val 9 (.slice none 0 0)⟩]) (by kernel_rfl) hz127 hd127 (fun _ h => nomatch h) ?_ ?_
  · refine steps_cons (fun own a wx hf hsl hE => ?_) ?_
    · exact sg_plain rfl rfl (or_assign rfl)
    exact steps_nil
  intro own128 a128 w128 hd128 hz128 hk128 hf128 hE128
  have e128_0 : a128.eval (.tmp 0) = .slice Al1 l1.length cl1 := (hk128 0 rfl).trans e127_0
  have e128_1 : a128.eval (.tmp 1) = .int .i64 x2 := (hk128 1 rfl).trans e127_1
  have e128_2 : a128.eval (.tmp 2) = .int .i64 b3 := (hk128 2 rfl).trans e127_2
  have e128_3 : a128.eval (.tmp 3) = .int .i64 c4 := (hk128 3 rfl).trans e127_3
  obtain ⟨(f_9 : a128.eval (.tmp 9) = .slice none 0 0), -⟩ := hf128 [0] rfl
  have e128_9 := f_9
  have hX128 := Evo.step hX127 (fun _ => Nat.le_refl 0) hE128 rfl
  have b128_Al1 := RdO.evo rfl hE128 b127_Al1
  refine fl_seq (fun Q129 hn129 hp129 => ?_)
  refine rg_plain_seq (n := 135) (rs := []) (own0 := own128) (K := [])
      (bs := [0])
      (ds := [⟨[], [], [], Fct.val 10 (.int .i64 0)⟩]) (by kernel_rfl) hz128 hd128 (fun _ h => nomatch h) ?_ ?_
  · refine steps_cons (fun own a wx hf hsl hE => ?_) ?_
    · exact sg_plain rfl rfl (or_assign rfl)
    exact steps_nil
  intro own130 a130 w130 hd130 hz130 hk130 hf130 hE130
  have e130_0 : a130.eval (.tmp 0) = .slice Al1 l1.length cl1 := (hk130 0 rfl).trans e128_0
  have e130_1 : a130.eval (.tmp 1) = .int .i64 x2 := (hk130 1 rfl).trans e128_1
  have e130_2 : a130.eval (.tmp 2) = .int .i64 b3 := (hk130 2 rfl).trans e128_2
  have e130_3 : a130.eval (.tmp 3) = .int .i64 c4 := (hk130 3 rfl).trans e128_3
  have e130_9 : a130.eval (.tmp 9) = .slice none 0 0 := (hk130 9 rfl).trans e128_9
  obtain ⟨(f_10 : a130.eval (.tmp 10) = .int .i64 0), -⟩ := hf130 [0] rfl
  have e130_10 := f_10
  have hX130 := Evo.step hX128 (fun _ => Nat.le_refl 0) hE130 rfl
  have b130_Al1 := RdO.evo rfl hE130 b128_Al1
  refine fl_block (fun Q131 hn131 hx131 hp131 => ?_)
  refine fl_loop (body := (fun s => law04_OrderStrips_b1 l1 x2 b3 c4 s.1 s.2)) (z := r) (show loopO _ _ = _ from hs) (fun (s : (List Int) × Int) a wx => match s with | (x147, i149) => ∃ (ox : Own) (A145 : Option Addr) (c146 : Nat), a.defers = [] ∧ a.tmps.size = 135 ∧ a.eval (.tmp 0) = .slice Al1 l1.length cl1 ∧ a.eval (.tmp 1) = .int .i64 x2 ∧ a.eval (.tmp 2) = .int .i64 b3 ∧ a.eval (.tmp 3) = .int .i64 c4 ∧ a.eval (.tmp 9) = .slice A145 x147.length c146 ∧ a.eval (.tmp 10) = .int .i64 i149 ∧ Evo [] (fun _ => 0) ox w wx ∧ RdO ox [0] wx R3 Al1 cl1 l1 ∧ RwO ox 148 [] wx 3 R3 A145 c146 x147) ?_ ?_
  · exact ⟨own130, none, 0, hd130, hz130, e130_0, e130_1, e130_2, e130_3, e130_9, e130_10, hX130, b130_Al1, RwO.nil_⟩
  · rintro ⟨x147, i149⟩ zz163 a163 w163 ⟨own163, A145, c146, hd164, hz164, e164_0, e164_1, e164_2, e164_3, e164_9, e164_10, hE164, b164_Al1, b164_A145⟩ hs Q163 hn163 hp163 hz163
    have hs : law04_OrderStrips_b1 l1 x2 b3 c4 x147 i149 = some zz163 := hs
    refine fl_seq (fun Q165 hn165 hp165 => ?_)
    obtain ⟨x166, hx166, hs⟩ := obind hs
    refine rg_plain_seq (n := 135) (rs := []) (own0 := own163) (K := [])
        (bs := [0, 0, 2, 7, 15, 31, 63, 127])
        (ds := [⟨[], [10], [], Fct.val 17 (.int .i64 i149)⟩,
        ⟨[], [0], [], Fct.val 18 (.slice Al1 l1.length cl1)⟩,
        ⟨[1], [], [], Fct.val 19 (.int .i64 (l1.length : Int))⟩,
        ⟨[0, 2], [], [], Fct.val 20 (.bool (decide (i149 < (l1.length : Int))))⟩,
        ⟨[3], [], [], Fct.val 21 (.bool (decide (i149 < (l1.length : Int))))⟩,
        ⟨[4], [10], [], Fct.cond (decide (i149 < (l1.length : Int))) (some 22) (Fct.val 22 (.int .i64 i149))⟩,
        ⟨[4, 5], [], [], Fct.cond (decide (i149 < (l1.length : Int))) (some 23) (Fct.val 23 (.bool (decide (i149 < 60))))⟩,
        ⟨[4, 6], [], [], Fct.val 24 (.bool x166)⟩]) (by kernel_rfl) hz164 hd164 (fun _ h => nomatch h) ?_ ?_
    · refine steps_cons (fun own a wx hf hsl hE => ?_) ?_
      · obtain ⟨s_10, -⟩ := hsl
        exact sg_plain rfl rfl (or_move (s_10.trans e164_10))
      refine steps_cons (fun own a wx hf hsl hE => ?_) ?_
      · obtain ⟨s_0, -⟩ := hsl
        exact sg_plain rfl rfl (or_move (s_0.trans e164_0))
      refine steps_cons (fun own a wx hf hsl hE => ?_) ?_
      · obtain ⟨(f_18 : a.eval (.tmp 18) = .slice Al1 l1.length cl1), -⟩ := hf
        exact sg_plain rfl rfl (or_len tu22 f_18 rfl)
      refine steps_cons (fun own a wx hf hsl hE => ?_) ?_
      · obtain ⟨(f_17 : a.eval (.tmp 17) = .int .i64 i149), (f_19 : a.eval (.tmp 19) = .int .i64 (l1.length : Int)), -⟩ := hf
        exact sg_plain rfl rfl (or_lss f_17 f_19 rfl)
      refine steps_cons (fun own a wx hf hsl hE => ?_) ?_
      · obtain ⟨(f_20 : a.eval (.tmp 20) = .bool (decide (i149 < (l1.length : Int)))), -⟩ := hf
        exact sg_plain rfl rfl (or_move f_20)
      refine steps_cons (fun own a wx hf hsl hE => ?_) ?_
      · obtain ⟨(f_21 : a.eval (.tmp 21) = .bool (decide (i149 < (l1.length : Int)))), -⟩ := hf
        obtain ⟨s_10, -⟩ := hsl
        refine sg_t rfl rfl rfl f_21 (fun hg => ?_)
        exact or_move (s_10.trans e164_10)
      refine steps_cons (fun own a wx hf hsl hE => ?_) ?_
      · obtain ⟨(f_21 : a.eval (.tmp 21) = .bool (decide (i149 < (l1.length : Int)))), c_22, -⟩ := hf
        refine sg_t rfl rfl rfl f_21 (fun hg => ?_)
        have f_22 : a.eval (.tmp 22) = .int .i64 i149 := c_22.1 hg
        exact or_lss f_22 rfl rfl
      refine steps_cons (fun own a wx hf hsl hE => ?_) ?_
      · obtain ⟨(f_21 : a.eval (.tmp 21) = .bool (decide (i149 < (l1.length : Int)))), c_23, -⟩ := hf
        exact sg_plain rfl rfl (or_and f_21 (fun hx => c_23.1 hx) rfl (osome hx166).symm)
      exact steps_nil
    intro own167 a167 w167 hd167 hz167 hk167 hf167 hE167
    have e167_0 : a167.eval (.tmp 0) = .slice Al1 l1.length cl1 := (hk167 0 rfl).trans e164_0
    have e167_1 : a167.eval (.tmp 1) = .int .i64 x2 := (hk167 1 rfl).trans e164_1
    have e167_2 : a167.eval (.tmp 2) = .int .i64 b3 := (hk167 2 rfl).trans e164_2
    have e167_3 : a167.eval (.tmp 3) = .int .i64 c4 := (hk167 3 rfl).trans e164_3
    have e167_9 : a167.eval (.tmp 9) = .slice A145 x147.length c146 := (hk167 9 rfl).trans e164_9
    have e167_10 : a167.eval (.tmp 10) = .int .i64 i149 := (hk167 10 rfl).trans e164_10
    obtain ⟨(f_24 : a167.eval (.tmp 24) = .bool x166), -⟩ := hf167 [7] rfl
    have e167_24 := f_24
    have hX167 := Evo.step hE164 (fun _ => Nat.le_refl 0) hE167 rfl
    have b167_Al1 := RdO.evo rfl hE167 b164_Al1
    have b167_A145 := RwO.evo rfl hE167 b164_A145
    refine fl_cond e167_24 hs (fun c168 hs => ?_) (fun c168 hs => ?_)
    · refine fl_skip ?_
      refine hn165 _ _ ?_
      refine fl_seq (fun Q169 hn169 hp169 => ?_)
      refine fl_block (fun Q170 hn170 hx170 hp170 => ?_)
      obtain ⟨x171, hx171, hs⟩ := obind hs
      obtain ⟨r172, hr172, hs⟩ := obind hs
      refine rg_plain (n := 135) (rs := []) (own0 := own167) (K := [])
          (bs := [0, 0, 0, 6, 14, 31, 63])
          (ds := [⟨[], [9], [], Fct.val 27 (.slice A145 x147.length c146)⟩,
          ⟨[], [0], [], Fct.val 28 (.slice Al1 l1.length cl1)⟩,
          ⟨[], [10], [], Fct.val 29 (.int .i64 i149)⟩,
          ⟨[1, 2], [], [], Fct.val 30 (.pointer (some ((adr Al1).add ((i149 : Int).toNat * R3.s))))⟩,
          ⟨[3], [], [], Fct.val 31 (.int .i64 x171)⟩,
          ⟨[0, 4], [], [], Fct.row 174 [] 32 3 R3 r172⟩,
          ⟨[5], [], [], Fct.rel [9, 32] (fun l => ∀ (A173 : Option Addr) (cA173 : Nat), l.getD 1 undef = .slice A173 r172.length cA173 → l.getD 0 undef = .slice A173 r172.length cA173)⟩]) (by kernel_rfl) hz167 hd167 (fun _ h => nomatch h) ?_ ?_
      · refine steps_cons (fun own a wx hf hsl hE => ?_) ?_
        · obtain ⟨s_9, -⟩ := hsl
          exact sg_plain rfl rfl (or_move (s_9.trans e167_9))
        refine steps_cons (fun own a wx hf hsl hE => ?_) ?_
        · obtain ⟨s_0, -⟩ := hsl
          exact sg_plain rfl rfl (or_move (s_0.trans e167_0))
        refine steps_cons (fun own a wx hf hsl hE => ?_) ?_
        · obtain ⟨s_10, -⟩ := hsl
          exact sg_plain rfl rfl (or_move (s_10.trans e167_10))
        refine steps_cons (fun own a wx hf hsl hE => ?_) ?_
        · obtain ⟨(f_28 : a.eval (.tmp 28) = .slice Al1 l1.length cl1), (f_29 : a.eval (.tmp 29) = .int .i64 i149), -⟩ := hf
          exact sg_plain rfl rfl (or_index (R := R3) (l := l1) tl22 f_28 f_29 (RdO.some_ b167_Al1 hx171) hx171)
        refine steps_cons (fun own a wx hf hsl hE => ?_) ?_
        · obtain ⟨(f_30 : a.eval (.tmp 30) = .pointer (some ((adr Al1).add ((i149 : Int).toNat * R3.s)))), -⟩ := hf
          exact sg_plain rfl rfl (or_load1 to3 f_30 (CellsAt.zero (RdO.cells (F := E3) (RdO.evo rfl hE b167_Al1) hx171) rfl))
        refine steps_cons (fun own a wx hf hsl hE => ?_) ?_
        · obtain ⟨(f_27 : a.eval (.tmp 27) = .slice A145 x147.length c146), (f_31 : a.eval (.tmp 31) = .int .i64 x171), -⟩ := hf
          exact sg_plain rfl rfl (or_call cf7 (args2 f_27 f_31) (ref04_Put_w _ x147 A145 c146 x171 (RdO.zero (RwO.rd (RwO.evo rfl hE b167_A145))) r172 hr172) (post_row (m' := (look0 [(1, 174)])) (.inl (Rep.fl_flat _)) rfl rfl (fun _ => rfl)))
        refine steps_cons (fun own a wx hf hsl hE => ?_) ?_
        · obtain ⟨⟨⟨A173, cA173⟩, (f_32 : a.eval (.tmp 32) = .slice A173 r172.length cA173), (b_A173 : RwO own 174 [] wx 3 R3 A173 cA173 r172)⟩, -⟩ := hf
          exact sg_plain rfl rfl (or_mono (f := Fct.val 9 (.slice A173 r172.length cA173)) (or_assign f_32) (fun own' a' w' v' hp h => fun _ _ h0' => by cases (f_32.symm.trans ((hp.2 32 (by decide)).symm.trans h0')); exact h))
        exact steps_nil
      intro own175 a175 w175 hd175 hz175 hk175 hf175 hE175
      have e175_0 : a175.eval (.tmp 0) = .slice Al1 l1.length cl1 := (hk175 0 rfl).trans e167_0
      have e175_1 : a175.eval (.tmp 1) = .int .i64 x2 := (hk175 1 rfl).trans e167_1
      have e175_2 : a175.eval (.tmp 2) = .int .i64 b3 := (hk175 2 rfl).trans e167_2
      have e175_3 : a175.eval (.tmp 3) = .int .i64 c4 := (hk175 3 rfl).trans e167_3
      have e175_10 : a175.eval (.tmp 10) = .int .i64 i149 := (hk175 10 rfl).trans e167_10
      obtain ⟨⟨⟨A173, cA173⟩, (f_32 : a175.eval (.tmp 32) = .slice A173 r172.length cA173), (b_A173 : RwO own175 174 [] w175 3 R3 A173 cA173 r172)⟩, (q_9 : ∀ (A173 : Option Addr) (cA173 : Nat), a175.eval (.tmp 32) = .slice A173 r172.length cA173 → a175.eval (.tmp 9) = .slice A173 r172.length cA173), -⟩ := hf175 [5, 6] rfl
      have f_9 := q_9 _ _ f_32
      have e175_9 := f_9
      have hX175 := Evo.step hX167 (fun _ => Nat.le_refl 0) hE175 rfl
      have b175_Al1 := RdO.evo rfl hE175 b167_Al1
      have b175_A173 := b_A173
      refine hn170 _ _ ?_
      refine hn169 _ _ ?_
      refine rg_plain (n := 135) (rs := []) (own0 := own175) (K := [])
          (bs := [0, 1, 3])
          (ds := [⟨[], [10], [], Fct.val 25 (.int .i64 i149)⟩,
          ⟨[0], [], [], Fct.val 26 (.int .i64 (ad i149 1))⟩,
          ⟨[1], [], [], Fct.val 10 (.int .i64 (ad i149 1))⟩]) (by kernel_rfl) hz175 hd175 (fun _ h => nomatch h) ?_ ?_
      · refine steps_cons (fun own a wx hf hsl hE => ?_) ?_
        · obtain ⟨s_10, -⟩ := hsl
          exact sg_plain rfl rfl (or_move (s_10.trans e175_10))
        refine steps_cons (fun own a wx hf hsl hE => ?_) ?_
        · obtain ⟨(f_25 : a.eval (.tmp 25) = .int .i64 i149), -⟩ := hf
          exact sg_plain rfl rfl (or_add f_25 rfl rfl)
        refine steps_cons (fun own a wx hf hsl hE => ?_) ?_
        · obtain ⟨(f_26 : a.eval (.tmp 26) = .int .i64 (ad i149 1)), -⟩ := hf
          exact sg_plain rfl rfl (or_assign f_26)
        exact steps_nil
      intro own176 a176 w176 hd176 hz176 hk176 hf176 hE176
      have e176_0 : a176.eval (.tmp 0) = .slice Al1 l1.length cl1 := (hk176 0 rfl).trans e175_0
      have e176_1 : a176.eval (.tmp 1) = .int .i64 x2 := (hk176 1 rfl).trans e175_1
      have e176_2 : a176.eval (.tmp 2) = .int .i64 b3 := (hk176 2 rfl).trans e175_2
      have e176_3 : a176.eval (.tmp 3) = .int .i64 c4 := (hk176 3 rfl).trans e175_3
      have e176_9 : a176.eval (.tmp 9) = .slice A173 r172.length cA173 := (hk176 9 rfl).trans e175_9
      obtain ⟨(f_10 : a176.eval (.tmp 10) = .int .i64 (ad i149 1)), -⟩ := hf176 [2] rfl
      have e176_10 := f_10
      have hX176 := Evo.step hX175 (fun _ => Nat.le_refl 0) hE176 rfl
      have b176_Al1 := RdO.evo rfl hE176 b175_Al1
      have b176_A173 := RwO.evo rfl hE176 b175_A173
      exact hn163 _ _ _ hs ⟨(rl [(174, 148)] own176), A173, cA173, hd176, hz176, e176_0, e176_1, e176_2, e176_3, e176_9, e176_10, (Evo.rl_ hX176 (fun _ => Nat.le_refl 0) rfl), (RdO.rl_ (mm := [(174, 148)]) b176_Al1), (RwO.rl_ (mm := [(174, 148)]) b176_A173)⟩
    refine fl_exit ?_
    refine hp165 _ _ _ rfl ?_
    replace hs := hz163 _ hs
    refine hp163 _ _ _ rfl ?_
    refine hx131 _ _ ?_
    refine hn129 _ _ ?_
    obtain ⟨r177, hr177, hs⟩ := obind hs
    refine rg_plain_seq (n := 135) (rs := []) (own0 := own167) (K := [])
        (bs := [0, 0, 3, 7, 15, 15, 31, 127])
        (ds := [⟨[], [9], [], Fct.val 34 (.slice A145 x147.length c146)⟩,
        ⟨[], [1], [], Fct.val 35 (.int .i64 x2)⟩,
        ⟨[0, 1], [], [], Fct.val 36 (.tuple #[.int .i64 r177.1, .int .i64 r177.2])⟩,
        ⟨[2], [], [], Fct.val 33 (.tuple #[.int .i64 r177.1, .int .i64 r177.2])⟩,
        ⟨[3], [], [], Fct.val 37 (.int .i64 r177.1)⟩,
        ⟨[3], [], [], Fct.val 38 (.int .i64 r177.2)⟩,
        ⟨[4], [], [], Fct.val 11 (.int .i64 r177.1)⟩,
        ⟨[5], [], [], Fct.val 12 (.int .i64 r177.2)⟩]) (by kernel_rfl) hz167 hd167 (fun _ h => nomatch h) ?_ ?_
    · refine steps_cons (fun own a wx hf hsl hE => ?_) ?_
      · obtain ⟨s_9, -⟩ := hsl
        exact sg_plain rfl rfl (or_move (s_9.trans e167_9))
      refine steps_cons (fun own a wx hf hsl hE => ?_) ?_
      · obtain ⟨s_1, -⟩ := hsl
        exact sg_plain rfl rfl (or_move (s_1.trans e167_1))
      refine steps_cons (fun own a wx hf hsl hE => ?_) ?_
      · obtain ⟨(f_34 : a.eval (.tmp 34) = .slice A145 x147.length c146), (f_35 : a.eval (.tmp 35) = .int .i64 x2), -⟩ := hf
        exact sg_plain rfl rfl (or_call cf8 (args2 f_34 f_35) (order_Strips_w _ x147 A145 c146 x2 (RdO.zero (RwO.rd (RwO.evo rfl hE b167_A145))) r177 hr177) post_val)
      refine steps_cons (fun own a wx hf hsl hE => ?_) ?_
      · obtain ⟨(f_36 : a.eval (.tmp 36) = .tuple #[.int .i64 r177.1, .int .i64 r177.2]), -⟩ := hf
        exact sg_plain rfl rfl (or_move f_36)
      refine steps_cons (fun own a wx hf hsl hE => ?_) ?_
      · obtain ⟨(f_33 : a.eval (.tmp 33) = .tuple #[.int .i64 r177.1, .int .i64 r177.2]), -⟩ := hf
        exact sg_plain rfl rfl (or_k [(33, .tuple #[.int .i64 r177.1, .int .i64 r177.2])] rfl rfl ⟨f_33, trivial⟩ (by kernel_rfl))
      refine steps_cons (fun own a wx hf hsl hE => ?_) ?_
      · obtain ⟨(f_33 : a.eval (.tmp 33) = .tuple #[.int .i64 r177.1, .int .i64 r177.2]), -⟩ := hf
        exact sg_plain rfl rfl (or_k [(33, .tuple #[.int .i64 r177.1, .int .i64 r177.2])] rfl rfl ⟨f_33, trivial⟩ (by kernel_rfl))
      refine steps_cons (fun own a wx hf hsl hE => ?_) ?_
      · obtain ⟨(f_37 : a.eval (.tmp 37) = .int .i64 r177.1), -⟩ := hf
        exact sg_plain rfl rfl (or_assign f_37)
      refine steps_cons (fun own a wx hf hsl hE => ?_) ?_
      · obtain ⟨(f_38 : a.eval (.tmp 38) = .int .i64 r177.2), -⟩ := hf
        exact sg_plain rfl rfl (or_assign f_38)
      exact steps_nil
    intro own178 a178 w178 hd178 hz178 hk178 hf178 hE178
    have e178_1 : a178.eval (.tmp 1) = .int .i64 x2 := (hk178 1 rfl).trans e167_1
    have e178_2 : a178.eval (.tmp 2) = .int .i64 b3 := (hk178 2 rfl).trans e167_2
    have e178_3 : a178.eval (.tmp 3) = .int .i64 c4 := (hk178 3 rfl).trans e167_3
    have e178_9 : a178.eval (.tmp 9) = .slice A145 x147.length c146 := (hk178 9 rfl).trans e167_9
    obtain ⟨(f_11 : a178.eval (.tmp 11) = .int .i64 r177.1), (f_12 : a178.eval (.tmp 12) = .int .i64 r177.2), -⟩ := hf178 [6, 7] rfl
    have e178_11 := f_11
    have e178_12 := f_12
    have hX178 := Evo.step hX167 (fun _ => Nat.le_refl 0) hE178 rfl
    have b178_A145 := RwO.evo rfl hE178 b167_A145
    obtain ⟨r179, hr179, hs⟩ := obind hs
    refine rg_plain_seq (n := 135) (rs := []) (own0 := own178) (K := [])
        (bs := [0, 0, 3, 7, 15, 15, 31, 127])
        (ds := [⟨[], [9], [], Fct.val 40 (.slice A145 x147.length c146)⟩,
        ⟨[], [1], [], Fct.val 41 (.int .i64 x2)⟩,
        ⟨[0, 1], [], [], Fct.val 42 (.tuple #[.int .i64 r179.1, .bool r179.2])⟩,
        ⟨[2], [], [], Fct.val 39 (.tuple #[.int .i64 r179.1, .bool r179.2])⟩,
        ⟨[3], [], [], Fct.val 43 (.int .i64 r179.1)⟩,
        ⟨[3], [], [], Fct.val 44 (.bool r179.2)⟩,
        ⟨[4], [], [], Fct.val 13 (.int .i64 r179.1)⟩,
        ⟨[5], [], [], Fct.val 14 (.bool r179.2)⟩]) (by kernel_rfl) hz178 hd178 (fun _ h => nomatch h) ?_ ?_
    · refine steps_cons (fun own a wx hf hsl hE => ?_) ?_
      · obtain ⟨s_9, -⟩ := hsl
        exact sg_plain rfl rfl (or_move (s_9.trans e178_9))
      refine steps_cons (fun own a wx hf hsl hE => ?_) ?_
      · obtain ⟨s_1, -⟩ := hsl
        exact sg_plain rfl rfl (or_move (s_1.trans e178_1))
      refine steps_cons (fun own a wx hf hsl hE => ?_) ?_
      · obtain ⟨(f_40 : a.eval (.tmp 40) = .slice A145 x147.length c146), (f_41 : a.eval (.tmp 41) = .int .i64 x2), -⟩ := hf
        exact sg_plain rfl rfl (or_call cf9 (args2 f_40 f_41) (order_Find_w _ x147 A145 c146 x2 (RdO.zero (RwO.rd (RwO.evo rfl hE b178_A145))) r179 hr179) post_val)
      refine steps_cons (fun own a wx hf hsl hE => ?_) ?_
      · obtain ⟨(f_42 : a.eval (.tmp 42) = .tuple #[.int .i64 r179.1, .bool r179.2]), -⟩ := hf
        exact sg_plain rfl rfl (or_move f_42)
      refine steps_cons (fun own a wx hf hsl hE => ?_) ?_
      · obtain ⟨(f_39 : a.eval (.tmp 39) = .tuple #[.int .i64 r179.1, .bool r179.2]), -⟩ := hf
        exact sg_plain rfl rfl (or_k [(39, .tuple #[.int .i64 r179.1, .bool r179.2])] rfl rfl ⟨f_39, trivial⟩ (by kernel_rfl))
      refine steps_cons (fun own a wx hf hsl hE => ?_) ?_
      · obtain ⟨(f_39 : a.eval (.tmp 39) = .tuple #[.int .i64 r179.1, .bool r179.2]), -⟩ := hf
        exact sg_plain rfl rfl (or_k [(39, .tuple #[.int .i64 r179.1, .bool r179.2])] rfl rfl ⟨f_39, trivial⟩ (by kernel_rfl))
      refine steps_cons (fun own a wx hf hsl hE => ?_) ?_
      · obtain ⟨(f_43 : a.eval (.tmp 43) = .int .i64 r179.1), -⟩ := hf
        exact sg_plain rfl rfl (or_assign f_43)
      refine steps_cons (fun own a wx hf hsl hE => ?_) ?_
      · obtain ⟨(f_44 : a.eval (.tmp 44) = .bool r179.2), -⟩ := hf
        exact sg_plain rfl rfl (or_assign f_44)
      exact steps_nil
    intro own180 a180 w180 hd180 hz180 hk180 hf180 hE180
    have e180_1 : a180.eval (.tmp 1) = .int .i64 x2 := (hk180 1 rfl).trans e178_1
    have e180_2 : a180.eval (.tmp 2) = .int .i64 b3 := (hk180 2 rfl).trans e178_2
    have e180_3 : a180.eval (.tmp 3) = .int .i64 c4 := (hk180 3 rfl).trans e178_3
    have e180_9 : a180.eval (.tmp 9) = .slice A145 x147.length c146 := (hk180 9 rfl).trans e178_9
    have e180_11 : a180.eval (.tmp 11) = .int .i64 r177.1 := (hk180 11 rfl).trans e178_11
    have e180_12 : a180.eval (.tmp 12) = .int .i64 r177.2 := (hk180 12 rfl).trans e178_12
    obtain ⟨(f_14 : a180.eval (.tmp 14) = .bool r179.2), -⟩ := hf180 [7] rfl
    have e180_14 := f_14
    have hX180 := Evo.step hX178 (fun _ => Nat.le_refl 0) hE180 rfl
    have b180_A145 := RwO.evo rfl hE180 b178_A145
    refine fl_seq (fun Q181 hn181 hp181 => ?_)
    obtain ⟨x182, hx182, hs⟩ := obind hs
    obtain ⟨x183, hx183, hs⟩ := obind hs
    refine rg_plain_seq (n := 135) (rs := []) (own0 := own180) (K := [])
        (bs := [0, 1, 3, 7, 7, 23, 63, 127, 255, 511, 511, 2047, 511, 8191, 16383, 32767, 65535, 65535, 262143, 524287])
        (ds := [⟨[], [11], [], Fct.val 45 (.int .i64 r177.1)⟩,
        ⟨[0], [], [], Fct.val 46 (.bool (decide (r177.1 < 0)))⟩,
        ⟨[1], [], [], Fct.val 47 (.bool (decide (r177.1 < 0)))⟩,
        ⟨[2], [12], [], Fct.cond (!(decide (r177.1 < 0))) (some 48) (Fct.val 48 (.int .i64 r177.2))⟩,
        ⟨[2], [9], [], Fct.cond (!(decide (r177.1 < 0))) (some 49) (Fct.val 49 (.slice A145 x147.length c146))⟩,
        ⟨[2, 4], [], [], Fct.cond (!(decide (r177.1 < 0))) (some 50) (Fct.val 50 (.int .i64 (x147.length : Int)))⟩,
        ⟨[2, 3, 5], [], [], Fct.cond (!(decide (r177.1 < 0))) (some 51) (Fct.val 51 (.bool (decide ((x147.length : Int) < r177.2))))⟩,
        ⟨[2, 6], [], [], Fct.val 52 (.bool x182)⟩,
        ⟨[7], [], [], Fct.val 53 (.bool x182)⟩,
        ⟨[8], [11], [], Fct.cond (!x182) (some 54) (Fct.val 54 (.int .i64 r177.1))⟩,
        ⟨[8], [12], [], Fct.cond (!x182) (some 55) (Fct.val 55 (.int .i64 r177.2))⟩,
        ⟨[8, 9, 10], [], [], Fct.cond (!x182) (some 56) (Fct.val 56 (.bool (decide (r177.1 < r177.2))))⟩,
        ⟨[8], [14], [], Fct.cond (!x182) (some 57) (Fct.val 57 (.bool r179.2))⟩,
        ⟨[8, 11, 12], [], [], Fct.cond (!x182) (some 58) (Fct.val 58 (.bool (!((decide (r177.1 < r177.2)) == r179.2))))⟩,
        ⟨[8, 13], [], [], Fct.val 59 (.bool x183)⟩,
        ⟨[14], [], [], Fct.val 60 (.bool x183)⟩,
        ⟨[15], [11], [], Fct.cond (!x183) (some 61) (Fct.val 61 (.int .i64 r177.1))⟩,
        ⟨[15], [12], [], Fct.cond (!x183) (some 62) (Fct.val 62 (.int .i64 r177.2))⟩,
        ⟨[15, 16, 17], [], [], Fct.cond (!x183) (some 63) (Fct.val 63 (.bool (decide (r177.2 < r177.1))))⟩,
        ⟨[15, 18], [], [], Fct.val 64 (.bool (x183 || (decide (r177.2 < r177.1))))⟩]) (by kernel_rfl) hz180 hd180 (fun _ h => nomatch h) ?_ ?_
    · refine steps_cons (fun own a wx hf hsl hE => ?_) ?_
      · obtain ⟨s_11, -⟩ := hsl
        exact sg_plain rfl rfl (or_move (s_11.trans e180_11))
      refine steps_cons (fun own a wx hf hsl hE => ?_) ?_
      · obtain ⟨(f_45 : a.eval (.tmp 45) = .int .i64 r177.1), -⟩ := hf
        exact sg_plain rfl rfl (or_lss f_45 rfl rfl)
      refine steps_cons (fun own a wx hf hsl hE => ?_) ?_
      · obtain ⟨(f_46 : a.eval (.tmp 46) = .bool (decide (r177.1 < 0))), -⟩ := hf
        exact sg_plain rfl rfl (or_move f_46)
      refine steps_cons (fun own a wx hf hsl hE => ?_) ?_
      · obtain ⟨(f_47 : a.eval (.tmp 47) = .bool (decide (r177.1 < 0))), -⟩ := hf
        obtain ⟨s_12, -⟩ := hsl
        refine sg_f rfl rfl rfl f_47 (fun hg => ?_)
        exact or_move (s_12.trans e180_12)
      refine steps_cons (fun own a wx hf hsl hE => ?_) ?_
      · obtain ⟨(f_47 : a.eval (.tmp 47) = .bool (decide (r177.1 < 0))), -⟩ := hf
        obtain ⟨s_9, -⟩ := hsl
        refine sg_f rfl rfl rfl f_47 (fun hg => ?_)
        exact or_move (s_9.trans e180_9)
      refine steps_cons (fun own a wx hf hsl hE => ?_) ?_
      · obtain ⟨(f_47 : a.eval (.tmp 47) = .bool (decide (r177.1 < 0))), c_49, -⟩ := hf
        refine sg_f rfl rfl rfl f_47 (fun hg => ?_)
        have f_49 : a.eval (.tmp 49) = .slice A145 x147.length c146 := c_49.1 hg
        exact or_len tu22 f_49 rfl
      refine steps_cons (fun own a wx hf hsl hE => ?_) ?_
      · obtain ⟨(f_47 : a.eval (.tmp 47) = .bool (decide (r177.1 < 0))), c_48, c_50, -⟩ := hf
        refine sg_f rfl rfl rfl f_47 (fun hg => ?_)
        have f_48 : a.eval (.tmp 48) = .int .i64 r177.2 := c_48.1 hg
        have f_50 : a.eval (.tmp 50) = .int .i64 (x147.length : Int) := c_50.1 hg
        exact or_gtr f_48 f_50 rfl
      refine steps_cons (fun own a wx hf hsl hE => ?_) ?_
      · obtain ⟨(f_47 : a.eval (.tmp 47) = .bool (decide (r177.1 < 0))), c_51, -⟩ := hf
        exact sg_plain rfl rfl (or_or f_47 rfl (fun hx => c_51.1 hx) (osome hx182).symm)
      refine steps_cons (fun own a wx hf hsl hE => ?_) ?_
      · obtain ⟨(f_52 : a.eval (.tmp 52) = .bool x182), -⟩ := hf
        exact sg_plain rfl rfl (or_move f_52)
      refine steps_cons (fun own a wx hf hsl hE => ?_) ?_
      · obtain ⟨(f_53 : a.eval (.tmp 53) = .bool x182), -⟩ := hf
        obtain ⟨s_11, -⟩ := hsl
        refine sg_f rfl rfl rfl f_53 (fun hg => ?_)
        exact or_move (s_11.trans e180_11)
      refine steps_cons (fun own a wx hf hsl hE => ?_) ?_
      · obtain ⟨(f_53 : a.eval (.tmp 53) = .bool x182), -⟩ := hf
        obtain ⟨s_12, -⟩ := hsl
        refine sg_f rfl rfl rfl f_53 (fun hg => ?_)
        exact or_move (s_12.trans e180_12)
      refine steps_cons (fun own a wx hf hsl hE => ?_) ?_
      · obtain ⟨(f_53 : a.eval (.tmp 53) = .bool x182), c_54, c_55, -⟩ := hf
        refine sg_f rfl rfl rfl f_53 (fun hg => ?_)
        have f_54 : a.eval (.tmp 54) = .int .i64 r177.1 := c_54.1 hg
        have f_55 : a.eval (.tmp 55) = .int .i64 r177.2 := c_55.1 hg
        exact or_lss f_54 f_55 rfl
      refine steps_cons (fun own a wx hf hsl hE => ?_) ?_
      · obtain ⟨(f_53 : a.eval (.tmp 53) = .bool x182), -⟩ := hf
        obtain ⟨s_14, -⟩ := hsl
        refine sg_f rfl rfl rfl f_53 (fun hg => ?_)
        exact or_move (s_14.trans e180_14)
      refine steps_cons (fun own a wx hf hsl hE => ?_) ?_
      · obtain ⟨(f_53 : a.eval (.tmp 53) = .bool x182), c_56, c_57, -⟩ := hf
        refine sg_f rfl rfl rfl f_53 (fun hg => ?_)
        have f_56 : a.eval (.tmp 56) = .bool (decide (r177.1 < r177.2)) := c_56.1 hg
        have f_57 : a.eval (.tmp 57) = .bool r179.2 := c_57.1 hg
        exact or_neqb tb4 f_56 f_57 rfl
      refine steps_cons (fun own a wx hf hsl hE => ?_) ?_
      · obtain ⟨(f_53 : a.eval (.tmp 53) = .bool x182), c_58, -⟩ := hf
        exact sg_plain rfl rfl (or_or f_53 rfl (fun hx => c_58.1 hx) (osome hx183).symm)
      refine steps_cons (fun own a wx hf hsl hE => ?_) ?_
      · obtain ⟨(f_59 : a.eval (.tmp 59) = .bool x183), -⟩ := hf
        exact sg_plain rfl rfl (or_move f_59)
      refine steps_cons (fun own a wx hf hsl hE => ?_) ?_
      · obtain ⟨(f_60 : a.eval (.tmp 60) = .bool x183), -⟩ := hf
        obtain ⟨s_11, -⟩ := hsl
        refine sg_f rfl rfl rfl f_60 (fun hg => ?_)
        exact or_move (s_11.trans e180_11)
      refine steps_cons (fun own a wx hf hsl hE => ?_) ?_
      · obtain ⟨(f_60 : a.eval (.tmp 60) = .bool x183), -⟩ := hf
        obtain ⟨s_12, -⟩ := hsl
        refine sg_f rfl rfl rfl f_60 (fun hg => ?_)
        exact or_move (s_12.trans e180_12)
      refine steps_cons (fun own a wx hf hsl hE => ?_) ?_
      · obtain ⟨(f_60 : a.eval (.tmp 60) = .bool x183), c_61, c_62, -⟩ := hf
        refine sg_f rfl rfl rfl f_60 (fun hg => ?_)
        have f_61 : a.eval (.tmp 61) = .int .i64 r177.1 := c_61.1 hg
        have f_62 : a.eval (.tmp 62) = .int .i64 r177.2 := c_62.1 hg
        exact or_gtr f_61 f_62 rfl
      refine steps_cons (fun own a wx hf hsl hE => ?_) ?_
      · obtain ⟨(f_60 : a.eval (.tmp 60) = .bool x183), c_63, -⟩ := hf
        exact sg_plain rfl rfl (or_or f_60 rfl (fun hx => c_63.1 hx) rfl)
      exact steps_nil
    intro own184 a184 w184 hd184 hz184 hk184 hf184 hE184
    have e184_1 : a184.eval (.tmp 1) = .int .i64 x2 := (hk184 1 rfl).trans e180_1
    have e184_2 : a184.eval (.tmp 2) = .int .i64 b3 := (hk184 2 rfl).trans e180_2
    have e184_3 : a184.eval (.tmp 3) = .int .i64 c4 := (hk184 3 rfl).trans e180_3
    have e184_9 : a184.eval (.tmp 9) = .slice A145 x147.length c146 := (hk184 9 rfl).trans e180_9
    have e184_11 : a184.eval (.tmp 11) = .int .i64 r177.1 := (hk184 11 rfl).trans e180_11
    have e184_12 : a184.eval (.tmp 12) = .int .i64 r177.2 := (hk184 12 rfl).trans e180_12
    obtain ⟨(f_64 : a184.eval (.tmp 64) = .bool (x183 || (decide (r177.2 < r177.1)))), -⟩ := hf184 [19] rfl
    have e184_64 := f_64
    have hX184 := Evo.step hX180 (fun _ => Nat.le_refl 0) hE184 rfl
    have b184_A145 := RwO.evo rfl hE184 b180_A145
    refine fl_cond e184_64 hs (fun c185 hs => ?_) (fun c185 hs => ?_)
    · refine rg_plain_seq (n := 135) (rs := []) (own0 := own184) (K := [])
          (bs := [0])
          (ds := [⟨[], [], [], Fct.val 8 (.bool false)⟩]) (by kernel_rfl) hz184 hd184 (fun _ h => nomatch h) ?_ ?_
      · refine steps_cons (fun own a wx hf hsl hE => ?_) ?_
        · exact sg_plain rfl rfl (or_assign rfl)
        exact steps_nil
      intro own186 a186 w186 hd186 hz186 hk186 hf186 hE186
      obtain ⟨(f_8 : a186.eval (.tmp 8) = .bool false), -⟩ := hf186 [0] rfl
      have e186_8 := f_8
      have hX186 := Evo.step hX184 (fun _ => Nat.le_refl 0) hE186 rfl
      refine fl_ret ?_
      refine hp181 _ _ _ rfl ?_
      obtain rfl := osome hs
      exact hret _ _ _ _ (.inl rfl) hd186 (results1_ rfl (RVal.tmp_ e186_8)) ⟨own186, rfl, hX186⟩
    refine fl_skip ?_
    refine hn181 _ _ ?_
    refine fl_seq (fun Q187 hn187 hp187 => ?_)
    refine rg_plain_seq (n := 135) (rs := []) (own0 := own184) (K := [])
        (bs := [0])
        (ds := [⟨[], [], [], Fct.val 15 (.int .i64 0)⟩]) (by kernel_rfl) hz184 hd184 (fun _ h => nomatch h) ?_ ?_
    · refine steps_cons (fun own a wx hf hsl hE => ?_) ?_
      · exact sg_plain rfl rfl (or_assign rfl)
      exact steps_nil
    intro own188 a188 w188 hd188 hz188 hk188 hf188 hE188
    have e188_1 : a188.eval (.tmp 1) = .int .i64 x2 := (hk188 1 rfl).trans e184_1
    have e188_2 : a188.eval (.tmp 2) = .int .i64 b3 := (hk188 2 rfl).trans e184_2
    have e188_3 : a188.eval (.tmp 3) = .int .i64 c4 := (hk188 3 rfl).trans e184_3
    have e188_9 : a188.eval (.tmp 9) = .slice A145 x147.length c146 := (hk188 9 rfl).trans e184_9
    have e188_11 : a188.eval (.tmp 11) = .int .i64 r177.1 := (hk188 11 rfl).trans e184_11
    have e188_12 : a188.eval (.tmp 12) = .int .i64 r177.2 := (hk188 12 rfl).trans e184_12
    obtain ⟨(f_15 : a188.eval (.tmp 15) = .int .i64 0), -⟩ := hf188 [0] rfl
    have e188_15 := f_15
    have hX188 := Evo.step hX184 (fun _ => Nat.le_refl 0) hE188 rfl
    have b188_A145 := RwO.evo rfl hE188 b184_A145
    refine fl_block (fun Q189 hn189 hx189 hp189 => ?_)
    refine fl_loop (body := (fun s => law04_OrderStrips_b2 x2 b3 c4 x147 r177 s)) (z := r) (show loopO _ _ = _ from hs) (fun (i204 : Int) a wx => ∃ (ox : Own), a.defers = [] ∧ a.tmps.size = 135 ∧ a.eval (.tmp 1) = .int .i64 x2 ∧ a.eval (.tmp 2) = .int .i64 b3 ∧ a.eval (.tmp 3) = .int .i64 c4 ∧ a.eval (.tmp 9) = .slice A145 x147.length c146 ∧ a.eval (.tmp 11) = .int .i64 r177.1 ∧ a.eval (.tmp 12) = .int .i64 r177.2 ∧ a.eval (.tmp 15) = .int .i64 i204 ∧ Evo [] (fun _ => 0) ox w wx ∧ RwO ox 148 [] wx 3 R3 A145 c146 x147) ?_ ?_
    · exact ⟨own188, hd188, hz188, e188_1, e188_2, e188_3, e188_9, e188_11, e188_12, e188_15, hX188, b188_A145⟩
    · rintro i204 zz219 a219 w219 ⟨own219, hd220, hz220, e220_1, e220_2, e220_3, e220_9, e220_11, e220_12, e220_15, hE220, b220_A145⟩ hs Q219 hn219 hp219 hz219
      have hs : law04_OrderStrips_b2 x2 b3 c4 x147 r177 i204 = some zz219 := hs
      refine fl_seq (fun Q221 hn221 hp221 => ?_)
      refine rg_plain_seq (n := 135) (rs := []) (own0 := own219) (K := [])
          (bs := [0, 0, 2, 7])
          (ds := [⟨[], [15], [], Fct.val 65 (.int .i64 i204)⟩,
          ⟨[], [9], [], Fct.val 66 (.slice A145 x147.length c146)⟩,
          ⟨[1], [], [], Fct.val 67 (.int .i64 (x147.length : Int))⟩,
          ⟨[0, 2], [], [], Fct.val 68 (.bool (decide (i204 < (x147.length : Int))))⟩]) (by kernel_rfl) hz220 hd220 (fun _ h => nomatch h) ?_ ?_
      · refine steps_cons (fun own a wx hf hsl hE => ?_) ?_
        · obtain ⟨s_15, -⟩ := hsl
          exact sg_plain rfl rfl (or_move (s_15.trans e220_15))
        refine steps_cons (fun own a wx hf hsl hE => ?_) ?_
        · obtain ⟨s_9, -⟩ := hsl
          exact sg_plain rfl rfl (or_move (s_9.trans e220_9))
        refine steps_cons (fun own a wx hf hsl hE => ?_) ?_
        · obtain ⟨(f_66 : a.eval (.tmp 66) = .slice A145 x147.length c146), -⟩ := hf
          exact sg_plain rfl rfl (or_len tu22 f_66 rfl)
        refine steps_cons (fun own a wx hf hsl hE => ?_) ?_
        · obtain ⟨(f_65 : a.eval (.tmp 65) = .int .i64 i204), (f_67 : a.eval (.tmp 67) = .int .i64 (x147.length : Int)), -⟩ := hf
          exact sg_plain rfl rfl (or_lss f_65 f_67 rfl)
        exact steps_nil
      intro own222 a222 w222 hd222 hz222 hk222 hf222 hE222
      have e222_1 : a222.eval (.tmp 1) = .int .i64 x2 := (hk222 1 rfl).trans e220_1
      have e222_2 : a222.eval (.tmp 2) = .int .i64 b3 := (hk222 2 rfl).trans e220_2
      have e222_3 : a222.eval (.tmp 3) = .int .i64 c4 := (hk222 3 rfl).trans e220_3
      have e222_9 : a222.eval (.tmp 9) = .slice A145 x147.length c146 := (hk222 9 rfl).trans e220_9
      have e222_11 : a222.eval (.tmp 11) = .int .i64 r177.1 := (hk222 11 rfl).trans e220_11
      have e222_12 : a222.eval (.tmp 12) = .int .i64 r177.2 := (hk222 12 rfl).trans e220_12
      have e222_15 : a222.eval (.tmp 15) = .int .i64 i204 := (hk222 15 rfl).trans e220_15
      obtain ⟨(f_68 : a222.eval (.tmp 68) = .bool (decide (i204 < (x147.length : Int)))), -⟩ := hf222 [3] rfl
      have e222_68 := f_68
      have hX222 := Evo.step hE220 (fun _ => Nat.le_refl 0) hE222 rfl
      have b222_A145 := RwO.evo rfl hE222 b220_A145
      refine fl_cond e222_68 hs (fun c223 hs => ?_) (fun c223 hs => ?_)
      · refine fl_skip ?_
        refine hn221 _ _ ?_
        refine fl_seq (fun Q224 hn224 hp224 => ?_)
        refine fl_block (fun Q225 hn225 hx225 hp225 => ?_)
        obtain ⟨x226, hx226, hs⟩ := obind hs
        obtain ⟨x227, hx227, hs⟩ := obind hs
        obtain ⟨x228, hx228, hs⟩ := obind hs
        obtain ⟨x229, hx229, hs⟩ := obind hs
        refine rg_plain_seq (n := 135) (rs := []) (own0 := own222) (K := [])
            (bs := [0, 0, 3, 7, 0, 31, 63, 127, 127, 511, 1023, 2047, 4095, 4095, 16383, 32767, 4095, 131071, 262143, 524287, 524287, 2097151, 4194303, 8388607])
            (ds := [⟨[], [9], [], Fct.val 71 (.slice A145 x147.length c146)⟩,
            ⟨[], [15], [], Fct.val 72 (.int .i64 i204)⟩,
            ⟨[0, 1], [], [], Fct.val 73 (.pointer (some ((adr A145).add ((i204 : Int).toNat * R3.s))))⟩,
            ⟨[2], [], [], Fct.val 74 (.int .i64 x226)⟩,
            ⟨[], [1], [], Fct.val 75 (.int .i64 x2)⟩,
            ⟨[3, 4], [], [], Fct.val 76 (.bool (decide (x226 < x2)))⟩,
            ⟨[5], [], [], Fct.val 77 (.bool (decide (x226 < x2)))⟩,
            ⟨[6], [11], [], Fct.cond (decide (x226 < x2)) (some 78) (Fct.val 78 (.int .i64 r177.1))⟩,
            ⟨[6], [15], [], Fct.cond (decide (x226 < x2)) (some 79) (Fct.val 79 (.int .i64 i204))⟩,
            ⟨[6, 7, 8], [], [], Fct.cond (decide (x226 < x2)) (some 80) (Fct.val 80 (.bool (decide (r177.1 ≤ i204))))⟩,
            ⟨[6, 9], [], [], Fct.val 81 (.bool x227)⟩,
            ⟨[10], [], [], Fct.val 82 (.bool x227)⟩,
            ⟨[11], [9], [], Fct.cond (!x227) (some 83) (Fct.val 83 (.slice A145 x147.length c146))⟩,
            ⟨[11], [15], [], Fct.cond (!x227) (some 84) (Fct.val 84 (.int .i64 i204))⟩,
            ⟨[11, 12, 13], [], [], Fct.cond (!x227) (some 85) (Fct.val 85 (.pointer (some ((adr A145).add ((i204 : Int).toNat * R3.s)))))⟩,
            ⟨[11, 14], [], [], Fct.cond (!x227) (some 86) (Fct.val 86 (.int .i64 x228))⟩,
            ⟨[11], [1], [], Fct.cond (!x227) (some 87) (Fct.val 87 (.int .i64 x2))⟩,
            ⟨[11, 15, 16], [], [], Fct.cond (!x227) (some 88) (Fct.val 88 (.bool (decide (x2 < x228))))⟩,
            ⟨[11, 17], [], [], Fct.cond (!x227) (some 89) (Fct.val 89 (.bool (decide (x2 < x228))))⟩,
            ⟨[18], [12], [], Fct.cond ((!x227) && (decide (x2 < x228))) (some 90) (Fct.val 90 (.int .i64 r177.2))⟩,
            ⟨[18], [15], [], Fct.cond ((!x227) && (decide (x2 < x228))) (some 91) (Fct.val 91 (.int .i64 i204))⟩,
            ⟨[18, 19, 20], [], [], Fct.cond ((!x227) && (decide (x2 < x228))) (some 92) (Fct.val 92 (.bool (decide (i204 < r177.2))))⟩,
            ⟨[11, 18, 21], [], [], Fct.cond (!x227) (some 93) (Fct.val 93 (.bool x229))⟩,
            ⟨[11, 22], [], [], Fct.val 94 (.bool (x227 || x229))⟩]) (by kernel_rfl) hz222 hd222 (fun _ h => nomatch h) ?_ ?_
        · refine steps_cons (fun own a wx hf hsl hE => ?_) ?_
          · obtain ⟨s_9, -⟩ := hsl
            exact sg_plain rfl rfl (or_move (s_9.trans e222_9))
          refine steps_cons (fun own a wx hf hsl hE => ?_) ?_
          · obtain ⟨s_15, -⟩ := hsl
            exact sg_plain rfl rfl (or_move (s_15.trans e222_15))
          refine steps_cons (fun own a wx hf hsl hE => ?_) ?_
          · obtain ⟨(f_71 : a.eval (.tmp 71) = .slice A145 x147.length c146), (f_72 : a.eval (.tmp 72) = .int .i64 i204), -⟩ := hf
            exact sg_plain rfl rfl (or_index (R := R3) (l := x147) tl22 f_71 f_72 (RdO.some_ (RwO.rd b222_A145) hx226) hx226)
          refine steps_cons (fun own a wx hf hsl hE => ?_) ?_
          · obtain ⟨(f_73 : a.eval (.tmp 73) = .pointer (some ((adr A145).add ((i204 : Int).toNat * R3.s)))), -⟩ := hf
            exact sg_plain rfl rfl (or_load1 to3 f_73 (CellsAt.zero (RdO.cells (F := E3) (RwO.rd (RwO.evo rfl hE b222_A145)) hx226) rfl))
          refine steps_cons (fun own a wx hf hsl hE => ?_) ?_
          · obtain ⟨s_1, -⟩ := hsl
            exact sg_plain rfl rfl (or_move (s_1.trans e222_1))
          refine steps_cons (fun own a wx hf hsl hE => ?_) ?_
          · obtain ⟨(f_74 : a.eval (.tmp 74) = .int .i64 x226), (f_75 : a.eval (.tmp 75) = .int .i64 x2), -⟩ := hf
            exact sg_plain rfl rfl (or_lss f_74 f_75 rfl)
          refine steps_cons (fun own a wx hf hsl hE => ?_) ?_
          · obtain ⟨(f_76 : a.eval (.tmp 76) = .bool (decide (x226 < x2))), -⟩ := hf
            exact sg_plain rfl rfl (or_move f_76)
          refine steps_cons (fun own a wx hf hsl hE => ?_) ?_
          · obtain ⟨(f_77 : a.eval (.tmp 77) = .bool (decide (x226 < x2))), -⟩ := hf
            obtain ⟨s_11, -⟩ := hsl
            refine sg_t rfl rfl rfl f_77 (fun hg => ?_)
            exact or_move (s_11.trans e222_11)
          refine steps_cons (fun own a wx hf hsl hE => ?_) ?_
          · obtain ⟨(f_77 : a.eval (.tmp 77) = .bool (decide (x226 < x2))), -⟩ := hf
            obtain ⟨s_15, -⟩ := hsl
            refine sg_t rfl rfl rfl f_77 (fun hg => ?_)
            exact or_move (s_15.trans e222_15)
          refine steps_cons (fun own a wx hf hsl hE => ?_) ?_
          · obtain ⟨(f_77 : a.eval (.tmp 77) = .bool (decide (x226 < x2))), c_78, c_79, -⟩ := hf
            refine sg_t rfl rfl rfl f_77 (fun hg => ?_)
            have f_78 : a.eval (.tmp 78) = .int .i64 r177.1 := c_78.1 hg
            have f_79 : a.eval (.tmp 79) = .int .i64 i204 := c_79.1 hg
            exact or_leq f_78 f_79 rfl
          refine steps_cons (fun own a wx hf hsl hE => ?_) ?_
          · obtain ⟨(f_77 : a.eval (.tmp 77) = .bool (decide (x226 < x2))), c_80, -⟩ := hf
            exact sg_plain rfl rfl (or_and f_77 (fun hx => c_80.1 hx) rfl (osome hx227).symm)
          refine steps_cons (fun own a wx hf hsl hE => ?_) ?_
          · obtain ⟨(f_81 : a.eval (.tmp 81) = .bool x227), -⟩ := hf
            exact sg_plain rfl rfl (or_move f_81)
          refine steps_cons (fun own a wx hf hsl hE => ?_) ?_
          · obtain ⟨(f_82 : a.eval (.tmp 82) = .bool x227), -⟩ := hf
            obtain ⟨s_9, -⟩ := hsl
            refine sg_f rfl rfl rfl f_82 (fun hg => ?_)
            exact or_move (s_9.trans e222_9)
          refine steps_cons (fun own a wx hf hsl hE => ?_) ?_
          · obtain ⟨(f_82 : a.eval (.tmp 82) = .bool x227), -⟩ := hf
            obtain ⟨s_15, -⟩ := hsl
            refine sg_f rfl rfl rfl f_82 (fun hg => ?_)
            exact or_move (s_15.trans e222_15)
          refine steps_cons (fun own a wx hf hsl hE => ?_) ?_
          · obtain ⟨(f_82 : a.eval (.tmp 82) = .bool x227), c_83, c_84, -⟩ := hf
            refine sg_f rfl rfl rfl f_82 (fun hg => ?_)
            have f_83 : a.eval (.tmp 83) = .slice A145 x147.length c146 := c_83.1 hg
            have f_84 : a.eval (.tmp 84) = .int .i64 i204 := c_84.1 hg
            exact or_index (R := R3) (l := x147) tl22 f_83 f_84 (RdO.some_ (RwO.rd b222_A145) (gd_t hx228 hg)) (gd_t hx228 hg)
          refine steps_cons (fun own a wx hf hsl hE => ?_) ?_
          · obtain ⟨(f_82 : a.eval (.tmp 82) = .bool x227), c_85, -⟩ := hf
            refine sg_f rfl rfl rfl f_82 (fun hg => ?_)
            have f_85 : a.eval (.tmp 85) = .pointer (some ((adr A145).add ((i204 : Int).toNat * R3.s))) := c_85.1 hg
            exact or_load1 to3 f_85 (CellsAt.zero (RdO.cells (F := E3) (RwO.rd (RwO.evo rfl hE b222_A145)) (gd_t hx228 hg)) rfl)
          refine steps_cons (fun own a wx hf hsl hE => ?_) ?_
          · obtain ⟨(f_82 : a.eval (.tmp 82) = .bool x227), -⟩ := hf
            obtain ⟨s_1, -⟩ := hsl
            refine sg_f rfl rfl rfl f_82 (fun hg => ?_)
            exact or_move (s_1.trans e222_1)
          refine steps_cons (fun own a wx hf hsl hE => ?_) ?_
          · obtain ⟨(f_82 : a.eval (.tmp 82) = .bool x227), c_86, c_87, -⟩ := hf
            refine sg_f rfl rfl rfl f_82 (fun hg => ?_)
            have f_86 : a.eval (.tmp 86) = .int .i64 x228 := c_86.1 hg
            have f_87 : a.eval (.tmp 87) = .int .i64 x2 := c_87.1 hg
            exact or_gtr f_86 f_87 rfl
          refine steps_cons (fun own a wx hf hsl hE => ?_) ?_
          · obtain ⟨(f_82 : a.eval (.tmp 82) = .bool x227), c_88, -⟩ := hf
            refine sg_f rfl rfl rfl f_82 (fun hg => ?_)
            have f_88 : a.eval (.tmp 88) = .bool (decide (x2 < x228)) := c_88.1 hg
            exact or_move f_88
          refine steps_cons (fun own a wx hf hsl hE => ?_) ?_
          · obtain ⟨c_89, -⟩ := hf
            obtain ⟨s_12, -⟩ := hsl
            refine sg_tc rfl rfl rfl c_89 (fun hg => ?_)
            have f_89 : a.eval (.tmp 89) = .bool (decide (x2 < x228)) := c_89.1 (gL hg)
            exact or_move (s_12.trans e222_12)
          refine steps_cons (fun own a wx hf hsl hE => ?_) ?_
          · obtain ⟨c_89, -⟩ := hf
            obtain ⟨s_15, -⟩ := hsl
            refine sg_tc rfl rfl rfl c_89 (fun hg => ?_)
            have f_89 : a.eval (.tmp 89) = .bool (decide (x2 < x228)) := c_89.1 (gL hg)
            exact or_move (s_15.trans e222_15)
          refine steps_cons (fun own a wx hf hsl hE => ?_) ?_
          · obtain ⟨c_89, c_90, c_91, -⟩ := hf
            refine sg_tc rfl rfl rfl c_89 (fun hg => ?_)
            have f_89 : a.eval (.tmp 89) = .bool (decide (x2 < x228)) := c_89.1 (gL hg)
            have f_90 : a.eval (.tmp 90) = .int .i64 r177.2 := c_90.1 hg
            have f_91 : a.eval (.tmp 91) = .int .i64 i204 := c_91.1 hg
            exact or_gtr f_90 f_91 rfl
          refine steps_cons (fun own a wx hf hsl hE => ?_) ?_
          · obtain ⟨(f_82 : a.eval (.tmp 82) = .bool x227), c_89, c_92, -⟩ := hf
            refine sg_f rfl rfl rfl f_82 (fun hg => ?_)
            have f_89 : a.eval (.tmp 89) = .bool (decide (x2 < x228)) := c_89.1 hg
            exact or_and f_89 (fun hx => c_92.1 (gI hg hx)) rfl (osome hx229).symm
          refine steps_cons (fun own a wx hf hsl hE => ?_) ?_
          · obtain ⟨(f_82 : a.eval (.tmp 82) = .bool x227), c_93, -⟩ := hf
            exact sg_plain rfl rfl (or_or f_82 rfl (fun hx => c_93.1 hx) rfl)
          exact steps_nil
        intro own230 a230 w230 hd230 hz230 hk230 hf230 hE230
        have e230_1 : a230.eval (.tmp 1) = .int .i64 x2 := (hk230 1 rfl).trans e222_1
        have e230_2 : a230.eval (.tmp 2) = .int .i64 b3 := (hk230 2 rfl).trans e222_2
        have e230_3 : a230.eval (.tmp 3) = .int .i64 c4 := (hk230 3 rfl).trans e222_3
        have e230_9 : a230.eval (.tmp 9) = .slice A145 x147.length c146 := (hk230 9 rfl).trans e222_9
        have e230_11 : a230.eval (.tmp 11) = .int .i64 r177.1 := (hk230 11 rfl).trans e222_11
        have e230_12 : a230.eval (.tmp 12) = .int .i64 r177.2 := (hk230 12 rfl).trans e222_12
        have e230_15 : a230.eval (.tmp 15) = .int .i64 i204 := (hk230 15 rfl).trans e222_15
        obtain ⟨(f_94 : a230.eval (.tmp 94) = .bool (x227 || x229)), -⟩ := hf230 [23] rfl
        have e230_94 := f_94
        have hX230 := Evo.step hX222 (fun _ => Nat.le_refl 0) hE230 rfl
        have b230_A145 := RwO.evo rfl hE230 b222_A145
        refine fl_cond e230_94 hs (fun c231 hs => ?_) (fun c231 hs => ?_)
        · refine rg_plain_seq (n := 135) (rs := []) (own0 := own230) (K := [])
              (bs := [0])
              (ds := [⟨[], [], [], Fct.val 8 (.bool false)⟩]) (by kernel_rfl) hz230 hd230 (fun _ h => nomatch h) ?_ ?_
          · refine steps_cons (fun own a wx hf hsl hE => ?_) ?_
            · exact sg_plain rfl rfl (or_assign rfl)
            exact steps_nil
          intro own232 a232 w232 hd232 hz232 hk232 hf232 hE232
          obtain ⟨(f_8 : a232.eval (.tmp 8) = .bool false), -⟩ := hf232 [0] rfl
          have e232_8 := f_8
          have hX232 := Evo.step hX230 (fun _ => Nat.le_refl 0) hE232 rfl
          refine fl_ret ?_
          refine hp225 _ _ _ rfl ?_
          refine hp224 _ _ _ rfl ?_
          replace hs := hz219 _ hs
          refine hp219 _ _ _ rfl ?_
          refine hp189 _ _ _ rfl ?_
          refine hp187 _ _ _ rfl ?_
          obtain rfl := osome hs
          exact hret _ _ _ _ (.inl rfl) hd232 (results1_ rfl (RVal.tmp_ e232_8)) ⟨own232, rfl, hX232⟩
        refine fl_skip ?_
        refine hn225 _ _ ?_
        refine hn224 _ _ ?_
        refine rg_plain (n := 135) (rs := []) (own0 := own230) (K := [])
            (bs := [0, 1, 3])
            (ds := [⟨[], [15], [], Fct.val 69 (.int .i64 i204)⟩,
            ⟨[0], [], [], Fct.val 70 (.int .i64 (ad i204 1))⟩,
            ⟨[1], [], [], Fct.val 15 (.int .i64 (ad i204 1))⟩]) (by kernel_rfl) hz230 hd230 (fun _ h => nomatch h) ?_ ?_
        · refine steps_cons (fun own a wx hf hsl hE => ?_) ?_
          · obtain ⟨s_15, -⟩ := hsl
            exact sg_plain rfl rfl (or_move (s_15.trans e230_15))
          refine steps_cons (fun own a wx hf hsl hE => ?_) ?_
          · obtain ⟨(f_69 : a.eval (.tmp 69) = .int .i64 i204), -⟩ := hf
            exact sg_plain rfl rfl (or_add f_69 rfl rfl)
          refine steps_cons (fun own a wx hf hsl hE => ?_) ?_
          · obtain ⟨(f_70 : a.eval (.tmp 70) = .int .i64 (ad i204 1)), -⟩ := hf
            exact sg_plain rfl rfl (or_assign f_70)
          exact steps_nil
        intro own233 a233 w233 hd233 hz233 hk233 hf233 hE233
        have e233_1 : a233.eval (.tmp 1) = .int .i64 x2 := (hk233 1 rfl).trans e230_1
        have e233_2 : a233.eval (.tmp 2) = .int .i64 b3 := (hk233 2 rfl).trans e230_2
        have e233_3 : a233.eval (.tmp 3) = .int .i64 c4 := (hk233 3 rfl).trans e230_3
        have e233_9 : a233.eval (.tmp 9) = .slice A145 x147.length c146 := (hk233 9 rfl).trans e230_9
        have e233_11 : a233.eval (.tmp 11) = .int .i64 r177.1 := (hk233 11 rfl).trans e230_11
        have e233_12 : a233.eval (.tmp 12) = .int .i64 r177.2 := (hk233 12 rfl).trans e230_12
        obtain ⟨(f_15 : a233.eval (.tmp 15) = .int .i64 (ad i204 1)), -⟩ := hf233 [2] rfl
        have e233_15 := f_15
        have hX233 := Evo.step hX230 (fun _ => Nat.le_refl 0) hE233 rfl
        have b233_A145 := RwO.evo rfl hE233 b230_A145
        exact hn219 _ _ _ hs ⟨own233, hd233, hz233, e233_1, e233_2, e233_3, e233_9, e233_11, e233_12, e233_15, hX233, b233_A145⟩
      refine fl_exit ?_
      refine hp221 _ _ _ rfl ?_
      replace hs := hz219 _ hs
      refine hp219 _ _ _ rfl ?_
      refine hx189 _ _ ?_
      refine hn187 _ _ ?_
      refine rg_plain_seq (n := 135) (rs := []) (own0 := own222) (K := [])
          (bs := [0, 0, 0, 6, 15, 0, 0, 96, 255, 511])
          (ds := [⟨[], [3], [], Fct.val 95 (.int .i64 c4)⟩,
          ⟨[], [1], [], Fct.val 96 (.int .i64 x2)⟩,
          ⟨[], [2], [], Fct.val 97 (.int .i64 b3)⟩,
          ⟨[1, 2], [], [], Fct.val 98 (.int .i64 (mn x2 b3))⟩,
          ⟨[0, 3], [], [], Fct.val 99 (.int .i64 (mx c4 (mn x2 b3)))⟩,
          ⟨[], [1], [], Fct.val 100 (.int .i64 x2)⟩,
          ⟨[], [2], [], Fct.val 101 (.int .i64 b3)⟩,
          ⟨[5, 6], [], [], Fct.val 102 (.int .i64 (mx x2 b3))⟩,
          ⟨[4, 7], [], [], Fct.val 103 (.int .i64 (mn (mx c4 (mn x2 b3)) (mx x2 b3)))⟩,
          ⟨[8], [], [], Fct.val 16 (.int .i64 (mn (mx c4 (mn x2 b3)) (mx x2 b3)))⟩]) (by kernel_rfl) hz222 hd222 (fun _ h => nomatch h) ?_ ?_
      · refine steps_cons (fun own a wx hf hsl hE => ?_) ?_
        · obtain ⟨s_3, -⟩ := hsl
          exact sg_plain rfl rfl (or_move (s_3.trans e222_3))
        refine steps_cons (fun own a wx hf hsl hE => ?_) ?_
        · obtain ⟨s_1, -⟩ := hsl
          exact sg_plain rfl rfl (or_move (s_1.trans e222_1))
        refine steps_cons (fun own a wx hf hsl hE => ?_) ?_
        · obtain ⟨s_2, -⟩ := hsl
          exact sg_plain rfl rfl (or_move (s_2.trans e222_2))
        refine steps_cons (fun own a wx hf hsl hE => ?_) ?_
        · obtain ⟨(f_96 : a.eval (.tmp 96) = .int .i64 x2), (f_97 : a.eval (.tmp 97) = .int .i64 b3), -⟩ := hf
          exact sg_plain rfl rfl (or_min f_96 f_97)
        refine steps_cons (fun own a wx hf hsl hE => ?_) ?_
        · obtain ⟨(f_95 : a.eval (.tmp 95) = .int .i64 c4), (f_98 : a.eval (.tmp 98) = .int .i64 (mn x2 b3)), -⟩ := hf
          exact sg_plain rfl rfl (or_max f_95 f_98)
        refine steps_cons (fun own a wx hf hsl hE => ?_) ?_
        · obtain ⟨s_1, -⟩ := hsl
          exact sg_plain rfl rfl (or_move (s_1.trans e222_1))
        refine steps_cons (fun own a wx hf hsl hE => ?_) ?_
        · obtain ⟨s_2, -⟩ := hsl
          exact sg_plain rfl rfl (or_move (s_2.trans e222_2))
        refine steps_cons (fun own a wx hf hsl hE => ?_) ?_
        · obtain ⟨(f_100 : a.eval (.tmp 100) = .int .i64 x2), (f_101 : a.eval (.tmp 101) = .int .i64 b3), -⟩ := hf
          exact sg_plain rfl rfl (or_max f_100 f_101)
        refine steps_cons (fun own a wx hf hsl hE => ?_) ?_
        · obtain ⟨(f_99 : a.eval (.tmp 99) = .int .i64 (mx c4 (mn x2 b3))), (f_102 : a.eval (.tmp 102) = .int .i64 (mx x2 b3)), -⟩ := hf
          exact sg_plain rfl rfl (or_min f_99 f_102)
        refine steps_cons (fun own a wx hf hsl hE => ?_) ?_
        · obtain ⟨(f_103 : a.eval (.tmp 103) = .int .i64 (mn (mx c4 (mn x2 b3)) (mx x2 b3))), -⟩ := hf
          exact sg_plain rfl rfl (or_assign f_103)
        exact steps_nil
      intro own234 a234 w234 hd234 hz234 hk234 hf234 hE234
      have e234_1 : a234.eval (.tmp 1) = .int .i64 x2 := (hk234 1 rfl).trans e222_1
      have e234_2 : a234.eval (.tmp 2) = .int .i64 b3 := (hk234 2 rfl).trans e222_2
      have e234_9 : a234.eval (.tmp 9) = .slice A145 x147.length c146 := (hk234 9 rfl).trans e222_9
      obtain ⟨(f_16 : a234.eval (.tmp 16) = .int .i64 (mn (mx c4 (mn x2 b3)) (mx x2 b3))), -⟩ := hf234 [9] rfl
      have e234_16 := f_16
      have hX234 := Evo.step hX222 (fun _ => Nat.le_refl 0) hE234 rfl
      have b234_A145 := RwO.evo rfl hE234 b222_A145
      obtain ⟨r235, hr235, hs⟩ := obind hs
      obtain ⟨r236, hr236, hs⟩ := obind hs
      obtain ⟨r237, hr237, hs⟩ := obind hs
      obtain ⟨r238, hr238, hs⟩ := obind hs
      obtain ⟨r239, hr239, hs⟩ := obind hs
      obtain ⟨r240, hr240, hs⟩ := obind hs
      obtain ⟨x241, hx241, hs⟩ := obind hs
      refine rg_plain_seq (n := 135) (rs := []) (own0 := own234) (K := [])
          (bs := [0, 1, 3, 3, 3, 31, 3, 3, 3, 511, 1023, 2047, 4095, 8191, 8191, 8191, 65535, 131071, 262143, 524287, 524287, 524287, 4194303, 8388607, 16777215, 33554431, 33554431, 33554431, 268435455, 536870911, 1073741823, 2147483647])
          (ds := [⟨[], [], [], Fct.val 104 (.bool r235)⟩,
          ⟨[0], [], [], Fct.val 105 (.bool r235)⟩,
          ⟨[1], [9], [], Fct.cond r235 (some 106) (Fct.val 106 (.slice A145 x147.length c146))⟩,
          ⟨[1], [1], [], Fct.cond r235 (some 107) (Fct.val 107 (.int .i64 x2))⟩,
          ⟨[1], [2], [], Fct.cond r235 (some 108) (Fct.val 108 (.int .i64 b3))⟩,
          ⟨[1, 2, 3, 4], [], [], Fct.cond r235 (some 109) (Fct.val 109 (.bool r236))⟩,
          ⟨[1], [9], [], Fct.cond r235 (some 110) (Fct.val 110 (.slice A145 x147.length c146))⟩,
          ⟨[1], [2], [], Fct.cond r235 (some 111) (Fct.val 111 (.int .i64 b3))⟩,
          ⟨[1], [1], [], Fct.cond r235 (some 112) (Fct.val 112 (.int .i64 x2))⟩,
          ⟨[1, 6, 7, 8], [], [], Fct.cond r235 (some 113) (Fct.val 113 (.bool r237))⟩,
          ⟨[1, 5, 9], [], [], Fct.cond r235 (some 114) (Fct.val 114 (.bool (r236 == r237)))⟩,
          ⟨[1, 10], [], [], Fct.val 115 (.bool (r235 && (r236 == r237)))⟩,
          ⟨[11], [], [], Fct.val 116 (.bool (r235 && (r236 == r237)))⟩,
          ⟨[12], [9], [], Fct.cond (r235 && (r236 == r237)) (some 117) (Fct.val 117 (.slice A145 x147.length c146))⟩,
          ⟨[12], [1], [], Fct.cond (r235 && (r236 == r237)) (some 118) (Fct.val 118 (.int .i64 x2))⟩,
          ⟨[12], [1], [], Fct.cond (r235 && (r236 == r237)) (some 119) (Fct.val 119 (.int .i64 x2))⟩,
          ⟨[12, 13, 14, 15], [], [], Fct.cond (r235 && (r236 == r237)) (some 120) (Fct.val 120 (.bool r238))⟩,
          ⟨[12, 16], [], [], Fct.val 121 (.bool ((r235 && (r236 == r237)) && r238))⟩,
          ⟨[17], [], [], Fct.val 122 (.bool ((r235 && (r236 == r237)) && r238))⟩,
          ⟨[18], [9], [], Fct.cond ((r235 && (r236 == r237)) && r238) (some 123) (Fct.val 123 (.slice A145 x147.length c146))⟩,
          ⟨[18], [1], [], Fct.cond ((r235 && (r236 == r237)) && r238) (some 124) (Fct.val 124 (.int .i64 x2))⟩,
          ⟨[18], [2], [], Fct.cond ((r235 && (r236 == r237)) && r238) (some 125) (Fct.val 125 (.int .i64 b3))⟩,
          ⟨[18, 19, 20, 21], [], [], Fct.cond ((r235 && (r236 == r237)) && r238) (some 126) (Fct.val 126 (.bool r239))⟩,
          ⟨[18, 22], [], [], Fct.cond ((r235 && (r236 == r237)) && r238) (some 127) (Fct.val 127 (.bool (!r239)))⟩,
          ⟨[18, 23], [], [], Fct.cond ((r235 && (r236 == r237)) && r238) (some 128) (Fct.val 128 (.bool (!r239)))⟩,
          ⟨[24], [9], [], Fct.cond (((r235 && (r236 == r237)) && r238) && (!(!r239))) (some 129) (Fct.val 129 (.slice A145 x147.length c146))⟩,
          ⟨[24], [1], [], Fct.cond (((r235 && (r236 == r237)) && r238) && (!(!r239))) (some 130) (Fct.val 130 (.int .i64 x2))⟩,
          ⟨[24], [16], [], Fct.cond (((r235 && (r236 == r237)) && r238) && (!(!r239))) (some 131) (Fct.val 131 (.int .i64 (mn (mx c4 (mn x2 b3)) (mx x2 b3))))⟩,
          ⟨[24, 25, 26, 27], [], [], Fct.cond (((r235 && (r236 == r237)) && r238) && (!(!r239))) (some 132) (Fct.val 132 (.bool r240))⟩,
          ⟨[18, 24, 28], [], [], Fct.cond ((r235 && (r236 == r237)) && r238) (some 133) (Fct.val 133 (.bool ((!r239) || r240)))⟩,
          ⟨[18, 29], [], [], Fct.val 134 (.bool x241)⟩,
          ⟨[30], [], [], Fct.val 8 (.bool x241)⟩]) (by kernel_rfl) hz234 hd234 (fun _ h => nomatch h) ?_ ?_
      · refine steps_cons (fun own a wx hf hsl hE => ?_) ?_
        · exact sg_plain rfl rfl (or_call cf10 (args0) (law04_known_w _   r235 hr235) post_val)
        refine steps_cons (fun own a wx hf hsl hE => ?_) ?_
        · obtain ⟨(f_104 : a.eval (.tmp 104) = .bool r235), -⟩ := hf
          exact sg_plain rfl rfl (or_move f_104)
        refine steps_cons (fun own a wx hf hsl hE => ?_) ?_
        · obtain ⟨(f_105 : a.eval (.tmp 105) = .bool r235), -⟩ := hf
          obtain ⟨s_9, -⟩ := hsl
          refine sg_t rfl rfl rfl f_105 (fun hg => ?_)
          exact or_move (s_9.trans e234_9)
        refine steps_cons (fun own a wx hf hsl hE => ?_) ?_
        · obtain ⟨(f_105 : a.eval (.tmp 105) = .bool r235), -⟩ := hf
          obtain ⟨s_1, -⟩ := hsl
          refine sg_t rfl rfl rfl f_105 (fun hg => ?_)
          exact or_move (s_1.trans e234_1)
        refine steps_cons (fun own a wx hf hsl hE => ?_) ?_
        · obtain ⟨(f_105 : a.eval (.tmp 105) = .bool r235), -⟩ := hf
          obtain ⟨s_2, -⟩ := hsl
          refine sg_t rfl rfl rfl f_105 (fun hg => ?_)
          exact or_move (s_2.trans e234_2)
        refine steps_cons (fun own a wx hf hsl hE => ?_) ?_
        · obtain ⟨(f_105 : a.eval (.tmp 105) = .bool r235), c_106, c_107, c_108, -⟩ := hf
          refine sg_t rfl rfl rfl f_105 (fun hg => ?_)
          have f_106 : a.eval (.tmp 106) = .slice A145 x147.length c146 := c_106.1 hg
          have f_107 : a.eval (.tmp 107) = .int .i64 x2 := c_107.1 hg
          have f_108 : a.eval (.tmp 108) = .int .i64 b3 := c_108.1 hg
          exact or_call cf11 (args3 f_106 f_107 f_108) (order_Common_w _ x147 A145 c146 x2 b3 (RdO.zero (RwO.rd (RwO.evo rfl hE b234_A145))) r236 (gd_t hr236 hg)) post_val
        refine steps_cons (fun own a wx hf hsl hE => ?_) ?_
        · obtain ⟨(f_105 : a.eval (.tmp 105) = .bool r235), -⟩ := hf
          obtain ⟨s_9, -⟩ := hsl
          refine sg_t rfl rfl rfl f_105 (fun hg => ?_)
          exact or_move (s_9.trans e234_9)
        refine steps_cons (fun own a wx hf hsl hE => ?_) ?_
        · obtain ⟨(f_105 : a.eval (.tmp 105) = .bool r235), -⟩ := hf
          obtain ⟨s_2, -⟩ := hsl
          refine sg_t rfl rfl rfl f_105 (fun hg => ?_)
          exact or_move (s_2.trans e234_2)
        refine steps_cons (fun own a wx hf hsl hE => ?_) ?_
        · obtain ⟨(f_105 : a.eval (.tmp 105) = .bool r235), -⟩ := hf
          obtain ⟨s_1, -⟩ := hsl
          refine sg_t rfl rfl rfl f_105 (fun hg => ?_)
          exact or_move (s_1.trans e234_1)
        refine steps_cons (fun own a wx hf hsl hE => ?_) ?_
        · obtain ⟨(f_105 : a.eval (.tmp 105) = .bool r235), c_110, c_111, c_112, -⟩ := hf
          refine sg_t rfl rfl rfl f_105 (fun hg => ?_)
          have f_110 : a.eval (.tmp 110) = .slice A145 x147.length c146 := c_110.1 hg
          have f_111 : a.eval (.tmp 111) = .int .i64 b3 := c_111.1 hg
          have f_112 : a.eval (.tmp 112) = .int .i64 x2 := c_112.1 hg
          exact or_call cf11 (args3 f_110 f_111 f_112) (order_Common_w _ x147 A145 c146 b3 x2 (RdO.zero (RwO.rd (RwO.evo rfl hE b234_A145))) r237 (gd_t hr237 hg)) post_val
        refine steps_cons (fun own a wx hf hsl hE => ?_) ?_
        · obtain ⟨(f_105 : a.eval (.tmp 105) = .bool r235), c_109, c_113, -⟩ := hf
          refine sg_t rfl rfl rfl f_105 (fun hg => ?_)
          have f_109 : a.eval (.tmp 109) = .bool r236 := c_109.1 hg
          have f_113 : a.eval (.tmp 113) = .bool r237 := c_113.1 hg
          exact or_eqlb tb4 f_109 f_113 rfl
        refine steps_cons (fun own a wx hf hsl hE => ?_) ?_
        · obtain ⟨(f_105 : a.eval (.tmp 105) = .bool r235), c_114, -⟩ := hf
          exact sg_plain rfl rfl (or_and f_105 (fun hx => c_114.1 hx) rfl rfl)
        refine steps_cons (fun own a wx hf hsl hE => ?_) ?_
        · obtain ⟨(f_115 : a.eval (.tmp 115) = .bool (r235 && (r236 == r237))), -⟩ := hf
          exact sg_plain rfl rfl (or_move f_115)
        refine steps_cons (fun own a wx hf hsl hE => ?_) ?_
        · obtain ⟨(f_116 : a.eval (.tmp 116) = .bool (r235 && (r236 == r237))), -⟩ := hf
          obtain ⟨s_9, -⟩ := hsl
          refine sg_t rfl rfl rfl f_116 (fun hg => ?_)
          exact or_move (s_9.trans e234_9)
        refine steps_cons (fun own a wx hf hsl hE => ?_) ?_
        · obtain ⟨(f_116 : a.eval (.tmp 116) = .bool (r235 && (r236 == r237))), -⟩ := hf
          obtain ⟨s_1, -⟩ := hsl
          refine sg_t rfl rfl rfl f_116 (fun hg => ?_)
          exact or_move (s_1.trans e234_1)
        refine steps_cons (fun own a wx hf hsl hE => ?_) ?_
        · obtain ⟨(f_116 : a.eval (.tmp 116) = .bool (r235 && (r236 == r237))), -⟩ := hf
          obtain ⟨s_1, -⟩ := hsl
          refine sg_t rfl rfl rfl f_116 (fun hg => ?_)
          exact or_move (s_1.trans e234_1)
        refine steps_cons (fun own a wx hf hsl hE => ?_) ?_
        · obtain ⟨(f_116 : a.eval (.tmp 116) = .bool (r235 && (r236 == r237))), c_117, c_118, c_119, -⟩ := hf
          refine sg_t rfl rfl rfl f_116 (fun hg => ?_)
          have f_117 : a.eval (.tmp 117) = .slice A145 x147.length c146 := c_117.1 hg
          have f_118 : a.eval (.tmp 118) = .int .i64 x2 := c_118.1 hg
          have f_119 : a.eval (.tmp 119) = .int .i64 x2 := c_119.1 hg
          exact or_call cf11 (args3 f_117 f_118 f_119) (order_Common_w _ x147 A145 c146 x2 x2 (RdO.zero (RwO.rd (RwO.evo rfl hE b234_A145))) r238 (gd_t hr238 hg)) post_val
        refine steps_cons (fun own a wx hf hsl hE => ?_) ?_
        · obtain ⟨(f_116 : a.eval (.tmp 116) = .bool (r235 && (r236 == r237))), c_120, -⟩ := hf
          exact sg_plain rfl rfl (or_and f_116 (fun hx => c_120.1 hx) rfl rfl)
        refine steps_cons (fun own a wx hf hsl hE => ?_) ?_
        · obtain ⟨(f_121 : a.eval (.tmp 121) = .bool ((r235 && (r236 == r237)) && r238)), -⟩ := hf
          exact sg_plain rfl rfl (or_move f_121)
        refine steps_cons (fun own a wx hf hsl hE => ?_) ?_
        · obtain ⟨(f_122 : a.eval (.tmp 122) = .bool ((r235 && (r236 == r237)) && r238)), -⟩ := hf
          obtain ⟨s_9, -⟩ := hsl
          refine sg_t rfl rfl rfl f_122 (fun hg => ?_)
          exact or_move (s_9.trans e234_9)
        refine steps_cons (fun own a wx hf hsl hE => ?_) ?_
        · obtain ⟨(f_122 : a.eval (.tmp 122) = .bool ((r235 && (r236 == r237)) && r238)), -⟩ := hf
          obtain ⟨s_1, -⟩ := hsl
          refine sg_t rfl rfl rfl f_122 (fun hg => ?_)
          exact or_move (s_1.trans e234_1)
        refine steps_cons (fun own a wx hf hsl hE => ?_) ?_
        · obtain ⟨(f_122 : a.eval (.tmp 122) = .bool ((r235 && (r236 == r237)) && r238)), -⟩ := hf
          obtain ⟨s_2, -⟩ := hsl
          refine sg_t rfl rfl rfl f_122 (fun hg => ?_)
          exact or_move (s_2.trans e234_2)
        refine steps_cons (fun own a wx hf hsl hE => ?_) ?_
        · obtain ⟨(f_122 : a.eval (.tmp 122) = .bool ((r235 && (r236 == r237)) && r238)), c_123, c_124, c_125, -⟩ := hf
          refine sg_t rfl rfl rfl f_122 (fun hg => ?_)
          have f_123 : a.eval (.tmp 123) = .slice A145 x147.length c146 := c_123.1 hg
          have f_124 : a.eval (.tmp 124) = .int .i64 x2 := c_124.1 hg
          have f_125 : a.eval (.tmp 125) = .int .i64 b3 := c_125.1 hg
          exact or_call cf11 (args3 f_123 f_124 f_125) (order_Common_w _ x147 A145 c146 x2 b3 (RdO.zero (RwO.rd (RwO.evo rfl hE b234_A145))) r239 (gd_t hr239 hg)) post_val
        refine steps_cons (fun own a wx hf hsl hE => ?_) ?_
        · obtain ⟨(f_122 : a.eval (.tmp 122) = .bool ((r235 && (r236 == r237)) && r238)), c_126, -⟩ := hf
          refine sg_t rfl rfl rfl f_122 (fun hg => ?_)
          have f_126 : a.eval (.tmp 126) = .bool r239 := c_126.1 hg
          exact or_not f_126 rfl
        refine steps_cons (fun own a wx hf hsl hE => ?_) ?_
        · obtain ⟨(f_122 : a.eval (.tmp 122) = .bool ((r235 && (r236 == r237)) && r238)), c_127, -⟩ := hf
          refine sg_t rfl rfl rfl f_122 (fun hg => ?_)
          have f_127 : a.eval (.tmp 127) = .bool (!r239) := c_127.1 hg
          exact or_move f_127
        refine steps_cons (fun own a wx hf hsl hE => ?_) ?_
        · obtain ⟨c_128, -⟩ := hf
          obtain ⟨s_9, -⟩ := hsl
          refine sg_fc rfl rfl rfl c_128 (fun hg => ?_)
          have f_128 : a.eval (.tmp 128) = .bool (!r239) := c_128.1 (gL hg)
          exact or_move (s_9.trans e234_9)
        refine steps_cons (fun own a wx hf hsl hE => ?_) ?_
        · obtain ⟨c_128, -⟩ := hf
          obtain ⟨s_1, -⟩ := hsl
          refine sg_fc rfl rfl rfl c_128 (fun hg => ?_)
          have f_128 : a.eval (.tmp 128) = .bool (!r239) := c_128.1 (gL hg)
          exact or_move (s_1.trans e234_1)
        refine steps_cons (fun own a wx hf hsl hE => ?_) ?_
        · obtain ⟨c_128, -⟩ := hf
          obtain ⟨s_16, -⟩ := hsl
          refine sg_fc rfl rfl rfl c_128 (fun hg => ?_)
          have f_128 : a.eval (.tmp 128) = .bool (!r239) := c_128.1 (gL hg)
          exact or_move (s_16.trans e234_16)
        refine steps_cons (fun own a wx hf hsl hE => ?_) ?_
        · obtain ⟨c_128, c_129, c_130, c_131, -⟩ := hf
          refine sg_fc rfl rfl rfl c_128 (fun hg => ?_)
          have f_128 : a.eval (.tmp 128) = .bool (!r239) := c_128.1 (gL hg)
          have f_129 : a.eval (.tmp 129) = .slice A145 x147.length c146 := c_129.1 hg
          have f_130 : a.eval (.tmp 130) = .int .i64 x2 := c_130.1 hg
          have f_131 : a.eval (.tmp 131) = .int .i64 (mn (mx c4 (mn x2 b3)) (mx x2 b3)) := c_131.1 hg
          exact or_call cf11 (args3 f_129 f_130 f_131) (order_Common_w _ x147 A145 c146 x2 (mn (mx c4 (mn x2 b3)) (mx x2 b3)) (RdO.zero (RwO.rd (RwO.evo rfl hE b234_A145))) r240 (gd_t hr240 hg)) post_val
        refine steps_cons (fun own a wx hf hsl hE => ?_) ?_
        · obtain ⟨(f_122 : a.eval (.tmp 122) = .bool ((r235 && (r236 == r237)) && r238)), c_128, c_132, -⟩ := hf
          refine sg_t rfl rfl rfl f_122 (fun hg => ?_)
          have f_128 : a.eval (.tmp 128) = .bool (!r239) := c_128.1 hg
          exact or_or f_128 rfl (fun hx => c_132.1 (gI hg hx)) rfl
        refine steps_cons (fun own a wx hf hsl hE => ?_) ?_
        · obtain ⟨(f_122 : a.eval (.tmp 122) = .bool ((r235 && (r236 == r237)) && r238)), c_133, -⟩ := hf
          exact sg_plain rfl rfl (or_and f_122 (fun hx => c_133.1 hx) rfl (osome hx241).symm)
        refine steps_cons (fun own a wx hf hsl hE => ?_) ?_
        · obtain ⟨(f_134 : a.eval (.tmp 134) = .bool x241), -⟩ := hf
          exact sg_plain rfl rfl (or_assign f_134)
        exact steps_nil
      intro own242 a242 w242 hd242 hz242 hk242 hf242 hE242
      obtain ⟨(f_8 : a242.eval (.tmp 8) = .bool x241), -⟩ := hf242 [31] rfl
      have e242_8 := f_8
      have hX242 := Evo.step hX234 (fun _ => Nat.le_refl 0) hE242 rfl
      refine fl_ret ?_
      obtain rfl := (osome hs).symm
      exact hret _ _ _ _ (.inl rfl) hd242 (results1_ rfl (RVal.tmp_ e242_8)) ⟨own242, rfl, hX242⟩

end Go.Proofs.Ythbjlgklmamhjaa
