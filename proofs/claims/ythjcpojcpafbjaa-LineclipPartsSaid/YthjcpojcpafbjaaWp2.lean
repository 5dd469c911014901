/-
  Chapter 22. The walks.
-/
import Derived.Test.YthjcpojcpafbjaaWp1
import Derived.Test.YthjcpojcpafbjaaSp2
namespace Go.Proofs.Ythjcpojcpafbjaa
open Go.RowKit
set_option linter.unusedVariables false
theorem law22_known_w (w : World) (r : Bool) (hs : law22_known = some r) :
    Calls Try.prog 10 #[] w fun e w' => ∃ own' : Own, e = .returned (.bool r) ∧ Evo [] (fun _ => 0) own' w w' := by
  refine fl_enter (n := 42) rfl rfl rfl (Nat.le_of_ble_eq_true rfl) ?_
  intro a0 Q hd0 hz0 harg hret
  clear harg
  have hE0 : Evo [] (fun _ => 0) (fun _ => 0) w w := Evo.refl _ _ _
  refine rg_plain_seq (n := 42) (rs := []) (own0 := (fun _ => 0)) (K := [])
      (bs := [0])
      (ds := [⟨[], [], [], Fct.val 0 (.bool false)⟩]) (by kernel_rfl) hz0 hd0 (fun _ h => nomatch h) ?_ ?_
  · refine steps_cons (fun own a wx hf hsl hE => ?_) ?_
    · exact sg_plain rfl rfl (or_assign rfl)
    exact steps_nil
  intro own31 a31 w31 hd31 hz31 hk31 hf31 hE31
  have hX31 := Evo.step hE0 (fun _ => Nat.le_refl 0) hE31 rfl
  refine rg_plain_seq (n := 42) (rs := []) (own0 := own31) (K := [])
      (bs := [0, 0, 0, 0, 0, 0, 63, 127])
      (ds := [⟨[], [], [], Fct.val 3 (.agg #[.int .i64 0, .int .i64 0])⟩,
      ⟨[], [], [], Fct.val 4 (.agg #[.int .i64 2, .int .i64 0])⟩,
      ⟨[], [], [], Fct.val 5 (.agg #[.int .i64 4, .int .i64 2])⟩,
      ⟨[], [], [], Fct.val 6 (.agg #[.int .i64 9, .int .i64 2])⟩,
      ⟨[], [], [], Fct.val 7 (.agg #[.int .i64 4, .int .i64 4])⟩,
      ⟨[], [], [], Fct.val 8 (.agg #[.int .i64 2, .int .i64 4])⟩,
      ⟨[0, 1, 2, 3, 4, 5], [], [], Fct.row 33 [] 9 34 R34 [(0, 0), (2, 0), (4, 2), (9, 2), (4, 4), (2, 4)]⟩,
      ⟨[6], [], [], Fct.rel [1, 9] (fun l => ∀ (A32 : Option Addr) (cA32 : Nat), l.getD 1 undef = .slice A32 [(0, 0), (2, 0), (4, 2), (9, 2), (4, 4), (2, 4)].length cA32 → l.getD 0 undef = .slice A32 [(0, 0), (2, 0), (4, 2), (9, 2), (4, 4), (2, 4)].length cA32)⟩]) (by kernel_rfl) hz31 hd31 (fun _ h => nomatch h) ?_ ?_
  · refine steps_cons (fun own a wx hf hsl hE => ?_) ?_
    · exact sg_plain rfl rfl (or_k [] rfl rfl trivial (by kernel_rfl))
    refine steps_cons (fun own a wx hf hsl hE => ?_) ?_
    · exact sg_plain rfl rfl (or_k [] rfl rfl trivial (by kernel_rfl))
    refine steps_cons (fun own a wx hf hsl hE => ?_) ?_
    · exact sg_plain rfl rfl (or_k [] rfl rfl trivial (by kernel_rfl))
    refine steps_cons (fun own a wx hf hsl hE => ?_) ?_
    · exact sg_plain rfl rfl (or_k [] rfl rfl trivial (by kernel_rfl))
    refine steps_cons (fun own a wx hf hsl hE => ?_) ?_
    · exact sg_plain rfl rfl (or_k [] rfl rfl trivial (by kernel_rfl))
    refine steps_cons (fun own a wx hf hsl hE => ?_) ?_
    · exact sg_plain rfl rfl (or_k [] rfl rfl trivial (by kernel_rfl))
    refine steps_cons (fun own a wx hf hsl hE => ?_) ?_
    · obtain ⟨(f_3 : a.eval (.tmp 3) = .agg #[.int .i64 0, .int .i64 0]), (f_4 : a.eval (.tmp 4) = .agg #[.int .i64 2, .int .i64 0]), (f_5 : a.eval (.tmp 5) = .agg #[.int .i64 4, .int .i64 2]), (f_6 : a.eval (.tmp 6) = .agg #[.int .i64 9, .int .i64 2]), (f_7 : a.eval (.tmp 7) = .agg #[.int .i64 4, .int .i64 4]), (f_8 : a.eval (.tmp 8) = .agg #[.int .i64 2, .int .i64 4]), -⟩ := hf
      exact sg_plain rfl rfl (or_lit (lab := 33) (e := 34) (cs := #[.int .i64 0, .int .i64 0, .int .i64 2, .int .i64 0, .int .i64 4, .int .i64 2, .int .i64 9, .int .i64 2, .int .i64 4, .int .i64 4, .int .i64 2, .int .i64 4]) (F := E34) (or_new [(3, .agg #[.int .i64 0, .int .i64 0]), (4, .agg #[.int .i64 2, .int .i64 0]), (5, .agg #[.int .i64 4, .int .i64 2]), (6, .agg #[.int .i64 9, .int .i64 2]), (7, .agg #[.int .i64 4, .int .i64 4]), (8, .agg #[.int .i64 2, .int .i64 4])] rfl rfl ⟨f_3, f_4, f_5, f_6, f_7, f_8, trivial⟩ (by kernel_rfl)) rfl rfl (show 6 ≤ maxLen by decide))
    refine steps_cons (fun own a wx hf hsl hE => ?_) ?_
    · obtain ⟨⟨⟨A32, cA32⟩, (f_9 : a.eval (.tmp 9) = .slice A32 [(0, 0), (2, 0), (4, 2), (9, 2), (4, 4), (2, 4)].length cA32), (b_A32 : RwO own 33 [] wx 34 R34 A32 cA32 [(0, 0), (2, 0), (4, 2), (9, 2), (4, 4), (2, 4)])⟩, -⟩ := hf
      exact sg_plain rfl rfl (or_mono (f := Fct.val 1 (.slice A32 [(0, 0), (2, 0), (4, 2), (9, 2), (4, 4), (2, 4)].length cA32)) (or_assign f_9) (fun own' a' w' v' hp h => fun _ _ h0' => by cases (f_9.symm.trans ((hp.2 9 (by decide)).symm.trans h0')); exact h))
    exact steps_nil
  intro own34 a34 w34 hd34 hz34 hk34 hf34 hE34
  obtain ⟨⟨⟨A32, cA32⟩, (f_9 : a34.eval (.tmp 9) = .slice A32 [(0, 0), (2, 0), (4, 2), (9, 2), (4, 4), (2, 4)].length cA32), (b_A32 : RwO own34 33 [] w34 34 R34 A32 cA32 [(0, 0), (2, 0), (4, 2), (9, 2), (4, 4), (2, 4)])⟩, (q_1 : ∀ (A32 : Option Addr) (cA32 : Nat), a34.eval (.tmp 9) = .slice A32 [(0, 0), (2, 0), (4, 2), (9, 2), (4, 4), (2, 4)].length cA32 → a34.eval (.tmp 1) = .slice A32 [(0, 0), (2, 0), (4, 2), (9, 2), (4, 4), (2, 4)].length cA32), -⟩ := hf34 [6, 7] rfl
  have f_1 := q_1 _ _ f_9
  have e34_1 := f_1
  have hX34 := Evo.step hX31 (fun _ => Nat.le_refl 0) hE34 rfl
  have b34_A32 := b_A32
  obtain ⟨r35, hr35, hs⟩ := obind hs
  refine rg_plain_seq (n := 42) (rs := []) (own0 := own34) (K := [])
      (bs := [0, 0, 2, 7, 15])
      (ds := [⟨[], [1], [], Fct.val 10 (.slice A32 [(0, 0), (2, 0), (4, 2), (9, 2), (4, 4), (2, 4)].length cA32)⟩,
      ⟨[], [], [], Fct.val 11 (.agg #[.int .i64 5, .int .i64 5])⟩,
      ⟨[1], [], [], Fct.val 12 (.agg #[.int .i64 0, .int .i64 0, .int .i64 5, .int .i64 5])⟩,
      ⟨[0, 2], [], [], Fct.row 37 [38] 13 24 R24 r35⟩,
      ⟨[3], [], [], Fct.rel [2, 13] (fun l => ∀ (A36 : Option Addr) (cA36 : Nat), l.getD 1 undef = .slice A36 r35.length cA36 → l.getD 0 undef = .slice A36 r35.length cA36)⟩]) (by kernel_rfl) hz34 hd34 (fun _ h => nomatch h) ?_ ?_
  · refine steps_cons (fun own a wx hf hsl hE => ?_) ?_
    · obtain ⟨s_1, -⟩ := hsl
      exact sg_plain rfl rfl (or_move (s_1.trans e34_1))
    refine steps_cons (fun own a wx hf hsl hE => ?_) ?_
    · exact sg_plain rfl rfl (or_k [] rfl rfl trivial (by kernel_rfl))
    refine steps_cons (fun own a wx hf hsl hE => ?_) ?_
    · obtain ⟨(f_11 : a.eval (.tmp 11) = .agg #[.int .i64 5, .int .i64 5]), -⟩ := hf
      exact sg_plain rfl rfl (or_k [(11, .agg #[.int .i64 5, .int .i64 5])] rfl rfl ⟨f_11, trivial⟩ (by kernel_rfl))
    refine steps_cons (fun own a wx hf hsl hE => ?_) ?_
    · obtain ⟨(f_10 : a.eval (.tmp 10) = .slice A32 [(0, 0), (2, 0), (4, 2), (9, 2), (4, 4), (2, 4)].length cA32), (f_12 : a.eval (.tmp 12) = .agg #[.int .i64 0, .int .i64 0, .int .i64 5, .int .i64 5]), -⟩ := hf
      exact sg_plain rfl rfl (or_call cf16 (args2 f_10 f_12) (lineclip_Parts_w _ [(0, 0), (2, 0), (4, 2), (9, 2), (4, 4), (2, 4)] A32 cA32 ((0, 0), (5, 5)) (RdO.zero (RwO.rd (RwO.evo rfl hE b34_A32))) r35 hr35) (post_row (m' := (look0 [(1, 37), (2, 38)])) (.inr (by decide)) rfl rfl (fun _ => rfl)))
    refine steps_cons (fun own a wx hf hsl hE => ?_) ?_
    · obtain ⟨⟨⟨A36, cA36⟩, (f_13 : a.eval (.tmp 13) = .slice A36 r35.length cA36), (b_A36 : RwO own 37 [38] wx 24 R24 A36 cA36 r35)⟩, -⟩ := hf
      exact sg_plain rfl rfl (or_mono (f := Fct.val 2 (.slice A36 r35.length cA36)) (or_assign f_13) (fun own' a' w' v' hp h => fun _ _ h0' => by cases (f_13.symm.trans ((hp.2 13 (by decide)).symm.trans h0')); exact h))
    exact steps_nil
  intro own39 a39 w39 hd39 hz39 hk39 hf39 hE39
  obtain ⟨⟨⟨A36, cA36⟩, (f_13 : a39.eval (.tmp 13) = .slice A36 r35.length cA36), (b_A36 : RwO own39 37 [38] w39 24 R24 A36 cA36 r35)⟩, (q_2 : ∀ (A36 : Option Addr) (cA36 : Nat), a39.eval (.tmp 13) = .slice A36 r35.length cA36 → a39.eval (.tmp 2) = .slice A36 r35.length cA36), -⟩ := hf39 [3, 4] rfl
  have f_2 := q_2 _ _ f_13
  have e39_2 := f_2
  have hX39 := Evo.step hX34 (fun _ => Nat.le_refl 0) hE39 rfl
  have b39_A36 := b_A36
  obtain ⟨x40, hx40, hs⟩ := obind hs
  obtain ⟨x42, hx42, hs⟩ := obind hs
  obtain ⟨x43, hx43, hs⟩ := obind hs
  obtain ⟨x45, hx45, hs⟩ := obind hs
  obtain ⟨x46, hx46, hs⟩ := obind hs
  obtain ⟨x48, hx48, hs⟩ := obind hs
  obtain ⟨x49, hx49, hs⟩ := obind hs
  refine rg_plain_seq (n := 42) (rs := []) (own0 := own39) (K := [])
      (bs := [0, 1, 3, 7, 15, 31, 63, 127, 255, 511, 1023, 2047, 4095, 8191, 16383, 32767, 2047, 131071, 262143, 524287, 1048575, 2097151, 4194303, 8388607, 16777215, 1048575, 67108863, 134217727, 268435455])
      (ds := [⟨[], [2], [], Fct.val 14 (.slice A36 r35.length cA36)⟩,
      ⟨[0], [], [], Fct.val 15 (.int .i64 (r35.length : Int))⟩,
      ⟨[1], [], [], Fct.val 16 (.bool (decide ((r35.length : Int) = 2)))⟩,
      ⟨[2], [], [], Fct.val 17 (.bool (decide ((r35.length : Int) = 2)))⟩,
      ⟨[3], [2], [], Fct.cond (decide ((r35.length : Int) = 2)) (some 18) (Fct.val 18 (.slice A36 r35.length cA36))⟩,
      ⟨[3, 4], [], [], Fct.cond (decide ((r35.length : Int) = 2)) (some 19) (Fct.val 19 (.pointer (some ((adr A36).add ((0 : Int).toNat * R24.s)))))⟩,
      ⟨[3, 5], [], [], Fct.cond (decide ((r35.length : Int) = 2)) (some 20) (Fct.nest X24 [37, 38] 20 (fun (y : (Option Addr × Nat)) => .slice y.1 x40.length y.2) x40)⟩,
      ⟨[3, 6], [], [], Fct.cond (decide ((r35.length : Int) = 2)) (some 21) (Fct.val 21 (.int .i64 (x40.length : Int)))⟩,
      ⟨[3, 7], [], [], Fct.cond (decide ((r35.length : Int) = 2)) (some 22) (Fct.val 22 (.bool (decide ((x40.length : Int) = 2))))⟩,
      ⟨[3, 8], [], [], Fct.val 23 (.bool x42)⟩,
      ⟨[9], [], [], Fct.val 24 (.bool x42)⟩,
      ⟨[10], [2], [], Fct.cond x42 (some 25) (Fct.val 25 (.slice A36 r35.length cA36))⟩,
      ⟨[10, 11], [], [], Fct.cond x42 (some 26) (Fct.val 26 (.pointer (some ((adr A36).add ((0 : Int).toNat * R24.s)))))⟩,
      ⟨[10, 12], [], [], Fct.cond x42 (some 27) (Fct.nest X24 [37, 38] 27 (fun (y : (Option Addr × Nat)) => .slice y.1 x43.length y.2) x43)⟩,
      ⟨[10, 13], [], [], Fct.cond x42 (some 28) (Fct.rel [28, 27] (fun l => ∀ (A44 : Option Addr) (cA44 : Nat), l.getD 1 undef = .slice A44 x43.length cA44 → l.getD 0 undef = .pointer (some ((adr A44).add ((0 : Int).toNat * R34.s)))))⟩,
      ⟨[10, 14, 13], [], [], Fct.cond x42 (some 29) (Fct.val 29 (.agg #[.int .i64 x45.1, .int .i64 x45.2]))⟩,
      ⟨[10], [], [], Fct.cond x42 (some 30) (Fct.val 30 (.agg #[.int .i64 2, .int .i64 0]))⟩,
      ⟨[10, 15, 16], [], [], Fct.cond x42 (some 31) (Fct.val 31 (.bool (decide (x45 = (2, 0)))))⟩,
      ⟨[10, 17], [], [], Fct.val 32 (.bool (x42 && (decide (x45 = (2, 0)))))⟩,
      ⟨[18], [], [], Fct.val 33 (.bool (x42 && (decide (x45 = (2, 0)))))⟩,
      ⟨[19], [2], [], Fct.cond (x42 && (decide (x45 = (2, 0)))) (some 34) (Fct.val 34 (.slice A36 r35.length cA36))⟩,
      ⟨[19, 20], [], [], Fct.cond (x42 && (decide (x45 = (2, 0)))) (some 35) (Fct.val 35 (.pointer (some ((adr A36).add ((1 : Int).toNat * R24.s)))))⟩,
      ⟨[19, 21], [], [], Fct.cond (x42 && (decide (x45 = (2, 0)))) (some 36) (Fct.nest X24 [37, 38] 36 (fun (y : (Option Addr × Nat)) => .slice y.1 x46.length y.2) x46)⟩,
      ⟨[19, 22], [], [], Fct.cond (x42 && (decide (x45 = (2, 0)))) (some 37) (Fct.rel [37, 36] (fun l => ∀ (A47 : Option Addr) (cA47 : Nat), l.getD 1 undef = .slice A47 x46.length cA47 → l.getD 0 undef = .pointer (some ((adr A47).add ((1 : Int).toNat * R34.s)))))⟩,
      ⟨[19, 23, 22], [], [], Fct.cond (x42 && (decide (x45 = (2, 0)))) (some 38) (Fct.val 38 (.agg #[.int .i64 x48.1, .int .i64 x48.2]))⟩,
      ⟨[19], [], [], Fct.cond (x42 && (decide (x45 = (2, 0)))) (some 39) (Fct.val 39 (.agg #[.int .i64 2, .int .i64 4]))⟩,
      ⟨[19, 24, 25], [], [], Fct.cond (x42 && (decide (x45 = (2, 0)))) (some 40) (Fct.val 40 (.bool (decide (x48 = (2, 4)))))⟩,
      ⟨[19, 26], [], [], Fct.val 41 (.bool x49)⟩,
      ⟨[27], [], [], Fct.val 0 (.bool x49)⟩]) (by kernel_rfl) hz39 hd39 (fun _ h => nomatch h) ?_ ?_
  · refine steps_cons (fun own a wx hf hsl hE => ?_) ?_
    · obtain ⟨s_2, -⟩ := hsl
      exact sg_plain rfl rfl (or_move (s_2.trans e39_2))
    refine steps_cons (fun own a wx hf hsl hE => ?_) ?_
    · obtain ⟨(f_14 : a.eval (.tmp 14) = .slice A36 r35.length cA36), -⟩ := hf
      exact sg_plain rfl rfl (or_len tu22 f_14 rfl)
    refine steps_cons (fun own a wx hf hsl hE => ?_) ?_
    · obtain ⟨(f_15 : a.eval (.tmp 15) = .int .i64 (r35.length : Int)), -⟩ := hf
      exact sg_plain rfl rfl (or_eql f_15 rfl rfl)
    refine steps_cons (fun own a wx hf hsl hE => ?_) ?_
    · obtain ⟨(f_16 : a.eval (.tmp 16) = .bool (decide ((r35.length : Int) = 2))), -⟩ := hf
      exact sg_plain rfl rfl (or_move f_16)
    refine steps_cons (fun own a wx hf hsl hE => ?_) ?_
    · obtain ⟨(f_17 : a.eval (.tmp 17) = .bool (decide ((r35.length : Int) = 2))), -⟩ := hf
      obtain ⟨s_2, -⟩ := hsl
      refine sg_t rfl rfl rfl f_17 (fun hg => ?_)
      exact or_move (s_2.trans e39_2)
    refine steps_cons (fun own a wx hf hsl hE => ?_) ?_
    · obtain ⟨(f_17 : a.eval (.tmp 17) = .bool (decide ((r35.length : Int) = 2))), c_18, -⟩ := hf
      refine sg_t rfl rfl rfl f_17 (fun hg => ?_)
      have f_18 : a.eval (.tmp 18) = .slice A36 r35.length cA36 := c_18.1 hg
      exact or_index (R := R24) (l := r35) tl22 f_18 rfl (RdO.some_ (RwO.rd b39_A36) (gd_t hx40 hg)) (gd_t hx40 hg)
    refine steps_cons (fun own a wx hf hsl hE => ?_) ?_
    · obtain ⟨(f_17 : a.eval (.tmp 17) = .bool (decide ((r35.length : Int) = 2))), c_19, -⟩ := hf
      refine sg_t rfl rfl rfl f_17 (fun hg => ?_)
      have f_19 : a.eval (.tmp 19) = .pointer (some ((adr A36).add ((0 : Int).toNat * R24.s))) := c_19.1 hg
      exact or_loadN1 X24 0 to24 f_19 (Addr.add_zero' _).symm (RwO.rd (RwO.evo rfl hE b39_A36)) (gd_t hx40 hg) (fun _ => rfl)
    refine steps_cons (fun own a wx hf hsl hE => ?_) ?_
    · obtain ⟨(f_17 : a.eval (.tmp 17) = .bool (decide ((r35.length : Int) = 2))), c_20, -⟩ := hf
      refine sg_t rfl rfl rfl f_17 (fun hg => ?_)
      obtain ⟨⟨A41, cA41⟩, (f_20 : a.eval (.tmp 20) = .slice A41 x40.length cA41), (b_A41 : RdO own [37, 38] wx R34 A41 cA41 x40)⟩ := c_20.1 hg
      exact or_len tu24 f_20 rfl
    refine steps_cons (fun own a wx hf hsl hE => ?_) ?_
    · obtain ⟨(f_17 : a.eval (.tmp 17) = .bool (decide ((r35.length : Int) = 2))), c_21, -⟩ := hf
      refine sg_t rfl rfl rfl f_17 (fun hg => ?_)
      have f_21 : a.eval (.tmp 21) = .int .i64 (x40.length : Int) := c_21.1 hg
      exact or_eql f_21 rfl rfl
    refine steps_cons (fun own a wx hf hsl hE => ?_) ?_
    · obtain ⟨(f_17 : a.eval (.tmp 17) = .bool (decide ((r35.length : Int) = 2))), c_22, -⟩ := hf
      exact sg_plain rfl rfl (or_and f_17 (fun hx => c_22.1 hx) rfl (osome hx42).symm)
    refine steps_cons (fun own a wx hf hsl hE => ?_) ?_
    · obtain ⟨(f_23 : a.eval (.tmp 23) = .bool x42), -⟩ := hf
      exact sg_plain rfl rfl (or_move f_23)
    refine steps_cons (fun own a wx hf hsl hE => ?_) ?_
    · obtain ⟨(f_24 : a.eval (.tmp 24) = .bool x42), -⟩ := hf
      obtain ⟨s_2, -⟩ := hsl
      refine sg_t rfl rfl rfl f_24 (fun hg => ?_)
      exact or_move (s_2.trans e39_2)
    refine steps_cons (fun own a wx hf hsl hE => ?_) ?_
    · obtain ⟨(f_24 : a.eval (.tmp 24) = .bool x42), c_25, -⟩ := hf
      refine sg_t rfl rfl rfl f_24 (fun hg => ?_)
      have f_25 : a.eval (.tmp 25) = .slice A36 r35.length cA36 := c_25.1 hg
      exact or_index (R := R24) (l := r35) tl22 f_25 rfl (RdO.some_ (RwO.rd b39_A36) (gd_t hx43 hg)) (gd_t hx43 hg)
    refine steps_cons (fun own a wx hf hsl hE => ?_) ?_
    · obtain ⟨(f_24 : a.eval (.tmp 24) = .bool x42), c_26, -⟩ := hf
      refine sg_t rfl rfl rfl f_24 (fun hg => ?_)
      have f_26 : a.eval (.tmp 26) = .pointer (some ((adr A36).add ((0 : Int).toNat * R24.s))) := c_26.1 hg
      exact or_loadN1 X24 0 to24 f_26 (Addr.add_zero' _).symm (RwO.rd (RwO.evo rfl hE b39_A36)) (gd_t hx43 hg) (fun _ => rfl)
    refine steps_cons (fun own a wx hf hsl hE => ?_) ?_
    · obtain ⟨(f_24 : a.eval (.tmp 24) = .bool x42), c_27, -⟩ := hf
      refine sg_t rfl rfl rfl f_24 (fun hg => ?_)
      obtain ⟨⟨A44, cA44⟩, (f_27 : a.eval (.tmp 27) = .slice A44 x43.length cA44), (b_A44 : RdO own [37, 38] wx R34 A44 cA44 x43)⟩ := c_27.1 hg
      exact or_mono (f := Fct.val 28 (.pointer (some ((adr A44).add ((0 : Int).toNat * R34.s))))) (or_index (R := R34) (l := x43) tl24 f_27 rfl (RdO.some_ b_A44 (gd_t hx45 hg)) (gd_t hx45 hg)) (fun own' a' w' v' hp h => fun _ _ h0' => by cases (f_27.symm.trans ((hp.2 27 (by decide)).symm.trans h0')); exact h)
    refine steps_cons (fun own a wx hf hsl hE => ?_) ?_
    · obtain ⟨(f_24 : a.eval (.tmp 24) = .bool x42), c_28, c_27, -⟩ := hf
      refine sg_t rfl rfl rfl f_24 (fun hg => ?_)
      have q_28 : ∀ (A44 : Option Addr) (cA44 : Nat), a.eval (.tmp 27) = .slice A44 x43.length cA44 → a.eval (.tmp 28) = .pointer (some ((adr A44).add ((0 : Int).toNat * R34.s))) := c_28.1 hg
      obtain ⟨⟨A44, cA44⟩, (f_27 : a.eval (.tmp 27) = .slice A44 x43.length cA44), (b_A44 : RdO own [37, 38] wx R34 A44 cA44 x43)⟩ := c_27.1 hg
      have f_28 := q_28 _ _ f_27
      exact or_load (l := E34.f x45) ta34 f_28 (RdO.cells (F := E34) b_A44 (gd_t hx45 hg)) rfl
    refine steps_cons (fun own a wx hf hsl hE => ?_) ?_
    · obtain ⟨(f_24 : a.eval (.tmp 24) = .bool x42), -⟩ := hf
      refine sg_t rfl rfl rfl f_24 (fun hg => ?_)
      exact or_k [] rfl rfl trivial (by kernel_rfl)
    refine steps_cons (fun own a wx hf hsl hE => ?_) ?_
    · obtain ⟨(f_24 : a.eval (.tmp 24) = .bool x42), c_29, c_30, -⟩ := hf
      refine sg_t rfl rfl rfl f_24 (fun hg => ?_)
      have f_29 : a.eval (.tmp 29) = .agg #[.int .i64 x45.1, .int .i64 x45.2] := c_29.1 hg
      have f_30 : a.eval (.tmp 30) = .agg #[.int .i64 2, .int .i64 0] := c_30.1 hg
      exact or_eqlA sg34 f_29 f_30 (se34 x45.1 x45.2 2 0 _) rfl
    refine steps_cons (fun own a wx hf hsl hE => ?_) ?_
    · obtain ⟨(f_24 : a.eval (.tmp 24) = .bool x42), c_31, -⟩ := hf
      exact sg_plain rfl rfl (or_and f_24 (fun hx => c_31.1 hx) rfl rfl)
    refine steps_cons (fun own a wx hf hsl hE => ?_) ?_
    · obtain ⟨(f_32 : a.eval (.tmp 32) = .bool (x42 && (decide (x45 = (2, 0))))), -⟩ := hf
      exact sg_plain rfl rfl (or_move f_32)
    refine steps_cons (fun own a wx hf hsl hE => ?_) ?_
    · obtain ⟨(f_33 : a.eval (.tmp 33) = .bool (x42 && (decide (x45 = (2, 0))))), -⟩ := hf
      obtain ⟨s_2, -⟩ := hsl
      refine sg_t rfl rfl rfl f_33 (fun hg => ?_)
      exact or_move (s_2.trans e39_2)
    refine steps_cons (fun own a wx hf hsl hE => ?_) ?_
    · obtain ⟨(f_33 : a.eval (.tmp 33) = .bool (x42 && (decide (x45 = (2, 0))))), c_34, -⟩ := hf
      refine sg_t rfl rfl rfl f_33 (fun hg => ?_)
      have f_34 : a.eval (.tmp 34) = .slice A36 r35.length cA36 := c_34.1 hg
      exact or_index (R := R24) (l := r35) tl22 f_34 rfl (RdO.some_ (RwO.rd b39_A36) (gd_t hx46 hg)) (gd_t hx46 hg)
    refine steps_cons (fun own a wx hf hsl hE => ?_) ?_
    · obtain ⟨(f_33 : a.eval (.tmp 33) = .bool (x42 && (decide (x45 = (2, 0))))), c_35, -⟩ := hf
      refine sg_t rfl rfl rfl f_33 (fun hg => ?_)
      have f_35 : a.eval (.tmp 35) = .pointer (some ((adr A36).add ((1 : Int).toNat * R24.s))) := c_35.1 hg
      exact or_loadN1 X24 0 to24 f_35 (Addr.add_zero' _).symm (RwO.rd (RwO.evo rfl hE b39_A36)) (gd_t hx46 hg) (fun _ => rfl)
    refine steps_cons (fun own a wx hf hsl hE => ?_) ?_
    · obtain ⟨(f_33 : a.eval (.tmp 33) = .bool (x42 && (decide (x45 = (2, 0))))), c_36, -⟩ := hf
      refine sg_t rfl rfl rfl f_33 (fun hg => ?_)
      obtain ⟨⟨A47, cA47⟩, (f_36 : a.eval (.tmp 36) = .slice A47 x46.length cA47), (b_A47 : RdO own [37, 38] wx R34 A47 cA47 x46)⟩ := c_36.1 hg
      exact or_mono (f := Fct.val 37 (.pointer (some ((adr A47).add ((1 : Int).toNat * R34.s))))) (or_index (R := R34) (l := x46) tl24 f_36 rfl (RdO.some_ b_A47 (gd_t hx48 hg)) (gd_t hx48 hg)) (fun own' a' w' v' hp h => fun _ _ h0' => by cases (f_36.symm.trans ((hp.2 36 (by decide)).symm.trans h0')); exact h)
    refine steps_cons (fun own a wx hf hsl hE => ?_) ?_
    · obtain ⟨(f_33 : a.eval (.tmp 33) = .bool (x42 && (decide (x45 = (2, 0))))), c_37, c_36, -⟩ := hf
      refine sg_t rfl rfl rfl f_33 (fun hg => ?_)
      have q_37 : ∀ (A47 : Option Addr) (cA47 : Nat), a.eval (.tmp 36) = .slice A47 x46.length cA47 → a.eval (.tmp 37) = .pointer (some ((adr A47).add ((1 : Int).toNat * R34.s))) := c_37.1 hg
      obtain ⟨⟨A47, cA47⟩, (f_36 : a.eval (.tmp 36) = .slice A47 x46.length cA47), (b_A47 : RdO own [37, 38] wx R34 A47 cA47 x46)⟩ := c_36.1 hg
      have f_37 := q_37 _ _ f_36
      exact or_load (l := E34.f x48) ta34 f_37 (RdO.cells (F := E34) b_A47 (gd_t hx48 hg)) rfl
    refine steps_cons (fun own a wx hf hsl hE => ?_) ?_
    · obtain ⟨(f_33 : a.eval (.tmp 33) = .bool (x42 && (decide (x45 = (2, 0))))), -⟩ := hf
      refine sg_t rfl rfl rfl f_33 (fun hg => ?_)
      exact or_k [] rfl rfl trivial (by kernel_rfl)
    refine steps_cons (fun own a wx hf hsl hE => ?_) ?_
    · obtain ⟨(f_33 : a.eval (.tmp 33) = .bool (x42 && (decide (x45 = (2, 0))))), c_38, c_39, -⟩ := hf
      refine sg_t rfl rfl rfl f_33 (fun hg => ?_)
      have f_38 : a.eval (.tmp 38) = .agg #[.int .i64 x48.1, .int .i64 x48.2] := c_38.1 hg
      have f_39 : a.eval (.tmp 39) = .agg #[.int .i64 2, .int .i64 4] := c_39.1 hg
      exact or_eqlA sg34 f_38 f_39 (se34 x48.1 x48.2 2 4 _) rfl
    refine steps_cons (fun own a wx hf hsl hE => ?_) ?_
    · obtain ⟨(f_33 : a.eval (.tmp 33) = .bool (x42 && (decide (x45 = (2, 0))))), c_40, -⟩ := hf
      exact sg_plain rfl rfl (or_and f_33 (fun hx => c_40.1 hx) rfl (osome hx49).symm)
    refine steps_cons (fun own a wx hf hsl hE => ?_) ?_
    · obtain ⟨(f_41 : a.eval (.tmp 41) = .bool x49), -⟩ := hf
      exact sg_plain rfl rfl (or_assign f_41)
    exact steps_nil
  intro own50 a50 w50 hd50 hz50 hk50 hf50 hE50
  obtain ⟨(f_0 : a50.eval (.tmp 0) = .bool x49), -⟩ := hf50 [28] rfl
  have e50_0 := f_0
  have hX50 := Evo.step hX39 (fun _ => Nat.le_refl 0) hE50 rfl
  refine fl_ret ?_
  obtain rfl := (osome hs).symm
  exact hret _ _ _ _ (.inl rfl) hd50 (results1_ rfl (RVal.tmp_ e50_0)) ⟨own50, rfl, hX50⟩

end Go.Proofs.Ythjcpojcpafbjaa
