import Derived.Test.YtoccfdohlefifaaWp6
import Derived.Test.YtoccfdohlefifaaWp8
import Derived.Test.YtoccfdohlefifaaSp10
namespace Go.Proofs.Ytoccfdohlefifaa
open Go.RowKit
set_option linter.unusedVariables false
set_option maxRecDepth 10000
theorem guard_Guard_Why_nil_w (w : World) (x2 : Int × Int) (b3 : Int × Int) (c4 : Int × Int) (r : Int) (hs : guard_Guard_Why_nil x2 b3 c4 = some r) :
    Calls Try.prog 10 #[.pointer none, .agg #[.int .i64 x2.1, .int .i64 x2.2], .agg #[.int .i64 b3.1, .int .i64 b3.2], .agg #[.int .i64 c4.1, .int .i64 c4.2]] w fun e w' => ∃ own' : Own, e = .returned (.int .i64 r) ∧ Evo [] (fun _ => 0) own' w w' := by
  refine fl_enter (n := 155) rfl rfl rfl (Nat.le_of_ble_eq_true rfl) ?_
  intro a0 Q hd0 hz0 harg hret
  have ha0 := harg 0 _ rfl
  have ha1 := harg 1 _ rfl
  have ha2 := harg 2 _ rfl
  have ha3 := harg 3 _ rfl
  clear harg
  have hE0 : Evo [] (fun _ => 0) (fun _ => 0) w w := Evo.refl _ _ _
  refine rg_plain_seq (n := 155) (rs := []) (own0 := (fun _ => 0)) (K := [])
      (bs := [0, 0, 0, 0])
      (ds := [⟨[], [1], [], Fct.blk 32 5 (fun g => .pointer (some ⟨g, 0, none⟩)) 25 #[.int .i64 x2.1, .int .i64 x2.2]⟩,
      ⟨[], [2], [], Fct.blk 34 6 (fun g => .pointer (some ⟨g, 0, none⟩)) 25 #[.int .i64 b3.1, .int .i64 b3.2]⟩,
      ⟨[], [3], [], Fct.blk 36 7 (fun g => .pointer (some ⟨g, 0, none⟩)) 25 #[.int .i64 c4.1, .int .i64 c4.2]⟩,
      ⟨[], [], [], Fct.val 8 (.int .i64 0)⟩]) (by kernel_rfl) hz0 hd0 (fun _ h => nomatch h) ?_ ?_
  · refine sc (fun _ _ _ _ s _ => px (or_new [(1, .agg #[.int .i64 x2.1, .int .i64 x2.2])] rfl rfl ⟨(s.1.trans ha1), trivial⟩ (by kernel_rfl))) ?_
    refine sc (fun _ _ _ _ s _ => px (or_new [(2, .agg #[.int .i64 b3.1, .int .i64 b3.2])] rfl rfl ⟨(s.1.trans ha2), trivial⟩ (by kernel_rfl))) ?_
    refine sc (fun _ _ _ _ s _ => px (or_new [(3, .agg #[.int .i64 c4.1, .int .i64 c4.2])] rfl rfl ⟨(s.1.trans ha3), trivial⟩ (by kernel_rfl))) ?_
    refine sc (fun _ _ _ _ _ _ => px (or_assign rfl)) ?_
    exact steps_nil
  intro own37 a37 w37 hd37 hz37 hk37 hf37 hE37
  have e37_0 := (hk37 0 rfl).trans ha0
  obtain ⟨⟨g31, (f_5 : a37.eval (.tmp 5) = .pointer (some ⟨g31, 0, none⟩)), (b_g31 : BlkO own37 32 w37 g31 25 #[.int .i64 x2.1, .int .i64 x2.2])⟩, ⟨g33, (f_6 : a37.eval (.tmp 6) = .pointer (some ⟨g33, 0, none⟩)), (b_g33 : BlkO own37 34 w37 g33 25 #[.int .i64 b3.1, .int .i64 b3.2])⟩, ⟨g35, (f_7 : a37.eval (.tmp 7) = .pointer (some ⟨g35, 0, none⟩)), (b_g35 : BlkO own37 36 w37 g35 25 #[.int .i64 c4.1, .int .i64 c4.2])⟩, -⟩ := hf37 [0, 1, 2] rfl
  have e37_5 := f_5
  have e37_6 := f_6
  have e37_7 := f_7
  have hX37 := Evo.step hE0 (fun _ => Nat.le_refl 0) hE37 rfl
  have b37_g31 := b_g31
  have b37_g33 := b_g33
  have b37_g35 := b_g35
  refine fl_seq (fun Q38 hn38 hp38 => ?_)
  refine fl_block (fun Q39 hn39 hx39 hp39 => ?_)
  obtain ⟨x40, hx40, hs⟩ := obind hs
  obtain ⟨r43, hr43, hs⟩ := obind hs
  obtain ⟨x44, hx44, hs⟩ := obind hs
  obtain ⟨u45, hu45, hs⟩ := obind hs
  obtain ⟨u46, hu46, hs⟩ := obind hs
  obtain ⟨u47, hu47, hs⟩ := obind hs
  refine rg_draw_seq g_mixed (n := 155) (rs := []) (own0 := own37) (K := [])
      (bs := [0, 1, 3, 7, 7, 31, 63, 127, 255, 255, 1023, 2047, 4095, 8191, 8191, 32767, 65535, 131071, 262143, 262143, 262143, 2097151, 4194303, 8388607, 16777215, 33554431, 67108863, 134217727, 268435455, 536870911, 67108863, 2147483647, 4294967295, 8589934591, 17179869183, 34359738367, 68719476735, 137438953471, 274877906943, 34359738367, 1099511627775, 2199023255551, 4398046511103, 8796093022207, 17592186044415, 35184372088831, 70368744177663, 140737488355327, 17592186044415, 562949953421311, 1125899906842623, 2251799813685247, 4503599627370495])
      (ds := [⟨[], [0], [], Fct.val 15 (.pointer none)⟩,
      ⟨[0], [], [], Fct.val 16 (.bool true)⟩,
      ⟨[1], [], [], Fct.val 17 (.bool true)⟩,
      ⟨[2], [], [], Fct.cond (!true) (some 18) (Fct.val 18 (.agg #[.int .i64 0, .int .i64 0]))⟩,
      ⟨[2], [], [], Fct.cond (!true) (some 19) (Fct.val 19 (.agg #[.int .i64 0, .int .i64 0]))⟩,
      ⟨[2], [], [], Fct.cond (!true) (some 20) (Fct.val 20 (.bool false))⟩,
      ⟨[2, 5], [], [], Fct.val 21 (.bool (true || false))⟩,
      ⟨[6], [], [], Fct.val 22 (.bool (true || false))⟩,
      ⟨[7], [6], [], Fct.cond (!(true || false)) (some 23) (Fct.val 23 (.agg #[.int .i64 b3.1, .int .i64 b3.2]))⟩,
      ⟨[7], [5], [], Fct.cond (!(true || false)) (some 24) (Fct.val 24 (.agg #[.int .i64 x2.1, .int .i64 x2.2]))⟩,
      ⟨[7, 8, 9], [], [], Fct.cond (!(true || false)) (some 25) (Fct.val 25 (.bool (decide (b3 = x2))))⟩,
      ⟨[7, 10], [], [], Fct.val 26 (.bool x40)⟩,
      ⟨[11], [], [], Fct.val 27 (.bool x40)⟩,
      ⟨[12], [6], [], Fct.cond (!x40) (some 28) (Fct.val 28 (.agg #[.int .i64 b3.1, .int .i64 b3.2]))⟩,
      ⟨[12], [7], [], Fct.cond (!x40) (some 29) (Fct.val 29 (.agg #[.int .i64 c4.1, .int .i64 c4.2]))⟩,
      ⟨[12, 13, 14], [], [], Fct.cond (!x40) (some 30) (Fct.val 30 (.bool (decide (b3 = c4))))⟩,
      ⟨[12, 15], [], [], Fct.val 31 (.bool (x40 || (decide (b3 = c4))))⟩,
      ⟨[16], [], [], Fct.val 32 (.bool (x40 || (decide (b3 = c4))))⟩,
      ⟨[17], [5], [], Fct.cond (!(x40 || (decide (b3 = c4)))) (some 33) (Fct.val 33 (.agg #[.int .i64 x2.1, .int .i64 x2.2]))⟩,
      ⟨[17], [6], [], Fct.cond (!(x40 || (decide (b3 = c4)))) (some 34) (Fct.val 34 (.agg #[.int .i64 b3.1, .int .i64 b3.2]))⟩,
      ⟨[17], [7], [], Fct.cond (!(x40 || (decide (b3 = c4)))) (some 35) (Fct.val 35 (.agg #[.int .i64 c4.1, .int .i64 c4.2]))⟩,
      ⟨[17, 18, 19, 20], [], [], Fct.cond (!(x40 || (decide (b3 = c4)))) (some 36) (Fct.row 42 [] 36 25 R25 [x2, b3, c4])⟩,
      ⟨[17, 21], [], [], Fct.cond (!(x40 || (decide (b3 = c4)))) (some 37) (Fct.val 37 (.bool r43))⟩,
      ⟨[17, 22], [], [], Fct.cond (!(x40 || (decide (b3 = c4)))) (some 38) (Fct.val 38 (.bool (!r43)))⟩,
      ⟨[17, 23], [], [], Fct.val 39 (.bool x44)⟩,
      ⟨[24], [], [], Fct.val 40 (.bool x44)⟩,
      ⟨[25], [0], [], Fct.cond (!x44) (some 41) (Fct.val 41 (.pointer none))⟩,
      ⟨[25, 26], [], [], Fct.cond (!x44) (some 42) (Fct.val 42 (.pointer none))⟩,
      ⟨[25], [], [], Fct.cond (!x44) (some 43) (Fct.val 43 (.pointer none))⟩,
      ⟨[25], [], [], Fct.cond (!x44) (some 44) (Fct.val 44 (.map none))⟩,
      ⟨[25], [], [], Fct.cond (!x44) (some 45) (Fct.val 45 (.agg #[.int .i64 0, .int .i64 0]))⟩,
      ⟨[25], [], [], Fct.cond (!x44) (some 46) (Fct.val 46 (.bool false))⟩,
      ⟨[25], [], [], Fct.cond (!x44) (some 47) (Fct.val 47 (.bool false))⟩,
      ⟨[25, 32], [], [], Fct.val 48 (.bool (x44 || false))⟩,
      ⟨[33], [], [], Fct.val 49 (.bool (x44 || false))⟩,
      ⟨[34], [0], [], Fct.cond (!(x44 || false)) (some 50) (Fct.val 50 (.pointer none))⟩,
      ⟨[34, 35], [], [], Fct.cond (!(x44 || false)) (some 51) (Fct.val 51 (.pointer none))⟩,
      ⟨[34], [], [], Fct.cond (!(x44 || false)) (some 52) (Fct.val 52 (.pointer none))⟩,
      ⟨[34], [], [], Fct.cond (!(x44 || false)) (some 53) (Fct.val 53 (.map none))⟩,
      ⟨[34], [], [], Fct.cond (!(x44 || false)) (some 54) (Fct.val 54 (.agg #[.int .i64 0, .int .i64 0]))⟩,
      ⟨[34], [], [], Fct.cond (!(x44 || false)) (some 55) (Fct.val 55 (.bool false))⟩,
      ⟨[34], [], [], Fct.cond (!(x44 || false)) (some 56) (Fct.val 56 (.bool false))⟩,
      ⟨[34, 41], [], [], Fct.val 57 (.bool ((x44 || false) || false))⟩,
      ⟨[42], [], [], Fct.val 58 (.bool ((x44 || false) || false))⟩,
      ⟨[43], [0], [], Fct.cond (!((x44 || false) || false)) (some 59) (Fct.val 59 (.pointer none))⟩,
      ⟨[43, 44], [], [], Fct.cond (!((x44 || false) || false)) (some 60) (Fct.val 60 (.pointer none))⟩,
      ⟨[43], [], [], Fct.cond (!((x44 || false) || false)) (some 61) (Fct.val 61 (.pointer none))⟩,
      ⟨[43], [], [], Fct.cond (!((x44 || false) || false)) (some 62) (Fct.val 62 (.map none))⟩,
      ⟨[43], [], [], Fct.cond (!((x44 || false) || false)) (some 63) (Fct.val 63 (.agg #[.int .i64 0, .int .i64 0]))⟩,
      ⟨[43], [], [], Fct.cond (!((x44 || false) || false)) (some 64) (Fct.val 64 (.bool false))⟩,
      ⟨[43], [], [], Fct.cond (!((x44 || false) || false)) (some 65) (Fct.val 65 (.bool false))⟩,
      ⟨[43, 50], [], [], Fct.val 66 (.bool (((x44 || false) || false) || false))⟩,
      ⟨[51], [], [], Fct.val 14 (.bool (((x44 || false) || false) || false))⟩]) (by kernel_rfl) hz37 hd37 (fun _ h => nomatch h) ?_ ?_
  · refine sc (fun _ _ _ _ s _ => px (or_move (s.1.trans e37_0))) ?_
    refine sc (fun _ _ _ f _ _ => px (or_k [(15, .pointer none)] rfl rfl ⟨f.1, trivial⟩ (by kernel_rfl))) ?_
    refine sc (fun _ _ _ f _ _ => px (or_move f.1)) ?_
    refine sc (fun own a wx hf hsl hE => ?_) ?_
    · obtain ⟨(f_17 : a.eval (.tmp 17) = .bool true), -⟩ := hf
      refine sg_f rfl rfl rfl f_17 (fun hg => ?_)
      exact absurd hg (by simp)
    refine sc (fun own a wx hf hsl hE => ?_) ?_
    · obtain ⟨(f_17 : a.eval (.tmp 17) = .bool true), -⟩ := hf
      refine sg_f rfl rfl rfl f_17 (fun hg => ?_)
      exact absurd hg (by simp)
    refine sc (fun own a wx hf hsl hE => ?_) ?_
    · obtain ⟨(f_17 : a.eval (.tmp 17) = .bool true), -⟩ := hf
      refine sg_f rfl rfl rfl f_17 (fun hg => ?_)
      exact absurd hg (by simp)
    refine sc (fun own a wx hf hsl hE => ?_) ?_
    · obtain ⟨(f_17 : a.eval (.tmp 17) = .bool true), c_20, -⟩ := hf
      exact px (or_or f_17 rfl (fun hx => c_20.1 hx) rfl)
    refine sc (fun _ _ _ f _ _ => px (or_move f.1)) ?_
    refine sc (fun own a wx hf hsl hE => ?_) ?_
    · obtain ⟨(f_22 : a.eval (.tmp 22) = .bool (true || false)), -⟩ := hf
      obtain ⟨s_6, -⟩ := hsl
      refine sg_f rfl rfl rfl f_22 (fun hg => ?_)
      exact or_load (l := [.int .i64 b3.1, .int .i64 b3.2]) ta25 (s_6.trans e37_6) (Blk.cellsFrom (BlkO.evo (by decide) hE b37_g33).2 0 rfl) rfl
    refine sc (fun own a wx hf hsl hE => ?_) ?_
    · obtain ⟨(f_22 : a.eval (.tmp 22) = .bool (true || false)), -⟩ := hf
      obtain ⟨s_5, -⟩ := hsl
      refine sg_f rfl rfl rfl f_22 (fun hg => ?_)
      exact or_load (l := [.int .i64 x2.1, .int .i64 x2.2]) ta25 (s_5.trans e37_5) (Blk.cellsFrom (BlkO.evo (by decide) hE b37_g31).2 0 rfl) rfl
    refine sc (fun own a wx hf hsl hE => ?_) ?_
    · obtain ⟨(f_22 : a.eval (.tmp 22) = .bool (true || false)), c_23, c_24, -⟩ := hf
      refine sg_f rfl rfl rfl f_22 (fun hg => ?_)
      have f_23 : a.eval (.tmp 23) = .agg #[.int .i64 b3.1, .int .i64 b3.2] := c_23.1 hg
      have f_24 : a.eval (.tmp 24) = .agg #[.int .i64 x2.1, .int .i64 x2.2] := c_24.1 hg
      exact or_eqlA sg25 f_23 f_24 (se25 b3.1 b3.2 x2.1 x2.2 _) rfl
    refine sc (fun own a wx hf hsl hE => ?_) ?_
    · obtain ⟨(f_22 : a.eval (.tmp 22) = .bool (true || false)), c_25, -⟩ := hf
      exact px (or_or f_22 rfl (fun hx => c_25.1 hx) (osome hx40).symm)
    refine sc (fun _ _ _ f _ _ => px (or_move f.1)) ?_
    refine sc (fun own a wx hf hsl hE => ?_) ?_
    · obtain ⟨(f_27 : a.eval (.tmp 27) = .bool x40), -⟩ := hf
      obtain ⟨s_6, -⟩ := hsl
      refine sg_f rfl rfl rfl f_27 (fun hg => ?_)
      exact or_load (l := [.int .i64 b3.1, .int .i64 b3.2]) ta25 (s_6.trans e37_6) (Blk.cellsFrom (BlkO.evo (by decide) hE b37_g33).2 0 rfl) rfl
    refine sc (fun own a wx hf hsl hE => ?_) ?_
    · obtain ⟨(f_27 : a.eval (.tmp 27) = .bool x40), -⟩ := hf
      obtain ⟨s_7, -⟩ := hsl
      refine sg_f rfl rfl rfl f_27 (fun hg => ?_)
      exact or_load (l := [.int .i64 c4.1, .int .i64 c4.2]) ta25 (s_7.trans e37_7) (Blk.cellsFrom (BlkO.evo (by decide) hE b37_g35).2 0 rfl) rfl
    refine sc (fun own a wx hf hsl hE => ?_) ?_
    · obtain ⟨(f_27 : a.eval (.tmp 27) = .bool x40), c_28, c_29, -⟩ := hf
      refine sg_f rfl rfl rfl f_27 (fun hg => ?_)
      have f_28 : a.eval (.tmp 28) = .agg #[.int .i64 b3.1, .int .i64 b3.2] := c_28.1 hg
      have f_29 : a.eval (.tmp 29) = .agg #[.int .i64 c4.1, .int .i64 c4.2] := c_29.1 hg
      exact or_eqlA sg25 f_28 f_29 (se25 b3.1 b3.2 c4.1 c4.2 _) rfl
    refine sc (fun own a wx hf hsl hE => ?_) ?_
    · obtain ⟨(f_27 : a.eval (.tmp 27) = .bool x40), c_30, -⟩ := hf
      exact px (or_or f_27 rfl (fun hx => c_30.1 hx) rfl)
    refine sc (fun _ _ _ f _ _ => px (or_move f.1)) ?_
    refine sc (fun own a wx hf hsl hE => ?_) ?_
    · obtain ⟨(f_32 : a.eval (.tmp 32) = .bool (x40 || (decide (b3 = c4)))), -⟩ := hf
      obtain ⟨s_5, -⟩ := hsl
      refine sg_f rfl rfl rfl f_32 (fun hg => ?_)
      exact or_load (l := [.int .i64 x2.1, .int .i64 x2.2]) ta25 (s_5.trans e37_5) (Blk.cellsFrom (BlkO.evo (by decide) hE b37_g31).2 0 rfl) rfl
    refine sc (fun own a wx hf hsl hE => ?_) ?_
    · obtain ⟨(f_32 : a.eval (.tmp 32) = .bool (x40 || (decide (b3 = c4)))), -⟩ := hf
      obtain ⟨s_6, -⟩ := hsl
      refine sg_f rfl rfl rfl f_32 (fun hg => ?_)
      exact or_load (l := [.int .i64 b3.1, .int .i64 b3.2]) ta25 (s_6.trans e37_6) (Blk.cellsFrom (BlkO.evo (by decide) hE b37_g33).2 0 rfl) rfl
    refine sc (fun own a wx hf hsl hE => ?_) ?_
    · obtain ⟨(f_32 : a.eval (.tmp 32) = .bool (x40 || (decide (b3 = c4)))), -⟩ := hf
      obtain ⟨s_7, -⟩ := hsl
      refine sg_f rfl rfl rfl f_32 (fun hg => ?_)
      exact or_load (l := [.int .i64 c4.1, .int .i64 c4.2]) ta25 (s_7.trans e37_7) (Blk.cellsFrom (BlkO.evo (by decide) hE b37_g35).2 0 rfl) rfl
    refine sc (fun own a wx hf hsl hE => ?_) ?_
    · obtain ⟨(f_32 : a.eval (.tmp 32) = .bool (x40 || (decide (b3 = c4)))), c_33, c_34, c_35, -⟩ := hf
      refine sg_f rfl rfl rfl f_32 (fun hg => ?_)
      have f_33 : a.eval (.tmp 33) = .agg #[.int .i64 x2.1, .int .i64 x2.2] := c_33.1 hg
      have f_34 : a.eval (.tmp 34) = .agg #[.int .i64 b3.1, .int .i64 b3.2] := c_34.1 hg
      have f_35 : a.eval (.tmp 35) = .agg #[.int .i64 c4.1, .int .i64 c4.2] := c_35.1 hg
      exact or_lit (lab := 42) (e := 25) (cs := #[.int .i64 x2.1, .int .i64 x2.2, .int .i64 b3.1, .int .i64 b3.2, .int .i64 c4.1, .int .i64 c4.2]) (F := E25) (or_new [(33, .agg #[.int .i64 x2.1, .int .i64 x2.2]), (34, .agg #[.int .i64 b3.1, .int .i64 b3.2]), (35, .agg #[.int .i64 c4.1, .int .i64 c4.2])] rfl rfl ⟨f_33, f_34, f_35, trivial⟩ (by kernel_rfl)) rfl rfl (show 3 ≤ maxLen by decide)
    refine sc (fun own a wx hf hsl hE => ?_) ?_
    · obtain ⟨(f_32 : a.eval (.tmp 32) = .bool (x40 || (decide (b3 = c4)))), c_36, -⟩ := hf
      refine sg_f rfl rfl rfl f_32 (fun hg => ?_)
      obtain ⟨⟨A41, cA41⟩, (f_36 : a.eval (.tmp 36) = .slice A41 [x2, b3, c4].length cA41), (b_A41 : RwO own 42 [] wx 25 R25 A41 cA41 [x2, b3, c4])⟩ := c_36.1 hg
      exact or_call cf32 (args1 f_36) (exact_Right_w _ [x2, b3, c4] A41 cA41 (RdO.zero (RwO.rd b_A41)) r43 (gd_t hr43 hg)) post_val
    refine sc (fun own a wx hf hsl hE => ?_) ?_
    · obtain ⟨(f_32 : a.eval (.tmp 32) = .bool (x40 || (decide (b3 = c4)))), c_37, -⟩ := hf
      refine sg_f rfl rfl rfl f_32 (fun hg => ?_)
      have f_37 : a.eval (.tmp 37) = .bool r43 := c_37.1 hg
      exact or_not f_37 rfl
    refine sc (fun own a wx hf hsl hE => ?_) ?_
    · obtain ⟨(f_32 : a.eval (.tmp 32) = .bool (x40 || (decide (b3 = c4)))), c_38, -⟩ := hf
      exact px (or_or f_32 rfl (fun hx => c_38.1 hx) (osome hx44).symm)
    refine sc (fun _ _ _ f _ _ => px (or_move f.1)) ?_
    refine sc (fun own a wx hf hsl hE => ?_) ?_
    · obtain ⟨(f_40 : a.eval (.tmp 40) = .bool x44), -⟩ := hf
      obtain ⟨s_0, -⟩ := hsl
      refine sg_f rfl rfl rfl f_40 (fun hg => ?_)
      exact or_move (s_0.trans e37_0)
    refine sc (fun own a wx hf hsl hE => ?_) ?_
    · obtain ⟨(f_40 : a.eval (.tmp 40) = .bool x44), c_41, -⟩ := hf
      refine sg_f rfl rfl rfl f_40 (fun hg => ?_)
      exact nomatch (gd_t hu45 hg)
    refine sc (fun own a wx hf hsl hE => ?_) ?_
    · obtain ⟨(f_40 : a.eval (.tmp 40) = .bool x44), -⟩ := hf
      refine sg_f rfl rfl rfl f_40 (fun hg => ?_)
      exact nomatch (gd_t hu45 hg)
    refine sc (fun own a wx hf hsl hE => ?_) ?_
    · obtain ⟨(f_40 : a.eval (.tmp 40) = .bool x44), -⟩ := hf
      refine sg_f rfl rfl rfl f_40 (fun hg => ?_)
      exact nomatch (gd_t hu45 hg)
    refine sc (fun own a wx hf hsl hE => ?_) ?_
    · obtain ⟨(f_40 : a.eval (.tmp 40) = .bool x44), -⟩ := hf
      refine sg_f rfl rfl rfl f_40 (fun hg => ?_)
      exact nomatch (gd_t hu45 hg)
    refine sc (fun own a wx hf hsl hE => ?_) ?_
    · obtain ⟨(f_40 : a.eval (.tmp 40) = .bool x44), -⟩ := hf
      refine sg_f rfl rfl rfl f_40 (fun hg => ?_)
      exact nomatch (gd_t hu45 hg)
    refine sc (fun own a wx hf hsl hE => ?_) ?_
    · obtain ⟨(f_40 : a.eval (.tmp 40) = .bool x44), -⟩ := hf
      refine sg_f rfl rfl rfl f_40 (fun hg => ?_)
      exact nomatch (gd_t hu45 hg)
    refine sc (fun own a wx hf hsl hE => ?_) ?_
    · obtain ⟨(f_40 : a.eval (.tmp 40) = .bool x44), c_47, -⟩ := hf
      exact px (or_or f_40 rfl (fun hx => c_47.1 hx) rfl)
    refine sc (fun _ _ _ f _ _ => px (or_move f.1)) ?_
    refine sc (fun own a wx hf hsl hE => ?_) ?_
    · obtain ⟨(f_49 : a.eval (.tmp 49) = .bool (x44 || false)), -⟩ := hf
      obtain ⟨s_0, -⟩ := hsl
      refine sg_f rfl rfl rfl f_49 (fun hg => ?_)
      exact or_move (s_0.trans e37_0)
    refine sc (fun own a wx hf hsl hE => ?_) ?_
    · obtain ⟨(f_49 : a.eval (.tmp 49) = .bool (x44 || false)), c_50, -⟩ := hf
      refine sg_f rfl rfl rfl f_49 (fun hg => ?_)
      exact nomatch (gd_t hu46 hg)
    refine sc (fun own a wx hf hsl hE => ?_) ?_
    · obtain ⟨(f_49 : a.eval (.tmp 49) = .bool (x44 || false)), -⟩ := hf
      refine sg_f rfl rfl rfl f_49 (fun hg => ?_)
      exact nomatch (gd_t hu46 hg)
    refine sc (fun own a wx hf hsl hE => ?_) ?_
    · obtain ⟨(f_49 : a.eval (.tmp 49) = .bool (x44 || false)), -⟩ := hf
      refine sg_f rfl rfl rfl f_49 (fun hg => ?_)
      exact nomatch (gd_t hu46 hg)
    refine sc (fun own a wx hf hsl hE => ?_) ?_
    · obtain ⟨(f_49 : a.eval (.tmp 49) = .bool (x44 || false)), -⟩ := hf
      refine sg_f rfl rfl rfl f_49 (fun hg => ?_)
      exact nomatch (gd_t hu46 hg)
    refine sc (fun own a wx hf hsl hE => ?_) ?_
    · obtain ⟨(f_49 : a.eval (.tmp 49) = .bool (x44 || false)), -⟩ := hf
      refine sg_f rfl rfl rfl f_49 (fun hg => ?_)
      exact nomatch (gd_t hu46 hg)
    refine sc (fun own a wx hf hsl hE => ?_) ?_
    · obtain ⟨(f_49 : a.eval (.tmp 49) = .bool (x44 || false)), -⟩ := hf
      refine sg_f rfl rfl rfl f_49 (fun hg => ?_)
      exact nomatch (gd_t hu46 hg)
    refine sc (fun own a wx hf hsl hE => ?_) ?_
    · obtain ⟨(f_49 : a.eval (.tmp 49) = .bool (x44 || false)), c_56, -⟩ := hf
      exact px (or_or f_49 rfl (fun hx => c_56.1 hx) rfl)
    refine sc (fun _ _ _ f _ _ => px (or_move f.1)) ?_
    refine sc (fun own a wx hf hsl hE => ?_) ?_
    · obtain ⟨(f_58 : a.eval (.tmp 58) = .bool ((x44 || false) || false)), -⟩ := hf
      obtain ⟨s_0, -⟩ := hsl
      refine sg_f rfl rfl rfl f_58 (fun hg => ?_)
      exact or_move (s_0.trans e37_0)
    refine sc (fun own a wx hf hsl hE => ?_) ?_
    · obtain ⟨(f_58 : a.eval (.tmp 58) = .bool ((x44 || false) || false)), c_59, -⟩ := hf
      refine sg_f rfl rfl rfl f_58 (fun hg => ?_)
      exact nomatch (gd_t hu47 hg)
    refine sc (fun own a wx hf hsl hE => ?_) ?_
    · obtain ⟨(f_58 : a.eval (.tmp 58) = .bool ((x44 || false) || false)), -⟩ := hf
      refine sg_f rfl rfl rfl f_58 (fun hg => ?_)
      exact nomatch (gd_t hu47 hg)
    refine sc (fun own a wx hf hsl hE => ?_) ?_
    · obtain ⟨(f_58 : a.eval (.tmp 58) = .bool ((x44 || false) || false)), -⟩ := hf
      refine sg_f rfl rfl rfl f_58 (fun hg => ?_)
      exact nomatch (gd_t hu47 hg)
    refine sc (fun own a wx hf hsl hE => ?_) ?_
    · obtain ⟨(f_58 : a.eval (.tmp 58) = .bool ((x44 || false) || false)), -⟩ := hf
      refine sg_f rfl rfl rfl f_58 (fun hg => ?_)
      exact nomatch (gd_t hu47 hg)
    refine sc (fun own a wx hf hsl hE => ?_) ?_
    · obtain ⟨(f_58 : a.eval (.tmp 58) = .bool ((x44 || false) || false)), -⟩ := hf
      refine sg_f rfl rfl rfl f_58 (fun hg => ?_)
      exact nomatch (gd_t hu47 hg)
    refine sc (fun own a wx hf hsl hE => ?_) ?_
    · obtain ⟨(f_58 : a.eval (.tmp 58) = .bool ((x44 || false) || false)), -⟩ := hf
      refine sg_f rfl rfl rfl f_58 (fun hg => ?_)
      exact nomatch (gd_t hu47 hg)
    refine sc (fun own a wx hf hsl hE => ?_) ?_
    · obtain ⟨(f_58 : a.eval (.tmp 58) = .bool ((x44 || false) || false)), c_65, -⟩ := hf
      exact px (or_or f_58 rfl (fun hx => c_65.1 hx) rfl)
    refine sc (fun _ _ _ f _ _ => px (or_assign f.1)) ?_
    exact steps_nil
  intro own48 a48 w48 hd48 hz48 hk48 hf48 hE48
  have e48_0 := (hk48 0 rfl).trans e37_0
  have e48_5 := (hk48 5 rfl).trans e37_5
  have e48_6 := (hk48 6 rfl).trans e37_6
  have e48_7 := (hk48 7 rfl).trans e37_7
  obtain ⟨(f_14 : a48.eval (.tmp 14) = .bool (((x44 || false) || false) || false)), -⟩ := hf48 [52] rfl
  have e48_14 := f_14
  have hX48 := Evo.step hX37 (fun _ => Nat.le_refl 0) hE48 rfl
  have b48_g31 := BlkO.evo (by decide) hE48 b37_g31
  have b48_g33 := BlkO.evo (by decide) hE48 b37_g33
  have b48_g35 := BlkO.evo (by decide) hE48 b37_g35
  refine fl_cond e48_14 hs (fun c49 hs => ?_) (fun c49 hs => ?_)
  · refine rg_plain_seq (n := 155) (rs := []) (own0 := own48) (K := [])
        (bs := [0])
        (ds := [⟨[], [], [], Fct.val 8 (.int .i64 1)⟩]) (by kernel_rfl) hz48 hd48 (fun _ h => nomatch h) ?_ ?_
    · refine sc (fun _ _ _ _ _ _ => px (or_assign rfl)) ?_
      exact steps_nil
    intro own50 a50 w50 hd50 hz50 hk50 hf50 hE50
    obtain ⟨(f_8 : a50.eval (.tmp 8) = .int .i64 1), -⟩ := hf50 [0] rfl
    have e50_8 := f_8
    have hX50 := Evo.step hX48 (fun _ => Nat.le_refl 0) hE50 rfl
    refine fl_ret ?_
    refine hp39 _ _ _ rfl ?_
    refine hp38 _ _ _ rfl ?_
    obtain rfl := osome hs
    exact hret _ _ _ _ (.inl rfl) hd50 (results1_ rfl (RVal.tmp_ e50_8)) ⟨own50, rfl, hX50⟩
  exact nomatch hs
theorem guard_Guard_Drop_nil_w (w : World) (x2 : Int × Int) (b3 : Int × Int) (c4 : Int × Int) (r : Bool) (hs : guard_Guard_Drop_nil x2 b3 c4 = some r) :
    Calls Try.prog 12 #[.pointer none, .agg #[.int .i64 x2.1, .int .i64 x2.2], .agg #[.int .i64 b3.1, .int .i64 b3.2], .agg #[.int .i64 c4.1, .int .i64 c4.2]] w fun e w' => ∃ own' : Own, e = .returned (.bool r) ∧ Evo [] (fun _ => 0) own' w w' := by
  refine fl_enter (n := 41) rfl rfl rfl (Nat.le_of_ble_eq_true rfl) ?_
  intro a0 Q hd0 hz0 harg hret
  have ha0 := harg 0 _ rfl
  have ha1 := harg 1 _ rfl
  have ha2 := harg 2 _ rfl
  have ha3 := harg 3 _ rfl
  clear harg
  have hE0 : Evo [] (fun _ => 0) (fun _ => 0) w w := Evo.refl _ _ _
  refine rg_plain_seq (n := 41) (rs := []) (own0 := (fun _ => 0)) (K := [])
      (bs := [0, 0, 0, 0])
      (ds := [⟨[], [1], [], Fct.blk 24 5 (fun g => .pointer (some ⟨g, 0, none⟩)) 25 #[.int .i64 x2.1, .int .i64 x2.2]⟩,
      ⟨[], [2], [], Fct.blk 26 6 (fun g => .pointer (some ⟨g, 0, none⟩)) 25 #[.int .i64 b3.1, .int .i64 b3.2]⟩,
      ⟨[], [3], [], Fct.blk 28 7 (fun g => .pointer (some ⟨g, 0, none⟩)) 25 #[.int .i64 c4.1, .int .i64 c4.2]⟩,
      ⟨[], [], [], Fct.val 8 (.bool false)⟩]) (by kernel_rfl) hz0 hd0 (fun _ h => nomatch h) ?_ ?_
  · refine sc (fun _ _ _ _ s _ => px (or_new [(1, .agg #[.int .i64 x2.1, .int .i64 x2.2])] rfl rfl ⟨(s.1.trans ha1), trivial⟩ (by kernel_rfl))) ?_
    refine sc (fun _ _ _ _ s _ => px (or_new [(2, .agg #[.int .i64 b3.1, .int .i64 b3.2])] rfl rfl ⟨(s.1.trans ha2), trivial⟩ (by kernel_rfl))) ?_
    refine sc (fun _ _ _ _ s _ => px (or_new [(3, .agg #[.int .i64 c4.1, .int .i64 c4.2])] rfl rfl ⟨(s.1.trans ha3), trivial⟩ (by kernel_rfl))) ?_
    refine sc (fun _ _ _ _ _ _ => px (or_assign rfl)) ?_
    exact steps_nil
  intro own29 a29 w29 hd29 hz29 hk29 hf29 hE29
  have e29_0 := (hk29 0 rfl).trans ha0
  obtain ⟨⟨g23, (f_5 : a29.eval (.tmp 5) = .pointer (some ⟨g23, 0, none⟩)), (b_g23 : BlkO own29 24 w29 g23 25 #[.int .i64 x2.1, .int .i64 x2.2])⟩, ⟨g25, (f_6 : a29.eval (.tmp 6) = .pointer (some ⟨g25, 0, none⟩)), (b_g25 : BlkO own29 26 w29 g25 25 #[.int .i64 b3.1, .int .i64 b3.2])⟩, ⟨g27, (f_7 : a29.eval (.tmp 7) = .pointer (some ⟨g27, 0, none⟩)), (b_g27 : BlkO own29 28 w29 g27 25 #[.int .i64 c4.1, .int .i64 c4.2])⟩, -⟩ := hf29 [0, 1, 2] rfl
  have e29_5 := f_5
  have e29_6 := f_6
  have e29_7 := f_7
  have hX29 := Evo.step hE0 (fun _ => Nat.le_refl 0) hE29 rfl
  have b29_g23 := b_g23
  have b29_g25 := b_g25
  have b29_g27 := b_g27
  refine fl_seq (fun Q30 hn30 hp30 => ?_)
  obtain ⟨r31, hr31, hs⟩ := obind hs
  refine rg_plain_seq (n := 41) (rs := []) (own0 := own29) (K := [])
      (bs := [0, 0, 0, 0, 15, 31])
      (ds := [⟨[], [0], [], Fct.val 9 (.pointer none)⟩,
      ⟨[], [5], [], Fct.val 10 (.agg #[.int .i64 x2.1, .int .i64 x2.2])⟩,
      ⟨[], [6], [], Fct.val 11 (.agg #[.int .i64 b3.1, .int .i64 b3.2])⟩,
      ⟨[], [7], [], Fct.val 12 (.agg #[.int .i64 c4.1, .int .i64 c4.2])⟩,
      ⟨[0, 1, 2, 3], [], [], Fct.val 13 (.int .i64 r31)⟩,
      ⟨[4], [], [], Fct.val 14 (.bool (!decide (r31 = 0)))⟩]) (by kernel_rfl) hz29 hd29 (fun _ h => nomatch h) ?_ ?_
  · refine sc (fun _ _ _ _ s _ => px (or_move (s.1.trans e29_0))) ?_
    refine sc (fun _ _ _ _ s hE => px (or_load (l := [.int .i64 x2.1, .int .i64 x2.2]) ta25 (s.1.trans e29_5) (Blk.cellsFrom (BlkO.evo (by decide) hE b29_g23).2 0 rfl) rfl)) ?_
    refine sc (fun _ _ _ _ s hE => px (or_load (l := [.int .i64 b3.1, .int .i64 b3.2]) ta25 (s.1.trans e29_6) (Blk.cellsFrom (BlkO.evo (by decide) hE b29_g25).2 0 rfl) rfl)) ?_
    refine sc (fun _ _ _ _ s hE => px (or_load (l := [.int .i64 c4.1, .int .i64 c4.2]) ta25 (s.1.trans e29_7) (Blk.cellsFrom (BlkO.evo (by decide) hE b29_g27).2 0 rfl) rfl)) ?_
    refine sc (fun _ _ _ f _ _ => px (or_call cf10 (args4 f.1 f.2.1 f.2.2.1 f.2.2.2.1) (guard_Guard_Why_nil_w _ x2 b3 c4  r31 hr31) post_val)) ?_
    refine sc (fun _ _ _ f _ _ => px (or_neq f.1 rfl rfl)) ?_
    exact steps_nil
  intro own32 a32 w32 hd32 hz32 hk32 hf32 hE32
  have e32_0 := (hk32 0 rfl).trans e29_0
  have e32_5 := (hk32 5 rfl).trans e29_5
  have e32_6 := (hk32 6 rfl).trans e29_6
  have e32_7 := (hk32 7 rfl).trans e29_7
  obtain ⟨(f_14 : a32.eval (.tmp 14) = .bool (!decide (r31 = 0))), -⟩ := hf32 [5] rfl
  have e32_14 := f_14
  have hX32 := Evo.step hX29 (fun _ => Nat.le_refl 0) hE32 rfl
  have b32_g23 := BlkO.evo (by decide) hE32 b29_g23
  have b32_g25 := BlkO.evo (by decide) hE32 b29_g25
  have b32_g27 := BlkO.evo (by decide) hE32 b29_g27
  refine fl_cond e32_14 hs (fun c33 hs => ?_) (fun c33 hs => ?_)
  · refine rg_plain_seq (n := 41) (rs := []) (own0 := own32) (K := [])
        (bs := [0])
        (ds := [⟨[], [], [], Fct.val 8 (.bool false)⟩]) (by kernel_rfl) hz32 hd32 (fun _ h => nomatch h) ?_ ?_
    · refine sc (fun _ _ _ _ _ _ => px (or_assign rfl)) ?_
      exact steps_nil
    intro own34 a34 w34 hd34 hz34 hk34 hf34 hE34
    obtain ⟨(f_8 : a34.eval (.tmp 8) = .bool false), -⟩ := hf34 [0] rfl
    have e34_8 := f_8
    have hX34 := Evo.step hX32 (fun _ => Nat.le_refl 0) hE34 rfl
    refine fl_ret ?_
    refine hp30 _ _ _ rfl ?_
    obtain rfl := osome hs
    exact hret _ _ _ _ (.inl rfl) hd34 (results1_ rfl (RVal.tmp_ e34_8)) ⟨own34, rfl, hX34⟩
  refine fl_skip ?_
  refine hn30 _ _ ?_
  exact nomatch hs
theorem guard_Guard_Has_nil_w (w : World) (p2 : Int × Int) (r : Bool) (hs : guard_Guard_Has_nil p2 = some r) :
    Calls Try.prog 17 #[.pointer none, .agg #[.int .i64 p2.1, .int .i64 p2.2]] w fun e w' => ∃ own' : Own, e = .returned (.bool r) ∧ Evo [] (fun _ => 0) own' w w' := by
  refine fl_enter (n := 15) rfl rfl rfl (Nat.le_of_ble_eq_true rfl) ?_
  intro a0 Q hd0 hz0 harg hret
  have ha0 := harg 0 _ rfl
  have ha1 := harg 1 _ rfl
  clear harg
  have hE0 : Evo [] (fun _ => 0) (fun _ => 0) w w := Evo.refl _ _ _
  refine rg_plain_seq (n := 15) (rs := []) (own0 := (fun _ => 0)) (K := [])
      (bs := [0, 0])
      (ds := [⟨[], [1], [], Fct.blk 16 3 (fun g => .pointer (some ⟨g, 0, none⟩)) 25 #[.int .i64 p2.1, .int .i64 p2.2]⟩,
      ⟨[], [], [], Fct.val 4 (.bool false)⟩]) (by kernel_rfl) hz0 hd0 (fun _ h => nomatch h) ?_ ?_
  · refine sc (fun _ _ _ _ s _ => px (or_new [(1, .agg #[.int .i64 p2.1, .int .i64 p2.2])] rfl rfl ⟨(s.1.trans ha1), trivial⟩ (by kernel_rfl))) ?_
    refine sc (fun _ _ _ _ _ _ => px (or_assign rfl)) ?_
    exact steps_nil
  intro own17 a17 w17 hd17 hz17 hk17 hf17 hE17
  have e17_0 := (hk17 0 rfl).trans ha0
  obtain ⟨⟨g15, (f_3 : a17.eval (.tmp 3) = .pointer (some ⟨g15, 0, none⟩)), (b_g15 : BlkO own17 16 w17 g15 25 #[.int .i64 p2.1, .int .i64 p2.2])⟩, -⟩ := hf17 [0] rfl
  have e17_3 := f_3
  have hX17 := Evo.step hE0 (fun _ => Nat.le_refl 0) hE17 rfl
  have b17_g15 := b_g15
  refine rg_draw_seq g_mixed (n := 15) (rs := []) (own0 := own17) (K := [])
      (bs := [0, 1, 3, 7, 15, 31, 63, 7, 255, 511, 1023])
      (ds := [⟨[], [0], [], Fct.val 5 (.pointer none)⟩,
      ⟨[0], [], [], Fct.val 6 (.bool false)⟩,
      ⟨[1], [], [], Fct.val 7 (.bool false)⟩,
      ⟨[2], [], [], Fct.cond false (some 8) (Fct.val 8 (.pointer none))⟩,
      ⟨[2], [], [], Fct.cond false (some 9) (Fct.val 9 (.pointer none))⟩,
      ⟨[2], [], [], Fct.cond false (some 10) (Fct.val 10 (.pointer none))⟩,
      ⟨[2], [], [], Fct.cond false (some 11) (Fct.val 11 (.map none))⟩,
      ⟨[2], [], [], Fct.cond false (some 12) (Fct.val 12 (.agg #[.int .i64 0, .int .i64 0]))⟩,
      ⟨[2], [], [], Fct.cond false (some 13) (Fct.val 13 (.bool false))⟩,
      ⟨[2, 8], [], [], Fct.val 14 (.bool (false && false))⟩,
      ⟨[9], [], [], Fct.val 4 (.bool (false && false))⟩]) (by kernel_rfl) hz17 hd17 (fun _ h => nomatch h) ?_ ?_
  · refine sc (fun _ _ _ _ s _ => px (or_move (s.1.trans e17_0))) ?_
    refine sc (fun _ _ _ f _ _ => px (or_k [(5, .pointer none)] rfl rfl ⟨f.1, trivial⟩ (by kernel_rfl))) ?_
    refine sc (fun _ _ _ f _ _ => px (or_move f.1)) ?_
    refine sc (fun own a wx hf hsl hE => ?_) ?_
    · obtain ⟨(f_7 : a.eval (.tmp 7) = .bool false), -⟩ := hf
      refine sg_t rfl rfl rfl f_7 (fun hg => ?_)
      exact absurd hg (by simp)
    refine sc (fun own a wx hf hsl hE => ?_) ?_
    · obtain ⟨(f_7 : a.eval (.tmp 7) = .bool false), -⟩ := hf
      refine sg_t rfl rfl rfl f_7 (fun hg => ?_)
      exact absurd hg (by simp)
    refine sc (fun own a wx hf hsl hE => ?_) ?_
    · obtain ⟨(f_7 : a.eval (.tmp 7) = .bool false), -⟩ := hf
      refine sg_t rfl rfl rfl f_7 (fun hg => ?_)
      exact absurd hg (by simp)
    refine sc (fun own a wx hf hsl hE => ?_) ?_
    · obtain ⟨(f_7 : a.eval (.tmp 7) = .bool false), -⟩ := hf
      refine sg_t rfl rfl rfl f_7 (fun hg => ?_)
      exact absurd hg (by simp)
    refine sc (fun own a wx hf hsl hE => ?_) ?_
    · obtain ⟨(f_7 : a.eval (.tmp 7) = .bool false), -⟩ := hf
      refine sg_t rfl rfl rfl f_7 (fun hg => ?_)
      exact absurd hg (by simp)
    refine sc (fun own a wx hf hsl hE => ?_) ?_
    · obtain ⟨(f_7 : a.eval (.tmp 7) = .bool false), -⟩ := hf
      refine sg_t rfl rfl rfl f_7 (fun hg => ?_)
      exact absurd hg (by simp)
    refine sc (fun own a wx hf hsl hE => ?_) ?_
    · obtain ⟨(f_7 : a.eval (.tmp 7) = .bool false), c_13, -⟩ := hf
      exact px (or_and f_7 (fun hx => c_13.1 hx) rfl rfl)
    refine sc (fun _ _ _ f _ _ => px (or_assign f.1)) ?_
    exact steps_nil
  intro own18 a18 w18 hd18 hz18 hk18 hf18 hE18
  obtain ⟨(f_4 : a18.eval (.tmp 4) = .bool (false && false)), -⟩ := hf18 [10] rfl
  have e18_4 := f_4
  have hX18 := Evo.step hX17 (fun _ => Nat.le_refl 0) hE18 rfl
  refine fl_ret ?_
  obtain rfl := osome hs
  exact hret _ _ _ _ (.inl rfl) hd18 (results1_ rfl (RVal.tmp_ e18_4)) ⟨own18, rfl, hX18⟩
theorem guard_Guard_Joined_nil_w (w : World) (x2 : Int × Int) (b3 : Int × Int) (r : Bool) (hs : guard_Guard_Joined_nil x2 b3 = some r) :
    Calls Try.prog 19 #[.pointer none, .agg #[.int .i64 x2.1, .int .i64 x2.2], .agg #[.int .i64 b3.1, .int .i64 b3.2]] w fun e w' => ∃ own' : Own, e = .returned (.bool r) ∧ Evo [] (fun _ => 0) own' w w' := by
  refine fl_enter (n := 19) rfl rfl rfl (Nat.le_of_ble_eq_true rfl) ?_
  intro a0 Q hd0 hz0 harg hret
  have ha0 := harg 0 _ rfl
  have ha1 := harg 1 _ rfl
  have ha2 := harg 2 _ rfl
  clear harg
  have hE0 : Evo [] (fun _ => 0) (fun _ => 0) w w := Evo.refl _ _ _
  refine rg_plain_seq (n := 19) (rs := []) (own0 := (fun _ => 0)) (K := [])
      (bs := [0, 0, 0])
      (ds := [⟨[], [1], [], Fct.blk 18 4 (fun g => .pointer (some ⟨g, 0, none⟩)) 25 #[.int .i64 x2.1, .int .i64 x2.2]⟩,
      ⟨[], [2], [], Fct.blk 20 5 (fun g => .pointer (some ⟨g, 0, none⟩)) 25 #[.int .i64 b3.1, .int .i64 b3.2]⟩,
      ⟨[], [], [], Fct.val 6 (.bool false)⟩]) (by kernel_rfl) hz0 hd0 (fun _ h => nomatch h) ?_ ?_
  · refine sc (fun _ _ _ _ s _ => px (or_new [(1, .agg #[.int .i64 x2.1, .int .i64 x2.2])] rfl rfl ⟨(s.1.trans ha1), trivial⟩ (by kernel_rfl))) ?_
    refine sc (fun _ _ _ _ s _ => px (or_new [(2, .agg #[.int .i64 b3.1, .int .i64 b3.2])] rfl rfl ⟨(s.1.trans ha2), trivial⟩ (by kernel_rfl))) ?_
    refine sc (fun _ _ _ _ _ _ => px (or_assign rfl)) ?_
    exact steps_nil
  intro own21 a21 w21 hd21 hz21 hk21 hf21 hE21
  have e21_0 := (hk21 0 rfl).trans ha0
  obtain ⟨⟨g17, (f_4 : a21.eval (.tmp 4) = .pointer (some ⟨g17, 0, none⟩)), (b_g17 : BlkO own21 18 w21 g17 25 #[.int .i64 x2.1, .int .i64 x2.2])⟩, ⟨g19, (f_5 : a21.eval (.tmp 5) = .pointer (some ⟨g19, 0, none⟩)), (b_g19 : BlkO own21 20 w21 g19 25 #[.int .i64 b3.1, .int .i64 b3.2])⟩, -⟩ := hf21 [0, 1] rfl
  have e21_4 := f_4
  have e21_5 := f_5
  have hX21 := Evo.step hE0 (fun _ => Nat.le_refl 0) hE21 rfl
  have b21_g17 := b_g17
  have b21_g19 := b_g19
  refine rg_draw_seq g_mixed (n := 19) (rs := []) (own0 := own21) (K := [])
      (bs := [0, 1, 3, 7, 15, 31, 63, 7, 7, 391, 1023, 2047, 4095])
      (ds := [⟨[], [0], [], Fct.val 7 (.pointer none)⟩,
      ⟨[0], [], [], Fct.val 8 (.bool false)⟩,
      ⟨[1], [], [], Fct.val 9 (.bool false)⟩,
      ⟨[2], [], [], Fct.cond false (some 10) (Fct.val 10 (.pointer none))⟩,
      ⟨[2], [], [], Fct.cond false (some 11) (Fct.val 11 (.pointer none))⟩,
      ⟨[2], [], [], Fct.cond false (some 12) (Fct.val 12 (.pointer none))⟩,
      ⟨[2], [], [], Fct.cond false (some 13) (Fct.val 13 (.map none))⟩,
      ⟨[2], [], [], Fct.cond false (some 14) (Fct.val 14 (.agg #[.int .i64 0, .int .i64 0]))⟩,
      ⟨[2], [], [], Fct.cond false (some 15) (Fct.val 15 (.agg #[.int .i64 0, .int .i64 0]))⟩,
      ⟨[2], [], [], Fct.cond false (some 16) (Fct.val 16 (.agg #[.int .i64 0, .int .i64 0, .int .i64 0, .int .i64 0]))⟩,
      ⟨[2], [], [], Fct.cond false (some 17) (Fct.val 17 (.bool false))⟩,
      ⟨[2, 10], [], [], Fct.val 18 (.bool (false && false))⟩,
      ⟨[11], [], [], Fct.val 6 (.bool (false && false))⟩]) (by kernel_rfl) hz21 hd21 (fun _ h => nomatch h) ?_ ?_
  · refine sc (fun _ _ _ _ s _ => px (or_move (s.1.trans e21_0))) ?_
    refine sc (fun _ _ _ f _ _ => px (or_k [(7, .pointer none)] rfl rfl ⟨f.1, trivial⟩ (by kernel_rfl))) ?_
    refine sc (fun _ _ _ f _ _ => px (or_move f.1)) ?_
    refine sc (fun own a wx hf hsl hE => ?_) ?_
    · obtain ⟨(f_9 : a.eval (.tmp 9) = .bool false), -⟩ := hf
      refine sg_t rfl rfl rfl f_9 (fun hg => ?_)
      exact absurd hg (by simp)
    refine sc (fun own a wx hf hsl hE => ?_) ?_
    · obtain ⟨(f_9 : a.eval (.tmp 9) = .bool false), -⟩ := hf
      refine sg_t rfl rfl rfl f_9 (fun hg => ?_)
      exact absurd hg (by simp)
    refine sc (fun own a wx hf hsl hE => ?_) ?_
    · obtain ⟨(f_9 : a.eval (.tmp 9) = .bool false), -⟩ := hf
      refine sg_t rfl rfl rfl f_9 (fun hg => ?_)
      exact absurd hg (by simp)
    refine sc (fun own a wx hf hsl hE => ?_) ?_
    · obtain ⟨(f_9 : a.eval (.tmp 9) = .bool false), -⟩ := hf
      refine sg_t rfl rfl rfl f_9 (fun hg => ?_)
      exact absurd hg (by simp)
    refine sc (fun own a wx hf hsl hE => ?_) ?_
    · obtain ⟨(f_9 : a.eval (.tmp 9) = .bool false), -⟩ := hf
      refine sg_t rfl rfl rfl f_9 (fun hg => ?_)
      exact absurd hg (by simp)
    refine sc (fun own a wx hf hsl hE => ?_) ?_
    · obtain ⟨(f_9 : a.eval (.tmp 9) = .bool false), -⟩ := hf
      refine sg_t rfl rfl rfl f_9 (fun hg => ?_)
      exact absurd hg (by simp)
    refine sc (fun own a wx hf hsl hE => ?_) ?_
    · obtain ⟨(f_9 : a.eval (.tmp 9) = .bool false), -⟩ := hf
      refine sg_t rfl rfl rfl f_9 (fun hg => ?_)
      exact absurd hg (by simp)
    refine sc (fun own a wx hf hsl hE => ?_) ?_
    · obtain ⟨(f_9 : a.eval (.tmp 9) = .bool false), -⟩ := hf
      refine sg_t rfl rfl rfl f_9 (fun hg => ?_)
      exact absurd hg (by simp)
    refine sc (fun own a wx hf hsl hE => ?_) ?_
    · obtain ⟨(f_9 : a.eval (.tmp 9) = .bool false), c_17, -⟩ := hf
      exact px (or_and f_9 (fun hx => c_17.1 hx) rfl rfl)
    refine sc (fun _ _ _ f _ _ => px (or_assign f.1)) ?_
    exact steps_nil
  intro own22 a22 w22 hd22 hz22 hk22 hf22 hE22
  obtain ⟨(f_6 : a22.eval (.tmp 6) = .bool (false && false)), -⟩ := hf22 [12] rfl
  have e22_6 := f_6
  have hX22 := Evo.step hX21 (fun _ => Nat.le_refl 0) hE22 rfl
  refine fl_ret ?_
  obtain rfl := osome hs
  exact hret _ _ _ _ (.inl rfl) hd22 (results1_ rfl (RVal.tmp_ e22_6)) ⟨own22, rfl, hX22⟩
theorem guard_Guard_Points_nil_w (w : World) (r : List (Int × Int)) (hs : guard_Guard_Points_nil = some r) :
    Calls Try.prog 24 #[.pointer none] w fun e w' => ∃ (own' : Own) (x : Option Addr × Nat), e = .returned (.slice x.1 r.length x.2) ∧ Evo [] (fun _ => 0) own' w w' ∧ RwO own' 1 [] w' 25 R25 x.1 x.2 r := by
  refine fl_enter (n := 22) rfl rfl rfl (Nat.le_of_ble_eq_true rfl) ?_
  intro a0 Q hd0 hz0 harg hret
  have ha0 := harg 0 _ rfl
  clear harg
  have hE0 : Evo [] (fun _ => 0) (fun _ => 0) w w := Evo.refl _ _ _
  refine rg_plain_seq (n := 22) (rs := []) (own0 := (fun _ => 0)) (K := [])
      (bs := [0])
      (ds := [⟨[], [], [], Fct.val 2 (.slice none 0 0)⟩]) (by kernel_rfl) hz0 hd0 (fun _ h => nomatch h) ?_ ?_
  · refine sc (fun _ _ _ _ _ _ => px (or_assign rfl)) ?_
    exact steps_nil
  intro own15 a15 w15 hd15 hz15 hk15 hf15 hE15
  have e15_0 := (hk15 0 rfl).trans ha0
  have hX15 := Evo.step hE0 (fun _ => Nat.le_refl 0) hE15 rfl
  refine fl_seq (fun Q16 hn16 hp16 => ?_)
  refine rg_plain_seq (n := 22) (rs := []) (own0 := own15) (K := [])
      (bs := [0, 1])
      (ds := [⟨[], [0], [], Fct.val 5 (.pointer none)⟩,
      ⟨[0], [], [], Fct.val 6 (.bool true)⟩]) (by kernel_rfl) hz15 hd15 (fun _ h => nomatch h) ?_ ?_
  · refine sc (fun _ _ _ _ s _ => px (or_move (s.1.trans e15_0))) ?_
    refine sc (fun _ _ _ f _ _ => px (or_k [(5, .pointer none)] rfl rfl ⟨f.1, trivial⟩ (by kernel_rfl))) ?_
    exact steps_nil
  intro own17 a17 w17 hd17 hz17 hk17 hf17 hE17
  have e17_0 := (hk17 0 rfl).trans e15_0
  obtain ⟨(f_6 : a17.eval (.tmp 6) = .bool true), -⟩ := hf17 [1] rfl
  have e17_6 := f_6
  have hX17 := Evo.step hX15 (fun _ => Nat.le_refl 0) hE17 rfl
  refine fl_t e17_6 ?_
  refine rg_plain_seq (n := 22) (rs := []) (own0 := own17) (K := [])
      (bs := [0])
      (ds := [⟨[], [], [], Fct.val 2 (.slice none 0 0)⟩]) (by kernel_rfl) hz17 hd17 (fun _ h => nomatch h) ?_ ?_
  · refine sc (fun _ _ _ _ _ _ => px (or_assign rfl)) ?_
    exact steps_nil
  intro own18 a18 w18 hd18 hz18 hk18 hf18 hE18
  obtain ⟨(f_2 : a18.eval (.tmp 2) = .slice none 0 0), -⟩ := hf18 [0] rfl
  have e18_2 := f_2
  have hX18 := Evo.step hX17 (fun _ => Nat.le_refl 0) hE18 rfl
  refine fl_ret ?_
  refine hp16 _ _ _ rfl ?_
  obtain rfl := osome hs
  exact hret _ _ _ _ (.inl rfl) hd18 (results1_ rfl (RVal.tmp_ e18_2)) ⟨own18, (none, 0), rfl, hX18, RwO.nil_⟩
theorem guard_Guard_Edges_nil_w (w : World) (r : Int) (hs : guard_Guard_Edges_nil = some r) :
    Calls Try.prog 22 #[.pointer none] w fun e w' => ∃ own' : Own, e = .returned (.int .i64 r) ∧ Evo [] (fun _ => 0) own' w w' := by
  refine fl_enter (n := 10) rfl rfl rfl (Nat.le_of_ble_eq_true rfl) ?_
  intro a0 Q hd0 hz0 harg hret
  have ha0 := harg 0 _ rfl
  clear harg
  have hE0 : Evo [] (fun _ => 0) (fun _ => 0) w w := Evo.refl _ _ _
  refine rg_plain_seq (n := 10) (rs := []) (own0 := (fun _ => 0)) (K := [])
      (bs := [0])
      (ds := [⟨[], [], [], Fct.val 2 (.int .i64 0)⟩]) (by kernel_rfl) hz0 hd0 (fun _ h => nomatch h) ?_ ?_
  · refine sc (fun _ _ _ _ _ _ => px (or_assign rfl)) ?_
    exact steps_nil
  intro own15 a15 w15 hd15 hz15 hk15 hf15 hE15
  have e15_0 := (hk15 0 rfl).trans ha0
  have hX15 := Evo.step hE0 (fun _ => Nat.le_refl 0) hE15 rfl
  refine fl_seq (fun Q16 hn16 hp16 => ?_)
  refine rg_plain_seq (n := 10) (rs := []) (own0 := own15) (K := [])
      (bs := [0, 1])
      (ds := [⟨[], [0], [], Fct.val 3 (.pointer none)⟩,
      ⟨[0], [], [], Fct.val 4 (.bool true)⟩]) (by kernel_rfl) hz15 hd15 (fun _ h => nomatch h) ?_ ?_
  · refine sc (fun _ _ _ _ s _ => px (or_move (s.1.trans e15_0))) ?_
    refine sc (fun _ _ _ f _ _ => px (or_k [(3, .pointer none)] rfl rfl ⟨f.1, trivial⟩ (by kernel_rfl))) ?_
    exact steps_nil
  intro own17 a17 w17 hd17 hz17 hk17 hf17 hE17
  have e17_0 := (hk17 0 rfl).trans e15_0
  obtain ⟨(f_4 : a17.eval (.tmp 4) = .bool true), -⟩ := hf17 [1] rfl
  have e17_4 := f_4
  have hX17 := Evo.step hX15 (fun _ => Nat.le_refl 0) hE17 rfl
  refine fl_t e17_4 ?_
  refine rg_plain_seq (n := 10) (rs := []) (own0 := own17) (K := [])
      (bs := [0])
      (ds := [⟨[], [], [], Fct.val 2 (.int .i64 0)⟩]) (by kernel_rfl) hz17 hd17 (fun _ h => nomatch h) ?_ ?_
  · refine sc (fun _ _ _ _ _ _ => px (or_assign rfl)) ?_
    exact steps_nil
  intro own18 a18 w18 hd18 hz18 hk18 hf18 hE18
  obtain ⟨(f_2 : a18.eval (.tmp 2) = .int .i64 0), -⟩ := hf18 [0] rfl
  have e18_2 := f_2
  have hX18 := Evo.step hX17 (fun _ => Nat.le_refl 0) hE18 rfl
  refine fl_ret ?_
  refine hp16 _ _ _ rfl ?_
  obtain rfl := osome hs
  exact hret _ _ _ _ (.inl rfl) hd18 (results1_ rfl (RVal.tmp_ e18_2)) ⟨own18, rfl, hX18⟩
theorem law18_GuardNil_w (w : World) (x1 : Int × Int) (b2 : Int × Int) (c3 : Int × Int) (r : Bool) (hs : law18_GuardNil x1 b2 c3 = some r) :
    Calls Try.prog 5 #[.agg #[.int .i64 x1.1, .int .i64 x1.2], .agg #[.int .i64 b2.1, .int .i64 b2.2], .agg #[.int .i64 c3.1, .int .i64 c3.2]] w fun e w' => ∃ own' : Own, e = .returned (.bool r) ∧ Evo [] (fun _ => 0) own' w w' := by
  refine fl_enter (n := 49) rfl rfl rfl (Nat.le_of_ble_eq_true rfl) ?_
  intro a0 Q hd0 hz0 harg hret
  have ha0 := harg 0 _ rfl
  have ha1 := harg 1 _ rfl
  have ha2 := harg 2 _ rfl
  clear harg
  have hE0 : Evo [] (fun _ => 0) (fun _ => 0) w w := Evo.refl _ _ _
  refine rg_plain_seq (n := 49) (rs := []) (own0 := (fun _ => 0)) (K := [])
      (bs := [0, 0, 0, 0])
      (ds := [⟨[], [0], [], Fct.blk 29 3 (fun g => .pointer (some ⟨g, 0, none⟩)) 25 #[.int .i64 x1.1, .int .i64 x1.2]⟩,
      ⟨[], [1], [], Fct.blk 31 4 (fun g => .pointer (some ⟨g, 0, none⟩)) 25 #[.int .i64 b2.1, .int .i64 b2.2]⟩,
      ⟨[], [2], [], Fct.blk 33 5 (fun g => .pointer (some ⟨g, 0, none⟩)) 25 #[.int .i64 c3.1, .int .i64 c3.2]⟩,
      ⟨[], [], [], Fct.val 6 (.bool false)⟩]) (by kernel_rfl) hz0 hd0 (fun _ h => nomatch h) ?_ ?_
  · refine sc (fun _ _ _ _ s _ => px (or_new [(0, .agg #[.int .i64 x1.1, .int .i64 x1.2])] rfl rfl ⟨(s.1.trans ha0), trivial⟩ (by kernel_rfl))) ?_
    refine sc (fun _ _ _ _ s _ => px (or_new [(1, .agg #[.int .i64 b2.1, .int .i64 b2.2])] rfl rfl ⟨(s.1.trans ha1), trivial⟩ (by kernel_rfl))) ?_
    refine sc (fun _ _ _ _ s _ => px (or_new [(2, .agg #[.int .i64 c3.1, .int .i64 c3.2])] rfl rfl ⟨(s.1.trans ha2), trivial⟩ (by kernel_rfl))) ?_
    refine sc (fun _ _ _ _ _ _ => px (or_assign rfl)) ?_
    exact steps_nil
  intro own34 a34 w34 hd34 hz34 hk34 hf34 hE34
  obtain ⟨⟨g28, (f_3 : a34.eval (.tmp 3) = .pointer (some ⟨g28, 0, none⟩)), (b_g28 : BlkO own34 29 w34 g28 25 #[.int .i64 x1.1, .int .i64 x1.2])⟩, ⟨g30, (f_4 : a34.eval (.tmp 4) = .pointer (some ⟨g30, 0, none⟩)), (b_g30 : BlkO own34 31 w34 g30 25 #[.int .i64 b2.1, .int .i64 b2.2])⟩, ⟨g32, (f_5 : a34.eval (.tmp 5) = .pointer (some ⟨g32, 0, none⟩)), (b_g32 : BlkO own34 33 w34 g32 25 #[.int .i64 c3.1, .int .i64 c3.2])⟩, -⟩ := hf34 [0, 1, 2] rfl
  have e34_3 := f_3
  have e34_4 := f_4
  have e34_5 := f_5
  have hX34 := Evo.step hE0 (fun _ => Nat.le_refl 0) hE34 rfl
  have b34_g28 := b_g28
  have b34_g30 := b_g30
  have b34_g32 := b_g32
  refine rg_plain_seq (n := 49) (rs := []) (own0 := own34) (K := [])
      (bs := [0])
      (ds := [⟨[], [], [], Fct.val 7 (.pointer none)⟩]) (by kernel_rfl) hz34 hd34 (fun _ h => nomatch h) ?_ ?_
  · refine sc (fun _ _ _ _ _ _ => px (or_assign rfl)) ?_
    exact steps_nil
  intro own35 a35 w35 hd35 hz35 hk35 hf35 hE35
  have e35_3 := (hk35 3 rfl).trans e34_3
  have e35_4 := (hk35 4 rfl).trans e34_4
  have e35_5 := (hk35 5 rfl).trans e34_5
  obtain ⟨(f_7 : a35.eval (.tmp 7) = .pointer none), -⟩ := hf35 [0] rfl
  have e35_7 := f_7
  have hX35 := Evo.step hX34 (fun _ => Nat.le_refl 0) hE35 rfl
  have b35_g28 := BlkO.evo (by decide) hE35 b34_g28
  have b35_g30 := BlkO.evo (by decide) hE35 b34_g30
  have b35_g32 := BlkO.evo (by decide) hE35 b34_g32
  obtain ⟨r36, hr36, hs⟩ := obind hs
  obtain ⟨r37, hr37, hs⟩ := obind hs
  obtain ⟨r38, hr38, hs⟩ := obind hs
  obtain ⟨x39, hx39, hs⟩ := obind hs
  obtain ⟨x40, hx40, hs⟩ := obind hs
  obtain ⟨x43, hx43, hs⟩ := obind hs
  refine rg_plain_seq (n := 49) (rs := []) (own0 := own35) (K := [])
      (bs := [0, 1, 3, 3, 3, 3, 63, 127, 255, 511, 1023, 1023, 1023, 1023, 16383, 32767, 65535, 131071, 262143, 262143, 1048575, 2097151, 4194303, 8388607, 16777215, 16777215, 16777215, 134217727, 268435455, 536870911, 1073741823, 2147483647, 4294967295, 8589934591, 17179869183, 34359738367, 68719476735, 137438953471, 274877906943, 549755813887, 1099511627775, 2199023255551])
      (ds := [⟨[], [], [], Fct.val 8 (.bool r36)⟩,
      ⟨[0], [], [], Fct.val 9 (.bool r36)⟩,
      ⟨[1], [7], [], Fct.cond r36 (some 10) (Fct.val 10 (.pointer none))⟩,
      ⟨[1], [3], [], Fct.cond r36 (some 11) (Fct.val 11 (.agg #[.int .i64 x1.1, .int .i64 x1.2]))⟩,
      ⟨[1], [4], [], Fct.cond r36 (some 12) (Fct.val 12 (.agg #[.int .i64 b2.1, .int .i64 b2.2]))⟩,
      ⟨[1], [5], [], Fct.cond r36 (some 13) (Fct.val 13 (.agg #[.int .i64 c3.1, .int .i64 c3.2]))⟩,
      ⟨[1, 2, 3, 4, 5], [], [], Fct.cond r36 (some 14) (Fct.val 14 (.int .i64 r37))⟩,
      ⟨[1, 6], [], [], Fct.cond r36 (some 15) (Fct.val 15 (.bool (decide (r37 = 1))))⟩,
      ⟨[1, 7], [], [], Fct.val 16 (.bool (r36 && (decide (r37 = 1))))⟩,
      ⟨[8], [], [], Fct.val 17 (.bool (r36 && (decide (r37 = 1))))⟩,
      ⟨[9], [7], [], Fct.cond (r36 && (decide (r37 = 1))) (some 18) (Fct.val 18 (.pointer none))⟩,
      ⟨[9], [3], [], Fct.cond (r36 && (decide (r37 = 1))) (some 19) (Fct.val 19 (.agg #[.int .i64 x1.1, .int .i64 x1.2]))⟩,
      ⟨[9], [4], [], Fct.cond (r36 && (decide (r37 = 1))) (some 20) (Fct.val 20 (.agg #[.int .i64 b2.1, .int .i64 b2.2]))⟩,
      ⟨[9], [5], [], Fct.cond (r36 && (decide (r37 = 1))) (some 21) (Fct.val 21 (.agg #[.int .i64 c3.1, .int .i64 c3.2]))⟩,
      ⟨[9, 10, 11, 12, 13], [], [], Fct.cond (r36 && (decide (r37 = 1))) (some 22) (Fct.val 22 (.bool r38))⟩,
      ⟨[9, 14], [], [], Fct.cond (r36 && (decide (r37 = 1))) (some 23) (Fct.val 23 (.bool (!r38)))⟩,
      ⟨[9, 15], [], [], Fct.val 24 (.bool x39)⟩,
      ⟨[16], [], [], Fct.val 25 (.bool x39)⟩,
      ⟨[17], [7], [], Fct.cond x39 (some 26) (Fct.val 26 (.pointer none))⟩,
      ⟨[17], [3], [], Fct.cond x39 (some 27) (Fct.val 27 (.agg #[.int .i64 x1.1, .int .i64 x1.2]))⟩,
      ⟨[17, 18, 19], [], [], Fct.cond x39 (some 28) (Fct.val 28 (.bool (false && false)))⟩,
      ⟨[17, 20], [], [], Fct.cond x39 (some 29) (Fct.val 29 (.bool (!(false && false))))⟩,
      ⟨[17, 21], [], [], Fct.val 30 (.bool (x39 && (!(false && false))))⟩,
      ⟨[22], [], [], Fct.val 31 (.bool (x39 && (!(false && false))))⟩,
      ⟨[23], [7], [], Fct.cond (x39 && (!(false && false))) (some 32) (Fct.val 32 (.pointer none))⟩,
      ⟨[23], [3], [], Fct.cond (x39 && (!(false && false))) (some 33) (Fct.val 33 (.agg #[.int .i64 x1.1, .int .i64 x1.2]))⟩,
      ⟨[23], [4], [], Fct.cond (x39 && (!(false && false))) (some 34) (Fct.val 34 (.agg #[.int .i64 b2.1, .int .i64 b2.2]))⟩,
      ⟨[23, 24, 25, 26], [], [], Fct.cond (x39 && (!(false && false))) (some 35) (Fct.val 35 (.bool (false && false)))⟩,
      ⟨[23, 27], [], [], Fct.cond (x39 && (!(false && false))) (some 36) (Fct.val 36 (.bool (!(false && false))))⟩,
      ⟨[23, 28], [], [], Fct.val 37 (.bool x40)⟩,
      ⟨[29], [], [], Fct.val 38 (.bool x40)⟩,
      ⟨[30], [7], [], Fct.cond x40 (some 39) (Fct.val 39 (.pointer none))⟩,
      ⟨[30, 31], [], [], Fct.cond x40 (some 40) (Fct.row 42 [] 40 25 R25 ([] : List (Int × Int)))⟩,
      ⟨[30, 32], [], [], Fct.cond x40 (some 41) (Fct.val 41 (.int .i64 (([] : List (Int × Int)).length : Int)))⟩,
      ⟨[30, 33], [], [], Fct.cond x40 (some 42) (Fct.val 42 (.bool (decide ((([] : List (Int × Int)).length : Int) = 0))))⟩,
      ⟨[30, 34], [], [], Fct.val 43 (.bool x43)⟩,
      ⟨[35], [], [], Fct.val 44 (.bool x43)⟩,
      ⟨[36], [7], [], Fct.cond x43 (some 45) (Fct.val 45 (.pointer none))⟩,
      ⟨[36, 37], [], [], Fct.cond x43 (some 46) (Fct.val 46 (.int .i64 0))⟩,
      ⟨[36, 38], [], [], Fct.cond x43 (some 47) (Fct.val 47 (.bool true))⟩,
      ⟨[36, 39], [], [], Fct.val 48 (.bool (x43 && true))⟩,
      ⟨[40], [], [], Fct.val 6 (.bool (x43 && true))⟩]) (by kernel_rfl) hz35 hd35 (fun _ h => nomatch h) ?_ ?_
  · refine sc (fun _ _ _ _ _ _ => px (or_call cf11 (args0) (law18_known_w _   r36 hr36) post_val)) ?_
    refine sc (fun _ _ _ f _ _ => px (or_move f.1)) ?_
    refine sc (fun own a wx hf hsl hE => ?_) ?_
    · obtain ⟨(f_9 : a.eval (.tmp 9) = .bool r36), -⟩ := hf
      obtain ⟨s_7, -⟩ := hsl
      refine sg_t rfl rfl rfl f_9 (fun hg => ?_)
      exact or_move (s_7.trans e35_7)
    refine sc (fun own a wx hf hsl hE => ?_) ?_
    · obtain ⟨(f_9 : a.eval (.tmp 9) = .bool r36), -⟩ := hf
      obtain ⟨s_3, -⟩ := hsl
      refine sg_t rfl rfl rfl f_9 (fun hg => ?_)
      exact or_load (l := [.int .i64 x1.1, .int .i64 x1.2]) ta25 (s_3.trans e35_3) (Blk.cellsFrom (BlkO.evo (by decide) hE b35_g28).2 0 rfl) rfl
    refine sc (fun own a wx hf hsl hE => ?_) ?_
    · obtain ⟨(f_9 : a.eval (.tmp 9) = .bool r36), -⟩ := hf
      obtain ⟨s_4, -⟩ := hsl
      refine sg_t rfl rfl rfl f_9 (fun hg => ?_)
      exact or_load (l := [.int .i64 b2.1, .int .i64 b2.2]) ta25 (s_4.trans e35_4) (Blk.cellsFrom (BlkO.evo (by decide) hE b35_g30).2 0 rfl) rfl
    refine sc (fun own a wx hf hsl hE => ?_) ?_
    · obtain ⟨(f_9 : a.eval (.tmp 9) = .bool r36), -⟩ := hf
      obtain ⟨s_5, -⟩ := hsl
      refine sg_t rfl rfl rfl f_9 (fun hg => ?_)
      exact or_load (l := [.int .i64 c3.1, .int .i64 c3.2]) ta25 (s_5.trans e35_5) (Blk.cellsFrom (BlkO.evo (by decide) hE b35_g32).2 0 rfl) rfl
    refine sc (fun own a wx hf hsl hE => ?_) ?_
    · obtain ⟨(f_9 : a.eval (.tmp 9) = .bool r36), c_10, c_11, c_12, c_13, -⟩ := hf
      refine sg_t rfl rfl rfl f_9 (fun hg => ?_)
      have f_10 : a.eval (.tmp 10) = .pointer none := c_10.1 hg
      have f_11 : a.eval (.tmp 11) = .agg #[.int .i64 x1.1, .int .i64 x1.2] := c_11.1 hg
      have f_12 : a.eval (.tmp 12) = .agg #[.int .i64 b2.1, .int .i64 b2.2] := c_12.1 hg
      have f_13 : a.eval (.tmp 13) = .agg #[.int .i64 c3.1, .int .i64 c3.2] := c_13.1 hg
      exact or_call cf10 (args4 f_10 f_11 f_12 f_13) (guard_Guard_Why_nil_w _ x1 b2 c3  r37 (gd_t hr37 hg)) post_val
    refine sc (fun own a wx hf hsl hE => ?_) ?_
    · obtain ⟨(f_9 : a.eval (.tmp 9) = .bool r36), c_14, -⟩ := hf
      refine sg_t rfl rfl rfl f_9 (fun hg => ?_)
      have f_14 : a.eval (.tmp 14) = .int .i64 r37 := c_14.1 hg
      exact or_eql f_14 rfl rfl
    refine sc (fun own a wx hf hsl hE => ?_) ?_
    · obtain ⟨(f_9 : a.eval (.tmp 9) = .bool r36), c_15, -⟩ := hf
      exact px (or_and f_9 (fun hx => c_15.1 hx) rfl rfl)
    refine sc (fun _ _ _ f _ _ => px (or_move f.1)) ?_
    refine sc (fun own a wx hf hsl hE => ?_) ?_
    · obtain ⟨(f_17 : a.eval (.tmp 17) = .bool (r36 && (decide (r37 = 1)))), -⟩ := hf
      obtain ⟨s_7, -⟩ := hsl
      refine sg_t rfl rfl rfl f_17 (fun hg => ?_)
      exact or_move (s_7.trans e35_7)
    refine sc (fun own a wx hf hsl hE => ?_) ?_
    · obtain ⟨(f_17 : a.eval (.tmp 17) = .bool (r36 && (decide (r37 = 1)))), -⟩ := hf
      obtain ⟨s_3, -⟩ := hsl
      refine sg_t rfl rfl rfl f_17 (fun hg => ?_)
      exact or_load (l := [.int .i64 x1.1, .int .i64 x1.2]) ta25 (s_3.trans e35_3) (Blk.cellsFrom (BlkO.evo (by decide) hE b35_g28).2 0 rfl) rfl
    refine sc (fun own a wx hf hsl hE => ?_) ?_
    · obtain ⟨(f_17 : a.eval (.tmp 17) = .bool (r36 && (decide (r37 = 1)))), -⟩ := hf
      obtain ⟨s_4, -⟩ := hsl
      refine sg_t rfl rfl rfl f_17 (fun hg => ?_)
      exact or_load (l := [.int .i64 b2.1, .int .i64 b2.2]) ta25 (s_4.trans e35_4) (Blk.cellsFrom (BlkO.evo (by decide) hE b35_g30).2 0 rfl) rfl
    refine sc (fun own a wx hf hsl hE => ?_) ?_
    · obtain ⟨(f_17 : a.eval (.tmp 17) = .bool (r36 && (decide (r37 = 1)))), -⟩ := hf
      obtain ⟨s_5, -⟩ := hsl
      refine sg_t rfl rfl rfl f_17 (fun hg => ?_)
      exact or_load (l := [.int .i64 c3.1, .int .i64 c3.2]) ta25 (s_5.trans e35_5) (Blk.cellsFrom (BlkO.evo (by decide) hE b35_g32).2 0 rfl) rfl
    refine sc (fun own a wx hf hsl hE => ?_) ?_
    · obtain ⟨(f_17 : a.eval (.tmp 17) = .bool (r36 && (decide (r37 = 1)))), c_18, c_19, c_20, c_21, -⟩ := hf
      refine sg_t rfl rfl rfl f_17 (fun hg => ?_)
      have f_18 : a.eval (.tmp 18) = .pointer none := c_18.1 hg
      have f_19 : a.eval (.tmp 19) = .agg #[.int .i64 x1.1, .int .i64 x1.2] := c_19.1 hg
      have f_20 : a.eval (.tmp 20) = .agg #[.int .i64 b2.1, .int .i64 b2.2] := c_20.1 hg
      have f_21 : a.eval (.tmp 21) = .agg #[.int .i64 c3.1, .int .i64 c3.2] := c_21.1 hg
      exact or_call cf12 (args4 f_18 f_19 f_20 f_21) (guard_Guard_Drop_nil_w _ x1 b2 c3  r38 (gd_t hr38 hg)) post_val
    refine sc (fun own a wx hf hsl hE => ?_) ?_
    · obtain ⟨(f_17 : a.eval (.tmp 17) = .bool (r36 && (decide (r37 = 1)))), c_22, -⟩ := hf
      refine sg_t rfl rfl rfl f_17 (fun hg => ?_)
      have f_22 : a.eval (.tmp 22) = .bool r38 := c_22.1 hg
      exact or_not f_22 rfl
    refine sc (fun own a wx hf hsl hE => ?_) ?_
    · obtain ⟨(f_17 : a.eval (.tmp 17) = .bool (r36 && (decide (r37 = 1)))), c_23, -⟩ := hf
      exact px (or_and f_17 (fun hx => c_23.1 hx) rfl (osome hx39).symm)
    refine sc (fun _ _ _ f _ _ => px (or_move f.1)) ?_
    refine sc (fun own a wx hf hsl hE => ?_) ?_
    · obtain ⟨(f_25 : a.eval (.tmp 25) = .bool x39), -⟩ := hf
      obtain ⟨s_7, -⟩ := hsl
      refine sg_t rfl rfl rfl f_25 (fun hg => ?_)
      exact or_move (s_7.trans e35_7)
    refine sc (fun own a wx hf hsl hE => ?_) ?_
    · obtain ⟨(f_25 : a.eval (.tmp 25) = .bool x39), -⟩ := hf
      obtain ⟨s_3, -⟩ := hsl
      refine sg_t rfl rfl rfl f_25 (fun hg => ?_)
      exact or_load (l := [.int .i64 x1.1, .int .i64 x1.2]) ta25 (s_3.trans e35_3) (Blk.cellsFrom (BlkO.evo (by decide) hE b35_g28).2 0 rfl) rfl
    refine sc (fun own a wx hf hsl hE => ?_) ?_
    · obtain ⟨(f_25 : a.eval (.tmp 25) = .bool x39), c_26, c_27, -⟩ := hf
      refine sg_t rfl rfl rfl f_25 (fun hg => ?_)
      have f_26 : a.eval (.tmp 26) = .pointer none := c_26.1 hg
      have f_27 : a.eval (.tmp 27) = .agg #[.int .i64 x1.1, .int .i64 x1.2] := c_27.1 hg
      exact or_call cf17 (args2 f_26 f_27) (guard_Guard_Has_nil_w _ x1  (false && false) rfl) post_val
    refine sc (fun own a wx hf hsl hE => ?_) ?_
    · obtain ⟨(f_25 : a.eval (.tmp 25) = .bool x39), c_28, -⟩ := hf
      refine sg_t rfl rfl rfl f_25 (fun hg => ?_)
      have f_28 : a.eval (.tmp 28) = .bool (false && false) := c_28.1 hg
      exact or_not f_28 rfl
    refine sc (fun own a wx hf hsl hE => ?_) ?_
    · obtain ⟨(f_25 : a.eval (.tmp 25) = .bool x39), c_29, -⟩ := hf
      exact px (or_and f_25 (fun hx => c_29.1 hx) rfl rfl)
    refine sc (fun _ _ _ f _ _ => px (or_move f.1)) ?_
    refine sc (fun own a wx hf hsl hE => ?_) ?_
    · obtain ⟨(f_31 : a.eval (.tmp 31) = .bool (x39 && (!(false && false)))), -⟩ := hf
      obtain ⟨s_7, -⟩ := hsl
      refine sg_t rfl rfl rfl f_31 (fun hg => ?_)
      exact or_move (s_7.trans e35_7)
    refine sc (fun own a wx hf hsl hE => ?_) ?_
    · obtain ⟨(f_31 : a.eval (.tmp 31) = .bool (x39 && (!(false && false)))), -⟩ := hf
      obtain ⟨s_3, -⟩ := hsl
      refine sg_t rfl rfl rfl f_31 (fun hg => ?_)
      exact or_load (l := [.int .i64 x1.1, .int .i64 x1.2]) ta25 (s_3.trans e35_3) (Blk.cellsFrom (BlkO.evo (by decide) hE b35_g28).2 0 rfl) rfl
    refine sc (fun own a wx hf hsl hE => ?_) ?_
    · obtain ⟨(f_31 : a.eval (.tmp 31) = .bool (x39 && (!(false && false)))), -⟩ := hf
      obtain ⟨s_4, -⟩ := hsl
      refine sg_t rfl rfl rfl f_31 (fun hg => ?_)
      exact or_load (l := [.int .i64 b2.1, .int .i64 b2.2]) ta25 (s_4.trans e35_4) (Blk.cellsFrom (BlkO.evo (by decide) hE b35_g30).2 0 rfl) rfl
    refine sc (fun own a wx hf hsl hE => ?_) ?_
    · obtain ⟨(f_31 : a.eval (.tmp 31) = .bool (x39 && (!(false && false)))), c_32, c_33, c_34, -⟩ := hf
      refine sg_t rfl rfl rfl f_31 (fun hg => ?_)
      have f_32 : a.eval (.tmp 32) = .pointer none := c_32.1 hg
      have f_33 : a.eval (.tmp 33) = .agg #[.int .i64 x1.1, .int .i64 x1.2] := c_33.1 hg
      have f_34 : a.eval (.tmp 34) = .agg #[.int .i64 b2.1, .int .i64 b2.2] := c_34.1 hg
      exact or_call cf19 (args3 f_32 f_33 f_34) (guard_Guard_Joined_nil_w _ x1 b2  (false && false) rfl) post_val
    refine sc (fun own a wx hf hsl hE => ?_) ?_
    · obtain ⟨(f_31 : a.eval (.tmp 31) = .bool (x39 && (!(false && false)))), c_35, -⟩ := hf
      refine sg_t rfl rfl rfl f_31 (fun hg => ?_)
      have f_35 : a.eval (.tmp 35) = .bool (false && false) := c_35.1 hg
      exact or_not f_35 rfl
    refine sc (fun own a wx hf hsl hE => ?_) ?_
    · obtain ⟨(f_31 : a.eval (.tmp 31) = .bool (x39 && (!(false && false)))), c_36, -⟩ := hf
      exact px (or_and f_31 (fun hx => c_36.1 hx) rfl (osome hx40).symm)
    refine sc (fun _ _ _ f _ _ => px (or_move f.1)) ?_
    refine sc (fun own a wx hf hsl hE => ?_) ?_
    · obtain ⟨(f_38 : a.eval (.tmp 38) = .bool x40), -⟩ := hf
      obtain ⟨s_7, -⟩ := hsl
      refine sg_t rfl rfl rfl f_38 (fun hg => ?_)
      exact or_move (s_7.trans e35_7)
    refine sc (fun own a wx hf hsl hE => ?_) ?_
    · obtain ⟨(f_38 : a.eval (.tmp 38) = .bool x40), c_39, -⟩ := hf
      refine sg_t rfl rfl rfl f_38 (fun hg => ?_)
      have f_39 : a.eval (.tmp 39) = .pointer none := c_39.1 hg
      exact or_call cf24 (args1 f_39) (guard_Guard_Points_nil_w _   ([] : List (Int × Int)) rfl) (post_row (m' := (look0 [(1, 42)])) (.inl (Rep.fl_flat _)) rfl rfl (fun _ => rfl))
    refine sc (fun own a wx hf hsl hE => ?_) ?_
    · obtain ⟨(f_38 : a.eval (.tmp 38) = .bool x40), c_40, -⟩ := hf
      refine sg_t rfl rfl rfl f_38 (fun hg => ?_)
      obtain ⟨⟨A41, cA41⟩, (f_40 : a.eval (.tmp 40) = .slice A41 ([] : List (Int × Int)).length cA41), (b_A41 : RwO own 42 [] wx 25 R25 A41 cA41 ([] : List (Int × Int)))⟩ := c_40.1 hg
      exact or_len tu55 f_40 rfl
    refine sc (fun own a wx hf hsl hE => ?_) ?_
    · obtain ⟨(f_38 : a.eval (.tmp 38) = .bool x40), c_41, -⟩ := hf
      refine sg_t rfl rfl rfl f_38 (fun hg => ?_)
      have f_41 : a.eval (.tmp 41) = .int .i64 (([] : List (Int × Int)).length : Int) := c_41.1 hg
      exact or_eql f_41 rfl rfl
    refine sc (fun own a wx hf hsl hE => ?_) ?_
    · obtain ⟨(f_38 : a.eval (.tmp 38) = .bool x40), c_42, -⟩ := hf
      exact px (or_and f_38 (fun hx => c_42.1 hx) rfl (osome hx43).symm)
    refine sc (fun _ _ _ f _ _ => px (or_move f.1)) ?_
    refine sc (fun own a wx hf hsl hE => ?_) ?_
    · obtain ⟨(f_44 : a.eval (.tmp 44) = .bool x43), -⟩ := hf
      obtain ⟨s_7, -⟩ := hsl
      refine sg_t rfl rfl rfl f_44 (fun hg => ?_)
      exact or_move (s_7.trans e35_7)
    refine sc (fun own a wx hf hsl hE => ?_) ?_
    · obtain ⟨(f_44 : a.eval (.tmp 44) = .bool x43), c_45, -⟩ := hf
      refine sg_t rfl rfl rfl f_44 (fun hg => ?_)
      have f_45 : a.eval (.tmp 45) = .pointer none := c_45.1 hg
      exact or_call cf22 (args1 f_45) (guard_Guard_Edges_nil_w _   0 rfl) post_val
    refine sc (fun own a wx hf hsl hE => ?_) ?_
    · obtain ⟨(f_44 : a.eval (.tmp 44) = .bool x43), c_46, -⟩ := hf
      refine sg_t rfl rfl rfl f_44 (fun hg => ?_)
      have f_46 : a.eval (.tmp 46) = .int .i64 0 := c_46.1 hg
      exact or_eql f_46 rfl (by decide)
    refine sc (fun own a wx hf hsl hE => ?_) ?_
    · obtain ⟨(f_44 : a.eval (.tmp 44) = .bool x43), c_47, -⟩ := hf
      exact px (or_and f_44 (fun hx => c_47.1 hx) rfl rfl)
    refine sc (fun _ _ _ f _ _ => px (or_assign f.1)) ?_
    exact steps_nil
  intro own44 a44 w44 hd44 hz44 hk44 hf44 hE44
  obtain ⟨(f_6 : a44.eval (.tmp 6) = .bool (x43 && true)), -⟩ := hf44 [41] rfl
  have e44_6 := f_6
  have hX44 := Evo.step hX35 (fun _ => Nat.le_refl 0) hE44 rfl
  refine fl_ret ?_
  obtain rfl := osome hs
  exact hret _ _ _ _ (.inl rfl) hd44 (results1_ rfl (RVal.tmp_ e44_6)) ⟨own44, rfl, hX44⟩
end Go.Proofs.Ytoccfdohlefifaa
