/-
  Chapter 04. The walks.
-/
import Derived.Test.YthbjlgklmamhjaaWp2
import Derived.Test.YthbjlgklmamhjaaWp3
import Derived.Test.YthbjlgklmamhjaaWp4
import Derived.Test.YthbjlgklmamhjaaSp5
namespace Go.Proofs.Ythbjlgklmamhjaa
open Go.RowKit
set_option linter.unusedVariables false
theorem ref04_Find_w (w : World) (l1 : List Int) (Al1 : Option Addr) (cl1 : Nat) (n2 : Int) (hl1 : RdO (fun _ => 0) [0] w R3 Al1 cl1 l1) (r : Int × Bool) (hs : ref04_Find l1 n2 = some r) :
    Calls Try.prog 12 #[.slice Al1 l1.length cl1, .int .i64 n2] w fun e w' => ∃ own' : Own, e = .returned (.tuple #[.int .i64 r.1, .bool r.2]) ∧ Evo [] (fun _ => 0) own' w w' := by
  refine fl_enter (n := 28) rfl rfl rfl (Nat.le_of_ble_eq_true rfl) ?_
  intro a0 Q hd0 hz0 harg hret
  have ha0 := harg 0 _ rfl
  have ha1 := harg 1 _ rfl
  clear harg
  have hE0 : Evo [] (fun _ => 0) (fun _ => 0) w w := Evo.refl _ _ _
  refine rg_plain_seq (n := 28) (rs := []) (own0 := (fun _ => 0)) (K := [])
      (bs := [0, 1])
      (ds := [⟨[], [], [], Fct.val 4 (.int .i64 0)⟩,
      ⟨[], [], [], Fct.val 5 (.bool false)⟩]) (by kernel_rfl) hz0 hd0 (fun _ h => nomatch h) ?_ ?_
  · refine steps_cons (fun own a wx hf hsl hE => ?_) ?_
    · exact sg_plain rfl rfl (or_assign rfl)
    refine steps_cons (fun own a wx hf hsl hE => ?_) ?_
    · exact sg_plain rfl rfl (or_assign rfl)
    exact steps_nil
  intro own54 a54 w54 hd54 hz54 hk54 hf54 hE54
  have e54_0 : a54.eval (.tmp 0) = .slice Al1 l1.length cl1 := (hk54 0 rfl).trans ha0
  have e54_1 : a54.eval (.tmp 1) = .int .i64 n2 := (hk54 1 rfl).trans ha1
  have hX54 := Evo.step hE0 (fun _ => Nat.le_refl 0) hE54 rfl
  have b54_Al1 := RdO.evo rfl hE54 hl1
  refine fl_seq (fun Q55 hn55 hp55 => ?_)
  refine rg_plain_seq (n := 28) (rs := []) (own0 := own54) (K := [])
      (bs := [0])
      (ds := [⟨[], [], [], Fct.val 6 (.int .i64 0)⟩]) (by kernel_rfl) hz54 hd54 (fun _ h => nomatch h) ?_ ?_
  · refine steps_cons (fun own a wx hf hsl hE => ?_) ?_
    · exact sg_plain rfl rfl (or_assign rfl)
    exact steps_nil
  intro own56 a56 w56 hd56 hz56 hk56 hf56 hE56
  have e56_0 : a56.eval (.tmp 0) = .slice Al1 l1.length cl1 := (hk56 0 rfl).trans e54_0
  have e56_1 : a56.eval (.tmp 1) = .int .i64 n2 := (hk56 1 rfl).trans e54_1
  obtain ⟨(f_6 : a56.eval (.tmp 6) = .int .i64 0), -⟩ := hf56 [0] rfl
  have e56_6 := f_6
  have hX56 := Evo.step hX54 (fun _ => Nat.le_refl 0) hE56 rfl
  have b56_Al1 := RdO.evo rfl hE56 b54_Al1
  refine fl_block (fun Q57 hn57 hx57 hp57 => ?_)
  refine fl_loop (body := (fun s => ref04_Find_b1 l1 n2 s)) (z := r) (show loopO _ _ = _ from hs) (fun (i70 : Int) a wx => ∃ (ox : Own), a.defers = [] ∧ a.tmps.size = 28 ∧ a.eval (.tmp 0) = .slice Al1 l1.length cl1 ∧ a.eval (.tmp 1) = .int .i64 n2 ∧ a.eval (.tmp 6) = .int .i64 i70 ∧ Evo [] (fun _ => 0) ox w wx ∧ RdO ox [0] wx R3 Al1 cl1 l1) ?_ ?_
  · exact ⟨own56, hd56, hz56, e56_0, e56_1, e56_6, hX56, b56_Al1⟩
  · rintro i70 zz83 a83 w83 ⟨own83, hd84, hz84, e84_0, e84_1, e84_6, hE84, b84_Al1⟩ hs Q83 hn83 hp83 hz83
    have hs : ref04_Find_b1 l1 n2 i70 = some zz83 := hs
    refine fl_seq (fun Q85 hn85 hp85 => ?_)
    refine rg_plain_seq (n := 28) (rs := []) (own0 := own83) (K := [])
        (bs := [0, 0, 2, 7])
        (ds := [⟨[], [6], [], Fct.val 7 (.int .i64 i70)⟩,
        ⟨[], [0], [], Fct.val 8 (.slice Al1 l1.length cl1)⟩,
        ⟨[1], [], [], Fct.val 9 (.int .i64 (l1.length : Int))⟩,
        ⟨[0, 2], [], [], Fct.val 10 (.bool (decide (i70 < (l1.length : Int))))⟩]) (by kernel_rfl) hz84 hd84 (fun _ h => nomatch h) ?_ ?_
    · refine steps_cons (fun own a wx hf hsl hE => ?_) ?_
      · obtain ⟨s_6, -⟩ := hsl
        exact sg_plain rfl rfl (or_move (s_6.trans e84_6))
      refine steps_cons (fun own a wx hf hsl hE => ?_) ?_
      · obtain ⟨s_0, -⟩ := hsl
        exact sg_plain rfl rfl (or_move (s_0.trans e84_0))
      refine steps_cons (fun own a wx hf hsl hE => ?_) ?_
      · obtain ⟨(f_8 : a.eval (.tmp 8) = .slice Al1 l1.length cl1), -⟩ := hf
        exact sg_plain rfl rfl (or_len tu22 f_8 rfl)
      refine steps_cons (fun own a wx hf hsl hE => ?_) ?_
      · obtain ⟨(f_7 : a.eval (.tmp 7) = .int .i64 i70), (f_9 : a.eval (.tmp 9) = .int .i64 (l1.length : Int)), -⟩ := hf
        exact sg_plain rfl rfl (or_lss f_7 f_9 rfl)
      exact steps_nil
    intro own86 a86 w86 hd86 hz86 hk86 hf86 hE86
    have e86_0 : a86.eval (.tmp 0) = .slice Al1 l1.length cl1 := (hk86 0 rfl).trans e84_0
    have e86_1 : a86.eval (.tmp 1) = .int .i64 n2 := (hk86 1 rfl).trans e84_1
    have e86_6 : a86.eval (.tmp 6) = .int .i64 i70 := (hk86 6 rfl).trans e84_6
    obtain ⟨(f_10 : a86.eval (.tmp 10) = .bool (decide (i70 < (l1.length : Int)))), -⟩ := hf86 [3] rfl
    have e86_10 := f_10
    have hX86 := Evo.step hE84 (fun _ => Nat.le_refl 0) hE86 rfl
    have b86_Al1 := RdO.evo rfl hE86 b84_Al1
    refine fl_cond e86_10 hs (fun c87 hs => ?_) (fun c87 hs => ?_)
    · refine fl_skip ?_
      refine hn85 _ _ ?_
      refine fl_seq (fun Q88 hn88 hp88 => ?_)
      refine fl_block (fun Q89 hn89 hx89 hp89 => ?_)
      obtain ⟨x90, hx90, hs⟩ := obind hs
      refine rg_plain_seq (n := 28) (rs := []) (own0 := own86) (K := [])
          (bs := [0, 0, 3, 7, 0, 31])
          (ds := [⟨[], [0], [], Fct.val 13 (.slice Al1 l1.length cl1)⟩,
          ⟨[], [6], [], Fct.val 14 (.int .i64 i70)⟩,
          ⟨[0, 1], [], [], Fct.val 15 (.pointer (some ((adr Al1).add ((i70 : Int).toNat * R3.s))))⟩,
          ⟨[2], [], [], Fct.val 16 (.int .i64 x90)⟩,
          ⟨[], [1], [], Fct.val 17 (.int .i64 n2)⟩,
          ⟨[3, 4], [], [], Fct.val 18 (.bool (decide (n2 ≤ x90)))⟩]) (by kernel_rfl) hz86 hd86 (fun _ h => nomatch h) ?_ ?_
      · refine steps_cons (fun own a wx hf hsl hE => ?_) ?_
        · obtain ⟨s_0, -⟩ := hsl
          exact sg_plain rfl rfl (or_move (s_0.trans e86_0))
        refine steps_cons (fun own a wx hf hsl hE => ?_) ?_
        · obtain ⟨s_6, -⟩ := hsl
          exact sg_plain rfl rfl (or_move (s_6.trans e86_6))
        refine steps_cons (fun own a wx hf hsl hE => ?_) ?_
        · obtain ⟨(f_13 : a.eval (.tmp 13) = .slice Al1 l1.length cl1), (f_14 : a.eval (.tmp 14) = .int .i64 i70), -⟩ := hf
          exact sg_plain rfl rfl (or_index (R := R3) (l := l1) tl22 f_13 f_14 (RdO.some_ b86_Al1 hx90) hx90)
        refine steps_cons (fun own a wx hf hsl hE => ?_) ?_
        · obtain ⟨(f_15 : a.eval (.tmp 15) = .pointer (some ((adr Al1).add ((i70 : Int).toNat * R3.s)))), -⟩ := hf
          exact sg_plain rfl rfl (or_load1 to3 f_15 (CellsAt.zero (RdO.cells (F := E3) (RdO.evo rfl hE b86_Al1) hx90) rfl))
        refine steps_cons (fun own a wx hf hsl hE => ?_) ?_
        · obtain ⟨s_1, -⟩ := hsl
          exact sg_plain rfl rfl (or_move (s_1.trans e86_1))
        refine steps_cons (fun own a wx hf hsl hE => ?_) ?_
        · obtain ⟨(f_16 : a.eval (.tmp 16) = .int .i64 x90), (f_17 : a.eval (.tmp 17) = .int .i64 n2), -⟩ := hf
          exact sg_plain rfl rfl (or_geq f_16 f_17 rfl)
        exact steps_nil
      intro own91 a91 w91 hd91 hz91 hk91 hf91 hE91
      have e91_0 : a91.eval (.tmp 0) = .slice Al1 l1.length cl1 := (hk91 0 rfl).trans e86_0
      have e91_1 : a91.eval (.tmp 1) = .int .i64 n2 := (hk91 1 rfl).trans e86_1
      have e91_6 : a91.eval (.tmp 6) = .int .i64 i70 := (hk91 6 rfl).trans e86_6
      obtain ⟨(f_18 : a91.eval (.tmp 18) = .bool (decide (n2 ≤ x90))), -⟩ := hf91 [5] rfl
      have e91_18 := f_18
      have hX91 := Evo.step hX86 (fun _ => Nat.le_refl 0) hE91 rfl
      have b91_Al1 := RdO.evo rfl hE91 b86_Al1
      refine fl_cond e91_18 hs (fun c92 hs => ?_) (fun c92 hs => ?_)
      · obtain ⟨x93, hx93, hs⟩ := obind hs
        refine rg_draw_seq g_mixed (n := 28) (rs := []) (own0 := own91) (K := [])
            (bs := [0, 0, 0, 6, 14, 0, 62, 1, 255])
            (ds := [⟨[], [6], [], Fct.val 19 (.int .i64 i70)⟩,
            ⟨[], [0], [], Fct.val 20 (.slice Al1 l1.length cl1)⟩,
            ⟨[], [6], [], Fct.val 21 (.int .i64 i70)⟩,
            ⟨[1, 2], [], [], Fct.val 22 (.pointer (some ((adr Al1).add ((i70 : Int).toNat * R3.s))))⟩,
            ⟨[3], [], [], Fct.val 23 (.int .i64 x93)⟩,
            ⟨[], [1], [], Fct.val 24 (.int .i64 n2)⟩,
            ⟨[4, 5], [], [], Fct.val 25 (.bool (decide (x93 = n2)))⟩,
            ⟨[0], [], [], Fct.val 4 (.int .i64 i70)⟩,
            ⟨[6], [], [], Fct.val 5 (.bool (decide (x93 = n2)))⟩]) (by kernel_rfl) hz91 hd91 (fun _ h => nomatch h) ?_ ?_
        · refine steps_cons (fun own a wx hf hsl hE => ?_) ?_
          · obtain ⟨s_6, -⟩ := hsl
            exact sg_plain rfl rfl (or_move (s_6.trans e91_6))
          refine steps_cons (fun own a wx hf hsl hE => ?_) ?_
          · obtain ⟨s_0, -⟩ := hsl
            exact sg_plain rfl rfl (or_move (s_0.trans e91_0))
          refine steps_cons (fun own a wx hf hsl hE => ?_) ?_
          · obtain ⟨s_6, -⟩ := hsl
            exact sg_plain rfl rfl (or_move (s_6.trans e91_6))
          refine steps_cons (fun own a wx hf hsl hE => ?_) ?_
          · obtain ⟨(f_20 : a.eval (.tmp 20) = .slice Al1 l1.length cl1), (f_21 : a.eval (.tmp 21) = .int .i64 i70), -⟩ := hf
            exact sg_plain rfl rfl (or_index (R := R3) (l := l1) tl22 f_20 f_21 (RdO.some_ b91_Al1 hx93) hx93)
          refine steps_cons (fun own a wx hf hsl hE => ?_) ?_
          · obtain ⟨(f_22 : a.eval (.tmp 22) = .pointer (some ((adr Al1).add ((i70 : Int).toNat * R3.s)))), -⟩ := hf
            exact sg_plain rfl rfl (or_load1 to3 f_22 (CellsAt.zero (RdO.cells (F := E3) (RdO.evo rfl hE b91_Al1) hx93) rfl))
          refine steps_cons (fun own a wx hf hsl hE => ?_) ?_
          · obtain ⟨s_1, -⟩ := hsl
            exact sg_plain rfl rfl (or_move (s_1.trans e91_1))
          refine steps_cons (fun own a wx hf hsl hE => ?_) ?_
          · obtain ⟨(f_23 : a.eval (.tmp 23) = .int .i64 x93), (f_24 : a.eval (.tmp 24) = .int .i64 n2), -⟩ := hf
            exact sg_plain rfl rfl (or_eql f_23 f_24 rfl)
          refine steps_cons (fun own a wx hf hsl hE => ?_) ?_
          · obtain ⟨(f_19 : a.eval (.tmp 19) = .int .i64 i70), -⟩ := hf
            exact sg_plain rfl rfl (or_assign f_19)
          refine steps_cons (fun own a wx hf hsl hE => ?_) ?_
          · obtain ⟨(f_25 : a.eval (.tmp 25) = .bool (decide (x93 = n2))), -⟩ := hf
            exact sg_plain rfl rfl (or_assign f_25)
          exact steps_nil
        intro own94 a94 w94 hd94 hz94 hk94 hf94 hE94
        obtain ⟨(f_4 : a94.eval (.tmp 4) = .int .i64 i70), (f_5 : a94.eval (.tmp 5) = .bool (decide (x93 = n2))), -⟩ := hf94 [7, 8] rfl
        have e94_4 := f_4
        have e94_5 := f_5
        have hX94 := Evo.step hX91 (fun _ => Nat.le_refl 0) hE94 rfl
        refine fl_ret ?_
        refine hp89 _ _ _ rfl ?_
        refine hp88 _ _ _ rfl ?_
        replace hs := hz83 _ hs
        refine hp83 _ _ _ rfl ?_
        refine hp57 _ _ _ rfl ?_
        refine hp55 _ _ _ rfl ?_
        obtain rfl := osome hs
        exact hret _ _ _ _ (.inl rfl) hd94 (results2_ rfl (RVal.tmp_ e94_4) (RVal.tmp_ e94_5)) ⟨own94, rfl, hX94⟩
      refine fl_skip ?_
      refine hn89 _ _ ?_
      refine hn88 _ _ ?_
      refine rg_plain (n := 28) (rs := []) (own0 := own91) (K := [])
          (bs := [0, 1, 3])
          (ds := [⟨[], [6], [], Fct.val 11 (.int .i64 i70)⟩,
          ⟨[0], [], [], Fct.val 12 (.int .i64 (ad i70 1))⟩,
          ⟨[1], [], [], Fct.val 6 (.int .i64 (ad i70 1))⟩]) (by kernel_rfl) hz91 hd91 (fun _ h => nomatch h) ?_ ?_
      · refine steps_cons (fun own a wx hf hsl hE => ?_) ?_
        · obtain ⟨s_6, -⟩ := hsl
          exact sg_plain rfl rfl (or_move (s_6.trans e91_6))
        refine steps_cons (fun own a wx hf hsl hE => ?_) ?_
        · obtain ⟨(f_11 : a.eval (.tmp 11) = .int .i64 i70), -⟩ := hf
          exact sg_plain rfl rfl (or_add f_11 rfl rfl)
        refine steps_cons (fun own a wx hf hsl hE => ?_) ?_
        · obtain ⟨(f_12 : a.eval (.tmp 12) = .int .i64 (ad i70 1)), -⟩ := hf
          exact sg_plain rfl rfl (or_assign f_12)
        exact steps_nil
      intro own95 a95 w95 hd95 hz95 hk95 hf95 hE95
      have e95_0 : a95.eval (.tmp 0) = .slice Al1 l1.length cl1 := (hk95 0 rfl).trans e91_0
      have e95_1 : a95.eval (.tmp 1) = .int .i64 n2 := (hk95 1 rfl).trans e91_1
      obtain ⟨(f_6 : a95.eval (.tmp 6) = .int .i64 (ad i70 1)), -⟩ := hf95 [2] rfl
      have e95_6 := f_6
      have hX95 := Evo.step hX91 (fun _ => Nat.le_refl 0) hE95 rfl
      have b95_Al1 := RdO.evo rfl hE95 b91_Al1
      exact hn83 _ _ _ hs ⟨own95, hd95, hz95, e95_0, e95_1, e95_6, hX95, b95_Al1⟩
    refine fl_exit ?_
    refine hp85 _ _ _ rfl ?_
    replace hs := hz83 _ hs
    refine hp83 _ _ _ rfl ?_
    refine hx57 _ _ ?_
    refine hn55 _ _ ?_
    refine rg_plain_seq (n := 28) (rs := []) (own0 := own86) (K := [])
        (bs := [0, 1, 3, 7])
        (ds := [⟨[], [0], [], Fct.val 26 (.slice Al1 l1.length cl1)⟩,
        ⟨[0], [], [], Fct.val 27 (.int .i64 (l1.length : Int))⟩,
        ⟨[1], [], [], Fct.val 4 (.int .i64 (l1.length : Int))⟩,
        ⟨[], [], [], Fct.val 5 (.bool false)⟩]) (by kernel_rfl) hz86 hd86 (fun _ h => nomatch h) ?_ ?_
    · refine steps_cons (fun own a wx hf hsl hE => ?_) ?_
      · obtain ⟨s_0, -⟩ := hsl
        exact sg_plain rfl rfl (or_move (s_0.trans e86_0))
      refine steps_cons (fun own a wx hf hsl hE => ?_) ?_
      · obtain ⟨(f_26 : a.eval (.tmp 26) = .slice Al1 l1.length cl1), -⟩ := hf
        exact sg_plain rfl rfl (or_len tu22 f_26 rfl)
      refine steps_cons (fun own a wx hf hsl hE => ?_) ?_
      · obtain ⟨(f_27 : a.eval (.tmp 27) = .int .i64 (l1.length : Int)), -⟩ := hf
        exact sg_plain rfl rfl (or_assign f_27)
      refine steps_cons (fun own a wx hf hsl hE => ?_) ?_
      · exact sg_plain rfl rfl (or_assign rfl)
      exact steps_nil
    intro own96 a96 w96 hd96 hz96 hk96 hf96 hE96
    obtain ⟨(f_4 : a96.eval (.tmp 4) = .int .i64 (l1.length : Int)), (f_5 : a96.eval (.tmp 5) = .bool false), -⟩ := hf96 [2, 3] rfl
    have e96_4 := f_4
    have e96_5 := f_5
    have hX96 := Evo.step hX86 (fun _ => Nat.le_refl 0) hE96 rfl
    refine fl_ret ?_
    obtain rfl := osome hs
    exact hret _ _ _ _ (.inl rfl) hd96 (results2_ rfl (RVal.tmp_ e96_4) (RVal.tmp_ e96_5)) ⟨own96, rfl, hX96⟩

end Go.Proofs.Ythbjlgklmamhjaa
