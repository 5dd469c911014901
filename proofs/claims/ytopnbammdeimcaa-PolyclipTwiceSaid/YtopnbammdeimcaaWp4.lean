/-
  Chapter 21. The walks.
-/
import Derived.Test.YtopnbammdeimcaaWp3
import Derived.Test.YtopnbammdeimcaaSp4
namespace Go.Proofs.Ytopnbammdeimcaa
open Go.RowKit
set_option linter.unusedVariables false
theorem ring_Alike_1_w (w : World) (x1 : Int) (f1 : List (Int × Int)) (gf1 : Nat) (tf1 : TypeId) (Af1_0 : Option Addr) (cf1_0 : Nat) (f2 : List (Int × Int)) (gf2 : Nat) (tf2 : TypeId) (Af2_0 : Option Addr) (cf2_0 : Nat) (hgf1 : BlkO (fun _ => 0) 0 w gf1 tf1 #[.slice Af1_0 f1.length cf1_0]) (hAf1_0 : RdO (fun _ => 0) [0] w R25 Af1_0 cf1_0 f1) (hgf2 : BlkO (fun _ => 0) 0 w gf2 tf2 #[.slice Af2_0 f2.length cf2_0]) (hAf2_0 : RdO (fun _ => 0) [0] w R25 Af2_0 cf2_0 f2) (r : Bool) (hs : ring_Alike_1 x1 f1 f2 = some r) :
    Calls Try.prog 35 #[.int .i64 x1, .pointer (some ⟨gf1, 0, none⟩), .pointer (some ⟨gf2, 0, none⟩)] w fun e w' => ∃ own' : Own, e = .returned (.bool r) ∧ Evo [] (fun _ => 0) own' w w' := by
  refine fl_enter (n := 26) rfl rfl rfl (Nat.le_of_ble_eq_true rfl) ?_
  intro a0 Q hd0 hz0 harg hret
  have ha0 := harg 0 _ rfl
  have ha1 := harg 1 _ rfl
  have ha2 := harg 2 _ rfl
  clear harg
  have hE0 : Evo [] (fun _ => 0) (fun _ => 0) w w := Evo.refl _ _ _
  refine rg_plain_seq (n := 26) (rs := []) (own0 := (fun _ => 0)) (K := [])
      (bs := [0])
      (ds := [⟨[], [], [], Fct.val 4 (.bool false)⟩]) (by kernel_rfl) hz0 hd0 (fun _ h => nomatch h) ?_ ?_
  · refine steps_cons (fun own a wx hf hsl hE => ?_) ?_
    · exact sg_plain rfl rfl (or_assign rfl)
    exact steps_nil
  intro own69 a69 w69 hd69 hz69 hk69 hf69 hE69
  have e69_0 : a69.eval (.tmp 0) = .int .i64 x1 := (hk69 0 rfl).trans ha0
  have e69_1 : a69.eval (.tmp 1) = .pointer (some ⟨gf1, 0, none⟩) := (hk69 1 rfl).trans ha1
  have e69_2 : a69.eval (.tmp 2) = .pointer (some ⟨gf2, 0, none⟩) := (hk69 2 rfl).trans ha2
  have hX69 := Evo.step hE0 (fun _ => Nat.le_refl 0) hE69 rfl
  have b69_Af1_0 := RdO.evo rfl hE69 hAf1_0
  have b69_gf1 := BlkO.evo (by decide) hE69 hgf1
  have b69_Af2_0 := RdO.evo rfl hE69 hAf2_0
  have b69_gf2 := BlkO.evo (by decide) hE69 hgf2
  refine fl_seq (fun Q70 hn70 hp70 => ?_)
  refine rg_plain_seq (n := 26) (rs := []) (own0 := own69) (K := [])
      (bs := [0, 1, 0])
      (ds := [⟨[], [1], [], Fct.val 7 (.slice Af1_0 f1.length cf1_0)⟩,
      ⟨[0], [], [], Fct.val 8 (.int .i64 (f1.length : Int))⟩,
      ⟨[], [], [], Fct.val 9 (.int .i64 0)⟩]) (by kernel_rfl) hz69 hd69 (fun _ h => nomatch h) ?_ ?_
  · refine steps_cons (fun own a wx hf hsl hE => ?_) ?_
    · obtain ⟨s_1, -⟩ := hsl
      exact sg_plain rfl rfl (or_load1 to22 (s_1.trans e69_1) (Blk.at_ (BlkO.evo (by decide) hE b69_gf1).2 0 rfl))
    refine steps_cons (fun own a wx hf hsl hE => ?_) ?_
    · obtain ⟨(f_7 : a.eval (.tmp 7) = .slice Af1_0 f1.length cf1_0), -⟩ := hf
      exact sg_plain rfl rfl (or_len tu22 f_7 rfl)
    refine steps_cons (fun own a wx hf hsl hE => ?_) ?_
    · exact sg_plain rfl rfl (or_move rfl)
    exact steps_nil
  intro own71 a71 w71 hd71 hz71 hk71 hf71 hE71
  have e71_0 : a71.eval (.tmp 0) = .int .i64 x1 := (hk71 0 rfl).trans e69_0
  have e71_2 : a71.eval (.tmp 2) = .pointer (some ⟨gf2, 0, none⟩) := (hk71 2 rfl).trans e69_2
  obtain ⟨(f_7 : a71.eval (.tmp 7) = .slice Af1_0 f1.length cf1_0), (f_8 : a71.eval (.tmp 8) = .int .i64 (f1.length : Int)), (f_9 : a71.eval (.tmp 9) = .int .i64 0), -⟩ := hf71 [0, 1, 2] rfl
  have e71_7 := f_7
  have e71_8 := f_8
  have e71_9 := f_9
  have hX71 := Evo.step hX69 (fun _ => Nat.le_refl 0) hE71 rfl
  have b71_Af1_0 := RdO.evo rfl hE71 b69_Af1_0
  have b71_Af2_0 := RdO.evo rfl hE71 b69_Af2_0
  have b71_gf2 := BlkO.evo (by decide) hE71 b69_gf2
  refine fl_block (fun Q72 hn72 hx72 hp72 => ?_)
  refine fl_loop (body := (fun s => ring_Alike_1_b1 x1 f1 f2 s)) (z := r) (show loopO _ _ = _ from hs) (fun (x90 : Int) a wx => ∃ (ox : Own), a.defers = [] ∧ a.tmps.size = 26 ∧ a.eval (.tmp 0) = .int .i64 x1 ∧ a.eval (.tmp 2) = .pointer (some ⟨gf2, 0, none⟩) ∧ a.eval (.tmp 7) = .slice Af1_0 f1.length cf1_0 ∧ a.eval (.tmp 8) = .int .i64 (f1.length : Int) ∧ a.eval (.tmp 9) = .int .i64 x90 ∧ Evo [] (fun _ => 0) ox w wx ∧ BlkO ox 0 wx gf2 tf2 #[.slice Af2_0 f2.length cf2_0] ∧ RdO ox [0] wx R25 Af2_0 cf2_0 f2 ∧ RdO ox [0] wx R25 Af1_0 cf1_0 f1) ?_ ?_
  · exact ⟨own71, hd71, hz71, e71_0, e71_2, e71_7, e71_8, e71_9, hX71, b71_gf2, b71_Af2_0, b71_Af1_0⟩
  · rintro x90 zz108 a108 w108 ⟨own108, hd109, hz109, e109_0, e109_2, e109_7, e109_8, e109_9, hE109, b109_gf2, b109_Af2_0, b109_Af1_0⟩ hs Q108 hn108 hp108 hz108
    have hs : ring_Alike_1_b1 x1 f1 f2 x90 = some zz108 := hs
    refine rg_plain_seq (n := 26) (rs := []) (own0 := own108) (K := [])
        (bs := [0])
        (ds := [⟨[], [9, 8], [], Fct.val 10 (.bool (decide (x90 < (f1.length : Int))))⟩]) (by kernel_rfl) hz109 hd109 (fun _ h => nomatch h) ?_ ?_
    · refine steps_cons (fun own a wx hf hsl hE => ?_) ?_
      · obtain ⟨s_9, s_8, -⟩ := hsl
        exact sg_plain rfl rfl (or_lss (s_9.trans e109_9) (s_8.trans e109_8) rfl)
      exact steps_nil
    intro own110 a110 w110 hd110 hz110 hk110 hf110 hE110
    have e110_0 : a110.eval (.tmp 0) = .int .i64 x1 := (hk110 0 rfl).trans e109_0
    have e110_2 : a110.eval (.tmp 2) = .pointer (some ⟨gf2, 0, none⟩) := (hk110 2 rfl).trans e109_2
    have e110_7 : a110.eval (.tmp 7) = .slice Af1_0 f1.length cf1_0 := (hk110 7 rfl).trans e109_7
    have e110_8 : a110.eval (.tmp 8) = .int .i64 (f1.length : Int) := (hk110 8 rfl).trans e109_8
    have e110_9 : a110.eval (.tmp 9) = .int .i64 x90 := (hk110 9 rfl).trans e109_9
    obtain ⟨(f_10 : a110.eval (.tmp 10) = .bool (decide (x90 < (f1.length : Int)))), -⟩ := hf110 [0] rfl
    have e110_10 := f_10
    have hX110 := Evo.step hE109 (fun _ => Nat.le_refl 0) hE110 rfl
    have b110_gf2 := BlkO.evo (by decide) hE110 b109_gf2
    have b110_Af2_0 := RdO.evo rfl hE110 b109_Af2_0
    have b110_Af1_0 := RdO.evo rfl hE110 b109_Af1_0
    refine fl_seq (fun Q111 hn111 hp111 => ?_)
    refine fl_cond e110_10 hs (fun c112 hs => ?_) (fun c112 hs => ?_)
    · refine fl_skip ?_
      refine hn111 _ _ ?_
      refine fl_seq (fun Q113 hn113 hp113 => ?_)
      refine fl_block (fun Q114 hn114 hx114 hp114 => ?_)
      obtain ⟨x115, hx115, hs⟩ := obind hs
      refine rg_plain_seq (n := 26) (rs := []) (own0 := own110) (K := [117])
          (bs := [0, 0, 2, 0, 15, 31])
          (ds := [⟨[], [9], [], Fct.val 11 (.int .i64 x90)⟩,
          ⟨[], [7, 9], [], Fct.val 12 (.pointer (some ((adr Af1_0).add ((x90 : Int).toNat * R25.s))))⟩,
          ⟨[1], [], [], Fct.val 13 (.agg #[.int .i64 x115.1, .int .i64 x115.2])⟩,
          ⟨[], [], [], Fct.blk 117 6 (fun g => .pointer (some ⟨g, 0, none⟩)) 25 #[.int .i64 0, .int .i64 0]⟩,
          ⟨[0], [], [], Fct.val 5 (.int .i64 x90)⟩,
          ⟨[3, 2], [], [117], Fct.blk 118 6 (fun g => .pointer (some ⟨g, 0, none⟩)) 25 #[.int .i64 x115.1, .int .i64 x115.2]⟩]) (by kernel_rfl) hz110 hd110 (fun _ h => nomatch h) ?_ ?_
      · refine steps_cons (fun own a wx hf hsl hE => ?_) ?_
        · obtain ⟨s_9, -⟩ := hsl
          exact sg_plain rfl rfl (or_move (s_9.trans e110_9))
        refine steps_cons (fun own a wx hf hsl hE => ?_) ?_
        · obtain ⟨s_7, s_9, -⟩ := hsl
          exact sg_plain rfl rfl (or_index (R := R25) (l := f1) tl22 (s_7.trans e110_7) (s_9.trans e110_9) (RdO.some_ b110_Af1_0 hx115) hx115)
        refine steps_cons (fun own a wx hf hsl hE => ?_) ?_
        · obtain ⟨(f_12 : a.eval (.tmp 12) = .pointer (some ((adr Af1_0).add ((x90 : Int).toNat * R25.s)))), -⟩ := hf
          exact sg_plain rfl rfl (or_load (l := E25.f x115) ta25 f_12 (RdO.cells (F := E25) (RdO.evo rfl hE b110_Af1_0) hx115) rfl)
        refine steps_cons (fun own a wx hf hsl hE => ?_) ?_
        · exact sg_plain rfl rfl (or_new [] rfl rfl trivial (by kernel_rfl))
        refine steps_cons (fun own a wx hf hsl hE => ?_) ?_
        · obtain ⟨(f_11 : a.eval (.tmp 11) = .int .i64 x90), -⟩ := hf
          exact sg_plain rfl rfl (or_assign f_11)
        refine steps_cons (fun own a wx hf hsl hE => ?_) ?_
        · obtain ⟨⟨g116, (f_6 : a.eval (.tmp 6) = .pointer (some ⟨g116, 0, none⟩)), (b_g116 : BlkO own 117 wx g116 25 #[.int .i64 0, .int .i64 0])⟩, (f_13 : a.eval (.tmp 13) = .agg #[.int .i64 x115.1, .int .i64 x115.2]), -⟩ := hf
          exact sg_plain rfl rfl (or_store (l := #[.int .i64 x115.1, .int .i64 x115.2]) (lab := 117) (lab2 := 118) ts25 f_6 f_13 b_g116 (by simp) (by kernel_rfl) (mem_of rfl) (by decide) (by kernel_rfl) (fun own' a' w' ha hb => ⟨_, (ha 6).trans f_6, hb⟩))
        exact steps_nil
      intro own119 a119 w119 hd119 hz119 hk119 hf119 hE119
      have e119_0 : a119.eval (.tmp 0) = .int .i64 x1 := (hk119 0 rfl).trans e110_0
      have e119_2 : a119.eval (.tmp 2) = .pointer (some ⟨gf2, 0, none⟩) := (hk119 2 rfl).trans e110_2
      have e119_7 : a119.eval (.tmp 7) = .slice Af1_0 f1.length cf1_0 := (hk119 7 rfl).trans e110_7
      have e119_8 : a119.eval (.tmp 8) = .int .i64 (f1.length : Int) := (hk119 8 rfl).trans e110_8
      have e119_9 : a119.eval (.tmp 9) = .int .i64 x90 := (hk119 9 rfl).trans e110_9
      obtain ⟨⟨g116, (f_6 : a119.eval (.tmp 6) = .pointer (some ⟨g116, 0, none⟩)), (b_g116 : BlkO own119 118 w119 g116 25 #[.int .i64 x115.1, .int .i64 x115.2])⟩, (f_5 : a119.eval (.tmp 5) = .int .i64 x90), -⟩ := hf119 [5, 4] rfl
      have e119_6 := f_6
      have e119_5 := f_5
      have hX119 := Evo.step hX110 (fun _ => Nat.le_refl 0) hE119 rfl
      have b119_gf2 := BlkO.evo (by decide) hE119 b110_gf2
      have b119_Af2_0 := RdO.evo rfl hE119 b110_Af2_0
      have b119_Af1_0 := RdO.evo rfl hE119 b110_Af1_0
      have b119_g116 := b_g116
      obtain ⟨x120, hx120, hs⟩ := obind hs
      obtain ⟨x121, hx121, hs⟩ := obind hs
      refine rg_draw_seq g_mixed (n := 26) (rs := []) (own0 := own119) (K := [])
          (bs := [0, 0, 0, 0, 12, 0, 32, 124, 254, 510, 1023])
          (ds := [⟨[], [6], [], Fct.val 14 (.agg #[.int .i64 x115.1, .int .i64 x115.2])⟩,
          ⟨[], [2], [], Fct.val 15 (.slice Af2_0 f2.length cf2_0)⟩,
          ⟨[], [0], [], Fct.val 16 (.int .i64 x1)⟩,
          ⟨[], [5], [], Fct.val 17 (.int .i64 x90)⟩,
          ⟨[2, 3], [], [], Fct.val 18 (.int .i64 (ad x1 x90))⟩,
          ⟨[], [2], [], Fct.val 19 (.slice Af2_0 f2.length cf2_0)⟩,
          ⟨[5], [], [], Fct.val 20 (.int .i64 (f2.length : Int))⟩,
          ⟨[4, 6], [], [], Fct.val 21 (.int .i64 x120)⟩,
          ⟨[1, 7], [], [], Fct.val 22 (.pointer (some ((adr Af2_0).add ((x120 : Int).toNat * R25.s))))⟩,
          ⟨[8], [], [], Fct.val 23 (.agg #[.int .i64 x121.1, .int .i64 x121.2])⟩,
          ⟨[0, 9], [], [], Fct.val 24 (.bool (!decide (x115 = x121)))⟩]) (by kernel_rfl) hz119 hd119 (fun _ h => nomatch h) ?_ ?_
      · refine steps_cons (fun own a wx hf hsl hE => ?_) ?_
        · obtain ⟨s_6, -⟩ := hsl
          exact sg_plain rfl rfl (or_load (l := [.int .i64 x115.1, .int .i64 x115.2]) ta25 (s_6.trans e119_6) (Blk.cellsFrom (BlkO.evo (by decide) hE b119_g116).2 0 rfl) rfl)
        refine steps_cons (fun own a wx hf hsl hE => ?_) ?_
        · obtain ⟨s_2, -⟩ := hsl
          exact sg_plain rfl rfl (or_load1 to22 (s_2.trans e119_2) (Blk.at_ (BlkO.evo (by decide) hE b119_gf2).2 0 rfl))
        refine steps_cons (fun own a wx hf hsl hE => ?_) ?_
        · obtain ⟨s_0, -⟩ := hsl
          exact sg_plain rfl rfl (or_move (s_0.trans e119_0))
        refine steps_cons (fun own a wx hf hsl hE => ?_) ?_
        · obtain ⟨s_5, -⟩ := hsl
          exact sg_plain rfl rfl (or_move (s_5.trans e119_5))
        refine steps_cons (fun own a wx hf hsl hE => ?_) ?_
        · obtain ⟨(f_16 : a.eval (.tmp 16) = .int .i64 x1), (f_17 : a.eval (.tmp 17) = .int .i64 x90), -⟩ := hf
          exact sg_plain rfl rfl (or_add f_16 f_17 rfl)
        refine steps_cons (fun own a wx hf hsl hE => ?_) ?_
        · obtain ⟨s_2, -⟩ := hsl
          exact sg_plain rfl rfl (or_load1 to22 (s_2.trans e119_2) (Blk.at_ (BlkO.evo (by decide) hE b119_gf2).2 0 rfl))
        refine steps_cons (fun own a wx hf hsl hE => ?_) ?_
        · obtain ⟨(f_19 : a.eval (.tmp 19) = .slice Af2_0 f2.length cf2_0), -⟩ := hf
          exact sg_plain rfl rfl (or_len tu22 f_19 rfl)
        refine steps_cons (fun own a wx hf hsl hE => ?_) ?_
        · obtain ⟨(f_18 : a.eval (.tmp 18) = .int .i64 (ad x1 x90)), (f_20 : a.eval (.tmp 20) = .int .i64 (f2.length : Int)), -⟩ := hf
          exact sg_plain rfl rfl (or_rem f_18 f_20 hx120)
        refine steps_cons (fun own a wx hf hsl hE => ?_) ?_
        · obtain ⟨(f_15 : a.eval (.tmp 15) = .slice Af2_0 f2.length cf2_0), (f_21 : a.eval (.tmp 21) = .int .i64 x120), -⟩ := hf
          exact sg_plain rfl rfl (or_index (R := R25) (l := f2) tl22 f_15 f_21 (RdO.some_ b119_Af2_0 hx121) hx121)
        refine steps_cons (fun own a wx hf hsl hE => ?_) ?_
        · obtain ⟨(f_22 : a.eval (.tmp 22) = .pointer (some ((adr Af2_0).add ((x120 : Int).toNat * R25.s)))), -⟩ := hf
          exact sg_plain rfl rfl (or_load (l := E25.f x121) ta25 f_22 (RdO.cells (F := E25) (RdO.evo rfl hE b119_Af2_0) hx121) rfl)
        refine steps_cons (fun own a wx hf hsl hE => ?_) ?_
        · obtain ⟨(f_14 : a.eval (.tmp 14) = .agg #[.int .i64 x115.1, .int .i64 x115.2]), (f_23 : a.eval (.tmp 23) = .agg #[.int .i64 x121.1, .int .i64 x121.2]), -⟩ := hf
          exact sg_plain rfl rfl (or_neqA sg25 f_14 f_23 (sn25 x115.1 x115.2 x121.1 x121.2 _) rfl)
        exact steps_nil
      intro own122 a122 w122 hd122 hz122 hk122 hf122 hE122
      have e122_0 : a122.eval (.tmp 0) = .int .i64 x1 := (hk122 0 rfl).trans e119_0
      have e122_2 : a122.eval (.tmp 2) = .pointer (some ⟨gf2, 0, none⟩) := (hk122 2 rfl).trans e119_2
      have e122_7 : a122.eval (.tmp 7) = .slice Af1_0 f1.length cf1_0 := (hk122 7 rfl).trans e119_7
      have e122_8 : a122.eval (.tmp 8) = .int .i64 (f1.length : Int) := (hk122 8 rfl).trans e119_8
      have e122_9 : a122.eval (.tmp 9) = .int .i64 x90 := (hk122 9 rfl).trans e119_9
      obtain ⟨(f_24 : a122.eval (.tmp 24) = .bool (!decide (x115 = x121))), -⟩ := hf122 [10] rfl
      have e122_24 := f_24
      have hX122 := Evo.step hX119 (fun _ => Nat.le_refl 0) hE122 rfl
      have b122_gf2 := BlkO.evo (by decide) hE122 b119_gf2
      have b122_Af2_0 := RdO.evo rfl hE122 b119_Af2_0
      have b122_Af1_0 := RdO.evo rfl hE122 b119_Af1_0
      refine fl_cond e122_24 hs (fun c123 hs => ?_) (fun c123 hs => ?_)
      · refine rg_plain_seq (n := 26) (rs := []) (own0 := own122) (K := [])
            (bs := [0])
            (ds := [⟨[], [], [], Fct.val 4 (.bool false)⟩]) (by kernel_rfl) hz122 hd122 (fun _ h => nomatch h) ?_ ?_
        · refine steps_cons (fun own a wx hf hsl hE => ?_) ?_
          · exact sg_plain rfl rfl (or_assign rfl)
          exact steps_nil
        intro own124 a124 w124 hd124 hz124 hk124 hf124 hE124
        obtain ⟨(f_4 : a124.eval (.tmp 4) = .bool false), -⟩ := hf124 [0] rfl
        have e124_4 := f_4
        have hX124 := Evo.step hX122 (fun _ => Nat.le_refl 0) hE124 rfl
        refine fl_ret ?_
        refine hp114 _ _ _ rfl ?_
        refine hp113 _ _ _ rfl ?_
        replace hs := hz108 _ hs
        refine hp108 _ _ _ rfl ?_
        refine hp72 _ _ _ rfl ?_
        refine hp70 _ _ _ rfl ?_
        obtain rfl := osome hs
        exact hret _ _ _ _ (.inl rfl) hd124 (results1_ rfl (RVal.tmp_ e124_4)) ⟨own124, rfl, hX124⟩
      refine fl_skip ?_
      refine hn114 _ _ ?_
      refine hn113 _ _ ?_
      refine rg_plain (n := 26) (rs := []) (own0 := own122) (K := [])
          (bs := [0, 1])
          (ds := [⟨[], [9], [], Fct.val 25 (.int .i64 (ad x90 1))⟩,
          ⟨[0], [], [], Fct.val 9 (.int .i64 (ad x90 1))⟩]) (by kernel_rfl) hz122 hd122 (fun _ h => nomatch h) ?_ ?_
      · refine steps_cons (fun own a wx hf hsl hE => ?_) ?_
        · obtain ⟨s_9, -⟩ := hsl
          exact sg_plain rfl rfl (or_add (s_9.trans e122_9) rfl rfl)
        refine steps_cons (fun own a wx hf hsl hE => ?_) ?_
        · obtain ⟨(f_25 : a.eval (.tmp 25) = .int .i64 (ad x90 1)), -⟩ := hf
          exact sg_plain rfl rfl (or_move f_25)
        exact steps_nil
      intro own125 a125 w125 hd125 hz125 hk125 hf125 hE125
      have e125_0 : a125.eval (.tmp 0) = .int .i64 x1 := (hk125 0 rfl).trans e122_0
      have e125_2 : a125.eval (.tmp 2) = .pointer (some ⟨gf2, 0, none⟩) := (hk125 2 rfl).trans e122_2
      have e125_7 : a125.eval (.tmp 7) = .slice Af1_0 f1.length cf1_0 := (hk125 7 rfl).trans e122_7
      have e125_8 : a125.eval (.tmp 8) = .int .i64 (f1.length : Int) := (hk125 8 rfl).trans e122_8
      obtain ⟨(f_9 : a125.eval (.tmp 9) = .int .i64 (ad x90 1)), -⟩ := hf125 [1] rfl
      have e125_9 := f_9
      have hX125 := Evo.step hX122 (fun _ => Nat.le_refl 0) hE125 rfl
      have b125_gf2 := BlkO.evo (by decide) hE125 b122_gf2
      have b125_Af2_0 := RdO.evo rfl hE125 b122_Af2_0
      have b125_Af1_0 := RdO.evo rfl hE125 b122_Af1_0
      exact hn108 _ _ _ hs ⟨own125, hd125, hz125, e125_0, e125_2, e125_7, e125_8, e125_9, hX125, b125_gf2, b125_Af2_0, b125_Af1_0⟩
    refine fl_exit ?_
    refine hp111 _ _ _ rfl ?_
    replace hs := hz108 _ hs
    refine hp108 _ _ _ rfl ?_
    refine hx72 _ _ ?_
    refine hn70 _ _ ?_
    refine rg_plain_seq (n := 26) (rs := []) (own0 := own110) (K := [])
        (bs := [0])
        (ds := [⟨[], [], [], Fct.val 4 (.bool true)⟩]) (by kernel_rfl) hz110 hd110 (fun _ h => nomatch h) ?_ ?_
    · refine steps_cons (fun own a wx hf hsl hE => ?_) ?_
      · exact sg_plain rfl rfl (or_assign rfl)
      exact steps_nil
    intro own126 a126 w126 hd126 hz126 hk126 hf126 hE126
    obtain ⟨(f_4 : a126.eval (.tmp 4) = .bool true), -⟩ := hf126 [0] rfl
    have e126_4 := f_4
    have hX126 := Evo.step hX110 (fun _ => Nat.le_refl 0) hE126 rfl
    refine fl_ret ?_
    obtain rfl := osome hs
    exact hret _ _ _ _ (.inl rfl) hd126 (results1_ rfl (RVal.tmp_ e126_4)) ⟨own126, rfl, hX126⟩

theorem ring_Alike_w (w : World) (x1 : List (Int × Int)) (Ax1 : Option Addr) (cx1 : Nat) (b2 : List (Int × Int)) (Ab2 : Option Addr) (cb2 : Nat) (hx1 : RdO (fun _ => 0) [0] w R25 Ax1 cx1 x1) (hb2 : RdO (fun _ => 0) [0] w R25 Ab2 cb2 b2) (r : Bool) (hs : ring_Alike x1 b2 = some r) :
    Calls Try.prog 21 #[.slice Ax1 x1.length cx1, .slice Ab2 b2.length cb2] w fun e w' => ∃ own' : Own, e = .returned (.bool r) ∧ Evo [] (fun _ => 0) own' w w' := by
  refine fl_enter (n := 25) rfl rfl rfl (Nat.le_of_ble_eq_true rfl) ?_
  intro a0 Q hd0 hz0 harg hret
  have ha0 := harg 0 _ rfl
  have ha1 := harg 1 _ rfl
  clear harg
  have hE0 : Evo [] (fun _ => 0) (fun _ => 0) w w := Evo.refl _ _ _
  refine rg_plain_seq (n := 25) (rs := []) (own0 := (fun _ => 0)) (K := [])
      (bs := [0, 0, 0])
      (ds := [⟨[], [0], [], Fct.blk 64 2 (fun g => .pointer (some ⟨g, 0, none⟩)) 22 #[.slice Ax1 x1.length cx1]⟩,
      ⟨[], [1], [], Fct.blk 66 3 (fun g => .pointer (some ⟨g, 0, none⟩)) 22 #[.slice Ab2 b2.length cb2]⟩,
      ⟨[], [], [], Fct.val 4 (.bool false)⟩]) (by kernel_rfl) hz0 hd0 (fun _ h => nomatch h) ?_ ?_
  · refine steps_cons (fun own a wx hf hsl hE => ?_) ?_
    · obtain ⟨s_0, -⟩ := hsl
      exact sg_plain rfl rfl (or_new [(0, .slice Ax1 x1.length cx1)] rfl rfl ⟨(s_0.trans ha0), trivial⟩ (by kernel_rfl))
    refine steps_cons (fun own a wx hf hsl hE => ?_) ?_
    · obtain ⟨s_1, -⟩ := hsl
      exact sg_plain rfl rfl (or_new [(1, .slice Ab2 b2.length cb2)] rfl rfl ⟨(s_1.trans ha1), trivial⟩ (by kernel_rfl))
    refine steps_cons (fun own a wx hf hsl hE => ?_) ?_
    · exact sg_plain rfl rfl (or_assign rfl)
    exact steps_nil
  intro own67 a67 w67 hd67 hz67 hk67 hf67 hE67
  obtain ⟨⟨g63, (f_2 : a67.eval (.tmp 2) = .pointer (some ⟨g63, 0, none⟩)), (b_g63 : BlkO own67 64 w67 g63 22 #[.slice Ax1 x1.length cx1])⟩, ⟨g65, (f_3 : a67.eval (.tmp 3) = .pointer (some ⟨g65, 0, none⟩)), (b_g65 : BlkO own67 66 w67 g65 22 #[.slice Ab2 b2.length cb2])⟩, -⟩ := hf67 [0, 1] rfl
  have e67_2 := f_2
  have e67_3 := f_3
  have hX67 := Evo.step hE0 (fun _ => Nat.le_refl 0) hE67 rfl
  have b67_Ax1 := RdO.evo rfl hE67 hx1
  have b67_Ab2 := RdO.evo rfl hE67 hb2
  have b67_g63 := b_g63
  have b67_g65 := b_g65
  refine rg_plain_seq (n := 25) (rs := []) (own0 := own67) (K := [])
      (bs := [0, 1])
      (ds := [⟨[], [2, 3], [], Fct.val 7 (.func (.func 35) #[] #[.pointer (some ⟨g63, 0, none⟩), .pointer (some ⟨g65, 0, none⟩)])⟩,
      ⟨[0], [], [], Fct.val 5 (.func (.func 35) #[] #[.pointer (some ⟨g63, 0, none⟩), .pointer (some ⟨g65, 0, none⟩)])⟩]) (by kernel_rfl) hz67 hd67 (fun _ h => nomatch h) ?_ ?_
  · refine steps_cons (fun own a wx hf hsl hE => ?_) ?_
    · obtain ⟨s_2, s_3, -⟩ := hsl
      exact sg_plain rfl rfl (or_k [(2, .pointer (some ⟨g63, 0, none⟩)), (3, .pointer (some ⟨g65, 0, none⟩))] rfl rfl ⟨(s_2.trans e67_2), (s_3.trans e67_3), trivial⟩ (by kernel_rfl))
    refine steps_cons (fun own a wx hf hsl hE => ?_) ?_
    · obtain ⟨(f_7 : a.eval (.tmp 7) = .func (.func 35) #[] #[.pointer (some ⟨g63, 0, none⟩), .pointer (some ⟨g65, 0, none⟩)]), -⟩ := hf
      exact sg_plain rfl rfl (or_assign f_7)
    exact steps_nil
  intro own68 a68 w68 hd68 hz68 hk68 hf68 hE68
  have e68_2 : a68.eval (.tmp 2) = .pointer (some ⟨g63, 0, none⟩) := (hk68 2 rfl).trans e67_2
  have e68_3 : a68.eval (.tmp 3) = .pointer (some ⟨g65, 0, none⟩) := (hk68 3 rfl).trans e67_3
  obtain ⟨(f_5 : a68.eval (.tmp 5) = .func (.func 35) #[] #[.pointer (some ⟨g63, 0, none⟩), .pointer (some ⟨g65, 0, none⟩)]), -⟩ := hf68 [1] rfl
  have e68_5 := f_5
  have hX68 := Evo.step hX67 (fun _ => Nat.le_refl 0) hE68 rfl
  have b68_Ax1 := RdO.evo rfl hE68 b67_Ax1
  have b68_Ab2 := RdO.evo rfl hE68 b67_Ab2
  have b68_g63 := BlkO.evo (by decide) hE68 b67_g63
  have b68_g65 := BlkO.evo (by decide) hE68 b67_g65
  refine fl_seq (fun Q69 hn69 hp69 => ?_)
  refine rg_plain_seq (n := 25) (rs := []) (own0 := own68) (K := [])
      (bs := [0, 1, 0, 4, 15])
      (ds := [⟨[], [2], [], Fct.val 8 (.slice Ax1 x1.length cx1)⟩,
      ⟨[0], [], [], Fct.val 9 (.int .i64 (x1.length : Int))⟩,
      ⟨[], [3], [], Fct.val 10 (.slice Ab2 b2.length cb2)⟩,
      ⟨[2], [], [], Fct.val 11 (.int .i64 (b2.length : Int))⟩,
      ⟨[1, 3], [], [], Fct.val 12 (.bool (!decide ((x1.length : Int) = (b2.length : Int))))⟩]) (by kernel_rfl) hz68 hd68 (fun _ h => nomatch h) ?_ ?_
  · refine steps_cons (fun own a wx hf hsl hE => ?_) ?_
    · obtain ⟨s_2, -⟩ := hsl
      exact sg_plain rfl rfl (or_load1 to22 (s_2.trans e68_2) (Blk.at_ (BlkO.evo (by decide) hE b68_g63).2 0 rfl))
    refine steps_cons (fun own a wx hf hsl hE => ?_) ?_
    · obtain ⟨(f_8 : a.eval (.tmp 8) = .slice Ax1 x1.length cx1), -⟩ := hf
      exact sg_plain rfl rfl (or_len tu22 f_8 rfl)
    refine steps_cons (fun own a wx hf hsl hE => ?_) ?_
    · obtain ⟨s_3, -⟩ := hsl
      exact sg_plain rfl rfl (or_load1 to22 (s_3.trans e68_3) (Blk.at_ (BlkO.evo (by decide) hE b68_g65).2 0 rfl))
    refine steps_cons (fun own a wx hf hsl hE => ?_) ?_
    · obtain ⟨(f_10 : a.eval (.tmp 10) = .slice Ab2 b2.length cb2), -⟩ := hf
      exact sg_plain rfl rfl (or_len tu22 f_10 rfl)
    refine steps_cons (fun own a wx hf hsl hE => ?_) ?_
    · obtain ⟨(f_9 : a.eval (.tmp 9) = .int .i64 (x1.length : Int)), (f_11 : a.eval (.tmp 11) = .int .i64 (b2.length : Int)), -⟩ := hf
      exact sg_plain rfl rfl (or_neq f_9 f_11 rfl)
    exact steps_nil
  intro own70 a70 w70 hd70 hz70 hk70 hf70 hE70
  have e70_2 : a70.eval (.tmp 2) = .pointer (some ⟨g63, 0, none⟩) := (hk70 2 rfl).trans e68_2
  have e70_3 : a70.eval (.tmp 3) = .pointer (some ⟨g65, 0, none⟩) := (hk70 3 rfl).trans e68_3
  have e70_5 : a70.eval (.tmp 5) = .func (.func 35) #[] #[.pointer (some ⟨g63, 0, none⟩), .pointer (some ⟨g65, 0, none⟩)] := (hk70 5 rfl).trans e68_5
  obtain ⟨(f_12 : a70.eval (.tmp 12) = .bool (!decide ((x1.length : Int) = (b2.length : Int)))), -⟩ := hf70 [4] rfl
  have e70_12 := f_12
  have hX70 := Evo.step hX68 (fun _ => Nat.le_refl 0) hE70 rfl
  have b70_Ax1 := RdO.evo rfl hE70 b68_Ax1
  have b70_Ab2 := RdO.evo rfl hE70 b68_Ab2
  have b70_g63 := BlkO.evo (by decide) hE70 b68_g63
  have b70_g65 := BlkO.evo (by decide) hE70 b68_g65
  refine fl_cond e70_12 hs (fun c71 hs => ?_) (fun c71 hs => ?_)
  · refine rg_plain_seq (n := 25) (rs := []) (own0 := own70) (K := [])
        (bs := [0])
        (ds := [⟨[], [], [], Fct.val 4 (.bool false)⟩]) (by kernel_rfl) hz70 hd70 (fun _ h => nomatch h) ?_ ?_
    · refine steps_cons (fun own a wx hf hsl hE => ?_) ?_
      · exact sg_plain rfl rfl (or_assign rfl)
      exact steps_nil
    intro own72 a72 w72 hd72 hz72 hk72 hf72 hE72
    obtain ⟨(f_4 : a72.eval (.tmp 4) = .bool false), -⟩ := hf72 [0] rfl
    have e72_4 := f_4
    have hX72 := Evo.step hX70 (fun _ => Nat.le_refl 0) hE72 rfl
    refine fl_ret ?_
    refine hp69 _ _ _ rfl ?_
    obtain rfl := osome hs
    exact hret _ _ _ _ (.inl rfl) hd72 (results1_ rfl (RVal.tmp_ e72_4)) ⟨own72, rfl, hX72⟩
  refine fl_skip ?_
  refine hn69 _ _ ?_
  refine fl_seq (fun Q73 hn73 hp73 => ?_)
  refine rg_plain_seq (n := 25) (rs := []) (own0 := own70) (K := [])
      (bs := [0, 1, 0])
      (ds := [⟨[], [3], [], Fct.val 13 (.slice Ab2 b2.length cb2)⟩,
      ⟨[0], [], [], Fct.val 14 (.int .i64 (b2.length : Int))⟩,
      ⟨[], [], [], Fct.val 15 (.int .i64 0)⟩]) (by kernel_rfl) hz70 hd70 (fun _ h => nomatch h) ?_ ?_
  · refine steps_cons (fun own a wx hf hsl hE => ?_) ?_
    · obtain ⟨s_3, -⟩ := hsl
      exact sg_plain rfl rfl (or_load1 to22 (s_3.trans e70_3) (Blk.at_ (BlkO.evo (by decide) hE b70_g65).2 0 rfl))
    refine steps_cons (fun own a wx hf hsl hE => ?_) ?_
    · obtain ⟨(f_13 : a.eval (.tmp 13) = .slice Ab2 b2.length cb2), -⟩ := hf
      exact sg_plain rfl rfl (or_len tu22 f_13 rfl)
    refine steps_cons (fun own a wx hf hsl hE => ?_) ?_
    · exact sg_plain rfl rfl (or_move rfl)
    exact steps_nil
  intro own74 a74 w74 hd74 hz74 hk74 hf74 hE74
  have e74_2 : a74.eval (.tmp 2) = .pointer (some ⟨g63, 0, none⟩) := (hk74 2 rfl).trans e70_2
  have e74_5 : a74.eval (.tmp 5) = .func (.func 35) #[] #[.pointer (some ⟨g63, 0, none⟩), .pointer (some ⟨g65, 0, none⟩)] := (hk74 5 rfl).trans e70_5
  obtain ⟨(f_14 : a74.eval (.tmp 14) = .int .i64 (b2.length : Int)), (f_15 : a74.eval (.tmp 15) = .int .i64 0), -⟩ := hf74 [1, 2] rfl
  have e74_14 := f_14
  have e74_15 := f_15
  have hX74 := Evo.step hX70 (fun _ => Nat.le_refl 0) hE74 rfl
  have b74_Ax1 := RdO.evo rfl hE74 b70_Ax1
  have b74_Ab2 := RdO.evo rfl hE74 b70_Ab2
  have b74_g63 := BlkO.evo (by decide) hE74 b70_g63
  have b74_g65 := BlkO.evo (by decide) hE74 b70_g65
  refine fl_block (fun Q75 hn75 hx75 hp75 => ?_)
  refine fl_loop (body := (fun s => ring_Alike_b1 x1 b2 s)) (z := r) (show loopO _ _ = _ from hs) (fun (x88 : Int) a wx => ∃ (ox : Own), a.defers = [] ∧ a.tmps.size = 25 ∧ a.eval (.tmp 2) = .pointer (some ⟨g63, 0, none⟩) ∧ a.eval (.tmp 5) = .func (.func 35) #[] #[.pointer (some ⟨g63, 0, none⟩), .pointer (some ⟨g65, 0, none⟩)] ∧ a.eval (.tmp 14) = .int .i64 (b2.length : Int) ∧ a.eval (.tmp 15) = .int .i64 x88 ∧ Evo [] (fun _ => 0) ox w wx ∧ BlkO ox 64 wx g63 22 #[.slice Ax1 x1.length cx1] ∧ RdO ox [0] wx R25 Ax1 cx1 x1 ∧ BlkO ox 66 wx g65 22 #[.slice Ab2 b2.length cb2] ∧ RdO ox [0] wx R25 Ab2 cb2 b2) ?_ ?_
  · exact ⟨own74, hd74, hz74, e74_2, e74_5, e74_14, e74_15, hX74, b74_g63, b74_Ax1, b74_g65, b74_Ab2⟩
  · rintro x88 zz101 a101 w101 ⟨own101, hd102, hz102, e102_2, e102_5, e102_14, e102_15, hE102, b102_g63, b102_Ax1, b102_g65, b102_Ab2⟩ hs Q101 hn101 hp101 hz101
    have hs : ring_Alike_b1 x1 b2 x88 = some zz101 := hs
    refine rg_plain_seq (n := 25) (rs := []) (own0 := own101) (K := [])
        (bs := [0])
        (ds := [⟨[], [15, 14], [], Fct.val 16 (.bool (decide (x88 < (b2.length : Int))))⟩]) (by kernel_rfl) hz102 hd102 (fun _ h => nomatch h) ?_ ?_
    · refine steps_cons (fun own a wx hf hsl hE => ?_) ?_
      · obtain ⟨s_15, s_14, -⟩ := hsl
        exact sg_plain rfl rfl (or_lss (s_15.trans e102_15) (s_14.trans e102_14) rfl)
      exact steps_nil
    intro own103 a103 w103 hd103 hz103 hk103 hf103 hE103
    have e103_2 : a103.eval (.tmp 2) = .pointer (some ⟨g63, 0, none⟩) := (hk103 2 rfl).trans e102_2
    have e103_5 : a103.eval (.tmp 5) = .func (.func 35) #[] #[.pointer (some ⟨g63, 0, none⟩), .pointer (some ⟨g65, 0, none⟩)] := (hk103 5 rfl).trans e102_5
    have e103_14 : a103.eval (.tmp 14) = .int .i64 (b2.length : Int) := (hk103 14 rfl).trans e102_14
    have e103_15 : a103.eval (.tmp 15) = .int .i64 x88 := (hk103 15 rfl).trans e102_15
    obtain ⟨(f_16 : a103.eval (.tmp 16) = .bool (decide (x88 < (b2.length : Int)))), -⟩ := hf103 [0] rfl
    have e103_16 := f_16
    have hX103 := Evo.step hE102 (fun _ => Nat.le_refl 0) hE103 rfl
    have b103_g63 := BlkO.evo (by decide) hE103 b102_g63
    have b103_Ax1 := RdO.evo rfl hE103 b102_Ax1
    have b103_g65 := BlkO.evo (by decide) hE103 b102_g65
    have b103_Ab2 := RdO.evo rfl hE103 b102_Ab2
    refine fl_seq (fun Q104 hn104 hp104 => ?_)
    refine fl_cond e103_16 hs (fun c105 hs => ?_) (fun c105 hs => ?_)
    · refine fl_skip ?_
      refine hn104 _ _ ?_
      refine fl_seq (fun Q106 hn106 hp106 => ?_)
      refine fl_block (fun Q107 hn107 hx107 hp107 => ?_)
      refine rg_plain_seq (n := 25) (rs := []) (own0 := own103) (K := [])
          (bs := [0, 1])
          (ds := [⟨[], [15], [], Fct.val 17 (.int .i64 x88)⟩,
          ⟨[0], [], [], Fct.val 6 (.int .i64 x88)⟩]) (by kernel_rfl) hz103 hd103 (fun _ h => nomatch h) ?_ ?_
      · refine steps_cons (fun own a wx hf hsl hE => ?_) ?_
        · obtain ⟨s_15, -⟩ := hsl
          exact sg_plain rfl rfl (or_move (s_15.trans e103_15))
        refine steps_cons (fun own a wx hf hsl hE => ?_) ?_
        · obtain ⟨(f_17 : a.eval (.tmp 17) = .int .i64 x88), -⟩ := hf
          exact sg_plain rfl rfl (or_assign f_17)
        exact steps_nil
      intro own108 a108 w108 hd108 hz108 hk108 hf108 hE108
      have e108_2 : a108.eval (.tmp 2) = .pointer (some ⟨g63, 0, none⟩) := (hk108 2 rfl).trans e103_2
      have e108_5 : a108.eval (.tmp 5) = .func (.func 35) #[] #[.pointer (some ⟨g63, 0, none⟩), .pointer (some ⟨g65, 0, none⟩)] := (hk108 5 rfl).trans e103_5
      have e108_14 : a108.eval (.tmp 14) = .int .i64 (b2.length : Int) := (hk108 14 rfl).trans e103_14
      have e108_15 : a108.eval (.tmp 15) = .int .i64 x88 := (hk108 15 rfl).trans e103_15
      obtain ⟨(f_6 : a108.eval (.tmp 6) = .int .i64 x88), -⟩ := hf108 [1] rfl
      have e108_6 := f_6
      have hX108 := Evo.step hX103 (fun _ => Nat.le_refl 0) hE108 rfl
      have b108_g63 := BlkO.evo (by decide) hE108 b103_g63
      have b108_Ax1 := RdO.evo rfl hE108 b103_Ax1
      have b108_g65 := BlkO.evo (by decide) hE108 b103_g65
      have b108_Ab2 := RdO.evo rfl hE108 b103_Ab2
      obtain ⟨r109, hr109, hs⟩ := obind hs
      refine rg_plain_seq (n := 25) (rs := []) (own0 := own108) (K := [])
          (bs := [0, 0, 3])
          (ds := [⟨[], [5], [], Fct.val 18 (.func (.func 35) #[] #[.pointer (some ⟨g63, 0, none⟩), .pointer (some ⟨g65, 0, none⟩)])⟩,
          ⟨[], [6], [], Fct.val 19 (.int .i64 x88)⟩,
          ⟨[0, 1], [], [], Fct.val 20 (.bool r109)⟩]) (by kernel_rfl) hz108 hd108 (fun _ h => nomatch h) ?_ ?_
      · refine steps_cons (fun own a wx hf hsl hE => ?_) ?_
        · obtain ⟨s_5, -⟩ := hsl
          exact sg_plain rfl rfl (or_move (s_5.trans e108_5))
        refine steps_cons (fun own a wx hf hsl hE => ?_) ?_
        · obtain ⟨s_6, -⟩ := hsl
          exact sg_plain rfl rfl (or_move (s_6.trans e108_6))
        refine steps_cons (fun own a wx hf hsl hE => ?_) ?_
        · obtain ⟨(f_18 : a.eval (.tmp 18) = .func (.func 35) #[] #[.pointer (some ⟨g63, 0, none⟩), .pointer (some ⟨g65, 0, none⟩)]), (f_19 : a.eval (.tmp 19) = .int .i64 x88), -⟩ := hf
          exact sg_plain rfl rfl (or_callf cf35 f_18 (args1 f_19) rfl (ring_Alike_1_w _ x88 x1 g63 22 Ax1 cx1 b2 g65 22 Ab2 cb2 (BlkO.zero_ (BlkO.evo (by decide) hE b108_g63)) (RdO.zero (RdO.evo rfl hE b108_Ax1)) (BlkO.zero_ (BlkO.evo (by decide) hE b108_g65)) (RdO.zero (RdO.evo rfl hE b108_Ab2)) r109 hr109) post_val)
        exact steps_nil
      intro own110 a110 w110 hd110 hz110 hk110 hf110 hE110
      have e110_2 : a110.eval (.tmp 2) = .pointer (some ⟨g63, 0, none⟩) := (hk110 2 rfl).trans e108_2
      have e110_5 : a110.eval (.tmp 5) = .func (.func 35) #[] #[.pointer (some ⟨g63, 0, none⟩), .pointer (some ⟨g65, 0, none⟩)] := (hk110 5 rfl).trans e108_5
      have e110_14 : a110.eval (.tmp 14) = .int .i64 (b2.length : Int) := (hk110 14 rfl).trans e108_14
      have e110_15 : a110.eval (.tmp 15) = .int .i64 x88 := (hk110 15 rfl).trans e108_15
      obtain ⟨(f_20 : a110.eval (.tmp 20) = .bool r109), -⟩ := hf110 [2] rfl
      have e110_20 := f_20
      have hX110 := Evo.step hX108 (fun _ => Nat.le_refl 0) hE110 rfl
      have b110_g63 := BlkO.evo (by decide) hE110 b108_g63
      have b110_Ax1 := RdO.evo rfl hE110 b108_Ax1
      have b110_g65 := BlkO.evo (by decide) hE110 b108_g65
      have b110_Ab2 := RdO.evo rfl hE110 b108_Ab2
      refine fl_cond e110_20 hs (fun c111 hs => ?_) (fun c111 hs => ?_)
      · refine rg_plain_seq (n := 25) (rs := []) (own0 := own110) (K := [])
            (bs := [0])
            (ds := [⟨[], [], [], Fct.val 4 (.bool true)⟩]) (by kernel_rfl) hz110 hd110 (fun _ h => nomatch h) ?_ ?_
        · refine steps_cons (fun own a wx hf hsl hE => ?_) ?_
          · exact sg_plain rfl rfl (or_assign rfl)
          exact steps_nil
        intro own112 a112 w112 hd112 hz112 hk112 hf112 hE112
        obtain ⟨(f_4 : a112.eval (.tmp 4) = .bool true), -⟩ := hf112 [0] rfl
        have e112_4 := f_4
        have hX112 := Evo.step hX110 (fun _ => Nat.le_refl 0) hE112 rfl
        refine fl_ret ?_
        refine hp107 _ _ _ rfl ?_
        refine hp106 _ _ _ rfl ?_
        replace hs := hz101 _ hs
        refine hp101 _ _ _ rfl ?_
        refine hp75 _ _ _ rfl ?_
        refine hp73 _ _ _ rfl ?_
        obtain rfl := osome hs
        exact hret _ _ _ _ (.inl rfl) hd112 (results1_ rfl (RVal.tmp_ e112_4)) ⟨own112, rfl, hX112⟩
      refine fl_skip ?_
      refine hn107 _ _ ?_
      refine hn106 _ _ ?_
      refine rg_plain (n := 25) (rs := []) (own0 := own110) (K := [])
          (bs := [0, 1])
          (ds := [⟨[], [15], [], Fct.val 21 (.int .i64 (ad x88 1))⟩,
          ⟨[0], [], [], Fct.val 15 (.int .i64 (ad x88 1))⟩]) (by kernel_rfl) hz110 hd110 (fun _ h => nomatch h) ?_ ?_
      · refine steps_cons (fun own a wx hf hsl hE => ?_) ?_
        · obtain ⟨s_15, -⟩ := hsl
          exact sg_plain rfl rfl (or_add (s_15.trans e110_15) rfl rfl)
        refine steps_cons (fun own a wx hf hsl hE => ?_) ?_
        · obtain ⟨(f_21 : a.eval (.tmp 21) = .int .i64 (ad x88 1)), -⟩ := hf
          exact sg_plain rfl rfl (or_move f_21)
        exact steps_nil
      intro own113 a113 w113 hd113 hz113 hk113 hf113 hE113
      have e113_2 : a113.eval (.tmp 2) = .pointer (some ⟨g63, 0, none⟩) := (hk113 2 rfl).trans e110_2
      have e113_5 : a113.eval (.tmp 5) = .func (.func 35) #[] #[.pointer (some ⟨g63, 0, none⟩), .pointer (some ⟨g65, 0, none⟩)] := (hk113 5 rfl).trans e110_5
      have e113_14 : a113.eval (.tmp 14) = .int .i64 (b2.length : Int) := (hk113 14 rfl).trans e110_14
      obtain ⟨(f_15 : a113.eval (.tmp 15) = .int .i64 (ad x88 1)), -⟩ := hf113 [1] rfl
      have e113_15 := f_15
      have hX113 := Evo.step hX110 (fun _ => Nat.le_refl 0) hE113 rfl
      have b113_g63 := BlkO.evo (by decide) hE113 b110_g63
      have b113_Ax1 := RdO.evo rfl hE113 b110_Ax1
      have b113_g65 := BlkO.evo (by decide) hE113 b110_g65
      have b113_Ab2 := RdO.evo rfl hE113 b110_Ab2
      exact hn101 _ _ _ hs ⟨own113, hd113, hz113, e113_2, e113_5, e113_14, e113_15, hX113, b113_g63, b113_Ax1, b113_g65, b113_Ab2⟩
    refine fl_exit ?_
    refine hp104 _ _ _ rfl ?_
    replace hs := hz101 _ hs
    refine hp101 _ _ _ rfl ?_
    refine hx75 _ _ ?_
    refine hn73 _ _ ?_
    refine rg_plain_seq (n := 25) (rs := []) (own0 := own103) (K := [])
        (bs := [0, 1, 3, 7])
        (ds := [⟨[], [2], [], Fct.val 22 (.slice Ax1 x1.length cx1)⟩,
        ⟨[0], [], [], Fct.val 23 (.int .i64 (x1.length : Int))⟩,
        ⟨[1], [], [], Fct.val 24 (.bool (decide ((x1.length : Int) = 0)))⟩,
        ⟨[2], [], [], Fct.val 4 (.bool (decide ((x1.length : Int) = 0)))⟩]) (by kernel_rfl) hz103 hd103 (fun _ h => nomatch h) ?_ ?_
    · refine steps_cons (fun own a wx hf hsl hE => ?_) ?_
      · obtain ⟨s_2, -⟩ := hsl
        exact sg_plain rfl rfl (or_load1 to22 (s_2.trans e103_2) (Blk.at_ (BlkO.evo (by decide) hE b103_g63).2 0 rfl))
      refine steps_cons (fun own a wx hf hsl hE => ?_) ?_
      · obtain ⟨(f_22 : a.eval (.tmp 22) = .slice Ax1 x1.length cx1), -⟩ := hf
        exact sg_plain rfl rfl (or_len tu22 f_22 rfl)
      refine steps_cons (fun own a wx hf hsl hE => ?_) ?_
      · obtain ⟨(f_23 : a.eval (.tmp 23) = .int .i64 (x1.length : Int)), -⟩ := hf
        exact sg_plain rfl rfl (or_eql f_23 rfl rfl)
      refine steps_cons (fun own a wx hf hsl hE => ?_) ?_
      · obtain ⟨(f_24 : a.eval (.tmp 24) = .bool (decide ((x1.length : Int) = 0))), -⟩ := hf
        exact sg_plain rfl rfl (or_assign f_24)
      exact steps_nil
    intro own114 a114 w114 hd114 hz114 hk114 hf114 hE114
    obtain ⟨(f_4 : a114.eval (.tmp 4) = .bool (decide ((x1.length : Int) = 0))), -⟩ := hf114 [3] rfl
    have e114_4 := f_4
    have hX114 := Evo.step hX103 (fun _ => Nat.le_refl 0) hE114 rfl
    refine fl_ret ?_
    obtain rfl := osome hs
    exact hret _ _ _ _ (.inl rfl) hd114 (results1_ rfl (RVal.tmp_ e114_4)) ⟨own114, rfl, hX114⟩

theorem law21_known_w (w : World) (r : Bool) (hs : law21_known = some r) :
    Calls Try.prog 7 #[] w fun e w' => ∃ own' : Own, e = .returned (.bool r) ∧ Evo [] (fun _ => 0) own' w w' := by
  refine fl_enter (n := 20) rfl rfl rfl (Nat.le_of_ble_eq_true rfl) ?_
  intro a0 Q hd0 hz0 harg hret
  clear harg
  have hE0 : Evo [] (fun _ => 0) (fun _ => 0) w w := Evo.refl _ _ _
  refine rg_plain_seq (n := 20) (rs := []) (own0 := (fun _ => 0)) (K := [])
      (bs := [0])
      (ds := [⟨[], [], [], Fct.val 0 (.bool false)⟩]) (by kernel_rfl) hz0 hd0 (fun _ h => nomatch h) ?_ ?_
  · refine steps_cons (fun own a wx hf hsl hE => ?_) ?_
    · exact sg_plain rfl rfl (or_assign rfl)
    exact steps_nil
  intro own23 a23 w23 hd23 hz23 hk23 hf23 hE23
  have hX23 := Evo.step hE0 (fun _ => Nat.le_refl 0) hE23 rfl
  refine rg_plain_seq (n := 20) (rs := []) (own0 := own23) (K := [])
      (bs := [0, 0, 0, 0, 15, 31])
      (ds := [⟨[], [], [], Fct.val 3 (.agg #[.int .i64 0, .int .i64 0])⟩,
      ⟨[], [], [], Fct.val 4 (.agg #[.int .i64 8, .int .i64 0])⟩,
      ⟨[], [], [], Fct.val 5 (.agg #[.int .i64 8, .int .i64 8])⟩,
      ⟨[], [], [], Fct.val 6 (.agg #[.int .i64 0, .int .i64 8])⟩,
      ⟨[0, 1, 2, 3], [], [], Fct.row 25 [] 7 25 R25 [(0, 0), (8, 0), (8, 8), (0, 8)]⟩,
      ⟨[4], [], [], Fct.rel [1, 7] (fun l => ∀ (A24 : Option Addr) (cA24 : Nat), l.getD 1 undef = .slice A24 [(0, 0), (8, 0), (8, 8), (0, 8)].length cA24 → l.getD 0 undef = .slice A24 [(0, 0), (8, 0), (8, 8), (0, 8)].length cA24)⟩]) (by kernel_rfl) hz23 hd23 (fun _ h => nomatch h) ?_ ?_
  · refine steps_cons (fun own a wx hf hsl hE => ?_) ?_
    · exact sg_plain rfl rfl (or_k [] rfl rfl trivial (by kernel_rfl))
    refine steps_cons (fun own a wx hf hsl hE => ?_) ?_
    · exact sg_plain rfl rfl (or_k [] rfl rfl trivial (by kernel_rfl))
    refine steps_cons (fun own a wx hf hsl hE => ?_) ?_
    · exact sg_plain rfl rfl (or_k [] rfl rfl trivial (by kernel_rfl))
    refine steps_cons (fun own a wx hf hsl hE => ?_) ?_
    · exact sg_plain rfl rfl (or_k [] rfl rfl trivial (by kernel_rfl))
    refine steps_cons (fun own a wx hf hsl hE => ?_) ?_
    · obtain ⟨(f_3 : a.eval (.tmp 3) = .agg #[.int .i64 0, .int .i64 0]), (f_4 : a.eval (.tmp 4) = .agg #[.int .i64 8, .int .i64 0]), (f_5 : a.eval (.tmp 5) = .agg #[.int .i64 8, .int .i64 8]), (f_6 : a.eval (.tmp 6) = .agg #[.int .i64 0, .int .i64 8]), -⟩ := hf
      exact sg_plain rfl rfl (or_lit (lab := 25) (e := 25) (cs := #[.int .i64 0, .int .i64 0, .int .i64 8, .int .i64 0, .int .i64 8, .int .i64 8, .int .i64 0, .int .i64 8]) (F := E25) (or_new [(3, .agg #[.int .i64 0, .int .i64 0]), (4, .agg #[.int .i64 8, .int .i64 0]), (5, .agg #[.int .i64 8, .int .i64 8]), (6, .agg #[.int .i64 0, .int .i64 8])] rfl rfl ⟨f_3, f_4, f_5, f_6, trivial⟩ (by kernel_rfl)) rfl rfl (show 4 ≤ maxLen by decide))
    refine steps_cons (fun own a wx hf hsl hE => ?_) ?_
    · obtain ⟨⟨⟨A24, cA24⟩, (f_7 : a.eval (.tmp 7) = .slice A24 [(0, 0), (8, 0), (8, 8), (0, 8)].length cA24), (b_A24 : RwO own 25 [] wx 25 R25 A24 cA24 [(0, 0), (8, 0), (8, 8), (0, 8)])⟩, -⟩ := hf
      exact sg_plain rfl rfl (or_mono (f := Fct.val 1 (.slice A24 [(0, 0), (8, 0), (8, 8), (0, 8)].length cA24)) (or_assign f_7) (fun own' a' w' v' hp h => fun _ _ h0' => by cases (f_7.symm.trans ((hp.2 7 (by decide)).symm.trans h0')); exact h))
    exact steps_nil
  intro own26 a26 w26 hd26 hz26 hk26 hf26 hE26
  obtain ⟨⟨⟨A24, cA24⟩, (f_7 : a26.eval (.tmp 7) = .slice A24 [(0, 0), (8, 0), (8, 8), (0, 8)].length cA24), (b_A24 : RwO own26 25 [] w26 25 R25 A24 cA24 [(0, 0), (8, 0), (8, 8), (0, 8)])⟩, (q_1 : ∀ (A24 : Option Addr) (cA24 : Nat), a26.eval (.tmp 7) = .slice A24 [(0, 0), (8, 0), (8, 8), (0, 8)].length cA24 → a26.eval (.tmp 1) = .slice A24 [(0, 0), (8, 0), (8, 8), (0, 8)].length cA24), -⟩ := hf26 [4, 5] rfl
  have f_1 := q_1 _ _ f_7
  have e26_1 := f_1
  have hX26 := Evo.step hX23 (fun _ => Nat.le_refl 0) hE26 rfl
  have b26_A24 := b_A24
  obtain ⟨r27, hr27, hs⟩ := obind hs
  refine rg_plain_seq (n := 20) (rs := []) (own0 := own26) (K := [])
      (bs := [0, 0, 0, 6, 15, 31])
      (ds := [⟨[], [1], [], Fct.val 8 (.slice A24 [(0, 0), (8, 0), (8, 8), (0, 8)].length cA24)⟩,
      ⟨[], [], [], Fct.val 9 (.agg #[.int .i64 2, .int .i64 2])⟩,
      ⟨[], [], [], Fct.val 10 (.agg #[.int .i64 4, .int .i64 9])⟩,
      ⟨[1, 2], [], [], Fct.val 11 (.agg #[.int .i64 2, .int .i64 2, .int .i64 4, .int .i64 9])⟩,
      ⟨[0, 3], [], [], Fct.mems [29] 12 (fun (x : Option Addr × Nat) => .slice x.1 r27.length x.2) (fun (x : Option Addr × Nat) own w => RdO own [29] w R25 x.1 x.2 r27) (fun hk he h => RdO.evo (hits_sub hk (by decide)) he h)⟩,
      ⟨[4], [], [], Fct.rel [2, 12] (fun l => ∀ (A28 : Option Addr) (cA28 : Nat), l.getD 1 undef = .slice A28 r27.length cA28 → l.getD 0 undef = .slice A28 r27.length cA28)⟩]) (by kernel_rfl) hz26 hd26 (fun _ h => nomatch h) ?_ ?_
  · refine steps_cons (fun own a wx hf hsl hE => ?_) ?_
    · obtain ⟨s_1, -⟩ := hsl
      exact sg_plain rfl rfl (or_move (s_1.trans e26_1))
    refine steps_cons (fun own a wx hf hsl hE => ?_) ?_
    · exact sg_plain rfl rfl (or_k [] rfl rfl trivial (by kernel_rfl))
    refine steps_cons (fun own a wx hf hsl hE => ?_) ?_
    · exact sg_plain rfl rfl (or_k [] rfl rfl trivial (by kernel_rfl))
    refine steps_cons (fun own a wx hf hsl hE => ?_) ?_
    · obtain ⟨(f_9 : a.eval (.tmp 9) = .agg #[.int .i64 2, .int .i64 2]), (f_10 : a.eval (.tmp 10) = .agg #[.int .i64 4, .int .i64 9]), -⟩ := hf
      exact sg_plain rfl rfl (or_k [(9, .agg #[.int .i64 2, .int .i64 2]), (10, .agg #[.int .i64 4, .int .i64 9])] rfl rfl ⟨f_9, f_10, trivial⟩ (by kernel_rfl))
    refine steps_cons (fun own a wx hf hsl hE => ?_) ?_
    · obtain ⟨(f_8 : a.eval (.tmp 8) = .slice A24 [(0, 0), (8, 0), (8, 8), (0, 8)].length cA24), (f_11 : a.eval (.tmp 11) = .agg #[.int .i64 2, .int .i64 2, .int .i64 4, .int .i64 9]), -⟩ := hf
      exact sg_plain rfl rfl (or_call cf10 (args2 f_8 f_11) (polyclip_Ring_w _ [(0, 0), (8, 0), (8, 8), (0, 8)] A24 cA24 ((2, 2), (4, 9)) (RdO.zero (RwO.rd (RwO.evo rfl hE b26_A24))) r27 hr27) (post_mems (m := (fun _ => 0)) (m' := (look0 [(1, 29)])) (fun _ _ => .inl rfl) (fun own' w' a' x h1 h => ⟨x, h1, RdO.back_ h (by decide)⟩)))
    refine steps_cons (fun own a wx hf hsl hE => ?_) ?_
    · obtain ⟨⟨⟨A28, cA28⟩, (f_12 : a.eval (.tmp 12) = .slice A28 r27.length cA28), (b_A28 : RdO own [29] wx R25 A28 cA28 r27)⟩, -⟩ := hf
      exact sg_plain rfl rfl (or_mono (f := Fct.val 2 (.slice A28 r27.length cA28)) (or_assign f_12) (fun own' a' w' v' hp h => fun _ _ h0' => by cases (f_12.symm.trans ((hp.2 12 (by decide)).symm.trans h0')); exact h))
    exact steps_nil
  intro own30 a30 w30 hd30 hz30 hk30 hf30 hE30
  obtain ⟨⟨⟨A28, cA28⟩, (f_12 : a30.eval (.tmp 12) = .slice A28 r27.length cA28), (b_A28 : RdO own30 [29] w30 R25 A28 cA28 r27)⟩, (q_2 : ∀ (A28 : Option Addr) (cA28 : Nat), a30.eval (.tmp 12) = .slice A28 r27.length cA28 → a30.eval (.tmp 2) = .slice A28 r27.length cA28), -⟩ := hf30 [4, 5] rfl
  have f_2 := q_2 _ _ f_12
  have e30_2 := f_2
  have hX30 := Evo.step hX26 (fun _ => Nat.le_refl 0) hE30 rfl
  have b30_A28 := b_A28
  obtain ⟨r33, hr33, hs⟩ := obind hs
  refine rg_plain_seq (n := 20) (rs := []) (own0 := own30) (K := [])
      (bs := [0, 0, 0, 0, 0, 30, 63, 127])
      (ds := [⟨[], [2], [], Fct.val 13 (.slice A28 r27.length cA28)⟩,
      ⟨[], [], [], Fct.val 14 (.agg #[.int .i64 2, .int .i64 2])⟩,
      ⟨[], [], [], Fct.val 15 (.agg #[.int .i64 4, .int .i64 2])⟩,
      ⟨[], [], [], Fct.val 16 (.agg #[.int .i64 4, .int .i64 8])⟩,
      ⟨[], [], [], Fct.val 17 (.agg #[.int .i64 2, .int .i64 8])⟩,
      ⟨[1, 2, 3, 4], [], [], Fct.row 32 [] 18 25 R25 [(2, 2), (4, 2), (4, 8), (2, 8)]⟩,
      ⟨[0, 5], [], [], Fct.val 19 (.bool r33)⟩,
      ⟨[6], [], [], Fct.val 0 (.bool r33)⟩]) (by kernel_rfl) hz30 hd30 (fun _ h => nomatch h) ?_ ?_
  · refine steps_cons (fun own a wx hf hsl hE => ?_) ?_
    · obtain ⟨s_2, -⟩ := hsl
      exact sg_plain rfl rfl (or_move (s_2.trans e30_2))
    refine steps_cons (fun own a wx hf hsl hE => ?_) ?_
    · exact sg_plain rfl rfl (or_k [] rfl rfl trivial (by kernel_rfl))
    refine steps_cons (fun own a wx hf hsl hE => ?_) ?_
    · exact sg_plain rfl rfl (or_k [] rfl rfl trivial (by kernel_rfl))
    refine steps_cons (fun own a wx hf hsl hE => ?_) ?_
    · exact sg_plain rfl rfl (or_k [] rfl rfl trivial (by kernel_rfl))
    refine steps_cons (fun own a wx hf hsl hE => ?_) ?_
    · exact sg_plain rfl rfl (or_k [] rfl rfl trivial (by kernel_rfl))
    refine steps_cons (fun own a wx hf hsl hE => ?_) ?_
    · obtain ⟨(f_14 : a.eval (.tmp 14) = .agg #[.int .i64 2, .int .i64 2]), (f_15 : a.eval (.tmp 15) = .agg #[.int .i64 4, .int .i64 2]), (f_16 : a.eval (.tmp 16) = .agg #[.int .i64 4, .int .i64 8]), (f_17 : a.eval (.tmp 17) = .agg #[.int .i64 2, .int .i64 8]), -⟩ := hf
      exact sg_plain rfl rfl (or_lit (lab := 32) (e := 25) (cs := #[.int .i64 2, .int .i64 2, .int .i64 4, .int .i64 2, .int .i64 4, .int .i64 8, .int .i64 2, .int .i64 8]) (F := E25) (or_new [(14, .agg #[.int .i64 2, .int .i64 2]), (15, .agg #[.int .i64 4, .int .i64 2]), (16, .agg #[.int .i64 4, .int .i64 8]), (17, .agg #[.int .i64 2, .int .i64 8])] rfl rfl ⟨f_14, f_15, f_16, f_17, trivial⟩ (by kernel_rfl)) rfl rfl (show 4 ≤ maxLen by decide))
    refine steps_cons (fun own a wx hf hsl hE => ?_) ?_
    · obtain ⟨(f_13 : a.eval (.tmp 13) = .slice A28 r27.length cA28), ⟨⟨A31, cA31⟩, (f_18 : a.eval (.tmp 18) = .slice A31 [(2, 2), (4, 2), (4, 8), (2, 8)].length cA31), (b_A31 : RwO own 32 [] wx 25 R25 A31 cA31 [(2, 2), (4, 2), (4, 8), (2, 8)])⟩, -⟩ := hf
      exact sg_plain rfl rfl (or_call cf21 (args2 f_13 f_18) (ring_Alike_w _ r27 A28 cA28 [(2, 2), (4, 2), (4, 8), (2, 8)] A31 cA31 (RdO.zero (RdO.evo rfl hE b30_A28)) (RdO.zero (RwO.rd b_A31)) r33 hr33) post_val)
    refine steps_cons (fun own a wx hf hsl hE => ?_) ?_
    · obtain ⟨(f_19 : a.eval (.tmp 19) = .bool r33), -⟩ := hf
      exact sg_plain rfl rfl (or_assign f_19)
    exact steps_nil
  intro own34 a34 w34 hd34 hz34 hk34 hf34 hE34
  obtain ⟨(f_0 : a34.eval (.tmp 0) = .bool r33), -⟩ := hf34 [7] rfl
  have e34_0 := f_0
  have hX34 := Evo.step hX30 (fun _ => Nat.le_refl 0) hE34 rfl
  refine fl_ret ?_
  obtain rfl := (osome hs).symm
  exact hret _ _ _ _ (.inl rfl) hd34 (results1_ rfl (RVal.tmp_ e34_0)) ⟨own34, rfl, hX34⟩

end Go.Proofs.Ytopnbammdeimcaa
