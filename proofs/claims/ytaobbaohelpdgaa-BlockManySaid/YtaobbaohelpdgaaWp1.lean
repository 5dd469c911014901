/-
  Chapter 26. The walks.
-/
import Derived.Test.YtaobbaohelpdgaaBase
import Derived.Test.YtaobbaohelpdgaaTy
import Derived.Test.YtaobbaohelpdgaaSp1
namespace Go.Proofs.Ytaobbaohelpdgaa
open Go.RowKit
set_option linter.unusedVariables false
set_option maxRecDepth 10000
set_option maxHeartbeats 2000000 in
theorem block_many_w (w : World) (n1 : (List ((List (Int × Int)) × Int × Int)) × (List (List (List Int)))) (An1_0 : Option Addr) (cn1_0 : Nat) (An1_1 : Option Addr) (cn1_1 : Nat) (hAn1_0 : RdO (fun _ => 0) [0] w R59 An1_0 cn1_0 n1.1) (hAn1_1 : RdO (fun _ => 0) [0] w R27 An1_1 cn1_1 n1.2) (r : Bool) (hs : block_many n1 = some r) :
    Calls Try.prog 20 #[.agg #[.slice An1_0 n1.1.length cn1_0, .slice An1_1 n1.2.length cn1_1]] w fun e w' => ∃ own' : Own, e = .returned (.bool r) ∧ Evo [] (fun _ => 0) own' w w' := by
  refine fl_enter (n := 70) rfl rfl rfl (Nat.le_of_ble_eq_true rfl) ?_
  intro a0 Q hd0 hz0 harg hret
  have ha0 := harg 0 _ rfl
  clear harg
  have hE0 : Evo [] (fun _ => 0) (fun _ => 0) w w := Evo.refl _ _ _
  refine rg_plain_seq (n := 70) (rs := []) (own0 := (fun _ => 0)) (K := [])
      (bs := [0, 0])
      (ds := [⟨[], [0], [], Fct.blk 222 1 (fun g => .pointer (some ⟨g, 0, none⟩)) 25 #[.slice An1_0 n1.1.length cn1_0, .slice An1_1 n1.2.length cn1_1]⟩,
      ⟨[], [], [], Fct.val 2 (.bool false)⟩]) (by kernel_rfl) hz0 hd0 (fun _ h => nomatch h) ?_ ?_
  · refine steps_cons (fun own a wx hf hsl hE => ?_) ?_
    · obtain ⟨s_0, -⟩ := hsl
      exact sg_plain rfl rfl (or_new [(0, .agg #[.slice An1_0 n1.1.length cn1_0, .slice An1_1 n1.2.length cn1_1])] rfl rfl ⟨(s_0.trans ha0), trivial⟩ (by kernel_rfl))
    refine steps_cons (fun own a wx hf hsl hE => ?_) ?_
    · exact sg_plain rfl rfl (or_assign rfl)
    exact steps_nil
  intro own223 a223 w223 hd223 hz223 hk223 hf223 hE223
  obtain ⟨⟨g221, (f_1 : a223.eval (.tmp 1) = .pointer (some ⟨g221, 0, none⟩)), (b_g221 : BlkO own223 222 w223 g221 25 #[.slice An1_0 n1.1.length cn1_0, .slice An1_1 n1.2.length cn1_1])⟩, -⟩ := hf223 [0] rfl
  have e223_1 := f_1
  have hX223 := Evo.step hE0 (fun _ => Nat.le_refl 0) hE223 rfl
  have b223_An1_0 := RdO.evo rfl hE223 hAn1_0
  have b223_An1_1 := RdO.evo rfl hE223 hAn1_1
  have b223_g221 := b_g221
  refine rg_plain_seq (n := 70) (rs := []) (own0 := own223) (K := [])
      (bs := [0, 1, 3])
      (ds := [⟨[], [], [], Fct.val 3 (.int .i64 0)⟩,
      ⟨[], [], [], Fct.val 4 (.int .i64 0)⟩,
      ⟨[], [], [], Fct.val 5 (.int .i64 0)⟩]) (by kernel_rfl) hz223 hd223 (fun _ h => nomatch h) ?_ ?_
  · refine steps_cons (fun own a wx hf hsl hE => ?_) ?_
    · exact sg_plain rfl rfl (or_assign rfl)
    refine steps_cons (fun own a wx hf hsl hE => ?_) ?_
    · exact sg_plain rfl rfl (or_assign rfl)
    refine steps_cons (fun own a wx hf hsl hE => ?_) ?_
    · exact sg_plain rfl rfl (or_assign rfl)
    exact steps_nil
  intro own224 a224 w224 hd224 hz224 hk224 hf224 hE224
  have e224_1 : a224.eval (.tmp 1) = .pointer (some ⟨g221, 0, none⟩) := (hk224 1 rfl).trans e223_1
  obtain ⟨(f_3 : a224.eval (.tmp 3) = .int .i64 0), (f_4 : a224.eval (.tmp 4) = .int .i64 0), (f_5 : a224.eval (.tmp 5) = .int .i64 0), -⟩ := hf224 [0, 1, 2] rfl
  have e224_3 := f_3
  have e224_4 := f_4
  have e224_5 := f_5
  have hX224 := Evo.step hX223 (fun _ => Nat.le_refl 0) hE224 rfl
  have b224_An1_0 := RdO.evo rfl hE224 b223_An1_0
  have b224_An1_1 := RdO.evo rfl hE224 b223_An1_1
  have b224_g221 := BlkO.evo (by decide) hE224 b223_g221
  refine fl_seq (fun Q225 hn225 hp225 => ?_)
  refine rg_plain_seq (n := 70) (rs := []) (own0 := own224) (K := [])
      (bs := [0, 1, 3, 0])
      (ds := [⟨[], [1], [], Fct.val 12 (.pointer (some ⟨g221, 0, none⟩))⟩,
      ⟨[0], [], [], Fct.val 13 (.slice An1_0 n1.1.length cn1_0)⟩,
      ⟨[1], [], [], Fct.val 14 (.int .i64 (n1.1.length : Int))⟩,
      ⟨[], [], [], Fct.val 15 (.int .i64 0)⟩]) (by kernel_rfl) hz224 hd224 (fun _ h => nomatch h) ?_ ?_
  · refine steps_cons (fun own a wx hf hsl hE => ?_) ?_
    · obtain ⟨s_1, -⟩ := hsl
      exact sg_plain rfl rfl (or_field fo25_0 (s_1.trans e224_1) (by rfl))
    refine steps_cons (fun own a wx hf hsl hE => ?_) ?_
    · obtain ⟨(f_12 : a.eval (.tmp 12) = .pointer (some ⟨g221, 0, none⟩)), -⟩ := hf
      exact sg_plain rfl rfl (or_load1 to22 f_12 (Blk.at_ (BlkO.evo (by decide) hE b224_g221).2 0 rfl))
    refine steps_cons (fun own a wx hf hsl hE => ?_) ?_
    · obtain ⟨(f_13 : a.eval (.tmp 13) = .slice An1_0 n1.1.length cn1_0), -⟩ := hf
      exact sg_plain rfl rfl (or_len tu22 f_13 rfl)
    refine steps_cons (fun own a wx hf hsl hE => ?_) ?_
    · exact sg_plain rfl rfl (or_move rfl)
    exact steps_nil
  intro own226 a226 w226 hd226 hz226 hk226 hf226 hE226
  have e226_1 : a226.eval (.tmp 1) = .pointer (some ⟨g221, 0, none⟩) := (hk226 1 rfl).trans e224_1
  have e226_3 : a226.eval (.tmp 3) = .int .i64 0 := (hk226 3 rfl).trans e224_3
  have e226_4 : a226.eval (.tmp 4) = .int .i64 0 := (hk226 4 rfl).trans e224_4
  have e226_5 : a226.eval (.tmp 5) = .int .i64 0 := (hk226 5 rfl).trans e224_5
  obtain ⟨(f_13 : a226.eval (.tmp 13) = .slice An1_0 n1.1.length cn1_0), (f_14 : a226.eval (.tmp 14) = .int .i64 (n1.1.length : Int)), (f_15 : a226.eval (.tmp 15) = .int .i64 0), -⟩ := hf226 [1, 2, 3] rfl
  have e226_13 := f_13
  have e226_14 := f_14
  have e226_15 := f_15
  have hX226 := Evo.step hX224 (fun _ => Nat.le_refl 0) hE226 rfl
  have b226_An1_0 := RdO.evo rfl hE226 b224_An1_0
  have b226_An1_1 := RdO.evo rfl hE226 b224_An1_1
  have b226_g221 := BlkO.evo (by decide) hE226 b224_g221
  refine fl_block (fun Q227 hn227 hx227 hp227 => ?_)
  refine fl_loop (body := (fun s => block_many_b1 n1 s.1 s.2)) (z := r) (show loopO _ _ = _ from hs) (fun (s : Int × Int) a wx => match s with | (points242, x243) => ∃ (ox : Own), a.defers = [] ∧ a.tmps.size = 70 ∧ a.eval (.tmp 1) = .pointer (some ⟨g221, 0, none⟩) ∧ a.eval (.tmp 3) = .int .i64 points242 ∧ a.eval (.tmp 4) = .int .i64 0 ∧ a.eval (.tmp 5) = .int .i64 0 ∧ a.eval (.tmp 13) = .slice An1_0 n1.1.length cn1_0 ∧ a.eval (.tmp 14) = .int .i64 (n1.1.length : Int) ∧ a.eval (.tmp 15) = .int .i64 x243 ∧ Evo [] (fun _ => 0) ox w wx ∧ BlkO ox 222 wx g221 25 #[.slice An1_0 n1.1.length cn1_0, .slice An1_1 n1.2.length cn1_1] ∧ RdO ox [0] wx R59 An1_0 cn1_0 n1.1 ∧ RdO ox [0] wx R27 An1_1 cn1_1 n1.2) ?_ ?_
  · exact ⟨own226, hd226, hz226, e226_1, e226_3, e226_4, e226_5, e226_13, e226_14, e226_15, hX226, b226_g221, b226_An1_0, b226_An1_1⟩
  · rintro ⟨points242, x243⟩ zz258 a258 w258 ⟨own258, hd259, hz259, e259_1, e259_3, e259_4, e259_5, e259_13, e259_14, e259_15, hE259, b259_g221, b259_An1_0, b259_An1_1⟩ hs Q258 hn258 hp258 hz258
    have hs : block_many_b1 n1 points242 x243 = some zz258 := hs
    refine rg_plain_seq (n := 70) (rs := []) (own0 := own258) (K := [])
        (bs := [0])
        (ds := [⟨[], [15, 14], [], Fct.val 16 (.bool (decide (x243 < (n1.1.length : Int))))⟩]) (by kernel_rfl) hz259 hd259 (fun _ h => nomatch h) ?_ ?_
    · refine steps_cons (fun own a wx hf hsl hE => ?_) ?_
      · obtain ⟨s_15, s_14, -⟩ := hsl
        exact sg_plain rfl rfl (or_lss (s_15.trans e259_15) (s_14.trans e259_14) rfl)
      exact steps_nil
    intro own260 a260 w260 hd260 hz260 hk260 hf260 hE260
    have e260_1 : a260.eval (.tmp 1) = .pointer (some ⟨g221, 0, none⟩) := (hk260 1 rfl).trans e259_1
    have e260_3 : a260.eval (.tmp 3) = .int .i64 points242 := (hk260 3 rfl).trans e259_3
    have e260_4 : a260.eval (.tmp 4) = .int .i64 0 := (hk260 4 rfl).trans e259_4
    have e260_5 : a260.eval (.tmp 5) = .int .i64 0 := (hk260 5 rfl).trans e259_5
    have e260_13 : a260.eval (.tmp 13) = .slice An1_0 n1.1.length cn1_0 := (hk260 13 rfl).trans e259_13
    have e260_14 : a260.eval (.tmp 14) = .int .i64 (n1.1.length : Int) := (hk260 14 rfl).trans e259_14
    have e260_15 : a260.eval (.tmp 15) = .int .i64 x243 := (hk260 15 rfl).trans e259_15
    obtain ⟨(f_16 : a260.eval (.tmp 16) = .bool (decide (x243 < (n1.1.length : Int)))), -⟩ := hf260 [0] rfl
    have e260_16 := f_16
    have hX260 := Evo.step hE259 (fun _ => Nat.le_refl 0) hE260 rfl
    have b260_g221 := BlkO.evo (by decide) hE260 b259_g221
    have b260_An1_0 := RdO.evo rfl hE260 b259_An1_0
    have b260_An1_1 := RdO.evo rfl hE260 b259_An1_1
    refine fl_seq (fun Q261 hn261 hp261 => ?_)
    refine fl_cond e260_16 hs (fun c262 hs => ?_) (fun c262 hs => ?_)
    · refine fl_skip ?_
      refine hn261 _ _ ?_
      refine fl_seq (fun Q263 hn263 hp263 => ?_)
      refine fl_block (fun Q264 hn264 hx264 hp264 => ?_)
      obtain ⟨x265, hx265, hs⟩ := obind hs
      refine rg_plain_seq (n := 70) (rs := []) (own0 := own260) (K := [268])
          (bs := [0, 1, 0, 7])
          (ds := [⟨[], [13, 15], [], Fct.val 17 (.pointer (some ((adr An1_0).add ((x243 : Int).toNat * R59.s))))⟩,
          ⟨[0], [], [], Fct.nest X59 [0] 18 (fun (y : ((Option Addr × Nat) × Unit × Unit)) => .agg #[.slice y.1.1 x265.1.length y.1.2, .int .i64 x265.2.1, .int .i64 x265.2.2]) x265⟩,
          ⟨[], [], [], Fct.blk 268 7 (fun g => .pointer (some ⟨g, 0, none⟩)) 59 #[.slice none 0 0, .int .i64 0, .int .i64 0]⟩,
          ⟨[2, 1], [], [268], Fct.by_ [269] [7, 18] (fun l own w => ∃ g267 : Nat, l.getD 0 undef = .pointer (some ⟨g267, 0, none⟩) ∧ (∀ (A266 : Option Addr) (cA266 : Nat), l.getD 1 undef = .agg #[.slice A266 x265.1.length cA266, .int .i64 x265.2.1, .int .i64 x265.2.2] → BlkO own 269 w g267 59 #[.slice A266 x265.1.length cA266, .int .i64 x265.2.1, .int .i64 x265.2.2])) (fun hk he h => by obtain ⟨g, e, h⟩ := h; exact ⟨g, e, fun _ _ h0' => BlkO.evo (not_hit hk (by decide)) he (h _ _ h0')⟩)⟩]) (by kernel_rfl) hz260 hd260 (fun _ h => nomatch h) ?_ ?_
      · refine steps_cons (fun own a wx hf hsl hE => ?_) ?_
        · obtain ⟨s_13, s_15, -⟩ := hsl
          exact sg_plain rfl rfl (or_index (R := R59) (l := n1.1) tl22 (s_13.trans e260_13) (s_15.trans e260_15) (RdO.some_ b260_An1_0 hx265) hx265)
        refine steps_cons (fun own a wx hf hsl hE => ?_) ?_
        · obtain ⟨(f_17 : a.eval (.tmp 17) = .pointer (some ((adr An1_0).add ((x243 : Int).toNat * R59.s)))), -⟩ := hf
          exact sg_plain rfl rfl (or_loadN X59 0 3 ta59 f_17 (Addr.add_zero' _).symm (RdO.evo rfl hE b260_An1_0) hx265 (fun _ => rfl) (fun _ => rfl))
        refine steps_cons (fun own a wx hf hsl hE => ?_) ?_
        · exact sg_plain rfl rfl (or_new [] rfl rfl trivial (by kernel_rfl))
        refine steps_cons (fun own a wx hf hsl hE => ?_) ?_
        · obtain ⟨⟨g267, (f_7 : a.eval (.tmp 7) = .pointer (some ⟨g267, 0, none⟩)), (b_g267 : BlkO own 268 wx g267 59 #[.slice none 0 0, .int .i64 0, .int .i64 0])⟩, ⟨⟨⟨A266, cA266⟩, _, _⟩, (f_18 : a.eval (.tmp 18) = .agg #[.slice A266 x265.1.length cA266, .int .i64 x265.2.1, .int .i64 x265.2.2]), ⟨(b_A266 : RdO own [0] wx R56 A266 cA266 x265.1), -, -⟩⟩, -⟩ := hf
          exact sg_plain rfl rfl (or_store (l := #[.slice A266 x265.1.length cA266, .int .i64 x265.2.1, .int .i64 x265.2.2]) (lab := 268) (lab2 := 269) ts59 f_7 f_18 b_g267 (by simp) (by kernel_rfl) (mem_of rfl) (by decide) (by kernel_rfl) (fun own' a' w' ha hb => ⟨_, (ha 7).trans f_7, fun _ _ h0' => by cases (f_18.symm.trans ((ha 18).symm.trans h0')); exact hb⟩))
        exact steps_nil
      intro own270 a270 w270 hd270 hz270 hk270 hf270 hE270
      have e270_1 : a270.eval (.tmp 1) = .pointer (some ⟨g221, 0, none⟩) := (hk270 1 rfl).trans e260_1
      have e270_3 : a270.eval (.tmp 3) = .int .i64 points242 := (hk270 3 rfl).trans e260_3
      have e270_4 : a270.eval (.tmp 4) = .int .i64 0 := (hk270 4 rfl).trans e260_4
      have e270_5 : a270.eval (.tmp 5) = .int .i64 0 := (hk270 5 rfl).trans e260_5
      have e270_13 : a270.eval (.tmp 13) = .slice An1_0 n1.1.length cn1_0 := (hk270 13 rfl).trans e260_13
      have e270_14 : a270.eval (.tmp 14) = .int .i64 (n1.1.length : Int) := (hk270 14 rfl).trans e260_14
      have e270_15 : a270.eval (.tmp 15) = .int .i64 x243 := (hk270 15 rfl).trans e260_15
      obtain ⟨⟨⟨⟨A266, cA266⟩, _, _⟩, (f_18 : a270.eval (.tmp 18) = .agg #[.slice A266 x265.1.length cA266, .int .i64 x265.2.1, .int .i64 x265.2.2]), ⟨(b_A266 : RdO own270 [0] w270 R56 A266 cA266 x265.1), -, -⟩⟩, ⟨g267, (f_7 : a270.eval (.tmp 7) = .pointer (some ⟨g267, 0, none⟩)), (bq_g267 : ∀ (A266 : Option Addr) (cA266 : Nat), a270.eval (.tmp 18) = .agg #[.slice A266 x265.1.length cA266, .int .i64 x265.2.1, .int .i64 x265.2.2] → BlkO own270 269 w270 g267 59 #[.slice A266 x265.1.length cA266, .int .i64 x265.2.1, .int .i64 x265.2.2])⟩, -⟩ := hf270 [1, 3] rfl
      have b_g267 := bq_g267 _ _ f_18
      have e270_7 := f_7
      have hX270 := Evo.step hX260 (fun _ => Nat.le_refl 0) hE270 rfl
      have b270_g221 := BlkO.evo (by decide) hE270 b260_g221
      have b270_An1_0 := RdO.evo rfl hE270 b260_An1_0
      have b270_An1_1 := RdO.evo rfl hE270 b260_An1_1
      have b270_A266 := b_A266
      have b270_g267 := b_g267
      refine rg_plain (n := 70) (rs := []) (own0 := own270) (K := [])
          (bs := [0, 0, 2, 6, 15, 31])
          (ds := [⟨[], [3], [], Fct.val 19 (.int .i64 points242)⟩,
          ⟨[], [7], [], Fct.val 20 (.pointer (some ⟨g267, 0, none⟩))⟩,
          ⟨[1], [], [], Fct.val 21 (.slice A266 x265.1.length cA266)⟩,
          ⟨[2], [], [], Fct.val 22 (.int .i64 (x265.1.length : Int))⟩,
          ⟨[0, 3], [], [], Fct.val 23 (.int .i64 (ad points242 (x265.1.length : Int)))⟩,
          ⟨[4], [], [], Fct.val 3 (.int .i64 (ad points242 (x265.1.length : Int)))⟩]) (by kernel_rfl) hz270 hd270 (fun _ h => nomatch h) ?_ ?_
      · refine steps_cons (fun own a wx hf hsl hE => ?_) ?_
        · obtain ⟨s_3, -⟩ := hsl
          exact sg_plain rfl rfl (or_move (s_3.trans e270_3))
        refine steps_cons (fun own a wx hf hsl hE => ?_) ?_
        · obtain ⟨s_7, -⟩ := hsl
          exact sg_plain rfl rfl (or_field fo59_0 (s_7.trans e270_7) (by rfl))
        refine steps_cons (fun own a wx hf hsl hE => ?_) ?_
        · obtain ⟨(f_20 : a.eval (.tmp 20) = .pointer (some ⟨g267, 0, none⟩)), -⟩ := hf
          exact sg_plain rfl rfl (or_load1 to57 f_20 (Blk.at_ (BlkO.evo (by decide) hE b270_g267).2 0 rfl))
        refine steps_cons (fun own a wx hf hsl hE => ?_) ?_
        · obtain ⟨(f_21 : a.eval (.tmp 21) = .slice A266 x265.1.length cA266), -⟩ := hf
          exact sg_plain rfl rfl (or_len tu57 f_21 rfl)
        refine steps_cons (fun own a wx hf hsl hE => ?_) ?_
        · obtain ⟨(f_19 : a.eval (.tmp 19) = .int .i64 points242), (f_22 : a.eval (.tmp 22) = .int .i64 (x265.1.length : Int)), -⟩ := hf
          exact sg_plain rfl rfl (or_add f_19 f_22 rfl)
        refine steps_cons (fun own a wx hf hsl hE => ?_) ?_
        · obtain ⟨(f_23 : a.eval (.tmp 23) = .int .i64 (ad points242 (x265.1.length : Int))), -⟩ := hf
          exact sg_plain rfl rfl (or_assign f_23)
        exact steps_nil
      intro own271 a271 w271 hd271 hz271 hk271 hf271 hE271
      have e271_1 : a271.eval (.tmp 1) = .pointer (some ⟨g221, 0, none⟩) := (hk271 1 rfl).trans e270_1
      have e271_4 : a271.eval (.tmp 4) = .int .i64 0 := (hk271 4 rfl).trans e270_4
      have e271_5 : a271.eval (.tmp 5) = .int .i64 0 := (hk271 5 rfl).trans e270_5
      have e271_13 : a271.eval (.tmp 13) = .slice An1_0 n1.1.length cn1_0 := (hk271 13 rfl).trans e270_13
      have e271_14 : a271.eval (.tmp 14) = .int .i64 (n1.1.length : Int) := (hk271 14 rfl).trans e270_14
      have e271_15 : a271.eval (.tmp 15) = .int .i64 x243 := (hk271 15 rfl).trans e270_15
      obtain ⟨(f_3 : a271.eval (.tmp 3) = .int .i64 (ad points242 (x265.1.length : Int))), -⟩ := hf271 [5] rfl
      have e271_3 := f_3
      have hX271 := Evo.step hX270 (fun _ => Nat.le_refl 0) hE271 rfl
      have b271_g221 := BlkO.evo (by decide) hE271 b270_g221
      have b271_An1_0 := RdO.evo rfl hE271 b270_An1_0
      have b271_An1_1 := RdO.evo rfl hE271 b270_An1_1
      refine hn264 _ _ ?_
      refine hn263 _ _ ?_
      refine rg_plain (n := 70) (rs := []) (own0 := own271) (K := [])
          (bs := [0, 1])
          (ds := [⟨[], [15], [], Fct.val 24 (.int .i64 (ad x243 1))⟩,
          ⟨[0], [], [], Fct.val 15 (.int .i64 (ad x243 1))⟩]) (by kernel_rfl) hz271 hd271 (fun _ h => nomatch h) ?_ ?_
      · refine steps_cons (fun own a wx hf hsl hE => ?_) ?_
        · obtain ⟨s_15, -⟩ := hsl
          exact sg_plain rfl rfl (or_add (s_15.trans e271_15) rfl rfl)
        refine steps_cons (fun own a wx hf hsl hE => ?_) ?_
        · obtain ⟨(f_24 : a.eval (.tmp 24) = .int .i64 (ad x243 1)), -⟩ := hf
          exact sg_plain rfl rfl (or_move f_24)
        exact steps_nil
      intro own272 a272 w272 hd272 hz272 hk272 hf272 hE272
      have e272_1 : a272.eval (.tmp 1) = .pointer (some ⟨g221, 0, none⟩) := (hk272 1 rfl).trans e271_1
      have e272_3 : a272.eval (.tmp 3) = .int .i64 (ad points242 (x265.1.length : Int)) := (hk272 3 rfl).trans e271_3
      have e272_4 : a272.eval (.tmp 4) = .int .i64 0 := (hk272 4 rfl).trans e271_4
      have e272_5 : a272.eval (.tmp 5) = .int .i64 0 := (hk272 5 rfl).trans e271_5
      have e272_13 : a272.eval (.tmp 13) = .slice An1_0 n1.1.length cn1_0 := (hk272 13 rfl).trans e271_13
      have e272_14 : a272.eval (.tmp 14) = .int .i64 (n1.1.length : Int) := (hk272 14 rfl).trans e271_14
      obtain ⟨(f_15 : a272.eval (.tmp 15) = .int .i64 (ad x243 1)), -⟩ := hf272 [1] rfl
      have e272_15 := f_15
      have hX272 := Evo.step hX271 (fun _ => Nat.le_refl 0) hE272 rfl
      have b272_g221 := BlkO.evo (by decide) hE272 b271_g221
      have b272_An1_0 := RdO.evo rfl hE272 b271_An1_0
      have b272_An1_1 := RdO.evo rfl hE272 b271_An1_1
      exact hn258 _ _ _ hs ⟨own272, hd272, hz272, e272_1, e272_3, e272_4, e272_5, e272_13, e272_14, e272_15, hX272, b272_g221, b272_An1_0, b272_An1_1⟩
    refine fl_exit ?_
    refine hp261 _ _ _ rfl ?_
    replace hs := hz258 _ hs
    refine hp258 _ _ _ rfl ?_
    refine hx227 _ _ ?_
    refine hn225 _ _ ?_
    refine fl_seq (fun Q273 hn273 hp273 => ?_)
    refine rg_plain_seq (n := 70) (rs := []) (own0 := own260) (K := [])
        (bs := [0, 1, 3, 0])
        (ds := [⟨[], [1], [], Fct.val 25 (.pointer (some ⟨g221, 1, none⟩))⟩,
        ⟨[0], [], [], Fct.val 26 (.slice An1_1 n1.2.length cn1_1)⟩,
        ⟨[1], [], [], Fct.val 27 (.int .i64 (n1.2.length : Int))⟩,
        ⟨[], [], [], Fct.val 28 (.int .i64 0)⟩]) (by kernel_rfl) hz260 hd260 (fun _ h => nomatch h) ?_ ?_
    · refine steps_cons (fun own a wx hf hsl hE => ?_) ?_
      · obtain ⟨s_1, -⟩ := hsl
        exact sg_plain rfl rfl (or_field fo25_1 (s_1.trans e260_1) (by rfl))
      refine steps_cons (fun own a wx hf hsl hE => ?_) ?_
      · obtain ⟨(f_25 : a.eval (.tmp 25) = .pointer (some ⟨g221, 1, none⟩)), -⟩ := hf
        exact sg_plain rfl rfl (or_load1 to23 f_25 (Blk.at_ (BlkO.evo (by decide) hE b260_g221).2 1 rfl))
      refine steps_cons (fun own a wx hf hsl hE => ?_) ?_
      · obtain ⟨(f_26 : a.eval (.tmp 26) = .slice An1_1 n1.2.length cn1_1), -⟩ := hf
        exact sg_plain rfl rfl (or_len tu23 f_26 rfl)
      refine steps_cons (fun own a wx hf hsl hE => ?_) ?_
      · exact sg_plain rfl rfl (or_move rfl)
      exact steps_nil
    intro own274 a274 w274 hd274 hz274 hk274 hf274 hE274
    have e274_1 : a274.eval (.tmp 1) = .pointer (some ⟨g221, 0, none⟩) := (hk274 1 rfl).trans e260_1
    have e274_3 : a274.eval (.tmp 3) = .int .i64 points242 := (hk274 3 rfl).trans e260_3
    have e274_4 : a274.eval (.tmp 4) = .int .i64 0 := (hk274 4 rfl).trans e260_4
    have e274_5 : a274.eval (.tmp 5) = .int .i64 0 := (hk274 5 rfl).trans e260_5
    obtain ⟨(f_26 : a274.eval (.tmp 26) = .slice An1_1 n1.2.length cn1_1), (f_27 : a274.eval (.tmp 27) = .int .i64 (n1.2.length : Int)), (f_28 : a274.eval (.tmp 28) = .int .i64 0), -⟩ := hf274 [1, 2, 3] rfl
    have e274_26 := f_26
    have e274_27 := f_27
    have e274_28 := f_28
    have hX274 := Evo.step hX260 (fun _ => Nat.le_refl 0) hE274 rfl
    have b274_g221 := BlkO.evo (by decide) hE274 b260_g221
    have b274_An1_0 := RdO.evo rfl hE274 b260_An1_0
    have b274_An1_1 := RdO.evo rfl hE274 b260_An1_1
    refine fl_block (fun Q275 hn275 hx275 hp275 => ?_)
    refine fl_loop (body := (fun s => block_many_b2 n1 points242 s.1 s.2.1 s.2.2)) (z := r) (show loopO _ _ = _ from hs) (fun (s : Int × Int × Int) a wx => match s with | (rings325, refs326, x327) => ∃ (ox : Own), a.defers = [] ∧ a.tmps.size = 70 ∧ a.eval (.tmp 1) = .pointer (some ⟨g221, 0, none⟩) ∧ a.eval (.tmp 3) = .int .i64 points242 ∧ a.eval (.tmp 4) = .int .i64 rings325 ∧ a.eval (.tmp 5) = .int .i64 refs326 ∧ a.eval (.tmp 26) = .slice An1_1 n1.2.length cn1_1 ∧ a.eval (.tmp 27) = .int .i64 (n1.2.length : Int) ∧ a.eval (.tmp 28) = .int .i64 x327 ∧ Evo [] (fun _ => 0) ox w wx ∧ BlkO ox 222 wx g221 25 #[.slice An1_0 n1.1.length cn1_0, .slice An1_1 n1.2.length cn1_1] ∧ RdO ox [0] wx R59 An1_0 cn1_0 n1.1 ∧ RdO ox [0] wx R27 An1_1 cn1_1 n1.2) ?_ ?_
    · exact ⟨own274, hd274, hz274, e274_1, e274_3, e274_4, e274_5, e274_26, e274_27, e274_28, hX274, b274_g221, b274_An1_0, b274_An1_1⟩
    · rintro ⟨rings325, refs326, x327⟩ zz377 a377 w377 ⟨own377, hd378, hz378, e378_1, e378_3, e378_4, e378_5, e378_26, e378_27, e378_28, hE378, b378_g221, b378_An1_0, b378_An1_1⟩ hs Q377 hn377 hp377 hz377
      have hs : block_many_b2 n1 points242 rings325 refs326 x327 = some zz377 := hs
      refine rg_plain_seq (n := 70) (rs := []) (own0 := own377) (K := [])
          (bs := [0])
          (ds := [⟨[], [28, 27], [], Fct.val 29 (.bool (decide (x327 < (n1.2.length : Int))))⟩]) (by kernel_rfl) hz378 hd378 (fun _ h => nomatch h) ?_ ?_
      · refine steps_cons (fun own a wx hf hsl hE => ?_) ?_
        · obtain ⟨s_28, s_27, -⟩ := hsl
          exact sg_plain rfl rfl (or_lss (s_28.trans e378_28) (s_27.trans e378_27) rfl)
        exact steps_nil
      intro own379 a379 w379 hd379 hz379 hk379 hf379 hE379
      have e379_1 : a379.eval (.tmp 1) = .pointer (some ⟨g221, 0, none⟩) := (hk379 1 rfl).trans e378_1
      have e379_3 : a379.eval (.tmp 3) = .int .i64 points242 := (hk379 3 rfl).trans e378_3
      have e379_4 : a379.eval (.tmp 4) = .int .i64 rings325 := (hk379 4 rfl).trans e378_4
      have e379_5 : a379.eval (.tmp 5) = .int .i64 refs326 := (hk379 5 rfl).trans e378_5
      have e379_26 : a379.eval (.tmp 26) = .slice An1_1 n1.2.length cn1_1 := (hk379 26 rfl).trans e378_26
      have e379_27 : a379.eval (.tmp 27) = .int .i64 (n1.2.length : Int) := (hk379 27 rfl).trans e378_27
      have e379_28 : a379.eval (.tmp 28) = .int .i64 x327 := (hk379 28 rfl).trans e378_28
      obtain ⟨(f_29 : a379.eval (.tmp 29) = .bool (decide (x327 < (n1.2.length : Int)))), -⟩ := hf379 [0] rfl
      have e379_29 := f_29
      have hX379 := Evo.step hE378 (fun _ => Nat.le_refl 0) hE379 rfl
      have b379_g221 := BlkO.evo (by decide) hE379 b378_g221
      have b379_An1_0 := RdO.evo rfl hE379 b378_An1_0
      have b379_An1_1 := RdO.evo rfl hE379 b378_An1_1
      refine fl_seq (fun Q380 hn380 hp380 => ?_)
      refine fl_cond e379_29 hs (fun c381 hs => ?_) (fun c381 hs => ?_)
      · refine fl_skip ?_
        refine hn380 _ _ ?_
        refine fl_seq (fun Q382 hn382 hp382 => ?_)
        refine fl_block (fun Q383 hn383 hx383 hp383 => ?_)
        obtain ⟨x384, hx384, hs⟩ := obind hs
        refine rg_plain_seq (n := 70) (rs := []) (own0 := own379) (K := [])
            (bs := [0, 1, 3])
            (ds := [⟨[], [26, 28], [], Fct.val 30 (.pointer (some ((adr An1_1).add ((x327 : Int).toNat * R27.s))))⟩,
            ⟨[0], [], [], Fct.nest X27 [0] 31 (fun (y : (Option Addr × Nat)) => .slice y.1 x384.length y.2) x384⟩,
            ⟨[1], [], [], Fct.rel [9, 31] (fun l => ∀ (A385 : Option Addr) (cA385 : Nat), l.getD 1 undef = .slice A385 x384.length cA385 → l.getD 0 undef = .slice A385 x384.length cA385)⟩]) (by kernel_rfl) hz379 hd379 (fun _ h => nomatch h) ?_ ?_
        · refine steps_cons (fun own a wx hf hsl hE => ?_) ?_
          · obtain ⟨s_26, s_28, -⟩ := hsl
            exact sg_plain rfl rfl (or_index (R := R27) (l := n1.2) tl23 (s_26.trans e379_26) (s_28.trans e379_28) (RdO.some_ b379_An1_1 hx384) hx384)
          refine steps_cons (fun own a wx hf hsl hE => ?_) ?_
          · obtain ⟨(f_30 : a.eval (.tmp 30) = .pointer (some ((adr An1_1).add ((x327 : Int).toNat * R27.s)))), -⟩ := hf
            exact sg_plain rfl rfl (or_loadN1 X27 0 to27 f_30 (Addr.add_zero' _).symm (RdO.evo rfl hE b379_An1_1) hx384 (fun _ => rfl))
          refine steps_cons (fun own a wx hf hsl hE => ?_) ?_
          · obtain ⟨⟨⟨A385, cA385⟩, (f_31 : a.eval (.tmp 31) = .slice A385 x384.length cA385), (b_A385 : RdO own [0] wx R28 A385 cA385 x384)⟩, -⟩ := hf
            exact sg_plain rfl rfl (or_mono (f := Fct.val 9 (.slice A385 x384.length cA385)) (or_assign f_31) (fun own' a' w' v' hp h => fun _ _ h0' => by cases (f_31.symm.trans ((hp.2 31 (by decide)).symm.trans h0')); exact h))
          exact steps_nil
        intro own386 a386 w386 hd386 hz386 hk386 hf386 hE386
        have e386_1 : a386.eval (.tmp 1) = .pointer (some ⟨g221, 0, none⟩) := (hk386 1 rfl).trans e379_1
        have e386_3 : a386.eval (.tmp 3) = .int .i64 points242 := (hk386 3 rfl).trans e379_3
        have e386_4 : a386.eval (.tmp 4) = .int .i64 rings325 := (hk386 4 rfl).trans e379_4
        have e386_5 : a386.eval (.tmp 5) = .int .i64 refs326 := (hk386 5 rfl).trans e379_5
        have e386_26 : a386.eval (.tmp 26) = .slice An1_1 n1.2.length cn1_1 := (hk386 26 rfl).trans e379_26
        have e386_27 : a386.eval (.tmp 27) = .int .i64 (n1.2.length : Int) := (hk386 27 rfl).trans e379_27
        have e386_28 : a386.eval (.tmp 28) = .int .i64 x327 := (hk386 28 rfl).trans e379_28
        obtain ⟨⟨⟨A385, cA385⟩, (f_31 : a386.eval (.tmp 31) = .slice A385 x384.length cA385), (b_A385 : RdO own386 [0] w386 R28 A385 cA385 x384)⟩, (q_9 : ∀ (A385 : Option Addr) (cA385 : Nat), a386.eval (.tmp 31) = .slice A385 x384.length cA385 → a386.eval (.tmp 9) = .slice A385 x384.length cA385), -⟩ := hf386 [1, 2] rfl
        have f_9 := q_9 _ _ f_31
        have e386_9 := f_9
        have hX386 := Evo.step hX379 (fun _ => Nat.le_refl 0) hE386 rfl
        have b386_g221 := BlkO.evo (by decide) hE386 b379_g221
        have b386_An1_0 := RdO.evo rfl hE386 b379_An1_0
        have b386_An1_1 := RdO.evo rfl hE386 b379_An1_1
        have b386_A385 := b_A385
        refine rg_plain_seq (n := 70) (rs := []) (own0 := own386) (K := [])
            (bs := [0, 0, 2, 7, 15])
            (ds := [⟨[], [4], [], Fct.val 32 (.int .i64 rings325)⟩,
            ⟨[], [9], [], Fct.val 33 (.slice A385 x384.length cA385)⟩,
            ⟨[1], [], [], Fct.val 34 (.int .i64 (x384.length : Int))⟩,
            ⟨[0, 2], [], [], Fct.val 35 (.int .i64 (ad rings325 (x384.length : Int)))⟩,
            ⟨[3], [], [], Fct.val 4 (.int .i64 (ad rings325 (x384.length : Int)))⟩]) (by kernel_rfl) hz386 hd386 (fun _ h => nomatch h) ?_ ?_
        · refine steps_cons (fun own a wx hf hsl hE => ?_) ?_
          · obtain ⟨s_4, -⟩ := hsl
            exact sg_plain rfl rfl (or_move (s_4.trans e386_4))
          refine steps_cons (fun own a wx hf hsl hE => ?_) ?_
          · obtain ⟨s_9, -⟩ := hsl
            exact sg_plain rfl rfl (or_move (s_9.trans e386_9))
          refine steps_cons (fun own a wx hf hsl hE => ?_) ?_
          · obtain ⟨(f_33 : a.eval (.tmp 33) = .slice A385 x384.length cA385), -⟩ := hf
            exact sg_plain rfl rfl (or_len tu27 f_33 rfl)
          refine steps_cons (fun own a wx hf hsl hE => ?_) ?_
          · obtain ⟨(f_32 : a.eval (.tmp 32) = .int .i64 rings325), (f_34 : a.eval (.tmp 34) = .int .i64 (x384.length : Int)), -⟩ := hf
            exact sg_plain rfl rfl (or_add f_32 f_34 rfl)
          refine steps_cons (fun own a wx hf hsl hE => ?_) ?_
          · obtain ⟨(f_35 : a.eval (.tmp 35) = .int .i64 (ad rings325 (x384.length : Int))), -⟩ := hf
            exact sg_plain rfl rfl (or_assign f_35)
          exact steps_nil
        intro own387 a387 w387 hd387 hz387 hk387 hf387 hE387
        have e387_1 : a387.eval (.tmp 1) = .pointer (some ⟨g221, 0, none⟩) := (hk387 1 rfl).trans e386_1
        have e387_3 : a387.eval (.tmp 3) = .int .i64 points242 := (hk387 3 rfl).trans e386_3
        have e387_5 : a387.eval (.tmp 5) = .int .i64 refs326 := (hk387 5 rfl).trans e386_5
        have e387_9 : a387.eval (.tmp 9) = .slice A385 x384.length cA385 := (hk387 9 rfl).trans e386_9
        have e387_26 : a387.eval (.tmp 26) = .slice An1_1 n1.2.length cn1_1 := (hk387 26 rfl).trans e386_26
        have e387_27 : a387.eval (.tmp 27) = .int .i64 (n1.2.length : Int) := (hk387 27 rfl).trans e386_27
        have e387_28 : a387.eval (.tmp 28) = .int .i64 x327 := (hk387 28 rfl).trans e386_28
        obtain ⟨(f_4 : a387.eval (.tmp 4) = .int .i64 (ad rings325 (x384.length : Int))), -⟩ := hf387 [4] rfl
        have e387_4 := f_4
        have hX387 := Evo.step hX386 (fun _ => Nat.le_refl 0) hE387 rfl
        have b387_g221 := BlkO.evo (by decide) hE387 b386_g221
        have b387_An1_0 := RdO.evo rfl hE387 b386_An1_0
        have b387_An1_1 := RdO.evo rfl hE387 b386_An1_1
        have b387_A385 := RdO.evo rfl hE387 b386_A385
        refine rg_plain_seq (n := 70) (rs := []) (own0 := own387) (K := [])
            (bs := [0, 1, 0])
            (ds := [⟨[], [9], [], Fct.val 36 (.slice A385 x384.length cA385)⟩,
            ⟨[0], [], [], Fct.val 37 (.int .i64 (x384.length : Int))⟩,
            ⟨[], [], [], Fct.val 38 (.int .i64 0)⟩]) (by kernel_rfl) hz387 hd387 (fun _ h => nomatch h) ?_ ?_
        · refine steps_cons (fun own a wx hf hsl hE => ?_) ?_
          · obtain ⟨s_9, -⟩ := hsl
            exact sg_plain rfl rfl (or_move (s_9.trans e387_9))
          refine steps_cons (fun own a wx hf hsl hE => ?_) ?_
          · obtain ⟨(f_36 : a.eval (.tmp 36) = .slice A385 x384.length cA385), -⟩ := hf
            exact sg_plain rfl rfl (or_len tu27 f_36 rfl)
          refine steps_cons (fun own a wx hf hsl hE => ?_) ?_
          · exact sg_plain rfl rfl (or_move rfl)
          exact steps_nil
        intro own388 a388 w388 hd388 hz388 hk388 hf388 hE388
        have e388_1 : a388.eval (.tmp 1) = .pointer (some ⟨g221, 0, none⟩) := (hk388 1 rfl).trans e387_1
        have e388_3 : a388.eval (.tmp 3) = .int .i64 points242 := (hk388 3 rfl).trans e387_3
        have e388_4 : a388.eval (.tmp 4) = .int .i64 (ad rings325 (x384.length : Int)) := (hk388 4 rfl).trans e387_4
        have e388_5 : a388.eval (.tmp 5) = .int .i64 refs326 := (hk388 5 rfl).trans e387_5
        have e388_26 : a388.eval (.tmp 26) = .slice An1_1 n1.2.length cn1_1 := (hk388 26 rfl).trans e387_26
        have e388_27 : a388.eval (.tmp 27) = .int .i64 (n1.2.length : Int) := (hk388 27 rfl).trans e387_27
        have e388_28 : a388.eval (.tmp 28) = .int .i64 x327 := (hk388 28 rfl).trans e387_28
        obtain ⟨(f_36 : a388.eval (.tmp 36) = .slice A385 x384.length cA385), (f_37 : a388.eval (.tmp 37) = .int .i64 (x384.length : Int)), (f_38 : a388.eval (.tmp 38) = .int .i64 0), -⟩ := hf388 [0, 1, 2] rfl
        have e388_36 := f_36
        have e388_37 := f_37
        have e388_38 := f_38
        have hX388 := Evo.step hX387 (fun _ => Nat.le_refl 0) hE388 rfl
        have b388_g221 := BlkO.evo (by decide) hE388 b387_g221
        have b388_An1_0 := RdO.evo rfl hE388 b387_An1_0
        have b388_An1_1 := RdO.evo rfl hE388 b387_An1_1
        have b388_A385 := RdO.evo rfl hE388 b387_A385
        refine fl_block (fun Q389 hn389 hx389 hp389 => ?_)
        refine fl_loop (body := (fun s => block_many_b3 rings325 x327 x384 s.1 s.2)) (z := zz377) (show loopO _ _ = _ from hs) (fun (s : Int × Int) a wx => match s with | (refs401, x402) => ∃ (ox : Own), a.defers = [] ∧ a.tmps.size = 70 ∧ a.eval (.tmp 1) = .pointer (some ⟨g221, 0, none⟩) ∧ a.eval (.tmp 3) = .int .i64 points242 ∧ a.eval (.tmp 4) = .int .i64 (ad rings325 (x384.length : Int)) ∧ a.eval (.tmp 5) = .int .i64 refs401 ∧ a.eval (.tmp 26) = .slice An1_1 n1.2.length cn1_1 ∧ a.eval (.tmp 27) = .int .i64 (n1.2.length : Int) ∧ a.eval (.tmp 28) = .int .i64 x327 ∧ a.eval (.tmp 36) = .slice A385 x384.length cA385 ∧ a.eval (.tmp 37) = .int .i64 (x384.length : Int) ∧ a.eval (.tmp 38) = .int .i64 x402 ∧ Evo [] (fun _ => 0) ox w wx ∧ BlkO ox 222 wx g221 25 #[.slice An1_0 n1.1.length cn1_0, .slice An1_1 n1.2.length cn1_1] ∧ RdO ox [0] wx R59 An1_0 cn1_0 n1.1 ∧ RdO ox [0] wx R27 An1_1 cn1_1 n1.2 ∧ RdO ox [0] wx R28 A385 cA385 x384) ?_ ?_
        · exact ⟨own388, hd388, hz388, e388_1, e388_3, e388_4, e388_5, e388_26, e388_27, e388_28, e388_36, e388_37, e388_38, hX388, b388_g221, b388_An1_0, b388_An1_1, b388_A385⟩
        · rintro ⟨refs401, x402⟩ zz414 a414 w414 ⟨own414, hd415, hz415, e415_1, e415_3, e415_4, e415_5, e415_26, e415_27, e415_28, e415_36, e415_37, e415_38, hE415, b415_g221, b415_An1_0, b415_An1_1, b415_A385⟩ hs Q414 hn414 hp414 hz414
          have hs : block_many_b3 rings325 x327 x384 refs401 x402 = some zz414 := hs
          refine rg_plain_seq (n := 70) (rs := []) (own0 := own414) (K := [])
              (bs := [0])
              (ds := [⟨[], [38, 37], [], Fct.val 39 (.bool (decide (x402 < (x384.length : Int))))⟩]) (by kernel_rfl) hz415 hd415 (fun _ h => nomatch h) ?_ ?_
          · refine steps_cons (fun own a wx hf hsl hE => ?_) ?_
            · obtain ⟨s_38, s_37, -⟩ := hsl
              exact sg_plain rfl rfl (or_lss (s_38.trans e415_38) (s_37.trans e415_37) rfl)
            exact steps_nil
          intro own416 a416 w416 hd416 hz416 hk416 hf416 hE416
          have e416_1 : a416.eval (.tmp 1) = .pointer (some ⟨g221, 0, none⟩) := (hk416 1 rfl).trans e415_1
          have e416_3 : a416.eval (.tmp 3) = .int .i64 points242 := (hk416 3 rfl).trans e415_3
          have e416_4 : a416.eval (.tmp 4) = .int .i64 (ad rings325 (x384.length : Int)) := (hk416 4 rfl).trans e415_4
          have e416_5 : a416.eval (.tmp 5) = .int .i64 refs401 := (hk416 5 rfl).trans e415_5
          have e416_26 : a416.eval (.tmp 26) = .slice An1_1 n1.2.length cn1_1 := (hk416 26 rfl).trans e415_26
          have e416_27 : a416.eval (.tmp 27) = .int .i64 (n1.2.length : Int) := (hk416 27 rfl).trans e415_27
          have e416_28 : a416.eval (.tmp 28) = .int .i64 x327 := (hk416 28 rfl).trans e415_28
          have e416_36 : a416.eval (.tmp 36) = .slice A385 x384.length cA385 := (hk416 36 rfl).trans e415_36
          have e416_37 : a416.eval (.tmp 37) = .int .i64 (x384.length : Int) := (hk416 37 rfl).trans e415_37
          have e416_38 : a416.eval (.tmp 38) = .int .i64 x402 := (hk416 38 rfl).trans e415_38
          obtain ⟨(f_39 : a416.eval (.tmp 39) = .bool (decide (x402 < (x384.length : Int)))), -⟩ := hf416 [0] rfl
          have e416_39 := f_39
          have hX416 := Evo.step hE415 (fun _ => Nat.le_refl 0) hE416 rfl
          have b416_g221 := BlkO.evo (by decide) hE416 b415_g221
          have b416_An1_0 := RdO.evo rfl hE416 b415_An1_0
          have b416_An1_1 := RdO.evo rfl hE416 b415_An1_1
          have b416_A385 := RdO.evo rfl hE416 b415_A385
          refine fl_seq (fun Q417 hn417 hp417 => ?_)
          refine fl_cond e416_39 hs (fun c418 hs => ?_) (fun c418 hs => ?_)
          · refine fl_skip ?_
            refine hn417 _ _ ?_
            refine fl_seq (fun Q419 hn419 hp419 => ?_)
            refine fl_block (fun Q420 hn420 hx420 hp420 => ?_)
            obtain ⟨x421, hx421, hs⟩ := obind hs
            refine rg_plain_seq (n := 70) (rs := []) (own0 := own416) (K := [])
                (bs := [0, 1, 3])
                (ds := [⟨[], [36, 38], [], Fct.val 40 (.pointer (some ((adr A385).add ((x402 : Int).toNat * R28.s))))⟩,
                ⟨[0], [], [], Fct.nest X28 [0] 41 (fun (y : (Option Addr × Nat)) => .slice y.1 x421.length y.2) x421⟩,
                ⟨[1], [], [], Fct.rel [11, 41] (fun l => ∀ (A422 : Option Addr) (cA422 : Nat), l.getD 1 undef = .slice A422 x421.length cA422 → l.getD 0 undef = .slice A422 x421.length cA422)⟩]) (by kernel_rfl) hz416 hd416 (fun _ h => nomatch h) ?_ ?_
            · refine steps_cons (fun own a wx hf hsl hE => ?_) ?_
              · obtain ⟨s_36, s_38, -⟩ := hsl
                exact sg_plain rfl rfl (or_index (R := R28) (l := x384) tl27 (s_36.trans e416_36) (s_38.trans e416_38) (RdO.some_ b416_A385 hx421) hx421)
              refine steps_cons (fun own a wx hf hsl hE => ?_) ?_
              · obtain ⟨(f_40 : a.eval (.tmp 40) = .pointer (some ((adr A385).add ((x402 : Int).toNat * R28.s)))), -⟩ := hf
                exact sg_plain rfl rfl (or_loadN1 X28 0 to28 f_40 (Addr.add_zero' _).symm (RdO.evo rfl hE b416_A385) hx421 (fun _ => rfl))
              refine steps_cons (fun own a wx hf hsl hE => ?_) ?_
              · obtain ⟨⟨⟨A422, cA422⟩, (f_41 : a.eval (.tmp 41) = .slice A422 x421.length cA422), (b_A422 : RdO own [0] wx R3 A422 cA422 x421)⟩, -⟩ := hf
                exact sg_plain rfl rfl (or_mono (f := Fct.val 11 (.slice A422 x421.length cA422)) (or_assign f_41) (fun own' a' w' v' hp h => fun _ _ h0' => by cases (f_41.symm.trans ((hp.2 41 (by decide)).symm.trans h0')); exact h))
              exact steps_nil
            intro own423 a423 w423 hd423 hz423 hk423 hf423 hE423
            have e423_1 : a423.eval (.tmp 1) = .pointer (some ⟨g221, 0, none⟩) := (hk423 1 rfl).trans e416_1
            have e423_3 : a423.eval (.tmp 3) = .int .i64 points242 := (hk423 3 rfl).trans e416_3
            have e423_4 : a423.eval (.tmp 4) = .int .i64 (ad rings325 (x384.length : Int)) := (hk423 4 rfl).trans e416_4
            have e423_5 : a423.eval (.tmp 5) = .int .i64 refs401 := (hk423 5 rfl).trans e416_5
            have e423_26 : a423.eval (.tmp 26) = .slice An1_1 n1.2.length cn1_1 := (hk423 26 rfl).trans e416_26
            have e423_27 : a423.eval (.tmp 27) = .int .i64 (n1.2.length : Int) := (hk423 27 rfl).trans e416_27
            have e423_28 : a423.eval (.tmp 28) = .int .i64 x327 := (hk423 28 rfl).trans e416_28
            have e423_36 : a423.eval (.tmp 36) = .slice A385 x384.length cA385 := (hk423 36 rfl).trans e416_36
            have e423_37 : a423.eval (.tmp 37) = .int .i64 (x384.length : Int) := (hk423 37 rfl).trans e416_37
            have e423_38 : a423.eval (.tmp 38) = .int .i64 x402 := (hk423 38 rfl).trans e416_38
            obtain ⟨⟨⟨A422, cA422⟩, (f_41 : a423.eval (.tmp 41) = .slice A422 x421.length cA422), (b_A422 : RdO own423 [0] w423 R3 A422 cA422 x421)⟩, (q_11 : ∀ (A422 : Option Addr) (cA422 : Nat), a423.eval (.tmp 41) = .slice A422 x421.length cA422 → a423.eval (.tmp 11) = .slice A422 x421.length cA422), -⟩ := hf423 [1, 2] rfl
            have f_11 := q_11 _ _ f_41
            have e423_11 := f_11
            have hX423 := Evo.step hX416 (fun _ => Nat.le_refl 0) hE423 rfl
            have b423_g221 := BlkO.evo (by decide) hE423 b416_g221
            have b423_An1_0 := RdO.evo rfl hE423 b416_An1_0
            have b423_An1_1 := RdO.evo rfl hE423 b416_An1_1
            have b423_A385 := RdO.evo rfl hE423 b416_A385
            have b423_A422 := b_A422
            refine rg_plain (n := 70) (rs := []) (own0 := own423) (K := [])
                (bs := [0, 0, 2, 7, 15])
                (ds := [⟨[], [5], [], Fct.val 42 (.int .i64 refs401)⟩,
                ⟨[], [11], [], Fct.val 43 (.slice A422 x421.length cA422)⟩,
                ⟨[1], [], [], Fct.val 44 (.int .i64 (x421.length : Int))⟩,
                ⟨[0, 2], [], [], Fct.val 45 (.int .i64 (ad refs401 (x421.length : Int)))⟩,
                ⟨[3], [], [], Fct.val 5 (.int .i64 (ad refs401 (x421.length : Int)))⟩]) (by kernel_rfl) hz423 hd423 (fun _ h => nomatch h) ?_ ?_
            · refine steps_cons (fun own a wx hf hsl hE => ?_) ?_
              · obtain ⟨s_5, -⟩ := hsl
                exact sg_plain rfl rfl (or_move (s_5.trans e423_5))
              refine steps_cons (fun own a wx hf hsl hE => ?_) ?_
              · obtain ⟨s_11, -⟩ := hsl
                exact sg_plain rfl rfl (or_move (s_11.trans e423_11))
              refine steps_cons (fun own a wx hf hsl hE => ?_) ?_
              · obtain ⟨(f_43 : a.eval (.tmp 43) = .slice A422 x421.length cA422), -⟩ := hf
                exact sg_plain rfl rfl (or_len tu28 f_43 rfl)
              refine steps_cons (fun own a wx hf hsl hE => ?_) ?_
              · obtain ⟨(f_42 : a.eval (.tmp 42) = .int .i64 refs401), (f_44 : a.eval (.tmp 44) = .int .i64 (x421.length : Int)), -⟩ := hf
                exact sg_plain rfl rfl (or_add f_42 f_44 rfl)
              refine steps_cons (fun own a wx hf hsl hE => ?_) ?_
              · obtain ⟨(f_45 : a.eval (.tmp 45) = .int .i64 (ad refs401 (x421.length : Int))), -⟩ := hf
                exact sg_plain rfl rfl (or_assign f_45)
              exact steps_nil
            intro own424 a424 w424 hd424 hz424 hk424 hf424 hE424
            have e424_1 : a424.eval (.tmp 1) = .pointer (some ⟨g221, 0, none⟩) := (hk424 1 rfl).trans e423_1
            have e424_3 : a424.eval (.tmp 3) = .int .i64 points242 := (hk424 3 rfl).trans e423_3
            have e424_4 : a424.eval (.tmp 4) = .int .i64 (ad rings325 (x384.length : Int)) := (hk424 4 rfl).trans e423_4
            have e424_26 : a424.eval (.tmp 26) = .slice An1_1 n1.2.length cn1_1 := (hk424 26 rfl).trans e423_26
            have e424_27 : a424.eval (.tmp 27) = .int .i64 (n1.2.length : Int) := (hk424 27 rfl).trans e423_27
            have e424_28 : a424.eval (.tmp 28) = .int .i64 x327 := (hk424 28 rfl).trans e423_28
            have e424_36 : a424.eval (.tmp 36) = .slice A385 x384.length cA385 := (hk424 36 rfl).trans e423_36
            have e424_37 : a424.eval (.tmp 37) = .int .i64 (x384.length : Int) := (hk424 37 rfl).trans e423_37
            have e424_38 : a424.eval (.tmp 38) = .int .i64 x402 := (hk424 38 rfl).trans e423_38
            obtain ⟨(f_5 : a424.eval (.tmp 5) = .int .i64 (ad refs401 (x421.length : Int))), -⟩ := hf424 [4] rfl
            have e424_5 := f_5
            have hX424 := Evo.step hX423 (fun _ => Nat.le_refl 0) hE424 rfl
            have b424_g221 := BlkO.evo (by decide) hE424 b423_g221
            have b424_An1_0 := RdO.evo rfl hE424 b423_An1_0
            have b424_An1_1 := RdO.evo rfl hE424 b423_An1_1
            have b424_A385 := RdO.evo rfl hE424 b423_A385
            refine hn420 _ _ ?_
            refine hn419 _ _ ?_
            refine rg_plain (n := 70) (rs := []) (own0 := own424) (K := [])
                (bs := [0, 1])
                (ds := [⟨[], [38], [], Fct.val 46 (.int .i64 (ad x402 1))⟩,
                ⟨[0], [], [], Fct.val 38 (.int .i64 (ad x402 1))⟩]) (by kernel_rfl) hz424 hd424 (fun _ h => nomatch h) ?_ ?_
            · refine steps_cons (fun own a wx hf hsl hE => ?_) ?_
              · obtain ⟨s_38, -⟩ := hsl
                exact sg_plain rfl rfl (or_add (s_38.trans e424_38) rfl rfl)
              refine steps_cons (fun own a wx hf hsl hE => ?_) ?_
              · obtain ⟨(f_46 : a.eval (.tmp 46) = .int .i64 (ad x402 1)), -⟩ := hf
                exact sg_plain rfl rfl (or_move f_46)
              exact steps_nil
            intro own425 a425 w425 hd425 hz425 hk425 hf425 hE425
            have e425_1 : a425.eval (.tmp 1) = .pointer (some ⟨g221, 0, none⟩) := (hk425 1 rfl).trans e424_1
            have e425_3 : a425.eval (.tmp 3) = .int .i64 points242 := (hk425 3 rfl).trans e424_3
            have e425_4 : a425.eval (.tmp 4) = .int .i64 (ad rings325 (x384.length : Int)) := (hk425 4 rfl).trans e424_4
            have e425_5 : a425.eval (.tmp 5) = .int .i64 (ad refs401 (x421.length : Int)) := (hk425 5 rfl).trans e424_5
            have e425_26 : a425.eval (.tmp 26) = .slice An1_1 n1.2.length cn1_1 := (hk425 26 rfl).trans e424_26
            have e425_27 : a425.eval (.tmp 27) = .int .i64 (n1.2.length : Int) := (hk425 27 rfl).trans e424_27
            have e425_28 : a425.eval (.tmp 28) = .int .i64 x327 := (hk425 28 rfl).trans e424_28
            have e425_36 : a425.eval (.tmp 36) = .slice A385 x384.length cA385 := (hk425 36 rfl).trans e424_36
            have e425_37 : a425.eval (.tmp 37) = .int .i64 (x384.length : Int) := (hk425 37 rfl).trans e424_37
            obtain ⟨(f_38 : a425.eval (.tmp 38) = .int .i64 (ad x402 1)), -⟩ := hf425 [1] rfl
            have e425_38 := f_38
            have hX425 := Evo.step hX424 (fun _ => Nat.le_refl 0) hE425 rfl
            have b425_g221 := BlkO.evo (by decide) hE425 b424_g221
            have b425_An1_0 := RdO.evo rfl hE425 b424_An1_0
            have b425_An1_1 := RdO.evo rfl hE425 b424_An1_1
            have b425_A385 := RdO.evo rfl hE425 b424_A385
            exact hn414 _ _ _ hs ⟨own425, hd425, hz425, e425_1, e425_3, e425_4, e425_5, e425_26, e425_27, e425_28, e425_36, e425_37, e425_38, hX425, b425_g221, b425_An1_0, b425_An1_1, b425_A385⟩
          refine fl_exit ?_
          refine hp417 _ _ _ rfl ?_
          replace hs := hz414 _ hs
          refine hp414 _ _ _ rfl ?_
          refine hx389 _ _ ?_
          refine hn383 _ _ ?_
          refine hn382 _ _ ?_
          refine rg_plain (n := 70) (rs := []) (own0 := own416) (K := [])
              (bs := [0, 1])
              (ds := [⟨[], [28], [], Fct.val 47 (.int .i64 (ad x327 1))⟩,
              ⟨[0], [], [], Fct.val 28 (.int .i64 (ad x327 1))⟩]) (by kernel_rfl) hz416 hd416 (fun _ h => nomatch h) ?_ ?_
          · refine steps_cons (fun own a wx hf hsl hE => ?_) ?_
            · obtain ⟨s_28, -⟩ := hsl
              exact sg_plain rfl rfl (or_add (s_28.trans e416_28) rfl rfl)
            refine steps_cons (fun own a wx hf hsl hE => ?_) ?_
            · obtain ⟨(f_47 : a.eval (.tmp 47) = .int .i64 (ad x327 1)), -⟩ := hf
              exact sg_plain rfl rfl (or_move f_47)
            exact steps_nil
          intro own426 a426 w426 hd426 hz426 hk426 hf426 hE426
          have e426_1 : a426.eval (.tmp 1) = .pointer (some ⟨g221, 0, none⟩) := (hk426 1 rfl).trans e416_1
          have e426_3 : a426.eval (.tmp 3) = .int .i64 points242 := (hk426 3 rfl).trans e416_3
          have e426_4 : a426.eval (.tmp 4) = .int .i64 (ad rings325 (x384.length : Int)) := (hk426 4 rfl).trans e416_4
          have e426_5 : a426.eval (.tmp 5) = .int .i64 refs401 := (hk426 5 rfl).trans e416_5
          have e426_26 : a426.eval (.tmp 26) = .slice An1_1 n1.2.length cn1_1 := (hk426 26 rfl).trans e416_26
          have e426_27 : a426.eval (.tmp 27) = .int .i64 (n1.2.length : Int) := (hk426 27 rfl).trans e416_27
          obtain ⟨(f_28 : a426.eval (.tmp 28) = .int .i64 (ad x327 1)), -⟩ := hf426 [1] rfl
          have e426_28 := f_28
          have hX426 := Evo.step hX416 (fun _ => Nat.le_refl 0) hE426 rfl
          have b426_g221 := BlkO.evo (by decide) hE426 b416_g221
          have b426_An1_0 := RdO.evo rfl hE426 b416_An1_0
          have b426_An1_1 := RdO.evo rfl hE426 b416_An1_1
          exact hn377 _ _ _ hs ⟨own426, hd426, hz426, e426_1, e426_3, e426_4, e426_5, e426_26, e426_27, e426_28, hX426, b426_g221, b426_An1_0, b426_An1_1⟩
      refine fl_exit ?_
      refine hp380 _ _ _ rfl ?_
      replace hs := hz377 _ hs
      refine hp377 _ _ _ rfl ?_
      refine hx275 _ _ ?_
      refine hn273 _ _ ?_
      obtain ⟨x427, hx427, hs⟩ := obind hs
      obtain ⟨x428, hx428, hs⟩ := obind hs
      obtain ⟨x429, hx429, hs⟩ := obind hs
      refine rg_plain_seq (n := 70) (rs := []) (own0 := own379) (K := [])
          (bs := [0, 1, 3, 7, 15, 31, 63, 127, 255, 511, 1023, 2047, 4095, 8191, 16383, 32767, 65535, 131071, 262143, 524287, 1048575, 2097151, 4194303])
          (ds := [⟨[], [1], [], Fct.val 48 (.pointer (some ⟨g221, 0, none⟩))⟩,
          ⟨[0], [], [], Fct.val 49 (.slice An1_0 n1.1.length cn1_0)⟩,
          ⟨[1], [], [], Fct.val 50 (.int .i64 (n1.1.length : Int))⟩,
          ⟨[2], [], [], Fct.val 51 (.bool (decide (65536 < (n1.1.length : Int))))⟩,
          ⟨[3], [], [], Fct.val 52 (.bool (decide (65536 < (n1.1.length : Int))))⟩,
          ⟨[4], [3], [], Fct.cond (!(decide (65536 < (n1.1.length : Int)))) (some 53) (Fct.val 53 (.int .i64 points242))⟩,
          ⟨[4, 5], [], [], Fct.cond (!(decide (65536 < (n1.1.length : Int)))) (some 54) (Fct.val 54 (.bool (decide (65536 < points242))))⟩,
          ⟨[4, 6], [], [], Fct.val 55 (.bool x427)⟩,
          ⟨[7], [], [], Fct.val 56 (.bool x427)⟩,
          ⟨[8], [1], [], Fct.cond (!x427) (some 57) (Fct.val 57 (.pointer (some ⟨g221, 1, none⟩)))⟩,
          ⟨[8, 9], [], [], Fct.cond (!x427) (some 58) (Fct.val 58 (.slice An1_1 n1.2.length cn1_1))⟩,
          ⟨[8, 10], [], [], Fct.cond (!x427) (some 59) (Fct.val 59 (.int .i64 (n1.2.length : Int)))⟩,
          ⟨[8, 11], [], [], Fct.cond (!x427) (some 60) (Fct.val 60 (.bool (decide (32 < (n1.2.length : Int)))))⟩,
          ⟨[8, 12], [], [], Fct.val 61 (.bool x428)⟩,
          ⟨[13], [], [], Fct.val 62 (.bool x428)⟩,
          ⟨[14], [4], [], Fct.cond (!x428) (some 63) (Fct.val 63 (.int .i64 rings325))⟩,
          ⟨[14, 15], [], [], Fct.cond (!x428) (some 64) (Fct.val 64 (.bool (decide (64 < rings325))))⟩,
          ⟨[14, 16], [], [], Fct.val 65 (.bool (x428 || (decide (64 < rings325))))⟩,
          ⟨[17], [], [], Fct.val 66 (.bool (x428 || (decide (64 < rings325))))⟩,
          ⟨[18], [5], [], Fct.cond (!(x428 || (decide (64 < rings325)))) (some 67) (Fct.val 67 (.int .i64 refs326))⟩,
          ⟨[18, 19], [], [], Fct.cond (!(x428 || (decide (64 < rings325)))) (some 68) (Fct.val 68 (.bool (decide (65536 < refs326))))⟩,
          ⟨[18, 20], [], [], Fct.val 69 (.bool x429)⟩,
          ⟨[21], [], [], Fct.val 2 (.bool x429)⟩]) (by kernel_rfl) hz379 hd379 (fun _ h => nomatch h) ?_ ?_
      · refine steps_cons (fun own a wx hf hsl hE => ?_) ?_
        · obtain ⟨s_1, -⟩ := hsl
          exact sg_plain rfl rfl (or_field fo25_0 (s_1.trans e379_1) (by rfl))
        refine steps_cons (fun own a wx hf hsl hE => ?_) ?_
        · obtain ⟨(f_48 : a.eval (.tmp 48) = .pointer (some ⟨g221, 0, none⟩)), -⟩ := hf
          exact sg_plain rfl rfl (or_load1 to22 f_48 (Blk.at_ (BlkO.evo (by decide) hE b379_g221).2 0 rfl))
        refine steps_cons (fun own a wx hf hsl hE => ?_) ?_
        · obtain ⟨(f_49 : a.eval (.tmp 49) = .slice An1_0 n1.1.length cn1_0), -⟩ := hf
          exact sg_plain rfl rfl (or_len tu22 f_49 rfl)
        refine steps_cons (fun own a wx hf hsl hE => ?_) ?_
        · obtain ⟨(f_50 : a.eval (.tmp 50) = .int .i64 (n1.1.length : Int)), -⟩ := hf
          exact sg_plain rfl rfl (or_gtr f_50 rfl rfl)
        refine steps_cons (fun own a wx hf hsl hE => ?_) ?_
        · obtain ⟨(f_51 : a.eval (.tmp 51) = .bool (decide (65536 < (n1.1.length : Int)))), -⟩ := hf
          exact sg_plain rfl rfl (or_move f_51)
        refine steps_cons (fun own a wx hf hsl hE => ?_) ?_
        · obtain ⟨(f_52 : a.eval (.tmp 52) = .bool (decide (65536 < (n1.1.length : Int)))), -⟩ := hf
          obtain ⟨s_3, -⟩ := hsl
          refine sg_f rfl rfl rfl f_52 (fun hg => ?_)
          exact or_move (s_3.trans e379_3)
        refine steps_cons (fun own a wx hf hsl hE => ?_) ?_
        · obtain ⟨(f_52 : a.eval (.tmp 52) = .bool (decide (65536 < (n1.1.length : Int)))), c_53, -⟩ := hf
          refine sg_f rfl rfl rfl f_52 (fun hg => ?_)
          have f_53 : a.eval (.tmp 53) = .int .i64 points242 := c_53.1 hg
          exact or_gtr f_53 rfl rfl
        refine steps_cons (fun own a wx hf hsl hE => ?_) ?_
        · obtain ⟨(f_52 : a.eval (.tmp 52) = .bool (decide (65536 < (n1.1.length : Int)))), c_54, -⟩ := hf
          exact sg_plain rfl rfl (or_or f_52 rfl (fun hx => c_54.1 hx) (osome hx427).symm)
        refine steps_cons (fun own a wx hf hsl hE => ?_) ?_
        · obtain ⟨(f_55 : a.eval (.tmp 55) = .bool x427), -⟩ := hf
          exact sg_plain rfl rfl (or_move f_55)
        refine steps_cons (fun own a wx hf hsl hE => ?_) ?_
        · obtain ⟨(f_56 : a.eval (.tmp 56) = .bool x427), -⟩ := hf
          obtain ⟨s_1, -⟩ := hsl
          refine sg_f rfl rfl rfl f_56 (fun hg => ?_)
          exact or_field fo25_1 (s_1.trans e379_1) (by rfl)
        refine steps_cons (fun own a wx hf hsl hE => ?_) ?_
        · obtain ⟨(f_56 : a.eval (.tmp 56) = .bool x427), c_57, -⟩ := hf
          refine sg_f rfl rfl rfl f_56 (fun hg => ?_)
          have f_57 : a.eval (.tmp 57) = .pointer (some ⟨g221, 1, none⟩) := c_57.1 hg
          exact or_load1 to23 f_57 (Blk.at_ (BlkO.evo (by decide) hE b379_g221).2 1 rfl)
        refine steps_cons (fun own a wx hf hsl hE => ?_) ?_
        · obtain ⟨(f_56 : a.eval (.tmp 56) = .bool x427), c_58, -⟩ := hf
          refine sg_f rfl rfl rfl f_56 (fun hg => ?_)
          have f_58 : a.eval (.tmp 58) = .slice An1_1 n1.2.length cn1_1 := c_58.1 hg
          exact or_len tu23 f_58 rfl
        refine steps_cons (fun own a wx hf hsl hE => ?_) ?_
        · obtain ⟨(f_56 : a.eval (.tmp 56) = .bool x427), c_59, -⟩ := hf
          refine sg_f rfl rfl rfl f_56 (fun hg => ?_)
          have f_59 : a.eval (.tmp 59) = .int .i64 (n1.2.length : Int) := c_59.1 hg
          exact or_gtr f_59 rfl rfl
        refine steps_cons (fun own a wx hf hsl hE => ?_) ?_
        · obtain ⟨(f_56 : a.eval (.tmp 56) = .bool x427), c_60, -⟩ := hf
          exact sg_plain rfl rfl (or_or f_56 rfl (fun hx => c_60.1 hx) (osome hx428).symm)
        refine steps_cons (fun own a wx hf hsl hE => ?_) ?_
        · obtain ⟨(f_61 : a.eval (.tmp 61) = .bool x428), -⟩ := hf
          exact sg_plain rfl rfl (or_move f_61)
        refine steps_cons (fun own a wx hf hsl hE => ?_) ?_
        · obtain ⟨(f_62 : a.eval (.tmp 62) = .bool x428), -⟩ := hf
          obtain ⟨s_4, -⟩ := hsl
          refine sg_f rfl rfl rfl f_62 (fun hg => ?_)
          exact or_move (s_4.trans e379_4)
        refine steps_cons (fun own a wx hf hsl hE => ?_) ?_
        · obtain ⟨(f_62 : a.eval (.tmp 62) = .bool x428), c_63, -⟩ := hf
          refine sg_f rfl rfl rfl f_62 (fun hg => ?_)
          have f_63 : a.eval (.tmp 63) = .int .i64 rings325 := c_63.1 hg
          exact or_gtr f_63 rfl rfl
        refine steps_cons (fun own a wx hf hsl hE => ?_) ?_
        · obtain ⟨(f_62 : a.eval (.tmp 62) = .bool x428), c_64, -⟩ := hf
          exact sg_plain rfl rfl (or_or f_62 rfl (fun hx => c_64.1 hx) rfl)
        refine steps_cons (fun own a wx hf hsl hE => ?_) ?_
        · obtain ⟨(f_65 : a.eval (.tmp 65) = .bool (x428 || (decide (64 < rings325)))), -⟩ := hf
          exact sg_plain rfl rfl (or_move f_65)
        refine steps_cons (fun own a wx hf hsl hE => ?_) ?_
        · obtain ⟨(f_66 : a.eval (.tmp 66) = .bool (x428 || (decide (64 < rings325)))), -⟩ := hf
          obtain ⟨s_5, -⟩ := hsl
          refine sg_f rfl rfl rfl f_66 (fun hg => ?_)
          exact or_move (s_5.trans e379_5)
        refine steps_cons (fun own a wx hf hsl hE => ?_) ?_
        · obtain ⟨(f_66 : a.eval (.tmp 66) = .bool (x428 || (decide (64 < rings325)))), c_67, -⟩ := hf
          refine sg_f rfl rfl rfl f_66 (fun hg => ?_)
          have f_67 : a.eval (.tmp 67) = .int .i64 refs326 := c_67.1 hg
          exact or_gtr f_67 rfl rfl
        refine steps_cons (fun own a wx hf hsl hE => ?_) ?_
        · obtain ⟨(f_66 : a.eval (.tmp 66) = .bool (x428 || (decide (64 < rings325)))), c_68, -⟩ := hf
          exact sg_plain rfl rfl (or_or f_66 rfl (fun hx => c_68.1 hx) (osome hx429).symm)
        refine steps_cons (fun own a wx hf hsl hE => ?_) ?_
        · obtain ⟨(f_69 : a.eval (.tmp 69) = .bool x429), -⟩ := hf
          exact sg_plain rfl rfl (or_assign f_69)
        exact steps_nil
      intro own430 a430 w430 hd430 hz430 hk430 hf430 hE430
      obtain ⟨(f_2 : a430.eval (.tmp 2) = .bool x429), -⟩ := hf430 [22] rfl
      have e430_2 := f_2
      have hX430 := Evo.step hX379 (fun _ => Nat.le_refl 0) hE430 rfl
      refine fl_ret ?_
      obtain rfl := (osome hs).symm
      exact hret _ _ _ _ (.inl rfl) hd430 (results1_ rfl (RVal.tmp_ e430_2)) ⟨own430, rfl, hX430⟩

theorem block_side_w (w : World) (n1 : Int) (r : Bool) (hs : block_side n1 = some r) :
    Calls Try.prog 21 #[.int .i64 n1] w fun e w' => ∃ own' : Own, e = .returned (.bool r) ∧ Evo [] (fun _ => 0) own' w w' := by
  refine fl_enter (n := 9) rfl rfl rfl (Nat.le_of_ble_eq_true rfl) ?_
  intro a0 Q hd0 hz0 harg hret
  have ha0 := harg 0 _ rfl
  clear harg
  have hE0 : Evo [] (fun _ => 0) (fun _ => 0) w w := Evo.refl _ _ _
  refine rg_plain_seq (n := 9) (rs := []) (own0 := (fun _ => 0)) (K := [])
      (bs := [0])
      (ds := [⟨[], [], [], Fct.val 2 (.bool false)⟩]) (by kernel_rfl) hz0 hd0 (fun _ h => nomatch h) ?_ ?_
  · refine steps_cons (fun own a wx hf hsl hE => ?_) ?_
    · exact sg_plain rfl rfl (or_assign rfl)
    exact steps_nil
  intro own14 a14 w14 hd14 hz14 hk14 hf14 hE14
  have e14_0 : a14.eval (.tmp 0) = .int .i64 n1 := (hk14 0 rfl).trans ha0
  have hX14 := Evo.step hE0 (fun _ => Nat.le_refl 0) hE14 rfl
  obtain ⟨x15, hx15, hs⟩ := obind hs
  refine rg_plain_seq (n := 9) (rs := []) (own0 := own14) (K := [])
      (bs := [0, 1, 3, 7, 15, 31, 63])
      (ds := [⟨[], [0], [], Fct.val 3 (.int .i64 n1)⟩,
      ⟨[0], [], [], Fct.val 4 (.bool (decide (0 ≤ n1)))⟩,
      ⟨[1], [], [], Fct.val 5 (.bool (decide (0 ≤ n1)))⟩,
      ⟨[2], [0], [], Fct.cond (decide (0 ≤ n1)) (some 6) (Fct.val 6 (.int .i64 n1))⟩,
      ⟨[2, 3], [], [], Fct.cond (decide (0 ≤ n1)) (some 7) (Fct.val 7 (.bool (decide (n1 ≤ 32))))⟩,
      ⟨[2, 4], [], [], Fct.val 8 (.bool x15)⟩,
      ⟨[5], [], [], Fct.val 2 (.bool x15)⟩]) (by kernel_rfl) hz14 hd14 (fun _ h => nomatch h) ?_ ?_
  · refine steps_cons (fun own a wx hf hsl hE => ?_) ?_
    · obtain ⟨s_0, -⟩ := hsl
      exact sg_plain rfl rfl (or_move (s_0.trans e14_0))
    refine steps_cons (fun own a wx hf hsl hE => ?_) ?_
    · obtain ⟨(f_3 : a.eval (.tmp 3) = .int .i64 n1), -⟩ := hf
      exact sg_plain rfl rfl (or_geq f_3 rfl rfl)
    refine steps_cons (fun own a wx hf hsl hE => ?_) ?_
    · obtain ⟨(f_4 : a.eval (.tmp 4) = .bool (decide (0 ≤ n1))), -⟩ := hf
      exact sg_plain rfl rfl (or_move f_4)
    refine steps_cons (fun own a wx hf hsl hE => ?_) ?_
    · obtain ⟨(f_5 : a.eval (.tmp 5) = .bool (decide (0 ≤ n1))), -⟩ := hf
      obtain ⟨s_0, -⟩ := hsl
      refine sg_t rfl rfl rfl f_5 (fun hg => ?_)
      exact or_move (s_0.trans e14_0)
    refine steps_cons (fun own a wx hf hsl hE => ?_) ?_
    · obtain ⟨(f_5 : a.eval (.tmp 5) = .bool (decide (0 ≤ n1))), c_6, -⟩ := hf
      refine sg_t rfl rfl rfl f_5 (fun hg => ?_)
      have f_6 : a.eval (.tmp 6) = .int .i64 n1 := c_6.1 hg
      exact or_leq f_6 rfl rfl
    refine steps_cons (fun own a wx hf hsl hE => ?_) ?_
    · obtain ⟨(f_5 : a.eval (.tmp 5) = .bool (decide (0 ≤ n1))), c_7, -⟩ := hf
      exact sg_plain rfl rfl (or_and f_5 (fun hx => c_7.1 hx) rfl (osome hx15).symm)
    refine steps_cons (fun own a wx hf hsl hE => ?_) ?_
    · obtain ⟨(f_8 : a.eval (.tmp 8) = .bool x15), -⟩ := hf
      exact sg_plain rfl rfl (or_assign f_8)
    exact steps_nil
  intro own16 a16 w16 hd16 hz16 hk16 hf16 hE16
  obtain ⟨(f_2 : a16.eval (.tmp 2) = .bool x15), -⟩ := hf16 [6] rfl
  have e16_2 := f_2
  have hX16 := Evo.step hX14 (fun _ => Nat.le_refl 0) hE16 rfl
  refine fl_ret ?_
  obtain rfl := (osome hs).symm
  exact hret _ _ _ _ (.inl rfl) hd16 (results1_ rfl (RVal.tmp_ e16_2)) ⟨own16, rfl, hX16⟩

theorem exact_within_w (w : World) (n1 : Int) (least2 : Int) (greatest3 : Int) (r : Bool) (hs : exact_within n1 least2 greatest3 = some r) :
    Calls Try.prog 43 #[.int .i64 n1, .int .i64 least2, .int .i64 greatest3] w fun e w' => ∃ own' : Own, e = .returned (.bool r) ∧ Evo [] (fun _ => 0) own' w w' := by
  refine fl_enter (n := 15) rfl rfl rfl (Nat.le_of_ble_eq_true rfl) ?_
  intro a0 Q hd0 hz0 harg hret
  have ha0 := harg 0 _ rfl
  have ha1 := harg 1 _ rfl
  have ha2 := harg 2 _ rfl
  clear harg
  have hE0 : Evo [] (fun _ => 0) (fun _ => 0) w w := Evo.refl _ _ _
  refine rg_plain_seq (n := 15) (rs := []) (own0 := (fun _ => 0)) (K := [])
      (bs := [0])
      (ds := [⟨[], [], [], Fct.val 6 (.bool false)⟩]) (by kernel_rfl) hz0 hd0 (fun _ h => nomatch h) ?_ ?_
  · refine steps_cons (fun own a wx hf hsl hE => ?_) ?_
    · exact sg_plain rfl rfl (or_assign rfl)
    exact steps_nil
  intro own14 a14 w14 hd14 hz14 hk14 hf14 hE14
  have e14_0 : a14.eval (.tmp 0) = .int .i64 n1 := (hk14 0 rfl).trans ha0
  have e14_1 : a14.eval (.tmp 1) = .int .i64 least2 := (hk14 1 rfl).trans ha1
  have e14_2 : a14.eval (.tmp 2) = .int .i64 greatest3 := (hk14 2 rfl).trans ha2
  have hX14 := Evo.step hE0 (fun _ => Nat.le_refl 0) hE14 rfl
  obtain ⟨x15, hx15, hs⟩ := obind hs
  refine rg_plain_seq (n := 15) (rs := []) (own0 := own14) (K := [])
      (bs := [0, 0, 3, 7, 15, 15, 63, 127, 255])
      (ds := [⟨[], [1], [], Fct.val 7 (.int .i64 least2)⟩,
      ⟨[], [0], [], Fct.val 8 (.int .i64 n1)⟩,
      ⟨[0, 1], [], [], Fct.val 9 (.bool (decide (least2 ≤ n1)))⟩,
      ⟨[2], [], [], Fct.val 10 (.bool (decide (least2 ≤ n1)))⟩,
      ⟨[3], [0], [], Fct.cond (decide (least2 ≤ n1)) (some 11) (Fct.val 11 (.int .i64 n1))⟩,
      ⟨[3], [2], [], Fct.cond (decide (least2 ≤ n1)) (some 12) (Fct.val 12 (.int .i64 greatest3))⟩,
      ⟨[3, 4, 5], [], [], Fct.cond (decide (least2 ≤ n1)) (some 13) (Fct.val 13 (.bool (decide (n1 ≤ greatest3))))⟩,
      ⟨[3, 6], [], [], Fct.val 14 (.bool x15)⟩,
      ⟨[7], [], [], Fct.val 6 (.bool x15)⟩]) (by kernel_rfl) hz14 hd14 (fun _ h => nomatch h) ?_ ?_
  · refine steps_cons (fun own a wx hf hsl hE => ?_) ?_
    · obtain ⟨s_1, -⟩ := hsl
      exact sg_plain rfl rfl (or_move (s_1.trans e14_1))
    refine steps_cons (fun own a wx hf hsl hE => ?_) ?_
    · obtain ⟨s_0, -⟩ := hsl
      exact sg_plain rfl rfl (or_move (s_0.trans e14_0))
    refine steps_cons (fun own a wx hf hsl hE => ?_) ?_
    · obtain ⟨(f_7 : a.eval (.tmp 7) = .int .i64 least2), (f_8 : a.eval (.tmp 8) = .int .i64 n1), -⟩ := hf
      exact sg_plain rfl rfl (or_leq f_7 f_8 rfl)
    refine steps_cons (fun own a wx hf hsl hE => ?_) ?_
    · obtain ⟨(f_9 : a.eval (.tmp 9) = .bool (decide (least2 ≤ n1))), -⟩ := hf
      exact sg_plain rfl rfl (or_move f_9)
    refine steps_cons (fun own a wx hf hsl hE => ?_) ?_
    · obtain ⟨(f_10 : a.eval (.tmp 10) = .bool (decide (least2 ≤ n1))), -⟩ := hf
      obtain ⟨s_0, -⟩ := hsl
      refine sg_t rfl rfl rfl f_10 (fun hg => ?_)
      exact or_move (s_0.trans e14_0)
    refine steps_cons (fun own a wx hf hsl hE => ?_) ?_
    · obtain ⟨(f_10 : a.eval (.tmp 10) = .bool (decide (least2 ≤ n1))), -⟩ := hf
      obtain ⟨s_2, -⟩ := hsl
      refine sg_t rfl rfl rfl f_10 (fun hg => ?_)
      exact or_move (s_2.trans e14_2)
    refine steps_cons (fun own a wx hf hsl hE => ?_) ?_
    · obtain ⟨(f_10 : a.eval (.tmp 10) = .bool (decide (least2 ≤ n1))), c_11, c_12, -⟩ := hf
      refine sg_t rfl rfl rfl f_10 (fun hg => ?_)
      have f_11 : a.eval (.tmp 11) = .int .i64 n1 := c_11.1 hg
      have f_12 : a.eval (.tmp 12) = .int .i64 greatest3 := c_12.1 hg
      exact or_leq f_11 f_12 rfl
    refine steps_cons (fun own a wx hf hsl hE => ?_) ?_
    · obtain ⟨(f_10 : a.eval (.tmp 10) = .bool (decide (least2 ≤ n1))), c_13, -⟩ := hf
      exact sg_plain rfl rfl (or_and f_10 (fun hx => c_13.1 hx) rfl (osome hx15).symm)
    refine steps_cons (fun own a wx hf hsl hE => ?_) ?_
    · obtain ⟨(f_14 : a.eval (.tmp 14) = .bool x15), -⟩ := hf
      exact sg_plain rfl rfl (or_assign f_14)
    exact steps_nil
  intro own16 a16 w16 hd16 hz16 hk16 hf16 hE16
  obtain ⟨(f_6 : a16.eval (.tmp 6) = .bool x15), -⟩ := hf16 [8] rfl
  have e16_6 := f_6
  have hX16 := Evo.step hX14 (fun _ => Nat.le_refl 0) hE16 rfl
  refine fl_ret ?_
  obtain rfl := (osome hs).symm
  exact hret _ _ _ _ (.inl rfl) hd16 (results1_ rfl (RVal.tmp_ e16_6)) ⟨own16, rfl, hX16⟩

theorem exact_Right_w (w : World) (l1 : List (Int × Int)) (Al1 : Option Addr) (cl1 : Nat) (hl1 : RdO (fun _ => 0) [0] w R56 Al1 cl1 l1) (r : Bool) (hs : exact_Right l1 = some r) :
    Calls Try.prog 22 #[.slice Al1 l1.length cl1] w fun e w' => ∃ own' : Own, e = .returned (.bool r) ∧ Evo [] (fun _ => 0) own' w w' := by
  refine fl_enter (n := 22) rfl rfl rfl (Nat.le_of_ble_eq_true rfl) ?_
  intro a0 Q hd0 hz0 harg hret
  have ha0 := harg 0 _ rfl
  clear harg
  have hE0 : Evo [] (fun _ => 0) (fun _ => 0) w w := Evo.refl _ _ _
  refine rg_plain_seq (n := 22) (rs := []) (own0 := (fun _ => 0)) (K := [])
      (bs := [0])
      (ds := [⟨[], [], [], Fct.val 2 (.bool false)⟩]) (by kernel_rfl) hz0 hd0 (fun _ h => nomatch h) ?_ ?_
  · refine steps_cons (fun own a wx hf hsl hE => ?_) ?_
    · exact sg_plain rfl rfl (or_assign rfl)
    exact steps_nil
  intro own69 a69 w69 hd69 hz69 hk69 hf69 hE69
  have e69_0 : a69.eval (.tmp 0) = .slice Al1 l1.length cl1 := (hk69 0 rfl).trans ha0
  have hX69 := Evo.step hE0 (fun _ => Nat.le_refl 0) hE69 rfl
  have b69_Al1 := RdO.evo rfl hE69 hl1
  refine fl_seq (fun Q70 hn70 hp70 => ?_)
  refine rg_plain_seq (n := 22) (rs := []) (own0 := own69) (K := [])
      (bs := [0, 1, 0])
      (ds := [⟨[], [0], [], Fct.val 5 (.slice Al1 l1.length cl1)⟩,
      ⟨[0], [], [], Fct.val 6 (.int .i64 (l1.length : Int))⟩,
      ⟨[], [], [], Fct.val 7 (.int .i64 0)⟩]) (by kernel_rfl) hz69 hd69 (fun _ h => nomatch h) ?_ ?_
  · refine steps_cons (fun own a wx hf hsl hE => ?_) ?_
    · obtain ⟨s_0, -⟩ := hsl
      exact sg_plain rfl rfl (or_move (s_0.trans e69_0))
    refine steps_cons (fun own a wx hf hsl hE => ?_) ?_
    · obtain ⟨(f_5 : a.eval (.tmp 5) = .slice Al1 l1.length cl1), -⟩ := hf
      exact sg_plain rfl rfl (or_len tu57 f_5 rfl)
    refine steps_cons (fun own a wx hf hsl hE => ?_) ?_
    · exact sg_plain rfl rfl (or_move rfl)
    exact steps_nil
  intro own71 a71 w71 hd71 hz71 hk71 hf71 hE71
  obtain ⟨(f_5 : a71.eval (.tmp 5) = .slice Al1 l1.length cl1), (f_6 : a71.eval (.tmp 6) = .int .i64 (l1.length : Int)), (f_7 : a71.eval (.tmp 7) = .int .i64 0), -⟩ := hf71 [0, 1, 2] rfl
  have e71_5 := f_5
  have e71_6 := f_6
  have e71_7 := f_7
  have hX71 := Evo.step hX69 (fun _ => Nat.le_refl 0) hE71 rfl
  have b71_Al1 := RdO.evo rfl hE71 b69_Al1
  refine fl_block (fun Q72 hn72 hx72 hp72 => ?_)
  refine fl_loop (body := (fun s => exact_Right_b1 l1 s)) (z := r) (show loopO _ _ = _ from hs) (fun (x90 : Int) a wx => ∃ (ox : Own), a.defers = [] ∧ a.tmps.size = 22 ∧ a.eval (.tmp 5) = .slice Al1 l1.length cl1 ∧ a.eval (.tmp 6) = .int .i64 (l1.length : Int) ∧ a.eval (.tmp 7) = .int .i64 x90 ∧ Evo [] (fun _ => 0) ox w wx ∧ RdO ox [0] wx R56 Al1 cl1 l1) ?_ ?_
  · exact ⟨own71, hd71, hz71, e71_5, e71_6, e71_7, hX71, b71_Al1⟩
  · rintro x90 zz108 a108 w108 ⟨own108, hd109, hz109, e109_5, e109_6, e109_7, hE109, b109_Al1⟩ hs Q108 hn108 hp108 hz108
    have hs : exact_Right_b1 l1 x90 = some zz108 := hs
    refine rg_plain_seq (n := 22) (rs := []) (own0 := own108) (K := [])
        (bs := [0])
        (ds := [⟨[], [7, 6], [], Fct.val 8 (.bool (decide (x90 < (l1.length : Int))))⟩]) (by kernel_rfl) hz109 hd109 (fun _ h => nomatch h) ?_ ?_
    · refine steps_cons (fun own a wx hf hsl hE => ?_) ?_
      · obtain ⟨s_7, s_6, -⟩ := hsl
        exact sg_plain rfl rfl (or_lss (s_7.trans e109_7) (s_6.trans e109_6) rfl)
      exact steps_nil
    intro own110 a110 w110 hd110 hz110 hk110 hf110 hE110
    have e110_5 : a110.eval (.tmp 5) = .slice Al1 l1.length cl1 := (hk110 5 rfl).trans e109_5
    have e110_6 : a110.eval (.tmp 6) = .int .i64 (l1.length : Int) := (hk110 6 rfl).trans e109_6
    have e110_7 : a110.eval (.tmp 7) = .int .i64 x90 := (hk110 7 rfl).trans e109_7
    obtain ⟨(f_8 : a110.eval (.tmp 8) = .bool (decide (x90 < (l1.length : Int)))), -⟩ := hf110 [0] rfl
    have e110_8 := f_8
    have hX110 := Evo.step hE109 (fun _ => Nat.le_refl 0) hE110 rfl
    have b110_Al1 := RdO.evo rfl hE110 b109_Al1
    refine fl_seq (fun Q111 hn111 hp111 => ?_)
    refine fl_cond e110_8 hs (fun c112 hs => ?_) (fun c112 hs => ?_)
    · refine fl_skip ?_
      refine hn111 _ _ ?_
      refine fl_seq (fun Q113 hn113 hp113 => ?_)
      refine fl_block (fun Q114 hn114 hx114 hp114 => ?_)
      obtain ⟨x115, hx115, hs⟩ := obind hs
      refine rg_plain_seq (n := 22) (rs := []) (own0 := own110) (K := [117])
          (bs := [0, 1, 0, 7])
          (ds := [⟨[], [5, 7], [], Fct.val 9 (.pointer (some ((adr Al1).add ((x90 : Int).toNat * R56.s))))⟩,
          ⟨[0], [], [], Fct.val 10 (.agg #[.int .i64 x115.1, .int .i64 x115.2])⟩,
          ⟨[], [], [], Fct.blk 117 4 (fun g => .pointer (some ⟨g, 0, none⟩)) 56 #[.int .i64 0, .int .i64 0]⟩,
          ⟨[2, 1], [], [117], Fct.blk 118 4 (fun g => .pointer (some ⟨g, 0, none⟩)) 56 #[.int .i64 x115.1, .int .i64 x115.2]⟩]) (by kernel_rfl) hz110 hd110 (fun _ h => nomatch h) ?_ ?_
      · refine steps_cons (fun own a wx hf hsl hE => ?_) ?_
        · obtain ⟨s_5, s_7, -⟩ := hsl
          exact sg_plain rfl rfl (or_index (R := R56) (l := l1) tl57 (s_5.trans e110_5) (s_7.trans e110_7) (RdO.some_ b110_Al1 hx115) hx115)
        refine steps_cons (fun own a wx hf hsl hE => ?_) ?_
        · obtain ⟨(f_9 : a.eval (.tmp 9) = .pointer (some ((adr Al1).add ((x90 : Int).toNat * R56.s)))), -⟩ := hf
          exact sg_plain rfl rfl (or_load (l := E56.f x115) ta56 f_9 (RdO.cells (F := E56) (RdO.evo rfl hE b110_Al1) hx115) rfl)
        refine steps_cons (fun own a wx hf hsl hE => ?_) ?_
        · exact sg_plain rfl rfl (or_new [] rfl rfl trivial (by kernel_rfl))
        refine steps_cons (fun own a wx hf hsl hE => ?_) ?_
        · obtain ⟨⟨g116, (f_4 : a.eval (.tmp 4) = .pointer (some ⟨g116, 0, none⟩)), (b_g116 : BlkO own 117 wx g116 56 #[.int .i64 0, .int .i64 0])⟩, (f_10 : a.eval (.tmp 10) = .agg #[.int .i64 x115.1, .int .i64 x115.2]), -⟩ := hf
          exact sg_plain rfl rfl (or_store (l := #[.int .i64 x115.1, .int .i64 x115.2]) (lab := 117) (lab2 := 118) ts56 f_4 f_10 b_g116 (by simp) (by kernel_rfl) (mem_of rfl) (by decide) (by kernel_rfl) (fun own' a' w' ha hb => ⟨_, (ha 4).trans f_4, hb⟩))
        exact steps_nil
      intro own119 a119 w119 hd119 hz119 hk119 hf119 hE119
      have e119_5 : a119.eval (.tmp 5) = .slice Al1 l1.length cl1 := (hk119 5 rfl).trans e110_5
      have e119_6 : a119.eval (.tmp 6) = .int .i64 (l1.length : Int) := (hk119 6 rfl).trans e110_6
      have e119_7 : a119.eval (.tmp 7) = .int .i64 x90 := (hk119 7 rfl).trans e110_7
      obtain ⟨⟨g116, (f_4 : a119.eval (.tmp 4) = .pointer (some ⟨g116, 0, none⟩)), (b_g116 : BlkO own119 118 w119 g116 56 #[.int .i64 x115.1, .int .i64 x115.2])⟩, -⟩ := hf119 [3] rfl
      have e119_4 := f_4
      have hX119 := Evo.step hX110 (fun _ => Nat.le_refl 0) hE119 rfl
      have b119_Al1 := RdO.evo rfl hE119 b110_Al1
      have b119_g116 := b_g116
      obtain ⟨r120, hr120, hs⟩ := obind hs
      obtain ⟨r121, hr121, hs⟩ := obind hs
      refine rg_plain_seq (n := 22) (rs := []) (own0 := own119) (K := [])
          (bs := [0, 1, 3, 7, 15, 31, 63, 127, 255, 511])
          (ds := [⟨[], [4], [], Fct.val 11 (.pointer (some ⟨g116, 0, none⟩))⟩,
          ⟨[0], [], [], Fct.val 12 (.int .i64 x115.1)⟩,
          ⟨[1], [], [], Fct.val 13 (.bool r120)⟩,
          ⟨[2], [], [], Fct.val 14 (.bool (!r120))⟩,
          ⟨[3], [], [], Fct.val 15 (.bool (!r120))⟩,
          ⟨[4], [4], [], Fct.cond (!(!r120)) (some 16) (Fct.val 16 (.pointer (some ⟨g116, 1, none⟩)))⟩,
          ⟨[4, 5], [], [], Fct.cond (!(!r120)) (some 17) (Fct.val 17 (.int .i64 x115.2))⟩,
          ⟨[4, 6], [], [], Fct.cond (!(!r120)) (some 18) (Fct.val 18 (.bool r121))⟩,
          ⟨[4, 7], [], [], Fct.cond (!(!r120)) (some 19) (Fct.val 19 (.bool (!r121)))⟩,
          ⟨[4, 8], [], [], Fct.val 20 (.bool ((!r120) || (!r121)))⟩]) (by kernel_rfl) hz119 hd119 (fun _ h => nomatch h) ?_ ?_
      · refine steps_cons (fun own a wx hf hsl hE => ?_) ?_
        · obtain ⟨s_4, -⟩ := hsl
          exact sg_plain rfl rfl (or_field fo56_0 (s_4.trans e119_4) (by rfl))
        refine steps_cons (fun own a wx hf hsl hE => ?_) ?_
        · obtain ⟨(f_11 : a.eval (.tmp 11) = .pointer (some ⟨g116, 0, none⟩)), -⟩ := hf
          exact sg_plain rfl rfl (or_load1 to3 f_11 (Blk.at_ (BlkO.evo (by decide) hE b119_g116).2 0 rfl))
        refine steps_cons (fun own a wx hf hsl hE => ?_) ?_
        · obtain ⟨(f_12 : a.eval (.tmp 12) = .int .i64 x115.1), -⟩ := hf
          exact sg_plain rfl rfl (or_call cf43 (args3 f_12 rfl rfl) (exact_within_w _ x115.1 (-16777216) 16777216  r120 hr120) post_val)
        refine steps_cons (fun own a wx hf hsl hE => ?_) ?_
        · obtain ⟨(f_13 : a.eval (.tmp 13) = .bool r120), -⟩ := hf
          exact sg_plain rfl rfl (or_not f_13 rfl)
        refine steps_cons (fun own a wx hf hsl hE => ?_) ?_
        · obtain ⟨(f_14 : a.eval (.tmp 14) = .bool (!r120)), -⟩ := hf
          exact sg_plain rfl rfl (or_move f_14)
        refine steps_cons (fun own a wx hf hsl hE => ?_) ?_
        · obtain ⟨(f_15 : a.eval (.tmp 15) = .bool (!r120)), -⟩ := hf
          obtain ⟨s_4, -⟩ := hsl
          refine sg_f rfl rfl rfl f_15 (fun hg => ?_)
          exact or_field fo56_1 (s_4.trans e119_4) (by rfl)
        refine steps_cons (fun own a wx hf hsl hE => ?_) ?_
        · obtain ⟨(f_15 : a.eval (.tmp 15) = .bool (!r120)), c_16, -⟩ := hf
          refine sg_f rfl rfl rfl f_15 (fun hg => ?_)
          have f_16 : a.eval (.tmp 16) = .pointer (some ⟨g116, 1, none⟩) := c_16.1 hg
          exact or_load1 to3 f_16 (Blk.at_ (BlkO.evo (by decide) hE b119_g116).2 1 rfl)
        refine steps_cons (fun own a wx hf hsl hE => ?_) ?_
        · obtain ⟨(f_15 : a.eval (.tmp 15) = .bool (!r120)), c_17, -⟩ := hf
          refine sg_f rfl rfl rfl f_15 (fun hg => ?_)
          have f_17 : a.eval (.tmp 17) = .int .i64 x115.2 := c_17.1 hg
          exact or_call cf43 (args3 f_17 rfl rfl) (exact_within_w _ x115.2 (-16777216) 16777216  r121 (gd_t hr121 hg)) post_val
        refine steps_cons (fun own a wx hf hsl hE => ?_) ?_
        · obtain ⟨(f_15 : a.eval (.tmp 15) = .bool (!r120)), c_18, -⟩ := hf
          refine sg_f rfl rfl rfl f_15 (fun hg => ?_)
          have f_18 : a.eval (.tmp 18) = .bool r121 := c_18.1 hg
          exact or_not f_18 rfl
        refine steps_cons (fun own a wx hf hsl hE => ?_) ?_
        · obtain ⟨(f_15 : a.eval (.tmp 15) = .bool (!r120)), c_19, -⟩ := hf
          exact sg_plain rfl rfl (or_or f_15 rfl (fun hx => c_19.1 hx) rfl)
        exact steps_nil
      intro own122 a122 w122 hd122 hz122 hk122 hf122 hE122
      have e122_5 : a122.eval (.tmp 5) = .slice Al1 l1.length cl1 := (hk122 5 rfl).trans e119_5
      have e122_6 : a122.eval (.tmp 6) = .int .i64 (l1.length : Int) := (hk122 6 rfl).trans e119_6
      have e122_7 : a122.eval (.tmp 7) = .int .i64 x90 := (hk122 7 rfl).trans e119_7
      obtain ⟨(f_20 : a122.eval (.tmp 20) = .bool ((!r120) || (!r121))), -⟩ := hf122 [9] rfl
      have e122_20 := f_20
      have hX122 := Evo.step hX119 (fun _ => Nat.le_refl 0) hE122 rfl
      have b122_Al1 := RdO.evo rfl hE122 b119_Al1
      refine fl_cond e122_20 hs (fun c123 hs => ?_) (fun c123 hs => ?_)
      · refine rg_plain_seq (n := 22) (rs := []) (own0 := own122) (K := [])
            (bs := [0])
            (ds := [⟨[], [], [], Fct.val 2 (.bool false)⟩]) (by kernel_rfl) hz122 hd122 (fun _ h => nomatch h) ?_ ?_
        · refine steps_cons (fun own a wx hf hsl hE => ?_) ?_
          · exact sg_plain rfl rfl (or_assign rfl)
          exact steps_nil
        intro own124 a124 w124 hd124 hz124 hk124 hf124 hE124
        obtain ⟨(f_2 : a124.eval (.tmp 2) = .bool false), -⟩ := hf124 [0] rfl
        have e124_2 := f_2
        have hX124 := Evo.step hX122 (fun _ => Nat.le_refl 0) hE124 rfl
        refine fl_ret ?_
        refine hp114 _ _ _ rfl ?_
        refine hp113 _ _ _ rfl ?_
        replace hs := hz108 _ hs
        refine hp108 _ _ _ rfl ?_
        refine hp72 _ _ _ rfl ?_
        refine hp70 _ _ _ rfl ?_
        obtain rfl := osome hs
        exact hret _ _ _ _ (.inl rfl) hd124 (results1_ rfl (RVal.tmp_ e124_2)) ⟨own124, rfl, hX124⟩
      refine fl_skip ?_
      refine hn114 _ _ ?_
      refine hn113 _ _ ?_
      refine rg_plain (n := 22) (rs := []) (own0 := own122) (K := [])
          (bs := [0, 1])
          (ds := [⟨[], [7], [], Fct.val 21 (.int .i64 (ad x90 1))⟩,
          ⟨[0], [], [], Fct.val 7 (.int .i64 (ad x90 1))⟩]) (by kernel_rfl) hz122 hd122 (fun _ h => nomatch h) ?_ ?_
      · refine steps_cons (fun own a wx hf hsl hE => ?_) ?_
        · obtain ⟨s_7, -⟩ := hsl
          exact sg_plain rfl rfl (or_add (s_7.trans e122_7) rfl rfl)
        refine steps_cons (fun own a wx hf hsl hE => ?_) ?_
        · obtain ⟨(f_21 : a.eval (.tmp 21) = .int .i64 (ad x90 1)), -⟩ := hf
          exact sg_plain rfl rfl (or_move f_21)
        exact steps_nil
      intro own125 a125 w125 hd125 hz125 hk125 hf125 hE125
      have e125_5 : a125.eval (.tmp 5) = .slice Al1 l1.length cl1 := (hk125 5 rfl).trans e122_5
      have e125_6 : a125.eval (.tmp 6) = .int .i64 (l1.length : Int) := (hk125 6 rfl).trans e122_6
      obtain ⟨(f_7 : a125.eval (.tmp 7) = .int .i64 (ad x90 1)), -⟩ := hf125 [1] rfl
      have e125_7 := f_7
      have hX125 := Evo.step hX122 (fun _ => Nat.le_refl 0) hE125 rfl
      have b125_Al1 := RdO.evo rfl hE125 b122_Al1
      exact hn108 _ _ _ hs ⟨own125, hd125, hz125, e125_5, e125_6, e125_7, hX125, b125_Al1⟩
    refine fl_exit ?_
    refine hp111 _ _ _ rfl ?_
    replace hs := hz108 _ hs
    refine hp108 _ _ _ rfl ?_
    refine hx72 _ _ ?_
    refine hn70 _ _ ?_
    refine rg_plain_seq (n := 22) (rs := []) (own0 := own110) (K := [])
        (bs := [0])
        (ds := [⟨[], [], [], Fct.val 2 (.bool true)⟩]) (by kernel_rfl) hz110 hd110 (fun _ h => nomatch h) ?_ ?_
    · refine steps_cons (fun own a wx hf hsl hE => ?_) ?_
      · exact sg_plain rfl rfl (or_assign rfl)
      exact steps_nil
    intro own126 a126 w126 hd126 hz126 hk126 hf126 hE126
    obtain ⟨(f_2 : a126.eval (.tmp 2) = .bool true), -⟩ := hf126 [0] rfl
    have e126_2 := f_2
    have hX126 := Evo.step hX110 (fun _ => Nat.le_refl 0) hE126 rfl
    refine fl_ret ?_
    obtain rfl := osome hs
    exact hret _ _ _ _ (.inl rfl) hd126 (results1_ rfl (RVal.tmp_ e126_2)) ⟨own126, rfl, hX126⟩

theorem block_ref_w (w : World) (n1 : Int) (r : Bool) (hs : block_ref n1 = some r) :
    Calls Try.prog 23 #[.int .i64 n1] w fun e w' => ∃ own' : Own, e = .returned (.bool r) ∧ Evo [] (fun _ => 0) own' w w' := by
  refine fl_enter (n := 9) rfl rfl rfl (Nat.le_of_ble_eq_true rfl) ?_
  intro a0 Q hd0 hz0 harg hret
  have ha0 := harg 0 _ rfl
  clear harg
  have hE0 : Evo [] (fun _ => 0) (fun _ => 0) w w := Evo.refl _ _ _
  refine rg_plain_seq (n := 9) (rs := []) (own0 := (fun _ => 0)) (K := [])
      (bs := [0])
      (ds := [⟨[], [], [], Fct.val 2 (.bool false)⟩]) (by kernel_rfl) hz0 hd0 (fun _ h => nomatch h) ?_ ?_
  · refine steps_cons (fun own a wx hf hsl hE => ?_) ?_
    · exact sg_plain rfl rfl (or_assign rfl)
    exact steps_nil
  intro own14 a14 w14 hd14 hz14 hk14 hf14 hE14
  have e14_0 : a14.eval (.tmp 0) = .int .i64 n1 := (hk14 0 rfl).trans ha0
  have hX14 := Evo.step hE0 (fun _ => Nat.le_refl 0) hE14 rfl
  obtain ⟨x15, hx15, hs⟩ := obind hs
  refine rg_plain_seq (n := 9) (rs := []) (own0 := own14) (K := [])
      (bs := [0, 1, 3, 7, 15, 31, 63])
      (ds := [⟨[], [0], [], Fct.val 3 (.int .i64 n1)⟩,
      ⟨[0], [], [], Fct.val 4 (.bool (decide ((-65536) ≤ n1)))⟩,
      ⟨[1], [], [], Fct.val 5 (.bool (decide ((-65536) ≤ n1)))⟩,
      ⟨[2], [0], [], Fct.cond (decide ((-65536) ≤ n1)) (some 6) (Fct.val 6 (.int .i64 n1))⟩,
      ⟨[2, 3], [], [], Fct.cond (decide ((-65536) ≤ n1)) (some 7) (Fct.val 7 (.bool (decide (n1 ≤ 65536))))⟩,
      ⟨[2, 4], [], [], Fct.val 8 (.bool x15)⟩,
      ⟨[5], [], [], Fct.val 2 (.bool x15)⟩]) (by kernel_rfl) hz14 hd14 (fun _ h => nomatch h) ?_ ?_
  · refine steps_cons (fun own a wx hf hsl hE => ?_) ?_
    · obtain ⟨s_0, -⟩ := hsl
      exact sg_plain rfl rfl (or_move (s_0.trans e14_0))
    refine steps_cons (fun own a wx hf hsl hE => ?_) ?_
    · obtain ⟨(f_3 : a.eval (.tmp 3) = .int .i64 n1), -⟩ := hf
      exact sg_plain rfl rfl (or_geq f_3 rfl rfl)
    refine steps_cons (fun own a wx hf hsl hE => ?_) ?_
    · obtain ⟨(f_4 : a.eval (.tmp 4) = .bool (decide ((-65536) ≤ n1))), -⟩ := hf
      exact sg_plain rfl rfl (or_move f_4)
    refine steps_cons (fun own a wx hf hsl hE => ?_) ?_
    · obtain ⟨(f_5 : a.eval (.tmp 5) = .bool (decide ((-65536) ≤ n1))), -⟩ := hf
      obtain ⟨s_0, -⟩ := hsl
      refine sg_t rfl rfl rfl f_5 (fun hg => ?_)
      exact or_move (s_0.trans e14_0)
    refine steps_cons (fun own a wx hf hsl hE => ?_) ?_
    · obtain ⟨(f_5 : a.eval (.tmp 5) = .bool (decide ((-65536) ≤ n1))), c_6, -⟩ := hf
      refine sg_t rfl rfl rfl f_5 (fun hg => ?_)
      have f_6 : a.eval (.tmp 6) = .int .i64 n1 := c_6.1 hg
      exact or_leq f_6 rfl rfl
    refine steps_cons (fun own a wx hf hsl hE => ?_) ?_
    · obtain ⟨(f_5 : a.eval (.tmp 5) = .bool (decide ((-65536) ≤ n1))), c_7, -⟩ := hf
      exact sg_plain rfl rfl (or_and f_5 (fun hx => c_7.1 hx) rfl (osome hx15).symm)
    refine steps_cons (fun own a wx hf hsl hE => ?_) ?_
    · obtain ⟨(f_8 : a.eval (.tmp 8) = .bool x15), -⟩ := hf
      exact sg_plain rfl rfl (or_assign f_8)
    exact steps_nil
  intro own16 a16 w16 hd16 hz16 hk16 hf16 hE16
  obtain ⟨(f_2 : a16.eval (.tmp 2) = .bool x15), -⟩ := hf16 [6] rfl
  have e16_2 := f_2
  have hX16 := Evo.step hX14 (fun _ => Nat.le_refl 0) hE16 rfl
  refine fl_ret ?_
  obtain rfl := (osome hs).symm
  exact hret _ _ _ _ (.inl rfl) hd16 (results1_ rfl (RVal.tmp_ e16_2)) ⟨own16, rfl, hX16⟩

set_option maxHeartbeats 2000000 in
theorem block_Check_w (w : World) (n1 : (List ((List (Int × Int)) × Int × Int)) × (List (List (List Int)))) (An1_0 : Option Addr) (cn1_0 : Nat) (An1_1 : Option Addr) (cn1_1 : Nat) (hAn1_0 : RdO (fun _ => 0) [0] w R59 An1_0 cn1_0 n1.1) (hAn1_1 : RdO (fun _ => 0) [0] w R27 An1_1 cn1_1 n1.2) (r : Int) (hs : block_Check n1 = some r) :
    Calls Try.prog 8 #[.agg #[.slice An1_0 n1.1.length cn1_0, .slice An1_1 n1.2.length cn1_1]] w fun e w' => ∃ own' : Own, e = .returned (.int .i64 r) ∧ Evo [] (fun _ => 0) own' w w' := by
  refine fl_enter (n := 62) rfl rfl rfl (Nat.le_of_ble_eq_true rfl) ?_
  intro a0 Q hd0 hz0 harg hret
  have ha0 := harg 0 _ rfl
  clear harg
  have hE0 : Evo [] (fun _ => 0) (fun _ => 0) w w := Evo.refl _ _ _
  refine rg_plain_seq (n := 62) (rs := []) (own0 := (fun _ => 0)) (K := [])
      (bs := [0, 0])
      (ds := [⟨[], [0], [], Fct.blk 607 1 (fun g => .pointer (some ⟨g, 0, none⟩)) 25 #[.slice An1_0 n1.1.length cn1_0, .slice An1_1 n1.2.length cn1_1]⟩,
      ⟨[], [], [], Fct.val 2 (.int .i64 0)⟩]) (by kernel_rfl) hz0 hd0 (fun _ h => nomatch h) ?_ ?_
  · refine steps_cons (fun own a wx hf hsl hE => ?_) ?_
    · obtain ⟨s_0, -⟩ := hsl
      exact sg_plain rfl rfl (or_new [(0, .agg #[.slice An1_0 n1.1.length cn1_0, .slice An1_1 n1.2.length cn1_1])] rfl rfl ⟨(s_0.trans ha0), trivial⟩ (by kernel_rfl))
    refine steps_cons (fun own a wx hf hsl hE => ?_) ?_
    · exact sg_plain rfl rfl (or_assign rfl)
    exact steps_nil
  intro own608 a608 w608 hd608 hz608 hk608 hf608 hE608
  obtain ⟨⟨g606, (f_1 : a608.eval (.tmp 1) = .pointer (some ⟨g606, 0, none⟩)), (b_g606 : BlkO own608 607 w608 g606 25 #[.slice An1_0 n1.1.length cn1_0, .slice An1_1 n1.2.length cn1_1])⟩, -⟩ := hf608 [0] rfl
  have e608_1 := f_1
  have hX608 := Evo.step hE0 (fun _ => Nat.le_refl 0) hE608 rfl
  have b608_An1_0 := RdO.evo rfl hE608 hAn1_0
  have b608_An1_1 := RdO.evo rfl hE608 hAn1_1
  have b608_g606 := b_g606
  refine fl_seq (fun Q609 hn609 hp609 => ?_)
  obtain ⟨r610, hr610, hs⟩ := obind hs
  refine rg_plain_seq (n := 62) (rs := []) (own0 := own608) (K := [])
      (bs := [0, 1])
      (ds := [⟨[], [1], [], Fct.val 11 (.agg #[.slice An1_0 n1.1.length cn1_0, .slice An1_1 n1.2.length cn1_1])⟩,
      ⟨[0], [], [], Fct.val 12 (.bool r610)⟩]) (by kernel_rfl) hz608 hd608 (fun _ h => nomatch h) ?_ ?_
  · refine steps_cons (fun own a wx hf hsl hE => ?_) ?_
    · obtain ⟨s_1, -⟩ := hsl
      exact sg_plain rfl rfl (or_load (l := [.slice An1_0 n1.1.length cn1_0, .slice An1_1 n1.2.length cn1_1]) ta25 (s_1.trans e608_1) (Blk.cellsFrom (BlkO.evo (by decide) hE b608_g606).2 0 rfl) rfl)
    refine steps_cons (fun own a wx hf hsl hE => ?_) ?_
    · obtain ⟨(f_11 : a.eval (.tmp 11) = .agg #[.slice An1_0 n1.1.length cn1_0, .slice An1_1 n1.2.length cn1_1]), -⟩ := hf
      exact sg_plain rfl rfl (or_call cf20 (args1 f_11) (block_many_w _ n1 An1_0 cn1_0 An1_1 cn1_1 (RdO.zero (RdO.evo rfl hE b608_An1_0)) (RdO.zero (RdO.evo rfl hE b608_An1_1)) r610 hr610) post_val)
    exact steps_nil
  intro own611 a611 w611 hd611 hz611 hk611 hf611 hE611
  have e611_1 : a611.eval (.tmp 1) = .pointer (some ⟨g606, 0, none⟩) := (hk611 1 rfl).trans e608_1
  obtain ⟨(f_12 : a611.eval (.tmp 12) = .bool r610), -⟩ := hf611 [1] rfl
  have e611_12 := f_12
  have hX611 := Evo.step hX608 (fun _ => Nat.le_refl 0) hE611 rfl
  have b611_An1_0 := RdO.evo rfl hE611 b608_An1_0
  have b611_An1_1 := RdO.evo rfl hE611 b608_An1_1
  have b611_g606 := BlkO.evo (by decide) hE611 b608_g606
  refine fl_cond e611_12 hs (fun c612 hs => ?_) (fun c612 hs => ?_)
  · refine rg_plain_seq (n := 62) (rs := []) (own0 := own611) (K := [])
        (bs := [0])
        (ds := [⟨[], [], [], Fct.val 2 (.int .i64 6)⟩]) (by kernel_rfl) hz611 hd611 (fun _ h => nomatch h) ?_ ?_
    · refine steps_cons (fun own a wx hf hsl hE => ?_) ?_
      · exact sg_plain rfl rfl (or_assign rfl)
      exact steps_nil
    intro own613 a613 w613 hd613 hz613 hk613 hf613 hE613
    obtain ⟨(f_2 : a613.eval (.tmp 2) = .int .i64 6), -⟩ := hf613 [0] rfl
    have e613_2 := f_2
    have hX613 := Evo.step hX611 (fun _ => Nat.le_refl 0) hE613 rfl
    refine fl_ret ?_
    refine hp609 _ _ _ rfl ?_
    obtain rfl := osome hs
    exact hret _ _ _ _ (.inl rfl) hd613 (results1_ rfl (RVal.tmp_ e613_2)) ⟨own613, rfl, hX613⟩
  refine fl_skip ?_
  refine hn609 _ _ ?_
  refine fl_seq (fun Q614 hn614 hp614 => ?_)
  refine rg_plain_seq (n := 62) (rs := []) (own0 := own611) (K := [])
      (bs := [0, 1, 3, 0])
      (ds := [⟨[], [1], [], Fct.val 13 (.pointer (some ⟨g606, 0, none⟩))⟩,
      ⟨[0], [], [], Fct.val 14 (.slice An1_0 n1.1.length cn1_0)⟩,
      ⟨[1], [], [], Fct.val 15 (.int .i64 (n1.1.length : Int))⟩,
      ⟨[], [], [], Fct.val 16 (.int .i64 0)⟩]) (by kernel_rfl) hz611 hd611 (fun _ h => nomatch h) ?_ ?_
  · refine steps_cons (fun own a wx hf hsl hE => ?_) ?_
    · obtain ⟨s_1, -⟩ := hsl
      exact sg_plain rfl rfl (or_field fo25_0 (s_1.trans e611_1) (by rfl))
    refine steps_cons (fun own a wx hf hsl hE => ?_) ?_
    · obtain ⟨(f_13 : a.eval (.tmp 13) = .pointer (some ⟨g606, 0, none⟩)), -⟩ := hf
      exact sg_plain rfl rfl (or_load1 to22 f_13 (Blk.at_ (BlkO.evo (by decide) hE b611_g606).2 0 rfl))
    refine steps_cons (fun own a wx hf hsl hE => ?_) ?_
    · obtain ⟨(f_14 : a.eval (.tmp 14) = .slice An1_0 n1.1.length cn1_0), -⟩ := hf
      exact sg_plain rfl rfl (or_len tu22 f_14 rfl)
    refine steps_cons (fun own a wx hf hsl hE => ?_) ?_
    · exact sg_plain rfl rfl (or_move rfl)
    exact steps_nil
  intro own615 a615 w615 hd615 hz615 hk615 hf615 hE615
  have e615_1 : a615.eval (.tmp 1) = .pointer (some ⟨g606, 0, none⟩) := (hk615 1 rfl).trans e611_1
  obtain ⟨(f_14 : a615.eval (.tmp 14) = .slice An1_0 n1.1.length cn1_0), (f_15 : a615.eval (.tmp 15) = .int .i64 (n1.1.length : Int)), (f_16 : a615.eval (.tmp 16) = .int .i64 0), -⟩ := hf615 [1, 2, 3] rfl
  have e615_14 := f_14
  have e615_15 := f_15
  have e615_16 := f_16
  have hX615 := Evo.step hX611 (fun _ => Nat.le_refl 0) hE615 rfl
  have b615_An1_0 := RdO.evo rfl hE615 b611_An1_0
  have b615_An1_1 := RdO.evo rfl hE615 b611_An1_1
  have b615_g606 := BlkO.evo (by decide) hE615 b611_g606
  refine fl_block (fun Q616 hn616 hx616 hp616 => ?_)
  refine fl_loop (body := (fun s => block_Check_b1 n1 s)) (z := r) (show loopO _ _ = _ from hs) (fun (x636 : Int) a wx => ∃ (ox : Own), a.defers = [] ∧ a.tmps.size = 62 ∧ a.eval (.tmp 1) = .pointer (some ⟨g606, 0, none⟩) ∧ a.eval (.tmp 14) = .slice An1_0 n1.1.length cn1_0 ∧ a.eval (.tmp 15) = .int .i64 (n1.1.length : Int) ∧ a.eval (.tmp 16) = .int .i64 x636 ∧ Evo [] (fun _ => 0) ox w wx ∧ BlkO ox 607 wx g606 25 #[.slice An1_0 n1.1.length cn1_0, .slice An1_1 n1.2.length cn1_1] ∧ RdO ox [0] wx R59 An1_0 cn1_0 n1.1 ∧ RdO ox [0] wx R27 An1_1 cn1_1 n1.2) ?_ ?_
  · exact ⟨own615, hd615, hz615, e615_1, e615_14, e615_15, e615_16, hX615, b615_g606, b615_An1_0, b615_An1_1⟩
  · rintro x636 zz656 a656 w656 ⟨own656, hd657, hz657, e657_1, e657_14, e657_15, e657_16, hE657, b657_g606, b657_An1_0, b657_An1_1⟩ hs Q656 hn656 hp656 hz656
    have hs : block_Check_b1 n1 x636 = some zz656 := hs
    refine rg_plain_seq (n := 62) (rs := []) (own0 := own656) (K := [])
        (bs := [0])
        (ds := [⟨[], [16, 15], [], Fct.val 17 (.bool (decide (x636 < (n1.1.length : Int))))⟩]) (by kernel_rfl) hz657 hd657 (fun _ h => nomatch h) ?_ ?_
    · refine steps_cons (fun own a wx hf hsl hE => ?_) ?_
      · obtain ⟨s_16, s_15, -⟩ := hsl
        exact sg_plain rfl rfl (or_lss (s_16.trans e657_16) (s_15.trans e657_15) rfl)
      exact steps_nil
    intro own658 a658 w658 hd658 hz658 hk658 hf658 hE658
    have e658_1 : a658.eval (.tmp 1) = .pointer (some ⟨g606, 0, none⟩) := (hk658 1 rfl).trans e657_1
    have e658_14 : a658.eval (.tmp 14) = .slice An1_0 n1.1.length cn1_0 := (hk658 14 rfl).trans e657_14
    have e658_15 : a658.eval (.tmp 15) = .int .i64 (n1.1.length : Int) := (hk658 15 rfl).trans e657_15
    have e658_16 : a658.eval (.tmp 16) = .int .i64 x636 := (hk658 16 rfl).trans e657_16
    obtain ⟨(f_17 : a658.eval (.tmp 17) = .bool (decide (x636 < (n1.1.length : Int)))), -⟩ := hf658 [0] rfl
    have e658_17 := f_17
    have hX658 := Evo.step hE657 (fun _ => Nat.le_refl 0) hE658 rfl
    have b658_g606 := BlkO.evo (by decide) hE658 b657_g606
    have b658_An1_0 := RdO.evo rfl hE658 b657_An1_0
    have b658_An1_1 := RdO.evo rfl hE658 b657_An1_1
    refine fl_seq (fun Q659 hn659 hp659 => ?_)
    refine fl_cond e658_17 hs (fun c660 hs => ?_) (fun c660 hs => ?_)
    · refine fl_skip ?_
      refine hn659 _ _ ?_
      refine fl_seq (fun Q661 hn661 hp661 => ?_)
      refine fl_block (fun Q662 hn662 hx662 hp662 => ?_)
      obtain ⟨x663, hx663, hs⟩ := obind hs
      refine rg_plain_seq (n := 62) (rs := []) (own0 := own658) (K := [666])
          (bs := [0, 1, 0, 7])
          (ds := [⟨[], [14, 16], [], Fct.val 18 (.pointer (some ((adr An1_0).add ((x636 : Int).toNat * R59.s))))⟩,
          ⟨[0], [], [], Fct.nest X59 [0] 19 (fun (y : ((Option Addr × Nat) × Unit × Unit)) => .agg #[.slice y.1.1 x663.1.length y.1.2, .int .i64 x663.2.1, .int .i64 x663.2.2]) x663⟩,
          ⟨[], [], [], Fct.blk 666 4 (fun g => .pointer (some ⟨g, 0, none⟩)) 59 #[.slice none 0 0, .int .i64 0, .int .i64 0]⟩,
          ⟨[2, 1], [], [666], Fct.by_ [667] [4, 19] (fun l own w => ∃ g665 : Nat, l.getD 0 undef = .pointer (some ⟨g665, 0, none⟩) ∧ (∀ (A664 : Option Addr) (cA664 : Nat), l.getD 1 undef = .agg #[.slice A664 x663.1.length cA664, .int .i64 x663.2.1, .int .i64 x663.2.2] → BlkO own 667 w g665 59 #[.slice A664 x663.1.length cA664, .int .i64 x663.2.1, .int .i64 x663.2.2])) (fun hk he h => by obtain ⟨g, e, h⟩ := h; exact ⟨g, e, fun _ _ h0' => BlkO.evo (not_hit hk (by decide)) he (h _ _ h0')⟩)⟩]) (by kernel_rfl) hz658 hd658 (fun _ h => nomatch h) ?_ ?_
      · refine steps_cons (fun own a wx hf hsl hE => ?_) ?_
        · obtain ⟨s_14, s_16, -⟩ := hsl
          exact sg_plain rfl rfl (or_index (R := R59) (l := n1.1) tl22 (s_14.trans e658_14) (s_16.trans e658_16) (RdO.some_ b658_An1_0 hx663) hx663)
        refine steps_cons (fun own a wx hf hsl hE => ?_) ?_
        · obtain ⟨(f_18 : a.eval (.tmp 18) = .pointer (some ((adr An1_0).add ((x636 : Int).toNat * R59.s)))), -⟩ := hf
          exact sg_plain rfl rfl (or_loadN X59 0 3 ta59 f_18 (Addr.add_zero' _).symm (RdO.evo rfl hE b658_An1_0) hx663 (fun _ => rfl) (fun _ => rfl))
        refine steps_cons (fun own a wx hf hsl hE => ?_) ?_
        · exact sg_plain rfl rfl (or_new [] rfl rfl trivial (by kernel_rfl))
        refine steps_cons (fun own a wx hf hsl hE => ?_) ?_
        · obtain ⟨⟨g665, (f_4 : a.eval (.tmp 4) = .pointer (some ⟨g665, 0, none⟩)), (b_g665 : BlkO own 666 wx g665 59 #[.slice none 0 0, .int .i64 0, .int .i64 0])⟩, ⟨⟨⟨A664, cA664⟩, _, _⟩, (f_19 : a.eval (.tmp 19) = .agg #[.slice A664 x663.1.length cA664, .int .i64 x663.2.1, .int .i64 x663.2.2]), ⟨(b_A664 : RdO own [0] wx R56 A664 cA664 x663.1), -, -⟩⟩, -⟩ := hf
          exact sg_plain rfl rfl (or_store (l := #[.slice A664 x663.1.length cA664, .int .i64 x663.2.1, .int .i64 x663.2.2]) (lab := 666) (lab2 := 667) ts59 f_4 f_19 b_g665 (by simp) (by kernel_rfl) (mem_of rfl) (by decide) (by kernel_rfl) (fun own' a' w' ha hb => ⟨_, (ha 4).trans f_4, fun _ _ h0' => by cases (f_19.symm.trans ((ha 19).symm.trans h0')); exact hb⟩))
        exact steps_nil
      intro own668 a668 w668 hd668 hz668 hk668 hf668 hE668
      have e668_1 : a668.eval (.tmp 1) = .pointer (some ⟨g606, 0, none⟩) := (hk668 1 rfl).trans e658_1
      have e668_14 : a668.eval (.tmp 14) = .slice An1_0 n1.1.length cn1_0 := (hk668 14 rfl).trans e658_14
      have e668_15 : a668.eval (.tmp 15) = .int .i64 (n1.1.length : Int) := (hk668 15 rfl).trans e658_15
      have e668_16 : a668.eval (.tmp 16) = .int .i64 x636 := (hk668 16 rfl).trans e658_16
      obtain ⟨⟨⟨⟨A664, cA664⟩, _, _⟩, (f_19 : a668.eval (.tmp 19) = .agg #[.slice A664 x663.1.length cA664, .int .i64 x663.2.1, .int .i64 x663.2.2]), ⟨(b_A664 : RdO own668 [0] w668 R56 A664 cA664 x663.1), -, -⟩⟩, ⟨g665, (f_4 : a668.eval (.tmp 4) = .pointer (some ⟨g665, 0, none⟩)), (bq_g665 : ∀ (A664 : Option Addr) (cA664 : Nat), a668.eval (.tmp 19) = .agg #[.slice A664 x663.1.length cA664, .int .i64 x663.2.1, .int .i64 x663.2.2] → BlkO own668 667 w668 g665 59 #[.slice A664 x663.1.length cA664, .int .i64 x663.2.1, .int .i64 x663.2.2])⟩, -⟩ := hf668 [1, 3] rfl
      have b_g665 := bq_g665 _ _ f_19
      have e668_4 := f_4
      have hX668 := Evo.step hX658 (fun _ => Nat.le_refl 0) hE668 rfl
      have b668_g606 := BlkO.evo (by decide) hE668 b658_g606
      have b668_An1_0 := RdO.evo rfl hE668 b658_An1_0
      have b668_An1_1 := RdO.evo rfl hE668 b658_An1_1
      have b668_A664 := b_A664
      have b668_g665 := b_g665
      obtain ⟨r669, hr669, hs⟩ := obind hs
      obtain ⟨r670, hr670, hs⟩ := obind hs
      obtain ⟨r671, hr671, hs⟩ := obind hs
      refine rg_plain_seq (n := 62) (rs := []) (own0 := own668) (K := [])
          (bs := [0, 1, 3, 7, 15, 31, 63, 127, 255, 511, 1023, 2047, 4095, 8191, 16383, 32767])
          (ds := [⟨[], [4], [], Fct.val 20 (.pointer (some ⟨g665, 1, none⟩))⟩,
          ⟨[0], [], [], Fct.val 21 (.int .i64 x663.2.1)⟩,
          ⟨[1], [], [], Fct.val 22 (.bool r669)⟩,
          ⟨[2], [], [], Fct.val 23 (.bool (!r669))⟩,
          ⟨[3], [], [], Fct.val 24 (.bool (!r669))⟩,
          ⟨[4], [4], [], Fct.cond (!(!r669)) (some 25) (Fct.val 25 (.pointer (some ⟨g665, 2, none⟩)))⟩,
          ⟨[4, 5], [], [], Fct.cond (!(!r669)) (some 26) (Fct.val 26 (.int .i64 x663.2.2))⟩,
          ⟨[4, 6], [], [], Fct.cond (!(!r669)) (some 27) (Fct.val 27 (.bool r670))⟩,
          ⟨[4, 7], [], [], Fct.cond (!(!r669)) (some 28) (Fct.val 28 (.bool (!r670)))⟩,
          ⟨[4, 8], [], [], Fct.val 29 (.bool ((!r669) || (!r670)))⟩,
          ⟨[9], [], [], Fct.val 30 (.bool ((!r669) || (!r670)))⟩,
          ⟨[10], [4], [], Fct.cond (!((!r669) || (!r670))) (some 31) (Fct.val 31 (.pointer (some ⟨g665, 0, none⟩)))⟩,
          ⟨[10, 11], [], [], Fct.cond (!((!r669) || (!r670))) (some 32) (Fct.val 32 (.slice A664 x663.1.length cA664))⟩,
          ⟨[10, 12], [], [], Fct.cond (!((!r669) || (!r670))) (some 33) (Fct.val 33 (.bool r671))⟩,
          ⟨[10, 13], [], [], Fct.cond (!((!r669) || (!r670))) (some 34) (Fct.val 34 (.bool (!r671)))⟩,
          ⟨[10, 14], [], [], Fct.val 35 (.bool (((!r669) || (!r670)) || (!r671)))⟩]) (by kernel_rfl) hz668 hd668 (fun _ h => nomatch h) ?_ ?_
      · refine steps_cons (fun own a wx hf hsl hE => ?_) ?_
        · obtain ⟨s_4, -⟩ := hsl
          exact sg_plain rfl rfl (or_field fo59_1 (s_4.trans e668_4) (by rfl))
        refine steps_cons (fun own a wx hf hsl hE => ?_) ?_
        · obtain ⟨(f_20 : a.eval (.tmp 20) = .pointer (some ⟨g665, 1, none⟩)), -⟩ := hf
          exact sg_plain rfl rfl (or_load1 to3 f_20 (Blk.at_ (BlkO.evo (by decide) hE b668_g665).2 1 rfl))
        refine steps_cons (fun own a wx hf hsl hE => ?_) ?_
        · obtain ⟨(f_21 : a.eval (.tmp 21) = .int .i64 x663.2.1), -⟩ := hf
          exact sg_plain rfl rfl (or_call cf21 (args1 f_21) (block_side_w _ x663.2.1  r669 hr669) post_val)
        refine steps_cons (fun own a wx hf hsl hE => ?_) ?_
        · obtain ⟨(f_22 : a.eval (.tmp 22) = .bool r669), -⟩ := hf
          exact sg_plain rfl rfl (or_not f_22 rfl)
        refine steps_cons (fun own a wx hf hsl hE => ?_) ?_
        · obtain ⟨(f_23 : a.eval (.tmp 23) = .bool (!r669)), -⟩ := hf
          exact sg_plain rfl rfl (or_move f_23)
        refine steps_cons (fun own a wx hf hsl hE => ?_) ?_
        · obtain ⟨(f_24 : a.eval (.tmp 24) = .bool (!r669)), -⟩ := hf
          obtain ⟨s_4, -⟩ := hsl
          refine sg_f rfl rfl rfl f_24 (fun hg => ?_)
          exact or_field fo59_2 (s_4.trans e668_4) (by rfl)
        refine steps_cons (fun own a wx hf hsl hE => ?_) ?_
        · obtain ⟨(f_24 : a.eval (.tmp 24) = .bool (!r669)), c_25, -⟩ := hf
          refine sg_f rfl rfl rfl f_24 (fun hg => ?_)
          have f_25 : a.eval (.tmp 25) = .pointer (some ⟨g665, 2, none⟩) := c_25.1 hg
          exact or_load1 to3 f_25 (Blk.at_ (BlkO.evo (by decide) hE b668_g665).2 2 rfl)
        refine steps_cons (fun own a wx hf hsl hE => ?_) ?_
        · obtain ⟨(f_24 : a.eval (.tmp 24) = .bool (!r669)), c_26, -⟩ := hf
          refine sg_f rfl rfl rfl f_24 (fun hg => ?_)
          have f_26 : a.eval (.tmp 26) = .int .i64 x663.2.2 := c_26.1 hg
          exact or_call cf21 (args1 f_26) (block_side_w _ x663.2.2  r670 (gd_t hr670 hg)) post_val
        refine steps_cons (fun own a wx hf hsl hE => ?_) ?_
        · obtain ⟨(f_24 : a.eval (.tmp 24) = .bool (!r669)), c_27, -⟩ := hf
          refine sg_f rfl rfl rfl f_24 (fun hg => ?_)
          have f_27 : a.eval (.tmp 27) = .bool r670 := c_27.1 hg
          exact or_not f_27 rfl
        refine steps_cons (fun own a wx hf hsl hE => ?_) ?_
        · obtain ⟨(f_24 : a.eval (.tmp 24) = .bool (!r669)), c_28, -⟩ := hf
          exact sg_plain rfl rfl (or_or f_24 rfl (fun hx => c_28.1 hx) rfl)
        refine steps_cons (fun own a wx hf hsl hE => ?_) ?_
        · obtain ⟨(f_29 : a.eval (.tmp 29) = .bool ((!r669) || (!r670))), -⟩ := hf
          exact sg_plain rfl rfl (or_move f_29)
        refine steps_cons (fun own a wx hf hsl hE => ?_) ?_
        · obtain ⟨(f_30 : a.eval (.tmp 30) = .bool ((!r669) || (!r670))), -⟩ := hf
          obtain ⟨s_4, -⟩ := hsl
          refine sg_f rfl rfl rfl f_30 (fun hg => ?_)
          exact or_field fo59_0 (s_4.trans e668_4) (by rfl)
        refine steps_cons (fun own a wx hf hsl hE => ?_) ?_
        · obtain ⟨(f_30 : a.eval (.tmp 30) = .bool ((!r669) || (!r670))), c_31, -⟩ := hf
          refine sg_f rfl rfl rfl f_30 (fun hg => ?_)
          have f_31 : a.eval (.tmp 31) = .pointer (some ⟨g665, 0, none⟩) := c_31.1 hg
          exact or_load1 to57 f_31 (Blk.at_ (BlkO.evo (by decide) hE b668_g665).2 0 rfl)
        refine steps_cons (fun own a wx hf hsl hE => ?_) ?_
        · obtain ⟨(f_30 : a.eval (.tmp 30) = .bool ((!r669) || (!r670))), c_32, -⟩ := hf
          refine sg_f rfl rfl rfl f_30 (fun hg => ?_)
          have f_32 : a.eval (.tmp 32) = .slice A664 x663.1.length cA664 := c_32.1 hg
          exact or_call cf22 (args1 f_32) (exact_Right_w _ x663.1 A664 cA664 (RdO.zero (RdO.evo rfl hE b668_A664)) r671 (gd_t hr671 hg)) post_val
        refine steps_cons (fun own a wx hf hsl hE => ?_) ?_
        · obtain ⟨(f_30 : a.eval (.tmp 30) = .bool ((!r669) || (!r670))), c_33, -⟩ := hf
          refine sg_f rfl rfl rfl f_30 (fun hg => ?_)
          have f_33 : a.eval (.tmp 33) = .bool r671 := c_33.1 hg
          exact or_not f_33 rfl
        refine steps_cons (fun own a wx hf hsl hE => ?_) ?_
        · obtain ⟨(f_30 : a.eval (.tmp 30) = .bool ((!r669) || (!r670))), c_34, -⟩ := hf
          exact sg_plain rfl rfl (or_or f_30 rfl (fun hx => c_34.1 hx) rfl)
        exact steps_nil
      intro own672 a672 w672 hd672 hz672 hk672 hf672 hE672
      have e672_1 : a672.eval (.tmp 1) = .pointer (some ⟨g606, 0, none⟩) := (hk672 1 rfl).trans e668_1
      have e672_14 : a672.eval (.tmp 14) = .slice An1_0 n1.1.length cn1_0 := (hk672 14 rfl).trans e668_14
      have e672_15 : a672.eval (.tmp 15) = .int .i64 (n1.1.length : Int) := (hk672 15 rfl).trans e668_15
      have e672_16 : a672.eval (.tmp 16) = .int .i64 x636 := (hk672 16 rfl).trans e668_16
      obtain ⟨(f_35 : a672.eval (.tmp 35) = .bool (((!r669) || (!r670)) || (!r671))), -⟩ := hf672 [15] rfl
      have e672_35 := f_35
      have hX672 := Evo.step hX668 (fun _ => Nat.le_refl 0) hE672 rfl
      have b672_g606 := BlkO.evo (by decide) hE672 b668_g606
      have b672_An1_0 := RdO.evo rfl hE672 b668_An1_0
      have b672_An1_1 := RdO.evo rfl hE672 b668_An1_1
      refine fl_cond e672_35 hs (fun c673 hs => ?_) (fun c673 hs => ?_)
      · refine rg_plain_seq (n := 62) (rs := []) (own0 := own672) (K := [])
            (bs := [0])
            (ds := [⟨[], [], [], Fct.val 2 (.int .i64 5)⟩]) (by kernel_rfl) hz672 hd672 (fun _ h => nomatch h) ?_ ?_
        · refine steps_cons (fun own a wx hf hsl hE => ?_) ?_
          · exact sg_plain rfl rfl (or_assign rfl)
          exact steps_nil
        intro own674 a674 w674 hd674 hz674 hk674 hf674 hE674
        obtain ⟨(f_2 : a674.eval (.tmp 2) = .int .i64 5), -⟩ := hf674 [0] rfl
        have e674_2 := f_2
        have hX674 := Evo.step hX672 (fun _ => Nat.le_refl 0) hE674 rfl
        refine fl_ret ?_
        refine hp662 _ _ _ rfl ?_
        refine hp661 _ _ _ rfl ?_
        replace hs := hz656 _ hs
        refine hp656 _ _ _ rfl ?_
        refine hp616 _ _ _ rfl ?_
        refine hp614 _ _ _ rfl ?_
        obtain rfl := osome hs
        exact hret _ _ _ _ (.inl rfl) hd674 (results1_ rfl (RVal.tmp_ e674_2)) ⟨own674, rfl, hX674⟩
      refine fl_skip ?_
      refine hn662 _ _ ?_
      refine hn661 _ _ ?_
      refine rg_plain (n := 62) (rs := []) (own0 := own672) (K := [])
          (bs := [0, 1])
          (ds := [⟨[], [16], [], Fct.val 36 (.int .i64 (ad x636 1))⟩,
          ⟨[0], [], [], Fct.val 16 (.int .i64 (ad x636 1))⟩]) (by kernel_rfl) hz672 hd672 (fun _ h => nomatch h) ?_ ?_
      · refine steps_cons (fun own a wx hf hsl hE => ?_) ?_
        · obtain ⟨s_16, -⟩ := hsl
          exact sg_plain rfl rfl (or_add (s_16.trans e672_16) rfl rfl)
        refine steps_cons (fun own a wx hf hsl hE => ?_) ?_
        · obtain ⟨(f_36 : a.eval (.tmp 36) = .int .i64 (ad x636 1)), -⟩ := hf
          exact sg_plain rfl rfl (or_move f_36)
        exact steps_nil
      intro own675 a675 w675 hd675 hz675 hk675 hf675 hE675
      have e675_1 : a675.eval (.tmp 1) = .pointer (some ⟨g606, 0, none⟩) := (hk675 1 rfl).trans e672_1
      have e675_14 : a675.eval (.tmp 14) = .slice An1_0 n1.1.length cn1_0 := (hk675 14 rfl).trans e672_14
      have e675_15 : a675.eval (.tmp 15) = .int .i64 (n1.1.length : Int) := (hk675 15 rfl).trans e672_15
      obtain ⟨(f_16 : a675.eval (.tmp 16) = .int .i64 (ad x636 1)), -⟩ := hf675 [1] rfl
      have e675_16 := f_16
      have hX675 := Evo.step hX672 (fun _ => Nat.le_refl 0) hE675 rfl
      have b675_g606 := BlkO.evo (by decide) hE675 b672_g606
      have b675_An1_0 := RdO.evo rfl hE675 b672_An1_0
      have b675_An1_1 := RdO.evo rfl hE675 b672_An1_1
      exact hn656 _ _ _ hs ⟨own675, hd675, hz675, e675_1, e675_14, e675_15, e675_16, hX675, b675_g606, b675_An1_0, b675_An1_1⟩
    refine fl_exit ?_
    refine hp659 _ _ _ rfl ?_
    replace hs := hz656 _ hs
    refine hp656 _ _ _ rfl ?_
    refine hx616 _ _ ?_
    refine hn614 _ _ ?_
    refine fl_seq (fun Q676 hn676 hp676 => ?_)
    refine rg_plain_seq (n := 62) (rs := []) (own0 := own658) (K := [])
        (bs := [0, 1, 3, 0])
        (ds := [⟨[], [1], [], Fct.val 37 (.pointer (some ⟨g606, 1, none⟩))⟩,
        ⟨[0], [], [], Fct.val 38 (.slice An1_1 n1.2.length cn1_1)⟩,
        ⟨[1], [], [], Fct.val 39 (.int .i64 (n1.2.length : Int))⟩,
        ⟨[], [], [], Fct.val 40 (.int .i64 0)⟩]) (by kernel_rfl) hz658 hd658 (fun _ h => nomatch h) ?_ ?_
    · refine steps_cons (fun own a wx hf hsl hE => ?_) ?_
      · obtain ⟨s_1, -⟩ := hsl
        exact sg_plain rfl rfl (or_field fo25_1 (s_1.trans e658_1) (by rfl))
      refine steps_cons (fun own a wx hf hsl hE => ?_) ?_
      · obtain ⟨(f_37 : a.eval (.tmp 37) = .pointer (some ⟨g606, 1, none⟩)), -⟩ := hf
        exact sg_plain rfl rfl (or_load1 to23 f_37 (Blk.at_ (BlkO.evo (by decide) hE b658_g606).2 1 rfl))
      refine steps_cons (fun own a wx hf hsl hE => ?_) ?_
      · obtain ⟨(f_38 : a.eval (.tmp 38) = .slice An1_1 n1.2.length cn1_1), -⟩ := hf
        exact sg_plain rfl rfl (or_len tu23 f_38 rfl)
      refine steps_cons (fun own a wx hf hsl hE => ?_) ?_
      · exact sg_plain rfl rfl (or_move rfl)
      exact steps_nil
    intro own677 a677 w677 hd677 hz677 hk677 hf677 hE677
    obtain ⟨(f_38 : a677.eval (.tmp 38) = .slice An1_1 n1.2.length cn1_1), (f_39 : a677.eval (.tmp 39) = .int .i64 (n1.2.length : Int)), (f_40 : a677.eval (.tmp 40) = .int .i64 0), -⟩ := hf677 [1, 2, 3] rfl
    have e677_38 := f_38
    have e677_39 := f_39
    have e677_40 := f_40
    have hX677 := Evo.step hX658 (fun _ => Nat.le_refl 0) hE677 rfl
    have b677_An1_1 := RdO.evo rfl hE677 b658_An1_1
    refine fl_block (fun Q678 hn678 hx678 hp678 => ?_)
    refine fl_loop (body := (fun s => block_Check_b2 n1 s)) (z := r) (show loopO _ _ = _ from hs) (fun (x852 : Int) a wx => ∃ (ox : Own), a.defers = [] ∧ a.tmps.size = 62 ∧ a.eval (.tmp 38) = .slice An1_1 n1.2.length cn1_1 ∧ a.eval (.tmp 39) = .int .i64 (n1.2.length : Int) ∧ a.eval (.tmp 40) = .int .i64 x852 ∧ Evo [] (fun _ => 0) ox w wx ∧ RdO ox [0] wx R27 An1_1 cn1_1 n1.2) ?_ ?_
    · exact ⟨own677, hd677, hz677, e677_38, e677_39, e677_40, hX677, b677_An1_1⟩
    · rintro x852 zz1026 a1026 w1026 ⟨own1026, hd1027, hz1027, e1027_38, e1027_39, e1027_40, hE1027, b1027_An1_1⟩ hs Q1026 hn1026 hp1026 hz1026
      have hs : block_Check_b2 n1 x852 = some zz1026 := hs
      refine rg_plain_seq (n := 62) (rs := []) (own0 := own1026) (K := [])
          (bs := [0])
          (ds := [⟨[], [40, 39], [], Fct.val 41 (.bool (decide (x852 < (n1.2.length : Int))))⟩]) (by kernel_rfl) hz1027 hd1027 (fun _ h => nomatch h) ?_ ?_
      · refine steps_cons (fun own a wx hf hsl hE => ?_) ?_
        · obtain ⟨s_40, s_39, -⟩ := hsl
          exact sg_plain rfl rfl (or_lss (s_40.trans e1027_40) (s_39.trans e1027_39) rfl)
        exact steps_nil
      intro own1028 a1028 w1028 hd1028 hz1028 hk1028 hf1028 hE1028
      have e1028_38 : a1028.eval (.tmp 38) = .slice An1_1 n1.2.length cn1_1 := (hk1028 38 rfl).trans e1027_38
      have e1028_39 : a1028.eval (.tmp 39) = .int .i64 (n1.2.length : Int) := (hk1028 39 rfl).trans e1027_39
      have e1028_40 : a1028.eval (.tmp 40) = .int .i64 x852 := (hk1028 40 rfl).trans e1027_40
      obtain ⟨(f_41 : a1028.eval (.tmp 41) = .bool (decide (x852 < (n1.2.length : Int)))), -⟩ := hf1028 [0] rfl
      have e1028_41 := f_41
      have hX1028 := Evo.step hE1027 (fun _ => Nat.le_refl 0) hE1028 rfl
      have b1028_An1_1 := RdO.evo rfl hE1028 b1027_An1_1
      refine fl_seq (fun Q1029 hn1029 hp1029 => ?_)
      refine fl_cond e1028_41 hs (fun c1030 hs => ?_) (fun c1030 hs => ?_)
      · refine fl_skip ?_
        refine hn1029 _ _ ?_
        refine fl_seq (fun Q1031 hn1031 hp1031 => ?_)
        refine fl_block (fun Q1032 hn1032 hx1032 hp1032 => ?_)
        obtain ⟨x1033, hx1033, hs⟩ := obind hs
        refine rg_plain_seq (n := 62) (rs := []) (own0 := own1028) (K := [])
            (bs := [0, 1, 3])
            (ds := [⟨[], [38, 40], [], Fct.val 42 (.pointer (some ((adr An1_1).add ((x852 : Int).toNat * R27.s))))⟩,
            ⟨[0], [], [], Fct.nest X27 [0] 43 (fun (y : (Option Addr × Nat)) => .slice y.1 x1033.length y.2) x1033⟩,
            ⟨[1], [], [], Fct.rel [6, 43] (fun l => ∀ (A1034 : Option Addr) (cA1034 : Nat), l.getD 1 undef = .slice A1034 x1033.length cA1034 → l.getD 0 undef = .slice A1034 x1033.length cA1034)⟩]) (by kernel_rfl) hz1028 hd1028 (fun _ h => nomatch h) ?_ ?_
        · refine steps_cons (fun own a wx hf hsl hE => ?_) ?_
          · obtain ⟨s_38, s_40, -⟩ := hsl
            exact sg_plain rfl rfl (or_index (R := R27) (l := n1.2) tl23 (s_38.trans e1028_38) (s_40.trans e1028_40) (RdO.some_ b1028_An1_1 hx1033) hx1033)
          refine steps_cons (fun own a wx hf hsl hE => ?_) ?_
          · obtain ⟨(f_42 : a.eval (.tmp 42) = .pointer (some ((adr An1_1).add ((x852 : Int).toNat * R27.s)))), -⟩ := hf
            exact sg_plain rfl rfl (or_loadN1 X27 0 to27 f_42 (Addr.add_zero' _).symm (RdO.evo rfl hE b1028_An1_1) hx1033 (fun _ => rfl))
          refine steps_cons (fun own a wx hf hsl hE => ?_) ?_
          · obtain ⟨⟨⟨A1034, cA1034⟩, (f_43 : a.eval (.tmp 43) = .slice A1034 x1033.length cA1034), (b_A1034 : RdO own [0] wx R28 A1034 cA1034 x1033)⟩, -⟩ := hf
            exact sg_plain rfl rfl (or_mono (f := Fct.val 6 (.slice A1034 x1033.length cA1034)) (or_assign f_43) (fun own' a' w' v' hp h => fun _ _ h0' => by cases (f_43.symm.trans ((hp.2 43 (by decide)).symm.trans h0')); exact h))
          exact steps_nil
        intro own1035 a1035 w1035 hd1035 hz1035 hk1035 hf1035 hE1035
        have e1035_38 : a1035.eval (.tmp 38) = .slice An1_1 n1.2.length cn1_1 := (hk1035 38 rfl).trans e1028_38
        have e1035_39 : a1035.eval (.tmp 39) = .int .i64 (n1.2.length : Int) := (hk1035 39 rfl).trans e1028_39
        have e1035_40 : a1035.eval (.tmp 40) = .int .i64 x852 := (hk1035 40 rfl).trans e1028_40
        obtain ⟨⟨⟨A1034, cA1034⟩, (f_43 : a1035.eval (.tmp 43) = .slice A1034 x1033.length cA1034), (b_A1034 : RdO own1035 [0] w1035 R28 A1034 cA1034 x1033)⟩, (q_6 : ∀ (A1034 : Option Addr) (cA1034 : Nat), a1035.eval (.tmp 43) = .slice A1034 x1033.length cA1034 → a1035.eval (.tmp 6) = .slice A1034 x1033.length cA1034), -⟩ := hf1035 [1, 2] rfl
        have f_6 := q_6 _ _ f_43
        have e1035_6 := f_6
        have hX1035 := Evo.step hX1028 (fun _ => Nat.le_refl 0) hE1035 rfl
        have b1035_An1_1 := RdO.evo rfl hE1035 b1028_An1_1
        have b1035_A1034 := b_A1034
        refine rg_plain_seq (n := 62) (rs := []) (own0 := own1035) (K := [])
            (bs := [0, 1, 0])
            (ds := [⟨[], [6], [], Fct.val 44 (.slice A1034 x1033.length cA1034)⟩,
            ⟨[0], [], [], Fct.val 45 (.int .i64 (x1033.length : Int))⟩,
            ⟨[], [], [], Fct.val 46 (.int .i64 0)⟩]) (by kernel_rfl) hz1035 hd1035 (fun _ h => nomatch h) ?_ ?_
        · refine steps_cons (fun own a wx hf hsl hE => ?_) ?_
          · obtain ⟨s_6, -⟩ := hsl
            exact sg_plain rfl rfl (or_move (s_6.trans e1035_6))
          refine steps_cons (fun own a wx hf hsl hE => ?_) ?_
          · obtain ⟨(f_44 : a.eval (.tmp 44) = .slice A1034 x1033.length cA1034), -⟩ := hf
            exact sg_plain rfl rfl (or_len tu27 f_44 rfl)
          refine steps_cons (fun own a wx hf hsl hE => ?_) ?_
          · exact sg_plain rfl rfl (or_move rfl)
          exact steps_nil
        intro own1036 a1036 w1036 hd1036 hz1036 hk1036 hf1036 hE1036
        have e1036_38 : a1036.eval (.tmp 38) = .slice An1_1 n1.2.length cn1_1 := (hk1036 38 rfl).trans e1035_38
        have e1036_39 : a1036.eval (.tmp 39) = .int .i64 (n1.2.length : Int) := (hk1036 39 rfl).trans e1035_39
        have e1036_40 : a1036.eval (.tmp 40) = .int .i64 x852 := (hk1036 40 rfl).trans e1035_40
        obtain ⟨(f_44 : a1036.eval (.tmp 44) = .slice A1034 x1033.length cA1034), (f_45 : a1036.eval (.tmp 45) = .int .i64 (x1033.length : Int)), (f_46 : a1036.eval (.tmp 46) = .int .i64 0), -⟩ := hf1036 [0, 1, 2] rfl
        have e1036_44 := f_44
        have e1036_45 := f_45
        have e1036_46 := f_46
        have hX1036 := Evo.step hX1035 (fun _ => Nat.le_refl 0) hE1036 rfl
        have b1036_An1_1 := RdO.evo rfl hE1036 b1035_An1_1
        have b1036_A1034 := RdO.evo rfl hE1036 b1035_A1034
        refine fl_block (fun Q1037 hn1037 hx1037 hp1037 => ?_)
        refine fl_loop (body := (fun s => block_Check_b3 x852 x1033 s)) (z := zz1026) (show loopO _ _ = _ from hs) (fun (x1091 : Int) a wx => ∃ (ox : Own), a.defers = [] ∧ a.tmps.size = 62 ∧ a.eval (.tmp 38) = .slice An1_1 n1.2.length cn1_1 ∧ a.eval (.tmp 39) = .int .i64 (n1.2.length : Int) ∧ a.eval (.tmp 40) = .int .i64 x852 ∧ a.eval (.tmp 44) = .slice A1034 x1033.length cA1034 ∧ a.eval (.tmp 45) = .int .i64 (x1033.length : Int) ∧ a.eval (.tmp 46) = .int .i64 x1091 ∧ Evo [] (fun _ => 0) ox w wx ∧ RdO ox [0] wx R27 An1_1 cn1_1 n1.2 ∧ RdO ox [0] wx R28 A1034 cA1034 x1033) ?_ ?_
        · exact ⟨own1036, hd1036, hz1036, e1036_38, e1036_39, e1036_40, e1036_44, e1036_45, e1036_46, hX1036, b1036_An1_1, b1036_A1034⟩
        · rintro x1091 zz1145 a1145 w1145 ⟨own1145, hd1146, hz1146, e1146_38, e1146_39, e1146_40, e1146_44, e1146_45, e1146_46, hE1146, b1146_An1_1, b1146_A1034⟩ hs Q1145 hn1145 hp1145 hz1145
          have hs : block_Check_b3 x852 x1033 x1091 = some zz1145 := hs
          refine rg_plain_seq (n := 62) (rs := []) (own0 := own1145) (K := [])
              (bs := [0])
              (ds := [⟨[], [46, 45], [], Fct.val 47 (.bool (decide (x1091 < (x1033.length : Int))))⟩]) (by kernel_rfl) hz1146 hd1146 (fun _ h => nomatch h) ?_ ?_
          · refine steps_cons (fun own a wx hf hsl hE => ?_) ?_
            · obtain ⟨s_46, s_45, -⟩ := hsl
              exact sg_plain rfl rfl (or_lss (s_46.trans e1146_46) (s_45.trans e1146_45) rfl)
            exact steps_nil
          intro own1147 a1147 w1147 hd1147 hz1147 hk1147 hf1147 hE1147
          have e1147_38 : a1147.eval (.tmp 38) = .slice An1_1 n1.2.length cn1_1 := (hk1147 38 rfl).trans e1146_38
          have e1147_39 : a1147.eval (.tmp 39) = .int .i64 (n1.2.length : Int) := (hk1147 39 rfl).trans e1146_39
          have e1147_40 : a1147.eval (.tmp 40) = .int .i64 x852 := (hk1147 40 rfl).trans e1146_40
          have e1147_44 : a1147.eval (.tmp 44) = .slice A1034 x1033.length cA1034 := (hk1147 44 rfl).trans e1146_44
          have e1147_45 : a1147.eval (.tmp 45) = .int .i64 (x1033.length : Int) := (hk1147 45 rfl).trans e1146_45
          have e1147_46 : a1147.eval (.tmp 46) = .int .i64 x1091 := (hk1147 46 rfl).trans e1146_46
          obtain ⟨(f_47 : a1147.eval (.tmp 47) = .bool (decide (x1091 < (x1033.length : Int)))), -⟩ := hf1147 [0] rfl
          have e1147_47 := f_47
          have hX1147 := Evo.step hE1146 (fun _ => Nat.le_refl 0) hE1147 rfl
          have b1147_An1_1 := RdO.evo rfl hE1147 b1146_An1_1
          have b1147_A1034 := RdO.evo rfl hE1147 b1146_A1034
          refine fl_seq (fun Q1148 hn1148 hp1148 => ?_)
          refine fl_cond e1147_47 hs (fun c1149 hs => ?_) (fun c1149 hs => ?_)
          · refine fl_skip ?_
            refine hn1148 _ _ ?_
            refine fl_seq (fun Q1150 hn1150 hp1150 => ?_)
            refine fl_block (fun Q1151 hn1151 hx1151 hp1151 => ?_)
            obtain ⟨x1152, hx1152, hs⟩ := obind hs
            refine rg_plain_seq (n := 62) (rs := []) (own0 := own1147) (K := [])
                (bs := [0, 1, 3])
                (ds := [⟨[], [44, 46], [], Fct.val 48 (.pointer (some ((adr A1034).add ((x1091 : Int).toNat * R28.s))))⟩,
                ⟨[0], [], [], Fct.nest X28 [0] 49 (fun (y : (Option Addr × Nat)) => .slice y.1 x1152.length y.2) x1152⟩,
                ⟨[1], [], [], Fct.rel [8, 49] (fun l => ∀ (A1153 : Option Addr) (cA1153 : Nat), l.getD 1 undef = .slice A1153 x1152.length cA1153 → l.getD 0 undef = .slice A1153 x1152.length cA1153)⟩]) (by kernel_rfl) hz1147 hd1147 (fun _ h => nomatch h) ?_ ?_
            · refine steps_cons (fun own a wx hf hsl hE => ?_) ?_
              · obtain ⟨s_44, s_46, -⟩ := hsl
                exact sg_plain rfl rfl (or_index (R := R28) (l := x1033) tl27 (s_44.trans e1147_44) (s_46.trans e1147_46) (RdO.some_ b1147_A1034 hx1152) hx1152)
              refine steps_cons (fun own a wx hf hsl hE => ?_) ?_
              · obtain ⟨(f_48 : a.eval (.tmp 48) = .pointer (some ((adr A1034).add ((x1091 : Int).toNat * R28.s)))), -⟩ := hf
                exact sg_plain rfl rfl (or_loadN1 X28 0 to28 f_48 (Addr.add_zero' _).symm (RdO.evo rfl hE b1147_A1034) hx1152 (fun _ => rfl))
              refine steps_cons (fun own a wx hf hsl hE => ?_) ?_
              · obtain ⟨⟨⟨A1153, cA1153⟩, (f_49 : a.eval (.tmp 49) = .slice A1153 x1152.length cA1153), (b_A1153 : RdO own [0] wx R3 A1153 cA1153 x1152)⟩, -⟩ := hf
                exact sg_plain rfl rfl (or_mono (f := Fct.val 8 (.slice A1153 x1152.length cA1153)) (or_assign f_49) (fun own' a' w' v' hp h => fun _ _ h0' => by cases (f_49.symm.trans ((hp.2 49 (by decide)).symm.trans h0')); exact h))
              exact steps_nil
            intro own1154 a1154 w1154 hd1154 hz1154 hk1154 hf1154 hE1154
            have e1154_38 : a1154.eval (.tmp 38) = .slice An1_1 n1.2.length cn1_1 := (hk1154 38 rfl).trans e1147_38
            have e1154_39 : a1154.eval (.tmp 39) = .int .i64 (n1.2.length : Int) := (hk1154 39 rfl).trans e1147_39
            have e1154_40 : a1154.eval (.tmp 40) = .int .i64 x852 := (hk1154 40 rfl).trans e1147_40
            have e1154_44 : a1154.eval (.tmp 44) = .slice A1034 x1033.length cA1034 := (hk1154 44 rfl).trans e1147_44
            have e1154_45 : a1154.eval (.tmp 45) = .int .i64 (x1033.length : Int) := (hk1154 45 rfl).trans e1147_45
            have e1154_46 : a1154.eval (.tmp 46) = .int .i64 x1091 := (hk1154 46 rfl).trans e1147_46
            obtain ⟨⟨⟨A1153, cA1153⟩, (f_49 : a1154.eval (.tmp 49) = .slice A1153 x1152.length cA1153), (b_A1153 : RdO own1154 [0] w1154 R3 A1153 cA1153 x1152)⟩, (q_8 : ∀ (A1153 : Option Addr) (cA1153 : Nat), a1154.eval (.tmp 49) = .slice A1153 x1152.length cA1153 → a1154.eval (.tmp 8) = .slice A1153 x1152.length cA1153), -⟩ := hf1154 [1, 2] rfl
            have f_8 := q_8 _ _ f_49
            have e1154_8 := f_8
            have hX1154 := Evo.step hX1147 (fun _ => Nat.le_refl 0) hE1154 rfl
            have b1154_An1_1 := RdO.evo rfl hE1154 b1147_An1_1
            have b1154_A1034 := RdO.evo rfl hE1154 b1147_A1034
            have b1154_A1153 := b_A1153
            refine rg_plain_seq (n := 62) (rs := []) (own0 := own1154) (K := [])
                (bs := [0, 1, 0])
                (ds := [⟨[], [8], [], Fct.val 50 (.slice A1153 x1152.length cA1153)⟩,
                ⟨[0], [], [], Fct.val 51 (.int .i64 (x1152.length : Int))⟩,
                ⟨[], [], [], Fct.val 52 (.int .i64 0)⟩]) (by kernel_rfl) hz1154 hd1154 (fun _ h => nomatch h) ?_ ?_
            · refine steps_cons (fun own a wx hf hsl hE => ?_) ?_
              · obtain ⟨s_8, -⟩ := hsl
                exact sg_plain rfl rfl (or_move (s_8.trans e1154_8))
              refine steps_cons (fun own a wx hf hsl hE => ?_) ?_
              · obtain ⟨(f_50 : a.eval (.tmp 50) = .slice A1153 x1152.length cA1153), -⟩ := hf
                exact sg_plain rfl rfl (or_len tu28 f_50 rfl)
              refine steps_cons (fun own a wx hf hsl hE => ?_) ?_
              · exact sg_plain rfl rfl (or_move rfl)
              exact steps_nil
            intro own1155 a1155 w1155 hd1155 hz1155 hk1155 hf1155 hE1155
            have e1155_38 : a1155.eval (.tmp 38) = .slice An1_1 n1.2.length cn1_1 := (hk1155 38 rfl).trans e1154_38
            have e1155_39 : a1155.eval (.tmp 39) = .int .i64 (n1.2.length : Int) := (hk1155 39 rfl).trans e1154_39
            have e1155_40 : a1155.eval (.tmp 40) = .int .i64 x852 := (hk1155 40 rfl).trans e1154_40
            have e1155_44 : a1155.eval (.tmp 44) = .slice A1034 x1033.length cA1034 := (hk1155 44 rfl).trans e1154_44
            have e1155_45 : a1155.eval (.tmp 45) = .int .i64 (x1033.length : Int) := (hk1155 45 rfl).trans e1154_45
            have e1155_46 : a1155.eval (.tmp 46) = .int .i64 x1091 := (hk1155 46 rfl).trans e1154_46
            obtain ⟨(f_50 : a1155.eval (.tmp 50) = .slice A1153 x1152.length cA1153), (f_51 : a1155.eval (.tmp 51) = .int .i64 (x1152.length : Int)), (f_52 : a1155.eval (.tmp 52) = .int .i64 0), -⟩ := hf1155 [0, 1, 2] rfl
            have e1155_50 := f_50
            have e1155_51 := f_51
            have e1155_52 := f_52
            have hX1155 := Evo.step hX1154 (fun _ => Nat.le_refl 0) hE1155 rfl
            have b1155_An1_1 := RdO.evo rfl hE1155 b1154_An1_1
            have b1155_A1034 := RdO.evo rfl hE1155 b1154_A1034
            have b1155_A1153 := RdO.evo rfl hE1155 b1154_A1153
            refine fl_block (fun Q1156 hn1156 hx1156 hp1156 => ?_)
            refine fl_loop (body := (fun s => block_Check_b4 x1091 x1152 s)) (z := zz1145) (show loopO _ _ = _ from hs) (fun (x1170 : Int) a wx => ∃ (ox : Own), a.defers = [] ∧ a.tmps.size = 62 ∧ a.eval (.tmp 38) = .slice An1_1 n1.2.length cn1_1 ∧ a.eval (.tmp 39) = .int .i64 (n1.2.length : Int) ∧ a.eval (.tmp 40) = .int .i64 x852 ∧ a.eval (.tmp 44) = .slice A1034 x1033.length cA1034 ∧ a.eval (.tmp 45) = .int .i64 (x1033.length : Int) ∧ a.eval (.tmp 46) = .int .i64 x1091 ∧ a.eval (.tmp 50) = .slice A1153 x1152.length cA1153 ∧ a.eval (.tmp 51) = .int .i64 (x1152.length : Int) ∧ a.eval (.tmp 52) = .int .i64 x1170 ∧ Evo [] (fun _ => 0) ox w wx ∧ RdO ox [0] wx R27 An1_1 cn1_1 n1.2 ∧ RdO ox [0] wx R28 A1034 cA1034 x1033 ∧ RdO ox [0] wx R3 A1153 cA1153 x1152) ?_ ?_
            · exact ⟨own1155, hd1155, hz1155, e1155_38, e1155_39, e1155_40, e1155_44, e1155_45, e1155_46, e1155_50, e1155_51, e1155_52, hX1155, b1155_An1_1, b1155_A1034, b1155_A1153⟩
            · rintro x1170 zz1184 a1184 w1184 ⟨own1184, hd1185, hz1185, e1185_38, e1185_39, e1185_40, e1185_44, e1185_45, e1185_46, e1185_50, e1185_51, e1185_52, hE1185, b1185_An1_1, b1185_A1034, b1185_A1153⟩ hs Q1184 hn1184 hp1184 hz1184
              have hs : block_Check_b4 x1091 x1152 x1170 = some zz1184 := hs
              refine rg_plain_seq (n := 62) (rs := []) (own0 := own1184) (K := [])
                  (bs := [0])
                  (ds := [⟨[], [52, 51], [], Fct.val 53 (.bool (decide (x1170 < (x1152.length : Int))))⟩]) (by kernel_rfl) hz1185 hd1185 (fun _ h => nomatch h) ?_ ?_
              · refine steps_cons (fun own a wx hf hsl hE => ?_) ?_
                · obtain ⟨s_52, s_51, -⟩ := hsl
                  exact sg_plain rfl rfl (or_lss (s_52.trans e1185_52) (s_51.trans e1185_51) rfl)
                exact steps_nil
              intro own1186 a1186 w1186 hd1186 hz1186 hk1186 hf1186 hE1186
              have e1186_38 : a1186.eval (.tmp 38) = .slice An1_1 n1.2.length cn1_1 := (hk1186 38 rfl).trans e1185_38
              have e1186_39 : a1186.eval (.tmp 39) = .int .i64 (n1.2.length : Int) := (hk1186 39 rfl).trans e1185_39
              have e1186_40 : a1186.eval (.tmp 40) = .int .i64 x852 := (hk1186 40 rfl).trans e1185_40
              have e1186_44 : a1186.eval (.tmp 44) = .slice A1034 x1033.length cA1034 := (hk1186 44 rfl).trans e1185_44
              have e1186_45 : a1186.eval (.tmp 45) = .int .i64 (x1033.length : Int) := (hk1186 45 rfl).trans e1185_45
              have e1186_46 : a1186.eval (.tmp 46) = .int .i64 x1091 := (hk1186 46 rfl).trans e1185_46
              have e1186_50 : a1186.eval (.tmp 50) = .slice A1153 x1152.length cA1153 := (hk1186 50 rfl).trans e1185_50
              have e1186_51 : a1186.eval (.tmp 51) = .int .i64 (x1152.length : Int) := (hk1186 51 rfl).trans e1185_51
              have e1186_52 : a1186.eval (.tmp 52) = .int .i64 x1170 := (hk1186 52 rfl).trans e1185_52
              obtain ⟨(f_53 : a1186.eval (.tmp 53) = .bool (decide (x1170 < (x1152.length : Int)))), -⟩ := hf1186 [0] rfl
              have e1186_53 := f_53
              have hX1186 := Evo.step hE1185 (fun _ => Nat.le_refl 0) hE1186 rfl
              have b1186_An1_1 := RdO.evo rfl hE1186 b1185_An1_1
              have b1186_A1034 := RdO.evo rfl hE1186 b1185_A1034
              have b1186_A1153 := RdO.evo rfl hE1186 b1185_A1153
              refine fl_seq (fun Q1187 hn1187 hp1187 => ?_)
              refine fl_cond e1186_53 hs (fun c1188 hs => ?_) (fun c1188 hs => ?_)
              · refine fl_skip ?_
                refine hn1187 _ _ ?_
                refine fl_seq (fun Q1189 hn1189 hp1189 => ?_)
                refine fl_block (fun Q1190 hn1190 hx1190 hp1190 => ?_)
                obtain ⟨x1191, hx1191, hs⟩ := obind hs
                refine rg_plain_seq (n := 62) (rs := []) (own0 := own1186) (K := [])
                    (bs := [0, 1, 3])
                    (ds := [⟨[], [50, 52], [], Fct.val 54 (.pointer (some ((adr A1153).add ((x1170 : Int).toNat * R3.s))))⟩,
                    ⟨[0], [], [], Fct.val 55 (.int .i64 x1191)⟩,
                    ⟨[1], [], [], Fct.val 10 (.int .i64 x1191)⟩]) (by kernel_rfl) hz1186 hd1186 (fun _ h => nomatch h) ?_ ?_
                · refine steps_cons (fun own a wx hf hsl hE => ?_) ?_
                  · obtain ⟨s_50, s_52, -⟩ := hsl
                    exact sg_plain rfl rfl (or_index (R := R3) (l := x1152) tl28 (s_50.trans e1186_50) (s_52.trans e1186_52) (RdO.some_ b1186_A1153 hx1191) hx1191)
                  refine steps_cons (fun own a wx hf hsl hE => ?_) ?_
                  · obtain ⟨(f_54 : a.eval (.tmp 54) = .pointer (some ((adr A1153).add ((x1170 : Int).toNat * R3.s)))), -⟩ := hf
                    exact sg_plain rfl rfl (or_load1 to3 f_54 (CellsAt.zero (RdO.cells (F := E3) (RdO.evo rfl hE b1186_A1153) hx1191) rfl))
                  refine steps_cons (fun own a wx hf hsl hE => ?_) ?_
                  · obtain ⟨(f_55 : a.eval (.tmp 55) = .int .i64 x1191), -⟩ := hf
                    exact sg_plain rfl rfl (or_assign f_55)
                  exact steps_nil
                intro own1192 a1192 w1192 hd1192 hz1192 hk1192 hf1192 hE1192
                have e1192_38 : a1192.eval (.tmp 38) = .slice An1_1 n1.2.length cn1_1 := (hk1192 38 rfl).trans e1186_38
                have e1192_39 : a1192.eval (.tmp 39) = .int .i64 (n1.2.length : Int) := (hk1192 39 rfl).trans e1186_39
                have e1192_40 : a1192.eval (.tmp 40) = .int .i64 x852 := (hk1192 40 rfl).trans e1186_40
                have e1192_44 : a1192.eval (.tmp 44) = .slice A1034 x1033.length cA1034 := (hk1192 44 rfl).trans e1186_44
                have e1192_45 : a1192.eval (.tmp 45) = .int .i64 (x1033.length : Int) := (hk1192 45 rfl).trans e1186_45
                have e1192_46 : a1192.eval (.tmp 46) = .int .i64 x1091 := (hk1192 46 rfl).trans e1186_46
                have e1192_50 : a1192.eval (.tmp 50) = .slice A1153 x1152.length cA1153 := (hk1192 50 rfl).trans e1186_50
                have e1192_51 : a1192.eval (.tmp 51) = .int .i64 (x1152.length : Int) := (hk1192 51 rfl).trans e1186_51
                have e1192_52 : a1192.eval (.tmp 52) = .int .i64 x1170 := (hk1192 52 rfl).trans e1186_52
                obtain ⟨(f_10 : a1192.eval (.tmp 10) = .int .i64 x1191), -⟩ := hf1192 [2] rfl
                have e1192_10 := f_10
                have hX1192 := Evo.step hX1186 (fun _ => Nat.le_refl 0) hE1192 rfl
                have b1192_An1_1 := RdO.evo rfl hE1192 b1186_An1_1
                have b1192_A1034 := RdO.evo rfl hE1192 b1186_A1034
                have b1192_A1153 := RdO.evo rfl hE1192 b1186_A1153
                obtain ⟨r1193, hr1193, hs⟩ := obind hs
                refine rg_plain_seq (n := 62) (rs := []) (own0 := own1192) (K := [])
                    (bs := [0, 1, 3])
                    (ds := [⟨[], [10], [], Fct.val 56 (.int .i64 x1191)⟩,
                    ⟨[0], [], [], Fct.val 57 (.bool r1193)⟩,
                    ⟨[1], [], [], Fct.val 58 (.bool (!r1193))⟩]) (by kernel_rfl) hz1192 hd1192 (fun _ h => nomatch h) ?_ ?_
                · refine steps_cons (fun own a wx hf hsl hE => ?_) ?_
                  · obtain ⟨s_10, -⟩ := hsl
                    exact sg_plain rfl rfl (or_move (s_10.trans e1192_10))
                  refine steps_cons (fun own a wx hf hsl hE => ?_) ?_
                  · obtain ⟨(f_56 : a.eval (.tmp 56) = .int .i64 x1191), -⟩ := hf
                    exact sg_plain rfl rfl (or_call cf23 (args1 f_56) (block_ref_w _ x1191  r1193 hr1193) post_val)
                  refine steps_cons (fun own a wx hf hsl hE => ?_) ?_
                  · obtain ⟨(f_57 : a.eval (.tmp 57) = .bool r1193), -⟩ := hf
                    exact sg_plain rfl rfl (or_not f_57 rfl)
                  exact steps_nil
                intro own1194 a1194 w1194 hd1194 hz1194 hk1194 hf1194 hE1194
                have e1194_38 : a1194.eval (.tmp 38) = .slice An1_1 n1.2.length cn1_1 := (hk1194 38 rfl).trans e1192_38
                have e1194_39 : a1194.eval (.tmp 39) = .int .i64 (n1.2.length : Int) := (hk1194 39 rfl).trans e1192_39
                have e1194_40 : a1194.eval (.tmp 40) = .int .i64 x852 := (hk1194 40 rfl).trans e1192_40
                have e1194_44 : a1194.eval (.tmp 44) = .slice A1034 x1033.length cA1034 := (hk1194 44 rfl).trans e1192_44
                have e1194_45 : a1194.eval (.tmp 45) = .int .i64 (x1033.length : Int) := (hk1194 45 rfl).trans e1192_45
                have e1194_46 : a1194.eval (.tmp 46) = .int .i64 x1091 := (hk1194 46 rfl).trans e1192_46
                have e1194_50 : a1194.eval (.tmp 50) = .slice A1153 x1152.length cA1153 := (hk1194 50 rfl).trans e1192_50
                have e1194_51 : a1194.eval (.tmp 51) = .int .i64 (x1152.length : Int) := (hk1194 51 rfl).trans e1192_51
                have e1194_52 : a1194.eval (.tmp 52) = .int .i64 x1170 := (hk1194 52 rfl).trans e1192_52
                obtain ⟨(f_58 : a1194.eval (.tmp 58) = .bool (!r1193)), -⟩ := hf1194 [2] rfl
                have e1194_58 := f_58
                have hX1194 := Evo.step hX1192 (fun _ => Nat.le_refl 0) hE1194 rfl
                have b1194_An1_1 := RdO.evo rfl hE1194 b1192_An1_1
                have b1194_A1034 := RdO.evo rfl hE1194 b1192_A1034
                have b1194_A1153 := RdO.evo rfl hE1194 b1192_A1153
                refine fl_cond e1194_58 hs (fun c1195 hs => ?_) (fun c1195 hs => ?_)
                · refine rg_plain_seq (n := 62) (rs := []) (own0 := own1194) (K := [])
                      (bs := [0])
                      (ds := [⟨[], [], [], Fct.val 2 (.int .i64 5)⟩]) (by kernel_rfl) hz1194 hd1194 (fun _ h => nomatch h) ?_ ?_
                  · refine steps_cons (fun own a wx hf hsl hE => ?_) ?_
                    · exact sg_plain rfl rfl (or_assign rfl)
                    exact steps_nil
                  intro own1196 a1196 w1196 hd1196 hz1196 hk1196 hf1196 hE1196
                  obtain ⟨(f_2 : a1196.eval (.tmp 2) = .int .i64 5), -⟩ := hf1196 [0] rfl
                  have e1196_2 := f_2
                  have hX1196 := Evo.step hX1194 (fun _ => Nat.le_refl 0) hE1196 rfl
                  refine fl_ret ?_
                  refine hp1190 _ _ _ rfl ?_
                  refine hp1189 _ _ _ rfl ?_
                  replace hs := hz1184 _ hs
                  refine hp1184 _ _ _ rfl ?_
                  refine hp1156 _ _ _ rfl ?_
                  refine hp1151 _ _ _ rfl ?_
                  refine hp1150 _ _ _ rfl ?_
                  replace hs := hz1145 _ hs
                  refine hp1145 _ _ _ rfl ?_
                  refine hp1037 _ _ _ rfl ?_
                  refine hp1032 _ _ _ rfl ?_
                  refine hp1031 _ _ _ rfl ?_
                  replace hs := hz1026 _ hs
                  refine hp1026 _ _ _ rfl ?_
                  refine hp678 _ _ _ rfl ?_
                  refine hp676 _ _ _ rfl ?_
                  obtain rfl := osome hs
                  exact hret _ _ _ _ (.inl rfl) hd1196 (results1_ rfl (RVal.tmp_ e1196_2)) ⟨own1196, rfl, hX1196⟩
                refine fl_skip ?_
                refine hn1190 _ _ ?_
                refine hn1189 _ _ ?_
                refine rg_plain (n := 62) (rs := []) (own0 := own1194) (K := [])
                    (bs := [0, 1])
                    (ds := [⟨[], [52], [], Fct.val 59 (.int .i64 (ad x1170 1))⟩,
                    ⟨[0], [], [], Fct.val 52 (.int .i64 (ad x1170 1))⟩]) (by kernel_rfl) hz1194 hd1194 (fun _ h => nomatch h) ?_ ?_
                · refine steps_cons (fun own a wx hf hsl hE => ?_) ?_
                  · obtain ⟨s_52, -⟩ := hsl
                    exact sg_plain rfl rfl (or_add (s_52.trans e1194_52) rfl rfl)
                  refine steps_cons (fun own a wx hf hsl hE => ?_) ?_
                  · obtain ⟨(f_59 : a.eval (.tmp 59) = .int .i64 (ad x1170 1)), -⟩ := hf
                    exact sg_plain rfl rfl (or_move f_59)
                  exact steps_nil
                intro own1197 a1197 w1197 hd1197 hz1197 hk1197 hf1197 hE1197
                have e1197_38 : a1197.eval (.tmp 38) = .slice An1_1 n1.2.length cn1_1 := (hk1197 38 rfl).trans e1194_38
                have e1197_39 : a1197.eval (.tmp 39) = .int .i64 (n1.2.length : Int) := (hk1197 39 rfl).trans e1194_39
                have e1197_40 : a1197.eval (.tmp 40) = .int .i64 x852 := (hk1197 40 rfl).trans e1194_40
                have e1197_44 : a1197.eval (.tmp 44) = .slice A1034 x1033.length cA1034 := (hk1197 44 rfl).trans e1194_44
                have e1197_45 : a1197.eval (.tmp 45) = .int .i64 (x1033.length : Int) := (hk1197 45 rfl).trans e1194_45
                have e1197_46 : a1197.eval (.tmp 46) = .int .i64 x1091 := (hk1197 46 rfl).trans e1194_46
                have e1197_50 : a1197.eval (.tmp 50) = .slice A1153 x1152.length cA1153 := (hk1197 50 rfl).trans e1194_50
                have e1197_51 : a1197.eval (.tmp 51) = .int .i64 (x1152.length : Int) := (hk1197 51 rfl).trans e1194_51
                obtain ⟨(f_52 : a1197.eval (.tmp 52) = .int .i64 (ad x1170 1)), -⟩ := hf1197 [1] rfl
                have e1197_52 := f_52
                have hX1197 := Evo.step hX1194 (fun _ => Nat.le_refl 0) hE1197 rfl
                have b1197_An1_1 := RdO.evo rfl hE1197 b1194_An1_1
                have b1197_A1034 := RdO.evo rfl hE1197 b1194_A1034
                have b1197_A1153 := RdO.evo rfl hE1197 b1194_A1153
                exact hn1184 _ _ _ hs ⟨own1197, hd1197, hz1197, e1197_38, e1197_39, e1197_40, e1197_44, e1197_45, e1197_46, e1197_50, e1197_51, e1197_52, hX1197, b1197_An1_1, b1197_A1034, b1197_A1153⟩
              refine fl_exit ?_
              refine hp1187 _ _ _ rfl ?_
              replace hs := hz1184 _ hs
              refine hp1184 _ _ _ rfl ?_
              refine hx1156 _ _ ?_
              refine hn1151 _ _ ?_
              refine hn1150 _ _ ?_
              refine rg_plain (n := 62) (rs := []) (own0 := own1186) (K := [])
                  (bs := [0, 1])
                  (ds := [⟨[], [46], [], Fct.val 60 (.int .i64 (ad x1091 1))⟩,
                  ⟨[0], [], [], Fct.val 46 (.int .i64 (ad x1091 1))⟩]) (by kernel_rfl) hz1186 hd1186 (fun _ h => nomatch h) ?_ ?_
              · refine steps_cons (fun own a wx hf hsl hE => ?_) ?_
                · obtain ⟨s_46, -⟩ := hsl
                  exact sg_plain rfl rfl (or_add (s_46.trans e1186_46) rfl rfl)
                refine steps_cons (fun own a wx hf hsl hE => ?_) ?_
                · obtain ⟨(f_60 : a.eval (.tmp 60) = .int .i64 (ad x1091 1)), -⟩ := hf
                  exact sg_plain rfl rfl (or_move f_60)
                exact steps_nil
              intro own1198 a1198 w1198 hd1198 hz1198 hk1198 hf1198 hE1198
              have e1198_38 : a1198.eval (.tmp 38) = .slice An1_1 n1.2.length cn1_1 := (hk1198 38 rfl).trans e1186_38
              have e1198_39 : a1198.eval (.tmp 39) = .int .i64 (n1.2.length : Int) := (hk1198 39 rfl).trans e1186_39
              have e1198_40 : a1198.eval (.tmp 40) = .int .i64 x852 := (hk1198 40 rfl).trans e1186_40
              have e1198_44 : a1198.eval (.tmp 44) = .slice A1034 x1033.length cA1034 := (hk1198 44 rfl).trans e1186_44
              have e1198_45 : a1198.eval (.tmp 45) = .int .i64 (x1033.length : Int) := (hk1198 45 rfl).trans e1186_45
              obtain ⟨(f_46 : a1198.eval (.tmp 46) = .int .i64 (ad x1091 1)), -⟩ := hf1198 [1] rfl
              have e1198_46 := f_46
              have hX1198 := Evo.step hX1186 (fun _ => Nat.le_refl 0) hE1198 rfl
              have b1198_An1_1 := RdO.evo rfl hE1198 b1186_An1_1
              have b1198_A1034 := RdO.evo rfl hE1198 b1186_A1034
              exact hn1145 _ _ _ hs ⟨own1198, hd1198, hz1198, e1198_38, e1198_39, e1198_40, e1198_44, e1198_45, e1198_46, hX1198, b1198_An1_1, b1198_A1034⟩
          refine fl_exit ?_
          refine hp1148 _ _ _ rfl ?_
          replace hs := hz1145 _ hs
          refine hp1145 _ _ _ rfl ?_
          refine hx1037 _ _ ?_
          refine hn1032 _ _ ?_
          refine hn1031 _ _ ?_
          refine rg_plain (n := 62) (rs := []) (own0 := own1147) (K := [])
              (bs := [0, 1])
              (ds := [⟨[], [40], [], Fct.val 61 (.int .i64 (ad x852 1))⟩,
              ⟨[0], [], [], Fct.val 40 (.int .i64 (ad x852 1))⟩]) (by kernel_rfl) hz1147 hd1147 (fun _ h => nomatch h) ?_ ?_
          · refine steps_cons (fun own a wx hf hsl hE => ?_) ?_
            · obtain ⟨s_40, -⟩ := hsl
              exact sg_plain rfl rfl (or_add (s_40.trans e1147_40) rfl rfl)
            refine steps_cons (fun own a wx hf hsl hE => ?_) ?_
            · obtain ⟨(f_61 : a.eval (.tmp 61) = .int .i64 (ad x852 1)), -⟩ := hf
              exact sg_plain rfl rfl (or_move f_61)
            exact steps_nil
          intro own1199 a1199 w1199 hd1199 hz1199 hk1199 hf1199 hE1199
          have e1199_38 : a1199.eval (.tmp 38) = .slice An1_1 n1.2.length cn1_1 := (hk1199 38 rfl).trans e1147_38
          have e1199_39 : a1199.eval (.tmp 39) = .int .i64 (n1.2.length : Int) := (hk1199 39 rfl).trans e1147_39
          obtain ⟨(f_40 : a1199.eval (.tmp 40) = .int .i64 (ad x852 1)), -⟩ := hf1199 [1] rfl
          have e1199_40 := f_40
          have hX1199 := Evo.step hX1147 (fun _ => Nat.le_refl 0) hE1199 rfl
          have b1199_An1_1 := RdO.evo rfl hE1199 b1147_An1_1
          exact hn1026 _ _ _ hs ⟨own1199, hd1199, hz1199, e1199_38, e1199_39, e1199_40, hX1199, b1199_An1_1⟩
      refine fl_exit ?_
      refine hp1029 _ _ _ rfl ?_
      replace hs := hz1026 _ hs
      refine hp1026 _ _ _ rfl ?_
      refine hx678 _ _ ?_
      refine hn676 _ _ ?_
      refine rg_plain_seq (n := 62) (rs := []) (own0 := own1028) (K := [])
          (bs := [0])
          (ds := [⟨[], [], [], Fct.val 2 (.int .i64 0)⟩]) (by kernel_rfl) hz1028 hd1028 (fun _ h => nomatch h) ?_ ?_
      · refine steps_cons (fun own a wx hf hsl hE => ?_) ?_
        · exact sg_plain rfl rfl (or_assign rfl)
        exact steps_nil
      intro own1200 a1200 w1200 hd1200 hz1200 hk1200 hf1200 hE1200
      obtain ⟨(f_2 : a1200.eval (.tmp 2) = .int .i64 0), -⟩ := hf1200 [0] rfl
      have e1200_2 := f_2
      have hX1200 := Evo.step hX1028 (fun _ => Nat.le_refl 0) hE1200 rfl
      refine fl_ret ?_
      obtain rfl := osome hs
      exact hret _ _ _ _ (.inl rfl) hd1200 (results1_ rfl (RVal.tmp_ e1200_2)) ⟨own1200, rfl, hX1200⟩

end Go.Proofs.Ytaobbaohelpdgaa
