import Derived.Test.YtaobbaohelpdgaaBase
import Derived.Test.YtaobbaohelpdgaaTy
import Derived.Test.YtaobbaohelpdgaaSp1
namespace Go.Proofs.Ytaobbaohelpdgaa
open Go.RowKit
set_option linter.unusedVariables false
set_option maxRecDepth 10000
theorem block_many_w (w : World) (n1 : (List ((List (Int × Int)) × Int × Int)) × (List (List (List Int)))) (An1_0 : Option Addr) (cn1_0 : Nat) (An1_1 : Option Addr) (cn1_1 : Nat) (hAn1_0 : RdO (fun _ => 0) [0] w R59 An1_0 cn1_0 n1.1) (hAn1_1 : RdO (fun _ => 0) [0] w R27 An1_1 cn1_1 n1.2) (r : Bool) (hs : block_many n1 = some r) :
    Calls Try.prog 20 #[.agg #[.slice An1_0 n1.1.length cn1_0, .slice An1_1 n1.2.length cn1_1]] w fun e w' => ∃ own' : Own, e = .returned (.bool r) ∧ Evo [] (fun _ => 0) own' w w' := by
  refine fl_enter (n := 70) rfl rfl rfl (Nat.le_of_ble_eq_true rfl) ?_
  intro a0 Q hd0 hz0 harg hret
  have ha0 := harg 0 _ rfl
  clear harg
  have hE0 : Evo [] (fun _ => 0) (fun _ => 0) w w := Evo.refl _ _ _
  refine rg0_seq 70 (fun _ => 0) [0, 0] [⟨[], [0], [], Fct.blk 222 1 (fun g => .pointer (some ⟨g, 0, none⟩)) 25 #[.slice An1_0 n1.1.length cn1_0, .slice An1_1 n1.2.length cn1_1]⟩, ⟨[], [], [], Fct.val 2 (.bool false)⟩] hz0 hd0 (by kernel_rfl) ?_ ?_
  · refine sc (fun _ _ _ _ s _ => px (or_new [(0, .agg #[.slice An1_0 n1.1.length cn1_0, .slice An1_1 n1.2.length cn1_1])] rfl rfl ⟨(s.1.trans ha0), trivial⟩ (by kernel_rfl))) ?_
    refine sc (fun _ _ _ _ _ _ => px (or_assign rfl)) ?_
    exact steps_nil
  intro own223 a223 w223 hd223 hz223 hk223 hf223 hE223
  obtain ⟨⟨g221, (e223_1 : a223.eval (.tmp 1) = .pointer (some ⟨g221, 0, none⟩)), (b223_g221 : BlkO own223 222 w223 g221 25 #[.slice An1_0 n1.1.length cn1_0, .slice An1_1 n1.2.length cn1_1])⟩, -⟩ := hf223 [0] rfl
  have hX223 := es_ hE0 hE223
  have b223_An1_0 := RdO.evo rfl hE223 hAn1_0
  have b223_An1_1 := RdO.evo rfl hE223 hAn1_1
  refine rg0_seq 70 own223 (bz 3) [⟨[], [], [], Fct.val 3 (.int .i64 0)⟩, ⟨[], [], [], Fct.val 4 (.int .i64 0)⟩, ⟨[], [], [], Fct.val 5 (.int .i64 0)⟩] hz223 hd223 (by kernel_rfl) ?_ ?_
  · refine sc (fun _ _ _ _ _ _ => px (or_assign rfl)) ?_
    refine sc (fun _ _ _ _ _ _ => px (or_assign rfl)) ?_
    refine sc (fun _ _ _ _ _ _ => px (or_assign rfl)) ?_
    exact steps_nil
  intro own224 a224 w224 hd224 hz224 hk224 hf224 hE224
  have e224_1 := (hk224 1 rfl).trans e223_1
  obtain ⟨(e224_3 : a224.eval (.tmp 3) = .int .i64 0), (e224_4 : a224.eval (.tmp 4) = .int .i64 0), (e224_5 : a224.eval (.tmp 5) = .int .i64 0), -⟩ := hf224 [0, 1, 2] rfl
  have hX224 := es_ hX223 hE224
  have b224_An1_0 := RdO.evo rfl hE224 b223_An1_0
  have b224_An1_1 := RdO.evo rfl hE224 b223_An1_1
  have b224_g221 := be_ hE224 b223_g221
  refine fl_seq (fun Q225 hn225 hp225 => ?_)
  refine rg0_seq 70 own224 [0, 1, 3, 0] [⟨[], [1], [], Fct.val 12 (.pointer (some ⟨g221, 0, none⟩))⟩, ⟨[0], [], [], Fct.val 13 (.slice An1_0 n1.1.length cn1_0)⟩, ⟨[1], [], [], Fct.val 14 (.int .i64 (n1.1.length : Int))⟩, ⟨[], [], [], Fct.val 15 (.int .i64 0)⟩] hz224 hd224 (by kernel_rfl) ?_ ?_
  · refine sc (fun _ _ _ _ s _ => px (or_field fo25_0 (s.1.trans e224_1) (by rfl))) ?_
    refine sc (fun _ _ _ f _ hE => px (or_load1 to22 f.1 (Blk.at_ (be_ hE b224_g221).2 0 rfl))) ?_
    refine sc (fun _ _ _ f _ _ => px (or_len tu22 f.1 rfl)) ?_
    refine sc (fun _ _ _ _ _ _ => px (or_move rfl)) ?_
    exact steps_nil
  intro own226 a226 w226 hd226 hz226 hk226 hf226 hE226
  have e226_1 := (hk226 1 rfl).trans e224_1
  have e226_3 := (hk226 3 rfl).trans e224_3
  have e226_4 := (hk226 4 rfl).trans e224_4
  have e226_5 := (hk226 5 rfl).trans e224_5
  obtain ⟨(e226_13 : a226.eval (.tmp 13) = .slice An1_0 n1.1.length cn1_0), (e226_14 : a226.eval (.tmp 14) = .int .i64 (n1.1.length : Int)), (e226_15 : a226.eval (.tmp 15) = .int .i64 0), -⟩ := hf226 [1, 2, 3] rfl
  have hX226 := es_ hX224 hE226
  have b226_An1_0 := RdO.evo rfl hE226 b224_An1_0
  have b226_An1_1 := RdO.evo rfl hE226 b224_An1_1
  have b226_g221 := be_ hE226 b224_g221
  refine fl_block (fun Q227 hn227 hx227 hp227 => ?_)
  refine fl_loop (body := (fun s => block_many_b1 n1 s.1 s.2)) (z := r) (show loopO _ _ = _ from hs) (fun (s : Int × Int) a wx => match s with | (points242, x243) => ∃ (ox : Own), a.defers = [] ∧ a.tmps.size = 70 ∧ a.eval (.tmp 1) = .pointer (some ⟨g221, 0, none⟩) ∧ a.eval (.tmp 3) = .int .i64 points242 ∧ a.eval (.tmp 4) = .int .i64 0 ∧ a.eval (.tmp 5) = .int .i64 0 ∧ a.eval (.tmp 13) = .slice An1_0 n1.1.length cn1_0 ∧ a.eval (.tmp 14) = .int .i64 (n1.1.length : Int) ∧ a.eval (.tmp 15) = .int .i64 x243 ∧ Evo [] (fun _ => 0) ox w wx ∧ BlkO ox 222 wx g221 25 #[.slice An1_0 n1.1.length cn1_0, .slice An1_1 n1.2.length cn1_1] ∧ RdO ox [0] wx R59 An1_0 cn1_0 n1.1 ∧ RdO ox [0] wx R27 An1_1 cn1_1 n1.2) ?_ ?_
  · exact ⟨own226, hd226, hz226, e226_1, e226_3, e226_4, e226_5, e226_13, e226_14, e226_15, hX226, b226_g221, b226_An1_0, b226_An1_1⟩
  · rintro ⟨points242, x243⟩ zz258 a258 w258 ⟨own258, hd259, hz259, e259_1, e259_3, e259_4, e259_5, e259_13, e259_14, e259_15, hE259, b259_g221, b259_An1_0, b259_An1_1⟩ hs Q258 hn258 hp258 hz258
    have hs : block_many_b1 n1 points242 x243 = some zz258 := hs
    refine rg0_seq 70 own258 (bz 1) [⟨[], [15, 14], [], Fct.val 16 (.bool (decide (x243 < (n1.1.length : Int))))⟩] hz259 hd259 (by kernel_rfl) ?_ ?_
    · refine sc (fun _ _ _ _ s _ => px (or_lss (s.1.trans e259_15) (s.2.1.trans e259_14) rfl)) ?_
      exact steps_nil
    intro own260 a260 w260 hd260 hz260 hk260 hf260 hE260
    have e260_1 := (hk260 1 rfl).trans e259_1
    have e260_3 := (hk260 3 rfl).trans e259_3
    have e260_4 := (hk260 4 rfl).trans e259_4
    have e260_5 := (hk260 5 rfl).trans e259_5
    have e260_13 := (hk260 13 rfl).trans e259_13
    have e260_14 := (hk260 14 rfl).trans e259_14
    have e260_15 := (hk260 15 rfl).trans e259_15
    obtain ⟨(e260_16 : a260.eval (.tmp 16) = .bool (decide (x243 < (n1.1.length : Int)))), -⟩ := hf260 [0] rfl
    have hX260 := es_ hE259 hE260
    have b260_g221 := be_ hE260 b259_g221
    have b260_An1_0 := RdO.evo rfl hE260 b259_An1_0
    have b260_An1_1 := RdO.evo rfl hE260 b259_An1_1
    refine fl_seq (fun Q261 hn261 hp261 => ?_)
    refine fl_cond e260_16 hs (fun c262 hs => ?_) (fun c262 hs => ?_)
    · refine fl_skip ?_
      refine hn261 _ _ ?_
      refine fl_seq (fun Q263 hn263 hp263 => ?_)
      refine fl_block (fun Q264 hn264 hx264 hp264 => ?_)
      obtain ⟨x265, hx265, hs⟩ := obind hs
      refine rg_plain_seq (n := 70) (rs := []) (own0 := own260) (K := [268]) (bs := [0, 1, 0, 7]) (ds := [⟨[], [13, 15], [], Fct.val 17 (.pointer (some ((adr An1_0).add ((x243 : Int).toNat * R59.s))))⟩, ⟨[0], [], [], Fct.nest X59 [0] 18 (fun (y : ((Option Addr × Nat) × Unit × Unit)) => .agg #[.slice y.1.1 x265.1.length y.1.2, .int .i64 x265.2.1, .int .i64 x265.2.2]) x265⟩, ⟨[], [], [], Fct.blk 268 7 (fun g => .pointer (some ⟨g, 0, none⟩)) 59 #[.slice none 0 0, .int .i64 0, .int .i64 0]⟩, ⟨[2, 1], [], [268], Fct.by_ [269] [7, 18] (fun l own w => ∃ g267 : Nat, l.getD 0 undef = .pointer (some ⟨g267, 0, none⟩) ∧ (∀ (A266 : Option Addr) (cA266 : Nat), l.getD 1 undef = .agg #[.slice A266 x265.1.length cA266, .int .i64 x265.2.1, .int .i64 x265.2.2] → BlkO own 269 w g267 59 #[.slice A266 x265.1.length cA266, .int .i64 x265.2.1, .int .i64 x265.2.2])) (fun hk he h => by obtain ⟨g, e, h⟩ := h; exact ⟨g, e, fun _ _ h0' => BlkO.evo (not_hit hk (by decide)) he (h _ _ h0')⟩)⟩]) (by kernel_rfl) hz260 hd260 nm_ ?_ ?_
      · refine sc (fun _ _ _ _ s _ => px (or_index (R := R59) (l := n1.1) tl22 (s.1.trans e260_13) (s.2.1.trans e260_15) (RdO.some_ b260_An1_0 hx265) hx265)) ?_
        refine sc (fun _ _ _ f _ hE => px (or_loadN X59 0 3 ta59 f.1 (Addr.add_zero' _).symm (RdO.evo rfl hE b260_An1_0) hx265 (fun _ => rfl) (fun _ => rfl))) ?_
        refine sc (fun _ _ _ _ _ _ => px (or_new [] rfl rfl trivial (by kernel_rfl))) ?_
        refine sc (fun own a wx hf hsl hE => ?_) ?_
        · obtain ⟨⟨g267, f_7, b_g267⟩, ⟨⟨⟨A266, cA266⟩, _, _⟩, (f_18 : a.eval (.tmp 18) = .agg #[.slice A266 x265.1.length cA266, .int .i64 x265.2.1, .int .i64 x265.2.2]), ⟨b_A266, -, -⟩⟩, -⟩ := hf
          exact px (or_store (l := #[.slice A266 x265.1.length cA266, .int .i64 x265.2.1, .int .i64 x265.2.2]) (lab := 268) (lab2 := 269) ts59 f_7 f_18 b_g267 (by simp) (by kernel_rfl) (mem_of rfl) (by decide) (by kernel_rfl) (fun own' a' w' ha hb => ⟨_, (ha 7).trans f_7, fun _ _ h0' => by cases (f_18.symm.trans ((ha 18).symm.trans h0')); exact hb⟩))
        exact steps_nil
      intro own270 a270 w270 hd270 hz270 hk270 hf270 hE270
      have e270_1 := (hk270 1 rfl).trans e260_1
      have e270_3 := (hk270 3 rfl).trans e260_3
      have e270_4 := (hk270 4 rfl).trans e260_4
      have e270_5 := (hk270 5 rfl).trans e260_5
      have e270_13 := (hk270 13 rfl).trans e260_13
      have e270_14 := (hk270 14 rfl).trans e260_14
      have e270_15 := (hk270 15 rfl).trans e260_15
      obtain ⟨⟨⟨⟨A266, cA266⟩, _, _⟩, (f_18 : a270.eval (.tmp 18) = .agg #[.slice A266 x265.1.length cA266, .int .i64 x265.2.1, .int .i64 x265.2.2]), ⟨(b270_A266 : RdO own270 [0] w270 R56 A266 cA266 x265.1), -, -⟩⟩, ⟨g267, (e270_7 : a270.eval (.tmp 7) = .pointer (some ⟨g267, 0, none⟩)), (bq_g267 : ∀ (A266 : Option Addr) (cA266 : Nat), a270.eval (.tmp 18) = .agg #[.slice A266 x265.1.length cA266, .int .i64 x265.2.1, .int .i64 x265.2.2] → BlkO own270 269 w270 g267 59 #[.slice A266 x265.1.length cA266, .int .i64 x265.2.1, .int .i64 x265.2.2])⟩, -⟩ := hf270 [1, 3] rfl
      have b270_g267 := bq_g267 _ _ f_18
      have hX270 := es_ hX260 hE270
      have b270_g221 := be_ hE270 b260_g221
      have b270_An1_0 := RdO.evo rfl hE270 b260_An1_0
      have b270_An1_1 := RdO.evo rfl hE270 b260_An1_1
      refine rg0 70 own270 [0, 0, 2, 6, 15, 31] [⟨[], [3], [], Fct.val 19 (.int .i64 points242)⟩, ⟨[], [7], [], Fct.val 20 (.pointer (some ⟨g267, 0, none⟩))⟩, ⟨[1], [], [], Fct.val 21 (.slice A266 x265.1.length cA266)⟩, ⟨[2], [], [], Fct.val 22 (.int .i64 (x265.1.length : Int))⟩, ⟨[0, 3], [], [], Fct.val 23 (.int .i64 (ad points242 (x265.1.length : Int)))⟩, ⟨[4], [], [], Fct.val 3 (.int .i64 (ad points242 (x265.1.length : Int)))⟩] hz270 hd270 (by kernel_rfl) ?_ ?_
      · refine sc (fun _ _ _ _ s _ => px (or_move (s.1.trans e270_3))) ?_
        refine sc (fun _ _ _ _ s _ => px (or_field fo59_0 (s.1.trans e270_7) (by rfl))) ?_
        refine sc (fun _ _ _ f _ hE => px (or_load1 to57 f.1 (Blk.at_ (be_ hE b270_g267).2 0 rfl))) ?_
        refine sc (fun _ _ _ f _ _ => px (or_len tu57 f.1 rfl)) ?_
        refine sc (fun _ _ _ f _ _ => px (or_add f.1 f.2.1 rfl)) ?_
        refine sc (fun _ _ _ f _ _ => px (or_assign f.1)) ?_
        exact steps_nil
      intro own271 a271 w271 hd271 hz271 hk271 hf271 hE271
      have e271_1 := (hk271 1 rfl).trans e270_1
      have e271_4 := (hk271 4 rfl).trans e270_4
      have e271_5 := (hk271 5 rfl).trans e270_5
      have e271_13 := (hk271 13 rfl).trans e270_13
      have e271_14 := (hk271 14 rfl).trans e270_14
      have e271_15 := (hk271 15 rfl).trans e270_15
      obtain ⟨(e271_3 : a271.eval (.tmp 3) = .int .i64 (ad points242 (x265.1.length : Int))), -⟩ := hf271 [5] rfl
      have hX271 := es_ hX270 hE271
      have b271_g221 := be_ hE271 b270_g221
      have b271_An1_0 := RdO.evo rfl hE271 b270_An1_0
      have b271_An1_1 := RdO.evo rfl hE271 b270_An1_1
      refine hn264 _ _ ?_
      refine hn263 _ _ ?_
      refine rg0 70 own271 (bz 2) [⟨[], [15], [], Fct.val 24 (.int .i64 (ad x243 1))⟩, ⟨[0], [], [], Fct.val 15 (.int .i64 (ad x243 1))⟩] hz271 hd271 (by kernel_rfl) ?_ ?_
      · refine sc (fun _ _ _ _ s _ => px (or_add (s.1.trans e271_15) rfl rfl)) ?_
        refine sc (fun _ _ _ f _ _ => px (or_move f.1)) ?_
        exact steps_nil
      intro own272 a272 w272 hd272 hz272 hk272 hf272 hE272
      have e272_1 := (hk272 1 rfl).trans e271_1
      have e272_3 := (hk272 3 rfl).trans e271_3
      have e272_4 := (hk272 4 rfl).trans e271_4
      have e272_5 := (hk272 5 rfl).trans e271_5
      have e272_13 := (hk272 13 rfl).trans e271_13
      have e272_14 := (hk272 14 rfl).trans e271_14
      obtain ⟨(e272_15 : a272.eval (.tmp 15) = .int .i64 (ad x243 1)), -⟩ := hf272 [1] rfl
      have hX272 := es_ hX271 hE272
      have b272_g221 := be_ hE272 b271_g221
      have b272_An1_0 := RdO.evo rfl hE272 b271_An1_0
      have b272_An1_1 := RdO.evo rfl hE272 b271_An1_1
      exact hn258 _ _ _ hs ⟨own272, hd272, hz272, e272_1, e272_3, e272_4, e272_5, e272_13, e272_14, e272_15, hX272, b272_g221, b272_An1_0, b272_An1_1⟩
    refine fl_exit ?_
    refine hp261 _ _ _ rfl ?_
    replace hs := hz258 _ hs
    refine hp258 _ _ _ rfl ?_
    refine hx227 _ _ ?_
    refine hn225 _ _ ?_
    refine fl_seq (fun Q273 hn273 hp273 => ?_)
    refine rg0_seq 70 own260 [0, 1, 3, 0] [⟨[], [1], [], Fct.val 25 (.pointer (some ⟨g221, 1, none⟩))⟩, ⟨[0], [], [], Fct.val 26 (.slice An1_1 n1.2.length cn1_1)⟩, ⟨[1], [], [], Fct.val 27 (.int .i64 (n1.2.length : Int))⟩, ⟨[], [], [], Fct.val 28 (.int .i64 0)⟩] hz260 hd260 (by kernel_rfl) ?_ ?_
    · refine sc (fun _ _ _ _ s _ => px (or_field fo25_1 (s.1.trans e260_1) (by rfl))) ?_
      refine sc (fun _ _ _ f _ hE => px (or_load1 to23 f.1 (Blk.at_ (be_ hE b260_g221).2 1 rfl))) ?_
      refine sc (fun _ _ _ f _ _ => px (or_len tu23 f.1 rfl)) ?_
      refine sc (fun _ _ _ _ _ _ => px (or_move rfl)) ?_
      exact steps_nil
    intro own274 a274 w274 hd274 hz274 hk274 hf274 hE274
    have e274_1 := (hk274 1 rfl).trans e260_1
    have e274_3 := (hk274 3 rfl).trans e260_3
    have e274_4 := (hk274 4 rfl).trans e260_4
    have e274_5 := (hk274 5 rfl).trans e260_5
    obtain ⟨(e274_26 : a274.eval (.tmp 26) = .slice An1_1 n1.2.length cn1_1), (e274_27 : a274.eval (.tmp 27) = .int .i64 (n1.2.length : Int)), (e274_28 : a274.eval (.tmp 28) = .int .i64 0), -⟩ := hf274 [1, 2, 3] rfl
    have hX274 := es_ hX260 hE274
    have b274_g221 := be_ hE274 b260_g221
    have b274_An1_0 := RdO.evo rfl hE274 b260_An1_0
    have b274_An1_1 := RdO.evo rfl hE274 b260_An1_1
    refine fl_block (fun Q275 hn275 hx275 hp275 => ?_)
    refine fl_loop (body := (fun s => block_many_b2 n1 points242 s.1 s.2.1 s.2.2)) (z := r) (show loopO _ _ = _ from hs) (fun (s : Int × Int × Int) a wx => match s with | (rings325, refs326, x327) => ∃ (ox : Own), a.defers = [] ∧ a.tmps.size = 70 ∧ a.eval (.tmp 1) = .pointer (some ⟨g221, 0, none⟩) ∧ a.eval (.tmp 3) = .int .i64 points242 ∧ a.eval (.tmp 4) = .int .i64 rings325 ∧ a.eval (.tmp 5) = .int .i64 refs326 ∧ a.eval (.tmp 26) = .slice An1_1 n1.2.length cn1_1 ∧ a.eval (.tmp 27) = .int .i64 (n1.2.length : Int) ∧ a.eval (.tmp 28) = .int .i64 x327 ∧ Evo [] (fun _ => 0) ox w wx ∧ BlkO ox 222 wx g221 25 #[.slice An1_0 n1.1.length cn1_0, .slice An1_1 n1.2.length cn1_1] ∧ RdO ox [0] wx R59 An1_0 cn1_0 n1.1 ∧ RdO ox [0] wx R27 An1_1 cn1_1 n1.2) ?_ ?_
    · exact ⟨own274, hd274, hz274, e274_1, e274_3, e274_4, e274_5, e274_26, e274_27, e274_28, hX274, b274_g221, b274_An1_0, b274_An1_1⟩
    · rintro ⟨rings325, refs326, x327⟩ zz377 a377 w377 ⟨own377, hd378, hz378, e378_1, e378_3, e378_4, e378_5, e378_26, e378_27, e378_28, hE378, b378_g221, b378_An1_0, b378_An1_1⟩ hs Q377 hn377 hp377 hz377
      have hs : block_many_b2 n1 points242 rings325 refs326 x327 = some zz377 := hs
      refine rg0_seq 70 own377 (bz 1) [⟨[], [28, 27], [], Fct.val 29 (.bool (decide (x327 < (n1.2.length : Int))))⟩] hz378 hd378 (by kernel_rfl) ?_ ?_
      · refine sc (fun _ _ _ _ s _ => px (or_lss (s.1.trans e378_28) (s.2.1.trans e378_27) rfl)) ?_
        exact steps_nil
      intro own379 a379 w379 hd379 hz379 hk379 hf379 hE379
      have e379_1 := (hk379 1 rfl).trans e378_1
      have e379_3 := (hk379 3 rfl).trans e378_3
      have e379_4 := (hk379 4 rfl).trans e378_4
      have e379_5 := (hk379 5 rfl).trans e378_5
      have e379_26 := (hk379 26 rfl).trans e378_26
      have e379_27 := (hk379 27 rfl).trans e378_27
      have e379_28 := (hk379 28 rfl).trans e378_28
      obtain ⟨(e379_29 : a379.eval (.tmp 29) = .bool (decide (x327 < (n1.2.length : Int)))), -⟩ := hf379 [0] rfl
      have hX379 := es_ hE378 hE379
      have b379_g221 := be_ hE379 b378_g221
      have b379_An1_0 := RdO.evo rfl hE379 b378_An1_0
      have b379_An1_1 := RdO.evo rfl hE379 b378_An1_1
      refine fl_seq (fun Q380 hn380 hp380 => ?_)
      refine fl_cond e379_29 hs (fun c381 hs => ?_) (fun c381 hs => ?_)
      · refine fl_skip ?_
        refine hn380 _ _ ?_
        refine fl_seq (fun Q382 hn382 hp382 => ?_)
        refine fl_block (fun Q383 hn383 hx383 hp383 => ?_)
        obtain ⟨x384, hx384, hs⟩ := obind hs
        refine rg0_seq 70 own379 (bz 3) [⟨[], [26, 28], [], Fct.val 30 (.pointer (some ((adr An1_1).add ((x327 : Int).toNat * R27.s))))⟩, ⟨[0], [], [], Fct.nest X27 [0] 31 (fun (y : (Option Addr × Nat)) => .slice y.1 x384.length y.2) x384⟩, ⟨[1], [], [], Fct.rel [9, 31] (fun l => ∀ (A385 : Option Addr) (cA385 : Nat), l.getD 1 undef = .slice A385 x384.length cA385 → l.getD 0 undef = .slice A385 x384.length cA385)⟩] hz379 hd379 (by kernel_rfl) ?_ ?_
        · refine sc (fun _ _ _ _ s _ => px (or_index (R := R27) (l := n1.2) tl23 (s.1.trans e379_26) (s.2.1.trans e379_28) (RdO.some_ b379_An1_1 hx384) hx384)) ?_
          refine sc (fun _ _ _ f _ hE => px (or_loadN1 X27 0 to27 f.1 (Addr.add_zero' _).symm (RdO.evo rfl hE b379_An1_1) hx384 (fun _ => rfl))) ?_
          refine sc (fun own a wx hf hsl hE => ?_) ?_
          · obtain ⟨⟨⟨A385, cA385⟩, (f_31 : a.eval (.tmp 31) = .slice A385 x384.length cA385), b_A385⟩, -⟩ := hf
            exact px (or_mono (f := Fct.val 9 (.slice A385 x384.length cA385)) (or_assign f_31) (fun own' a' w' v' hp h => fun _ _ h0' => by cases (f_31.symm.trans ((hp.2 31 (by decide)).symm.trans h0')); exact h))
          exact steps_nil
        intro own386 a386 w386 hd386 hz386 hk386 hf386 hE386
        have e386_1 := (hk386 1 rfl).trans e379_1
        have e386_3 := (hk386 3 rfl).trans e379_3
        have e386_4 := (hk386 4 rfl).trans e379_4
        have e386_5 := (hk386 5 rfl).trans e379_5
        have e386_26 := (hk386 26 rfl).trans e379_26
        have e386_27 := (hk386 27 rfl).trans e379_27
        have e386_28 := (hk386 28 rfl).trans e379_28
        obtain ⟨⟨⟨A385, cA385⟩, (f_31 : a386.eval (.tmp 31) = .slice A385 x384.length cA385), (b386_A385 : RdO own386 [0] w386 R28 A385 cA385 x384)⟩, (q_9 : ∀ (A385 : Option Addr) (cA385 : Nat), a386.eval (.tmp 31) = .slice A385 x384.length cA385 → a386.eval (.tmp 9) = .slice A385 x384.length cA385), -⟩ := hf386 [1, 2] rfl
        have e386_9 := q_9 _ _ f_31
        have hX386 := es_ hX379 hE386
        have b386_g221 := be_ hE386 b379_g221
        have b386_An1_0 := RdO.evo rfl hE386 b379_An1_0
        have b386_An1_1 := RdO.evo rfl hE386 b379_An1_1
        refine rg0_seq 70 own386 [0, 0, 2, 7, 15] [⟨[], [4], [], Fct.val 32 (.int .i64 rings325)⟩, ⟨[], [9], [], Fct.val 33 (.slice A385 x384.length cA385)⟩, ⟨[1], [], [], Fct.val 34 (.int .i64 (x384.length : Int))⟩, ⟨[0, 2], [], [], Fct.val 35 (.int .i64 (ad rings325 (x384.length : Int)))⟩, ⟨[3], [], [], Fct.val 4 (.int .i64 (ad rings325 (x384.length : Int)))⟩] hz386 hd386 (by kernel_rfl) ?_ ?_
        · refine sc (fun _ _ _ _ s _ => px (or_move (s.1.trans e386_4))) ?_
          refine sc (fun _ _ _ _ s _ => px (or_move (s.1.trans e386_9))) ?_
          refine sc (fun _ _ _ f _ _ => px (or_len tu27 f.1 rfl)) ?_
          refine sc (fun _ _ _ f _ _ => px (or_add f.1 f.2.1 rfl)) ?_
          refine sc (fun _ _ _ f _ _ => px (or_assign f.1)) ?_
          exact steps_nil
        intro own387 a387 w387 hd387 hz387 hk387 hf387 hE387
        have e387_1 := (hk387 1 rfl).trans e386_1
        have e387_3 := (hk387 3 rfl).trans e386_3
        have e387_5 := (hk387 5 rfl).trans e386_5
        have e387_9 := (hk387 9 rfl).trans e386_9
        have e387_26 := (hk387 26 rfl).trans e386_26
        have e387_27 := (hk387 27 rfl).trans e386_27
        have e387_28 := (hk387 28 rfl).trans e386_28
        obtain ⟨(e387_4 : a387.eval (.tmp 4) = .int .i64 (ad rings325 (x384.length : Int))), -⟩ := hf387 [4] rfl
        have hX387 := es_ hX386 hE387
        have b387_g221 := be_ hE387 b386_g221
        have b387_An1_0 := RdO.evo rfl hE387 b386_An1_0
        have b387_An1_1 := RdO.evo rfl hE387 b386_An1_1
        have b387_A385 := RdO.evo rfl hE387 b386_A385
        refine rg0_seq 70 own387 [0, 1, 0] [⟨[], [9], [], Fct.val 36 (.slice A385 x384.length cA385)⟩, ⟨[0], [], [], Fct.val 37 (.int .i64 (x384.length : Int))⟩, ⟨[], [], [], Fct.val 38 (.int .i64 0)⟩] hz387 hd387 (by kernel_rfl) ?_ ?_
        · refine sc (fun _ _ _ _ s _ => px (or_move (s.1.trans e387_9))) ?_
          refine sc (fun _ _ _ f _ _ => px (or_len tu27 f.1 rfl)) ?_
          refine sc (fun _ _ _ _ _ _ => px (or_move rfl)) ?_
          exact steps_nil
        intro own388 a388 w388 hd388 hz388 hk388 hf388 hE388
        have e388_1 := (hk388 1 rfl).trans e387_1
        have e388_3 := (hk388 3 rfl).trans e387_3
        have e388_4 := (hk388 4 rfl).trans e387_4
        have e388_5 := (hk388 5 rfl).trans e387_5
        have e388_26 := (hk388 26 rfl).trans e387_26
        have e388_27 := (hk388 27 rfl).trans e387_27
        have e388_28 := (hk388 28 rfl).trans e387_28
        obtain ⟨(e388_36 : a388.eval (.tmp 36) = .slice A385 x384.length cA385), (e388_37 : a388.eval (.tmp 37) = .int .i64 (x384.length : Int)), (e388_38 : a388.eval (.tmp 38) = .int .i64 0), -⟩ := hf388 [0, 1, 2] rfl
        have hX388 := es_ hX387 hE388
        have b388_g221 := be_ hE388 b387_g221
        have b388_An1_0 := RdO.evo rfl hE388 b387_An1_0
        have b388_An1_1 := RdO.evo rfl hE388 b387_An1_1
        have b388_A385 := RdO.evo rfl hE388 b387_A385
        refine fl_block (fun Q389 hn389 hx389 hp389 => ?_)
        refine fl_loop (body := (fun s => block_many_b3 rings325 x327 x384 s.1 s.2)) (z := zz377) (show loopO _ _ = _ from hs) (fun (s : Int × Int) a wx => match s with | (refs401, x402) => ∃ (ox : Own), a.defers = [] ∧ a.tmps.size = 70 ∧ a.eval (.tmp 1) = .pointer (some ⟨g221, 0, none⟩) ∧ a.eval (.tmp 3) = .int .i64 points242 ∧ a.eval (.tmp 4) = .int .i64 (ad rings325 (x384.length : Int)) ∧ a.eval (.tmp 5) = .int .i64 refs401 ∧ a.eval (.tmp 26) = .slice An1_1 n1.2.length cn1_1 ∧ a.eval (.tmp 27) = .int .i64 (n1.2.length : Int) ∧ a.eval (.tmp 28) = .int .i64 x327 ∧ a.eval (.tmp 36) = .slice A385 x384.length cA385 ∧ a.eval (.tmp 37) = .int .i64 (x384.length : Int) ∧ a.eval (.tmp 38) = .int .i64 x402 ∧ Evo [] (fun _ => 0) ox w wx ∧ BlkO ox 222 wx g221 25 #[.slice An1_0 n1.1.length cn1_0, .slice An1_1 n1.2.length cn1_1] ∧ RdO ox [0] wx R59 An1_0 cn1_0 n1.1 ∧ RdO ox [0] wx R27 An1_1 cn1_1 n1.2 ∧ RdO ox [0] wx R28 A385 cA385 x384) ?_ ?_
        · exact ⟨own388, hd388, hz388, e388_1, e388_3, e388_4, e388_5, e388_26, e388_27, e388_28, e388_36, e388_37, e388_38, hX388, b388_g221, b388_An1_0, b388_An1_1, b388_A385⟩
        · rintro ⟨refs401, x402⟩ zz414 a414 w414 ⟨own414, hd415, hz415, e415_1, e415_3, e415_4, e415_5, e415_26, e415_27, e415_28, e415_36, e415_37, e415_38, hE415, b415_g221, b415_An1_0, b415_An1_1, b415_A385⟩ hs Q414 hn414 hp414 hz414
          have hs : block_many_b3 rings325 x327 x384 refs401 x402 = some zz414 := hs
          refine rg0_seq 70 own414 (bz 1) [⟨[], [38, 37], [], Fct.val 39 (.bool (decide (x402 < (x384.length : Int))))⟩] hz415 hd415 (by kernel_rfl) ?_ ?_
          · refine sc (fun _ _ _ _ s _ => px (or_lss (s.1.trans e415_38) (s.2.1.trans e415_37) rfl)) ?_
            exact steps_nil
          intro own416 a416 w416 hd416 hz416 hk416 hf416 hE416
          have e416_1 := (hk416 1 rfl).trans e415_1
          have e416_3 := (hk416 3 rfl).trans e415_3
          have e416_4 := (hk416 4 rfl).trans e415_4
          have e416_5 := (hk416 5 rfl).trans e415_5
          have e416_26 := (hk416 26 rfl).trans e415_26
          have e416_27 := (hk416 27 rfl).trans e415_27
          have e416_28 := (hk416 28 rfl).trans e415_28
          have e416_36 := (hk416 36 rfl).trans e415_36
          have e416_37 := (hk416 37 rfl).trans e415_37
          have e416_38 := (hk416 38 rfl).trans e415_38
          obtain ⟨(e416_39 : a416.eval (.tmp 39) = .bool (decide (x402 < (x384.length : Int)))), -⟩ := hf416 [0] rfl
          have hX416 := es_ hE415 hE416
          have b416_g221 := be_ hE416 b415_g221
          have b416_An1_0 := RdO.evo rfl hE416 b415_An1_0
          have b416_An1_1 := RdO.evo rfl hE416 b415_An1_1
          have b416_A385 := RdO.evo rfl hE416 b415_A385
          refine fl_seq (fun Q417 hn417 hp417 => ?_)
          refine fl_cond e416_39 hs (fun c418 hs => ?_) (fun c418 hs => ?_)
          · refine fl_skip ?_
            refine hn417 _ _ ?_
            refine fl_seq (fun Q419 hn419 hp419 => ?_)
            refine fl_block (fun Q420 hn420 hx420 hp420 => ?_)
            obtain ⟨x421, hx421, hs⟩ := obind hs
            refine rg0_seq 70 own416 (bz 3) [⟨[], [36, 38], [], Fct.val 40 (.pointer (some ((adr A385).add ((x402 : Int).toNat * R28.s))))⟩, ⟨[0], [], [], Fct.nest X28 [0] 41 (fun (y : (Option Addr × Nat)) => .slice y.1 x421.length y.2) x421⟩, ⟨[1], [], [], Fct.rel [11, 41] (fun l => ∀ (A422 : Option Addr) (cA422 : Nat), l.getD 1 undef = .slice A422 x421.length cA422 → l.getD 0 undef = .slice A422 x421.length cA422)⟩] hz416 hd416 (by kernel_rfl) ?_ ?_
            · refine sc (fun _ _ _ _ s _ => px (or_index (R := R28) (l := x384) tl27 (s.1.trans e416_36) (s.2.1.trans e416_38) (RdO.some_ b416_A385 hx421) hx421)) ?_
              refine sc (fun _ _ _ f _ hE => px (or_loadN1 X28 0 to28 f.1 (Addr.add_zero' _).symm (RdO.evo rfl hE b416_A385) hx421 (fun _ => rfl))) ?_
              refine sc (fun own a wx hf hsl hE => ?_) ?_
              · obtain ⟨⟨⟨A422, cA422⟩, (f_41 : a.eval (.tmp 41) = .slice A422 x421.length cA422), b_A422⟩, -⟩ := hf
                exact px (or_mono (f := Fct.val 11 (.slice A422 x421.length cA422)) (or_assign f_41) (fun own' a' w' v' hp h => fun _ _ h0' => by cases (f_41.symm.trans ((hp.2 41 (by decide)).symm.trans h0')); exact h))
              exact steps_nil
            intro own423 a423 w423 hd423 hz423 hk423 hf423 hE423
            have e423_1 := (hk423 1 rfl).trans e416_1
            have e423_3 := (hk423 3 rfl).trans e416_3
            have e423_4 := (hk423 4 rfl).trans e416_4
            have e423_5 := (hk423 5 rfl).trans e416_5
            have e423_26 := (hk423 26 rfl).trans e416_26
            have e423_27 := (hk423 27 rfl).trans e416_27
            have e423_28 := (hk423 28 rfl).trans e416_28
            have e423_36 := (hk423 36 rfl).trans e416_36
            have e423_37 := (hk423 37 rfl).trans e416_37
            have e423_38 := (hk423 38 rfl).trans e416_38
            obtain ⟨⟨⟨A422, cA422⟩, (f_41 : a423.eval (.tmp 41) = .slice A422 x421.length cA422), (b423_A422 : RdO own423 [0] w423 R3 A422 cA422 x421)⟩, (q_11 : ∀ (A422 : Option Addr) (cA422 : Nat), a423.eval (.tmp 41) = .slice A422 x421.length cA422 → a423.eval (.tmp 11) = .slice A422 x421.length cA422), -⟩ := hf423 [1, 2] rfl
            have e423_11 := q_11 _ _ f_41
            have hX423 := es_ hX416 hE423
            have b423_g221 := be_ hE423 b416_g221
            have b423_An1_0 := RdO.evo rfl hE423 b416_An1_0
            have b423_An1_1 := RdO.evo rfl hE423 b416_An1_1
            have b423_A385 := RdO.evo rfl hE423 b416_A385
            refine rg0 70 own423 [0, 0, 2, 7, 15] [⟨[], [5], [], Fct.val 42 (.int .i64 refs401)⟩, ⟨[], [11], [], Fct.val 43 (.slice A422 x421.length cA422)⟩, ⟨[1], [], [], Fct.val 44 (.int .i64 (x421.length : Int))⟩, ⟨[0, 2], [], [], Fct.val 45 (.int .i64 (ad refs401 (x421.length : Int)))⟩, ⟨[3], [], [], Fct.val 5 (.int .i64 (ad refs401 (x421.length : Int)))⟩] hz423 hd423 (by kernel_rfl) ?_ ?_
            · refine sc (fun _ _ _ _ s _ => px (or_move (s.1.trans e423_5))) ?_
              refine sc (fun _ _ _ _ s _ => px (or_move (s.1.trans e423_11))) ?_
              refine sc (fun _ _ _ f _ _ => px (or_len tu28 f.1 rfl)) ?_
              refine sc (fun _ _ _ f _ _ => px (or_add f.1 f.2.1 rfl)) ?_
              refine sc (fun _ _ _ f _ _ => px (or_assign f.1)) ?_
              exact steps_nil
            intro own424 a424 w424 hd424 hz424 hk424 hf424 hE424
            have e424_1 := (hk424 1 rfl).trans e423_1
            have e424_3 := (hk424 3 rfl).trans e423_3
            have e424_4 := (hk424 4 rfl).trans e423_4
            have e424_26 := (hk424 26 rfl).trans e423_26
            have e424_27 := (hk424 27 rfl).trans e423_27
            have e424_28 := (hk424 28 rfl).trans e423_28
            have e424_36 := (hk424 36 rfl).trans e423_36
            have e424_37 := (hk424 37 rfl).trans e423_37
            have e424_38 := (hk424 38 rfl).trans e423_38
            obtain ⟨(e424_5 : a424.eval (.tmp 5) = .int .i64 (ad refs401 (x421.length : Int))), -⟩ := hf424 [4] rfl
            have hX424 := es_ hX423 hE424
            have b424_g221 := be_ hE424 b423_g221
            have b424_An1_0 := RdO.evo rfl hE424 b423_An1_0
            have b424_An1_1 := RdO.evo rfl hE424 b423_An1_1
            have b424_A385 := RdO.evo rfl hE424 b423_A385
            refine hn420 _ _ ?_
            refine hn419 _ _ ?_
            refine rg0 70 own424 (bz 2) [⟨[], [38], [], Fct.val 46 (.int .i64 (ad x402 1))⟩, ⟨[0], [], [], Fct.val 38 (.int .i64 (ad x402 1))⟩] hz424 hd424 (by kernel_rfl) ?_ ?_
            · refine sc (fun _ _ _ _ s _ => px (or_add (s.1.trans e424_38) rfl rfl)) ?_
              refine sc (fun _ _ _ f _ _ => px (or_move f.1)) ?_
              exact steps_nil
            intro own425 a425 w425 hd425 hz425 hk425 hf425 hE425
            have e425_1 := (hk425 1 rfl).trans e424_1
            have e425_3 := (hk425 3 rfl).trans e424_3
            have e425_4 := (hk425 4 rfl).trans e424_4
            have e425_5 := (hk425 5 rfl).trans e424_5
            have e425_26 := (hk425 26 rfl).trans e424_26
            have e425_27 := (hk425 27 rfl).trans e424_27
            have e425_28 := (hk425 28 rfl).trans e424_28
            have e425_36 := (hk425 36 rfl).trans e424_36
            have e425_37 := (hk425 37 rfl).trans e424_37
            obtain ⟨(e425_38 : a425.eval (.tmp 38) = .int .i64 (ad x402 1)), -⟩ := hf425 [1] rfl
            have hX425 := es_ hX424 hE425
            have b425_g221 := be_ hE425 b424_g221
            have b425_An1_0 := RdO.evo rfl hE425 b424_An1_0
            have b425_An1_1 := RdO.evo rfl hE425 b424_An1_1
            have b425_A385 := RdO.evo rfl hE425 b424_A385
            exact hn414 _ _ _ hs ⟨own425, hd425, hz425, e425_1, e425_3, e425_4, e425_5, e425_26, e425_27, e425_28, e425_36, e425_37, e425_38, hX425, b425_g221, b425_An1_0, b425_An1_1, b425_A385⟩
          refine fl_exit ?_
          refine hp417 _ _ _ rfl ?_
          replace hs := hz414 _ hs
          refine hp414 _ _ _ rfl ?_
          refine hx389 _ _ ?_
          refine hn383 _ _ ?_
          refine hn382 _ _ ?_
          refine rg0 70 own416 (bz 2) [⟨[], [28], [], Fct.val 47 (.int .i64 (ad x327 1))⟩, ⟨[0], [], [], Fct.val 28 (.int .i64 (ad x327 1))⟩] hz416 hd416 (by kernel_rfl) ?_ ?_
          · refine sc (fun _ _ _ _ s _ => px (or_add (s.1.trans e416_28) rfl rfl)) ?_
            refine sc (fun _ _ _ f _ _ => px (or_move f.1)) ?_
            exact steps_nil
          intro own426 a426 w426 hd426 hz426 hk426 hf426 hE426
          have e426_1 := (hk426 1 rfl).trans e416_1
          have e426_3 := (hk426 3 rfl).trans e416_3
          have e426_4 := (hk426 4 rfl).trans e416_4
          have e426_5 := (hk426 5 rfl).trans e416_5
          have e426_26 := (hk426 26 rfl).trans e416_26
          have e426_27 := (hk426 27 rfl).trans e416_27
          obtain ⟨(e426_28 : a426.eval (.tmp 28) = .int .i64 (ad x327 1)), -⟩ := hf426 [1] rfl
          have hX426 := es_ hX416 hE426
          have b426_g221 := be_ hE426 b416_g221
          have b426_An1_0 := RdO.evo rfl hE426 b416_An1_0
          have b426_An1_1 := RdO.evo rfl hE426 b416_An1_1
          exact hn377 _ _ _ hs ⟨own426, hd426, hz426, e426_1, e426_3, e426_4, e426_5, e426_26, e426_27, e426_28, hX426, b426_g221, b426_An1_0, b426_An1_1⟩
      refine fl_exit ?_
      refine hp380 _ _ _ rfl ?_
      replace hs := hz377 _ hs
      refine hp377 _ _ _ rfl ?_
      refine hx275 _ _ ?_
      refine hn273 _ _ ?_
      obtain ⟨x427, hx427, hs⟩ := obind hs
      obtain ⟨x428, hx428, hs⟩ := obind hs
      obtain ⟨x429, hx429, hs⟩ := obind hs
      refine rg0_seq 70 own379 (bz 23) [⟨[], [1], [], Fct.val 48 (.pointer (some ⟨g221, 0, none⟩))⟩, ⟨[0], [], [], Fct.val 49 (.slice An1_0 n1.1.length cn1_0)⟩, ⟨[1], [], [], Fct.val 50 (.int .i64 (n1.1.length : Int))⟩, ⟨[2], [], [], Fct.val 51 (.bool (decide (65536 < (n1.1.length : Int))))⟩, ⟨[3], [], [], Fct.val 52 (.bool (decide (65536 < (n1.1.length : Int))))⟩, ⟨[4], [3], [], Fct.cond (!(decide (65536 < (n1.1.length : Int)))) (some 53) (Fct.val 53 (.int .i64 points242))⟩, ⟨[4, 5], [], [], Fct.cond (!(decide (65536 < (n1.1.length : Int)))) (some 54) (Fct.val 54 (.bool (decide (65536 < points242))))⟩, ⟨[4, 6], [], [], Fct.val 55 (.bool x427)⟩, ⟨[7], [], [], Fct.val 56 (.bool x427)⟩, ⟨[8], [1], [], Fct.cond (!x427) (some 57) (Fct.val 57 (.pointer (some ⟨g221, 1, none⟩)))⟩, ⟨[8, 9], [], [], Fct.cond (!x427) (some 58) (Fct.val 58 (.slice An1_1 n1.2.length cn1_1))⟩, ⟨[8, 10], [], [], Fct.cond (!x427) (some 59) (Fct.val 59 (.int .i64 (n1.2.length : Int)))⟩, ⟨[8, 11], [], [], Fct.cond (!x427) (some 60) (Fct.val 60 (.bool (decide (32 < (n1.2.length : Int)))))⟩, ⟨[8, 12], [], [], Fct.val 61 (.bool x428)⟩, ⟨[13], [], [], Fct.val 62 (.bool x428)⟩, ⟨[14], [4], [], Fct.cond (!x428) (some 63) (Fct.val 63 (.int .i64 rings325))⟩, ⟨[14, 15], [], [], Fct.cond (!x428) (some 64) (Fct.val 64 (.bool (decide (64 < rings325))))⟩, ⟨[14, 16], [], [], Fct.val 65 (.bool (x428 || (decide (64 < rings325))))⟩, ⟨[17], [], [], Fct.val 66 (.bool (x428 || (decide (64 < rings325))))⟩, ⟨[18], [5], [], Fct.cond (!(x428 || (decide (64 < rings325)))) (some 67) (Fct.val 67 (.int .i64 refs326))⟩, ⟨[18, 19], [], [], Fct.cond (!(x428 || (decide (64 < rings325)))) (some 68) (Fct.val 68 (.bool (decide (65536 < refs326))))⟩, ⟨[18, 20], [], [], Fct.val 69 (.bool x429)⟩, ⟨[21], [], [], Fct.val 2 (.bool x429)⟩] hz379 hd379 (by kernel_rfl) ?_ ?_
      · refine sc (fun _ _ _ _ s _ => px (or_field fo25_0 (s.1.trans e379_1) (by rfl))) ?_
        refine sc (fun _ _ _ f _ hE => px (or_load1 to22 f.1 (Blk.at_ (be_ hE b379_g221).2 0 rfl))) ?_
        refine sc (fun _ _ _ f _ _ => px (or_len tu22 f.1 rfl)) ?_
        refine sc (fun _ _ _ f _ _ => px (or_gtr f.1 rfl rfl)) ?_
        refine sc (fun _ _ _ f _ _ => px (or_move f.1)) ?_
        refine sc (fun _ _ _ f s _ => sg_f rfl rfl rfl f.1 (fun hg => or_move (s.1.trans e379_3))) ?_
        refine sc (fun _ _ _ f _ _ => sg_f rfl rfl rfl f.1 (fun hg => or_gtr (f.2.1.1 hg) rfl rfl)) ?_
        refine sc (fun _ _ _ f _ _ => px (or_or f.1 rfl (fun hx => f.2.1.1 hx) (osome hx427).symm)) ?_
        refine sc (fun _ _ _ f _ _ => px (or_move f.1)) ?_
        refine sc (fun _ _ _ f s _ => sg_f rfl rfl rfl f.1 (fun hg => or_field fo25_1 (s.1.trans e379_1) (by rfl))) ?_
        refine sc (fun _ _ _ f _ hE => sg_f rfl rfl rfl f.1 (fun hg => or_load1 to23 (f.2.1.1 hg) (Blk.at_ (be_ hE b379_g221).2 1 rfl))) ?_
        refine sc (fun _ _ _ f _ _ => sg_f rfl rfl rfl f.1 (fun hg => or_len tu23 (f.2.1.1 hg) rfl)) ?_
        refine sc (fun _ _ _ f _ _ => sg_f rfl rfl rfl f.1 (fun hg => or_gtr (f.2.1.1 hg) rfl rfl)) ?_
        refine sc (fun _ _ _ f _ _ => px (or_or f.1 rfl (fun hx => f.2.1.1 hx) (osome hx428).symm)) ?_
        refine sc (fun _ _ _ f _ _ => px (or_move f.1)) ?_
        refine sc (fun _ _ _ f s _ => sg_f rfl rfl rfl f.1 (fun hg => or_move (s.1.trans e379_4))) ?_
        refine sc (fun _ _ _ f _ _ => sg_f rfl rfl rfl f.1 (fun hg => or_gtr (f.2.1.1 hg) rfl rfl)) ?_
        refine sc (fun _ _ _ f _ _ => px (or_or f.1 rfl (fun hx => f.2.1.1 hx) rfl)) ?_
        refine sc (fun _ _ _ f _ _ => px (or_move f.1)) ?_
        refine sc (fun _ _ _ f s _ => sg_f rfl rfl rfl f.1 (fun hg => or_move (s.1.trans e379_5))) ?_
        refine sc (fun _ _ _ f _ _ => sg_f rfl rfl rfl f.1 (fun hg => or_gtr (f.2.1.1 hg) rfl rfl)) ?_
        refine sc (fun _ _ _ f _ _ => px (or_or f.1 rfl (fun hx => f.2.1.1 hx) (osome hx429).symm)) ?_
        refine sc (fun _ _ _ f _ _ => px (or_assign f.1)) ?_
        exact steps_nil
      intro own430 a430 w430 hd430 hz430 hk430 hf430 hE430
      obtain ⟨(e430_2 : a430.eval (.tmp 2) = .bool x429), -⟩ := hf430 [22] rfl
      have hX430 := es_ hX379 hE430
      refine fl_ret ?_
      obtain rfl := (osome hs).symm
      exact hret _ _ _ _ (.inl rfl) hd430 (results1_ rfl (RVal.tmp_ e430_2)) ⟨own430, rfl, hX430⟩
theorem block_side_w (w : World) (n1 : Int) (r : Bool) (hs : block_side n1 = some r) :
    Calls Try.prog 21 #[.int .i64 n1] w fun e w' => ∃ own' : Own, e = .returned (.bool r) ∧ Evo [] (fun _ => 0) own' w w' := by
  refine fl_enter (n := 9) rfl rfl rfl (Nat.le_of_ble_eq_true rfl) ?_
  intro a0 Q hd0 hz0 harg hret
  have ha0 := harg 0 _ rfl
  clear harg
  have hE0 : Evo [] (fun _ => 0) (fun _ => 0) w w := Evo.refl _ _ _
  refine rg0_seq 9 (fun _ => 0) (bz 1) [⟨[], [], [], Fct.val 2 (.bool false)⟩] hz0 hd0 (by kernel_rfl) ?_ ?_
  · refine sc (fun _ _ _ _ _ _ => px (or_assign rfl)) ?_
    exact steps_nil
  intro own14 a14 w14 hd14 hz14 hk14 hf14 hE14
  have e14_0 := (hk14 0 rfl).trans ha0
  have hX14 := es_ hE0 hE14
  obtain ⟨x15, hx15, hs⟩ := obind hs
  refine rg0_seq 9 own14 (bz 7) [⟨[], [0], [], Fct.val 3 (.int .i64 n1)⟩, ⟨[0], [], [], Fct.val 4 (.bool (decide (0 ≤ n1)))⟩, ⟨[1], [], [], Fct.val 5 (.bool (decide (0 ≤ n1)))⟩, ⟨[2], [0], [], Fct.cond (decide (0 ≤ n1)) (some 6) (Fct.val 6 (.int .i64 n1))⟩, ⟨[2, 3], [], [], Fct.cond (decide (0 ≤ n1)) (some 7) (Fct.val 7 (.bool (decide (n1 ≤ 32))))⟩, ⟨[2, 4], [], [], Fct.val 8 (.bool x15)⟩, ⟨[5], [], [], Fct.val 2 (.bool x15)⟩] hz14 hd14 (by kernel_rfl) ?_ ?_
  · refine sc (fun _ _ _ _ s _ => px (or_move (s.1.trans e14_0))) ?_
    refine sc (fun _ _ _ f _ _ => px (or_geq f.1 rfl rfl)) ?_
    refine sc (fun _ _ _ f _ _ => px (or_move f.1)) ?_
    refine sc (fun _ _ _ f s _ => sg_t rfl rfl rfl f.1 (fun hg => or_move (s.1.trans e14_0))) ?_
    refine sc (fun _ _ _ f _ _ => sg_t rfl rfl rfl f.1 (fun hg => or_leq (f.2.1.1 hg) rfl rfl)) ?_
    refine sc (fun _ _ _ f _ _ => px (or_and f.1 (fun hx => f.2.1.1 hx) rfl (osome hx15).symm)) ?_
    refine sc (fun _ _ _ f _ _ => px (or_assign f.1)) ?_
    exact steps_nil
  intro own16 a16 w16 hd16 hz16 hk16 hf16 hE16
  obtain ⟨(e16_2 : a16.eval (.tmp 2) = .bool x15), -⟩ := hf16 [6] rfl
  have hX16 := es_ hX14 hE16
  refine fl_ret ?_
  obtain rfl := (osome hs).symm
  exact hret _ _ _ _ (.inl rfl) hd16 (results1_ rfl (RVal.tmp_ e16_2)) ⟨own16, rfl, hX16⟩
theorem exact_within_w (w : World) (n1 : Int) (least2 : Int) (greatest3 : Int) (r : Bool) (hs : exact_within n1 least2 greatest3 = some r) :
    Calls Try.prog 43 #[.int .i64 n1, .int .i64 least2, .int .i64 greatest3] w fun e w' => ∃ own' : Own, e = .returned (.bool r) ∧ Evo [] (fun _ => 0) own' w w' := by
  refine fl_enter (n := 15) rfl rfl rfl (Nat.le_of_ble_eq_true rfl) ?_
  intro a0 Q hd0 hz0 harg hret
  have ha0 := harg 0 _ rfl
  have ha1 := harg 1 _ rfl
  have ha2 := harg 2 _ rfl
  clear harg
  have hE0 : Evo [] (fun _ => 0) (fun _ => 0) w w := Evo.refl _ _ _
  refine rg0_seq 15 (fun _ => 0) (bz 1) [⟨[], [], [], Fct.val 6 (.bool false)⟩] hz0 hd0 (by kernel_rfl) ?_ ?_
  · refine sc (fun _ _ _ _ _ _ => px (or_assign rfl)) ?_
    exact steps_nil
  intro own14 a14 w14 hd14 hz14 hk14 hf14 hE14
  have e14_0 := (hk14 0 rfl).trans ha0
  have e14_1 := (hk14 1 rfl).trans ha1
  have e14_2 := (hk14 2 rfl).trans ha2
  have hX14 := es_ hE0 hE14
  obtain ⟨x15, hx15, hs⟩ := obind hs
  refine rg0_seq 15 own14 [0, 0, 3, 7, 15, 15, 63, 127, 255] [⟨[], [1], [], Fct.val 7 (.int .i64 least2)⟩, ⟨[], [0], [], Fct.val 8 (.int .i64 n1)⟩, ⟨[0, 1], [], [], Fct.val 9 (.bool (decide (least2 ≤ n1)))⟩, ⟨[2], [], [], Fct.val 10 (.bool (decide (least2 ≤ n1)))⟩, ⟨[3], [0], [], Fct.cond (decide (least2 ≤ n1)) (some 11) (Fct.val 11 (.int .i64 n1))⟩, ⟨[3], [2], [], Fct.cond (decide (least2 ≤ n1)) (some 12) (Fct.val 12 (.int .i64 greatest3))⟩, ⟨[3, 4, 5], [], [], Fct.cond (decide (least2 ≤ n1)) (some 13) (Fct.val 13 (.bool (decide (n1 ≤ greatest3))))⟩, ⟨[3, 6], [], [], Fct.val 14 (.bool x15)⟩, ⟨[7], [], [], Fct.val 6 (.bool x15)⟩] hz14 hd14 (by kernel_rfl) ?_ ?_
  · refine sc (fun _ _ _ _ s _ => px (or_move (s.1.trans e14_1))) ?_
    refine sc (fun _ _ _ _ s _ => px (or_move (s.1.trans e14_0))) ?_
    refine sc (fun _ _ _ f _ _ => px (or_leq f.1 f.2.1 rfl)) ?_
    refine sc (fun _ _ _ f _ _ => px (or_move f.1)) ?_
    refine sc (fun _ _ _ f s _ => sg_t rfl rfl rfl f.1 (fun hg => or_move (s.1.trans e14_0))) ?_
    refine sc (fun _ _ _ f s _ => sg_t rfl rfl rfl f.1 (fun hg => or_move (s.1.trans e14_2))) ?_
    refine sc (fun _ _ _ f _ _ => sg_t rfl rfl rfl f.1 (fun hg => or_leq (f.2.1.1 hg) (f.2.2.1.1 hg) rfl)) ?_
    refine sc (fun _ _ _ f _ _ => px (or_and f.1 (fun hx => f.2.1.1 hx) rfl (osome hx15).symm)) ?_
    refine sc (fun _ _ _ f _ _ => px (or_assign f.1)) ?_
    exact steps_nil
  intro own16 a16 w16 hd16 hz16 hk16 hf16 hE16
  obtain ⟨(e16_6 : a16.eval (.tmp 6) = .bool x15), -⟩ := hf16 [8] rfl
  have hX16 := es_ hX14 hE16
  refine fl_ret ?_
  obtain rfl := (osome hs).symm
  exact hret _ _ _ _ (.inl rfl) hd16 (results1_ rfl (RVal.tmp_ e16_6)) ⟨own16, rfl, hX16⟩
theorem exact_Right_w (w : World) (l1 : List (Int × Int)) (Al1 : Option Addr) (cl1 : Nat) (hl1 : RdO (fun _ => 0) [0] w R56 Al1 cl1 l1) (r : Bool) (hs : exact_Right l1 = some r) :
    Calls Try.prog 22 #[.slice Al1 l1.length cl1] w fun e w' => ∃ own' : Own, e = .returned (.bool r) ∧ Evo [] (fun _ => 0) own' w w' := by
  refine fl_enter (n := 22) rfl rfl rfl (Nat.le_of_ble_eq_true rfl) ?_
  intro a0 Q hd0 hz0 harg hret
  have ha0 := harg 0 _ rfl
  clear harg
  have hE0 : Evo [] (fun _ => 0) (fun _ => 0) w w := Evo.refl _ _ _
  refine rg0_seq 22 (fun _ => 0) (bz 1) [⟨[], [], [], Fct.val 2 (.bool false)⟩] hz0 hd0 (by kernel_rfl) ?_ ?_
  · refine sc (fun _ _ _ _ _ _ => px (or_assign rfl)) ?_
    exact steps_nil
  intro own69 a69 w69 hd69 hz69 hk69 hf69 hE69
  have e69_0 := (hk69 0 rfl).trans ha0
  have hX69 := es_ hE0 hE69
  have b69_Al1 := RdO.evo rfl hE69 hl1
  refine fl_seq (fun Q70 hn70 hp70 => ?_)
  refine rg0_seq 22 own69 [0, 1, 0] [⟨[], [0], [], Fct.val 5 (.slice Al1 l1.length cl1)⟩, ⟨[0], [], [], Fct.val 6 (.int .i64 (l1.length : Int))⟩, ⟨[], [], [], Fct.val 7 (.int .i64 0)⟩] hz69 hd69 (by kernel_rfl) ?_ ?_
  · refine sc (fun _ _ _ _ s _ => px (or_move (s.1.trans e69_0))) ?_
    refine sc (fun _ _ _ f _ _ => px (or_len tu57 f.1 rfl)) ?_
    refine sc (fun _ _ _ _ _ _ => px (or_move rfl)) ?_
    exact steps_nil
  intro own71 a71 w71 hd71 hz71 hk71 hf71 hE71
  obtain ⟨(e71_5 : a71.eval (.tmp 5) = .slice Al1 l1.length cl1), (e71_6 : a71.eval (.tmp 6) = .int .i64 (l1.length : Int)), (e71_7 : a71.eval (.tmp 7) = .int .i64 0), -⟩ := hf71 [0, 1, 2] rfl
  have hX71 := es_ hX69 hE71
  have b71_Al1 := RdO.evo rfl hE71 b69_Al1
  refine fl_block (fun Q72 hn72 hx72 hp72 => ?_)
  refine fl_loop (body := (fun s => exact_Right_b1 l1 s)) (z := r) (show loopO _ _ = _ from hs) (fun (x90 : Int) a wx => ∃ (ox : Own), a.defers = [] ∧ a.tmps.size = 22 ∧ a.eval (.tmp 5) = .slice Al1 l1.length cl1 ∧ a.eval (.tmp 6) = .int .i64 (l1.length : Int) ∧ a.eval (.tmp 7) = .int .i64 x90 ∧ Evo [] (fun _ => 0) ox w wx ∧ RdO ox [0] wx R56 Al1 cl1 l1) ?_ ?_
  · exact ⟨own71, hd71, hz71, e71_5, e71_6, e71_7, hX71, b71_Al1⟩
  · rintro x90 zz108 a108 w108 ⟨own108, hd109, hz109, e109_5, e109_6, e109_7, hE109, b109_Al1⟩ hs Q108 hn108 hp108 hz108
    have hs : exact_Right_b1 l1 x90 = some zz108 := hs
    refine rg0_seq 22 own108 (bz 1) [⟨[], [7, 6], [], Fct.val 8 (.bool (decide (x90 < (l1.length : Int))))⟩] hz109 hd109 (by kernel_rfl) ?_ ?_
    · refine sc (fun _ _ _ _ s _ => px (or_lss (s.1.trans e109_7) (s.2.1.trans e109_6) rfl)) ?_
      exact steps_nil
    intro own110 a110 w110 hd110 hz110 hk110 hf110 hE110
    have e110_5 := (hk110 5 rfl).trans e109_5
    have e110_6 := (hk110 6 rfl).trans e109_6
    have e110_7 := (hk110 7 rfl).trans e109_7
    obtain ⟨(e110_8 : a110.eval (.tmp 8) = .bool (decide (x90 < (l1.length : Int)))), -⟩ := hf110 [0] rfl
    have hX110 := es_ hE109 hE110
    have b110_Al1 := RdO.evo rfl hE110 b109_Al1
    refine fl_seq (fun Q111 hn111 hp111 => ?_)
    refine fl_cond e110_8 hs (fun c112 hs => ?_) (fun c112 hs => ?_)
    · refine fl_skip ?_
      refine hn111 _ _ ?_
      refine fl_seq (fun Q113 hn113 hp113 => ?_)
      refine fl_block (fun Q114 hn114 hx114 hp114 => ?_)
      obtain ⟨x115, hx115, hs⟩ := obind hs
      refine rg_plain_seq (n := 22) (rs := []) (own0 := own110) (K := [117]) (bs := [0, 1, 0, 7]) (ds := [⟨[], [5, 7], [], Fct.val 9 (.pointer (some ((adr Al1).add ((x90 : Int).toNat * R56.s))))⟩, ⟨[0], [], [], Fct.val 10 (.agg #[.int .i64 x115.1, .int .i64 x115.2])⟩, ⟨[], [], [], Fct.blk 117 4 (fun g => .pointer (some ⟨g, 0, none⟩)) 56 #[.int .i64 0, .int .i64 0]⟩, ⟨[2, 1], [], [117], Fct.blk 118 4 (fun g => .pointer (some ⟨g, 0, none⟩)) 56 #[.int .i64 x115.1, .int .i64 x115.2]⟩]) (by kernel_rfl) hz110 hd110 nm_ ?_ ?_
      · refine sc (fun _ _ _ _ s _ => px (or_index (R := R56) (l := l1) tl57 (s.1.trans e110_5) (s.2.1.trans e110_7) (RdO.some_ b110_Al1 hx115) hx115)) ?_
        refine sc (fun _ _ _ f _ hE => px (or_load (l := E56.f x115) ta56 f.1 (RdO.cells (F := E56) (RdO.evo rfl hE b110_Al1) hx115) rfl)) ?_
        refine sc (fun _ _ _ _ _ _ => px (or_new [] rfl rfl trivial (by kernel_rfl))) ?_
        refine sc (fun own a wx hf hsl hE => ?_) ?_
        · obtain ⟨⟨g116, f_4, b_g116⟩, f_10, -⟩ := hf
          exact px (or_store (l := #[.int .i64 x115.1, .int .i64 x115.2]) (lab := 117) (lab2 := 118) ts56 f_4 f_10 b_g116 (by simp) (by kernel_rfl) (mem_of rfl) (by decide) (by kernel_rfl) (fun own' a' w' ha hb => ⟨_, (ha 4).trans f_4, hb⟩))
        exact steps_nil
      intro own119 a119 w119 hd119 hz119 hk119 hf119 hE119
      have e119_5 := (hk119 5 rfl).trans e110_5
      have e119_6 := (hk119 6 rfl).trans e110_6
      have e119_7 := (hk119 7 rfl).trans e110_7
      obtain ⟨⟨g116, (e119_4 : a119.eval (.tmp 4) = .pointer (some ⟨g116, 0, none⟩)), (b119_g116 : BlkO own119 118 w119 g116 56 #[.int .i64 x115.1, .int .i64 x115.2])⟩, -⟩ := hf119 [3] rfl
      have hX119 := es_ hX110 hE119
      have b119_Al1 := RdO.evo rfl hE119 b110_Al1
      obtain ⟨r120, hr120, hs⟩ := obind hs
      obtain ⟨r121, hr121, hs⟩ := obind hs
      refine rg0_seq 22 own119 (bz 10) [⟨[], [4], [], Fct.val 11 (.pointer (some ⟨g116, 0, none⟩))⟩, ⟨[0], [], [], Fct.val 12 (.int .i64 x115.1)⟩, ⟨[1], [], [], Fct.val 13 (.bool r120)⟩, ⟨[2], [], [], Fct.val 14 (.bool (!r120))⟩, ⟨[3], [], [], Fct.val 15 (.bool (!r120))⟩, ⟨[4], [4], [], Fct.cond (!(!r120)) (some 16) (Fct.val 16 (.pointer (some ⟨g116, 1, none⟩)))⟩, ⟨[4, 5], [], [], Fct.cond (!(!r120)) (some 17) (Fct.val 17 (.int .i64 x115.2))⟩, ⟨[4, 6], [], [], Fct.cond (!(!r120)) (some 18) (Fct.val 18 (.bool r121))⟩, ⟨[4, 7], [], [], Fct.cond (!(!r120)) (some 19) (Fct.val 19 (.bool (!r121)))⟩, ⟨[4, 8], [], [], Fct.val 20 (.bool ((!r120) || (!r121)))⟩] hz119 hd119 (by kernel_rfl) ?_ ?_
      · refine sc (fun _ _ _ _ s _ => px (or_field fo56_0 (s.1.trans e119_4) (by rfl))) ?_
        refine sc (fun _ _ _ f _ hE => px (or_load1 to3 f.1 (Blk.at_ (be_ hE b119_g116).2 0 rfl))) ?_
        refine sc (fun _ _ _ f _ _ => px (or_call cf43 (args3 f.1 rfl rfl) (exact_within_w _ x115.1 (-16777216) 16777216  r120 hr120) post_val)) ?_
        refine sc (fun _ _ _ f _ _ => px (or_not f.1 rfl)) ?_
        refine sc (fun _ _ _ f _ _ => px (or_move f.1)) ?_
        refine sc (fun _ _ _ f s _ => sg_f rfl rfl rfl f.1 (fun hg => or_field fo56_1 (s.1.trans e119_4) (by rfl))) ?_
        refine sc (fun _ _ _ f _ hE => sg_f rfl rfl rfl f.1 (fun hg => or_load1 to3 (f.2.1.1 hg) (Blk.at_ (be_ hE b119_g116).2 1 rfl))) ?_
        refine sc (fun _ _ _ f _ _ => sg_f rfl rfl rfl f.1 (fun hg => or_call cf43 (args3 (f.2.1.1 hg) rfl rfl) (exact_within_w _ x115.2 (-16777216) 16777216  r121 (gd_t hr121 hg)) post_val)) ?_
        refine sc (fun _ _ _ f _ _ => sg_f rfl rfl rfl f.1 (fun hg => or_not (f.2.1.1 hg) rfl)) ?_
        refine sc (fun _ _ _ f _ _ => px (or_or f.1 rfl (fun hx => f.2.1.1 hx) rfl)) ?_
        exact steps_nil
      intro own122 a122 w122 hd122 hz122 hk122 hf122 hE122
      have e122_5 := (hk122 5 rfl).trans e119_5
      have e122_6 := (hk122 6 rfl).trans e119_6
      have e122_7 := (hk122 7 rfl).trans e119_7
      obtain ⟨(e122_20 : a122.eval (.tmp 20) = .bool ((!r120) || (!r121))), -⟩ := hf122 [9] rfl
      have hX122 := es_ hX119 hE122
      have b122_Al1 := RdO.evo rfl hE122 b119_Al1
      refine fl_cond e122_20 hs (fun c123 hs => ?_) (fun c123 hs => ?_)
      · refine rg0_seq 22 own122 (bz 1) [⟨[], [], [], Fct.val 2 (.bool false)⟩] hz122 hd122 (by kernel_rfl) ?_ ?_
        · refine sc (fun _ _ _ _ _ _ => px (or_assign rfl)) ?_
          exact steps_nil
        intro own124 a124 w124 hd124 hz124 hk124 hf124 hE124
        obtain ⟨(e124_2 : a124.eval (.tmp 2) = .bool false), -⟩ := hf124 [0] rfl
        have hX124 := es_ hX122 hE124
        refine fl_ret ?_
        refine hp114 _ _ _ rfl ?_
        refine hp113 _ _ _ rfl ?_
        replace hs := hz108 _ hs
        refine hp108 _ _ _ rfl ?_
        refine hp72 _ _ _ rfl ?_
        refine hp70 _ _ _ rfl ?_
        obtain rfl := osome hs
        exact hret _ _ _ _ (.inl rfl) hd124 (results1_ rfl (RVal.tmp_ e124_2)) ⟨own124, rfl, hX124⟩
      refine fl_skip ?_
      refine hn114 _ _ ?_
      refine hn113 _ _ ?_
      refine rg0 22 own122 (bz 2) [⟨[], [7], [], Fct.val 21 (.int .i64 (ad x90 1))⟩, ⟨[0], [], [], Fct.val 7 (.int .i64 (ad x90 1))⟩] hz122 hd122 (by kernel_rfl) ?_ ?_
      · refine sc (fun _ _ _ _ s _ => px (or_add (s.1.trans e122_7) rfl rfl)) ?_
        refine sc (fun _ _ _ f _ _ => px (or_move f.1)) ?_
        exact steps_nil
      intro own125 a125 w125 hd125 hz125 hk125 hf125 hE125
      have e125_5 := (hk125 5 rfl).trans e122_5
      have e125_6 := (hk125 6 rfl).trans e122_6
      obtain ⟨(e125_7 : a125.eval (.tmp 7) = .int .i64 (ad x90 1)), -⟩ := hf125 [1] rfl
      have hX125 := es_ hX122 hE125
      have b125_Al1 := RdO.evo rfl hE125 b122_Al1
      exact hn108 _ _ _ hs ⟨own125, hd125, hz125, e125_5, e125_6, e125_7, hX125, b125_Al1⟩
    refine fl_exit ?_
    refine hp111 _ _ _ rfl ?_
    replace hs := hz108 _ hs
    refine hp108 _ _ _ rfl ?_
    refine hx72 _ _ ?_
    refine hn70 _ _ ?_
    refine rg0_seq 22 own110 (bz 1) [⟨[], [], [], Fct.val 2 (.bool true)⟩] hz110 hd110 (by kernel_rfl) ?_ ?_
    · refine sc (fun _ _ _ _ _ _ => px (or_assign rfl)) ?_
      exact steps_nil
    intro own126 a126 w126 hd126 hz126 hk126 hf126 hE126
    obtain ⟨(e126_2 : a126.eval (.tmp 2) = .bool true), -⟩ := hf126 [0] rfl
    have hX126 := es_ hX110 hE126
    refine fl_ret ?_
    obtain rfl := osome hs
    exact hret _ _ _ _ (.inl rfl) hd126 (results1_ rfl (RVal.tmp_ e126_2)) ⟨own126, rfl, hX126⟩
theorem block_ref_w (w : World) (n1 : Int) (r : Bool) (hs : block_ref n1 = some r) :
    Calls Try.prog 23 #[.int .i64 n1] w fun e w' => ∃ own' : Own, e = .returned (.bool r) ∧ Evo [] (fun _ => 0) own' w w' := by
  refine fl_enter (n := 9) rfl rfl rfl (Nat.le_of_ble_eq_true rfl) ?_
  intro a0 Q hd0 hz0 harg hret
  have ha0 := harg 0 _ rfl
  clear harg
  have hE0 : Evo [] (fun _ => 0) (fun _ => 0) w w := Evo.refl _ _ _
  refine rg0_seq 9 (fun _ => 0) (bz 1) [⟨[], [], [], Fct.val 2 (.bool false)⟩] hz0 hd0 (by kernel_rfl) ?_ ?_
  · refine sc (fun _ _ _ _ _ _ => px (or_assign rfl)) ?_
    exact steps_nil
  intro own14 a14 w14 hd14 hz14 hk14 hf14 hE14
  have e14_0 := (hk14 0 rfl).trans ha0
  have hX14 := es_ hE0 hE14
  obtain ⟨x15, hx15, hs⟩ := obind hs
  refine rg0_seq 9 own14 (bz 7) [⟨[], [0], [], Fct.val 3 (.int .i64 n1)⟩, ⟨[0], [], [], Fct.val 4 (.bool (decide ((-65536) ≤ n1)))⟩, ⟨[1], [], [], Fct.val 5 (.bool (decide ((-65536) ≤ n1)))⟩, ⟨[2], [0], [], Fct.cond (decide ((-65536) ≤ n1)) (some 6) (Fct.val 6 (.int .i64 n1))⟩, ⟨[2, 3], [], [], Fct.cond (decide ((-65536) ≤ n1)) (some 7) (Fct.val 7 (.bool (decide (n1 ≤ 65536))))⟩, ⟨[2, 4], [], [], Fct.val 8 (.bool x15)⟩, ⟨[5], [], [], Fct.val 2 (.bool x15)⟩] hz14 hd14 (by kernel_rfl) ?_ ?_
  · refine sc (fun _ _ _ _ s _ => px (or_move (s.1.trans e14_0))) ?_
    refine sc (fun _ _ _ f _ _ => px (or_geq f.1 rfl rfl)) ?_
    refine sc (fun _ _ _ f _ _ => px (or_move f.1)) ?_
    refine sc (fun _ _ _ f s _ => sg_t rfl rfl rfl f.1 (fun hg => or_move (s.1.trans e14_0))) ?_
    refine sc (fun _ _ _ f _ _ => sg_t rfl rfl rfl f.1 (fun hg => or_leq (f.2.1.1 hg) rfl rfl)) ?_
    refine sc (fun _ _ _ f _ _ => px (or_and f.1 (fun hx => f.2.1.1 hx) rfl (osome hx15).symm)) ?_
    refine sc (fun _ _ _ f _ _ => px (or_assign f.1)) ?_
    exact steps_nil
  intro own16 a16 w16 hd16 hz16 hk16 hf16 hE16
  obtain ⟨(e16_2 : a16.eval (.tmp 2) = .bool x15), -⟩ := hf16 [6] rfl
  have hX16 := es_ hX14 hE16
  refine fl_ret ?_
  obtain rfl := (osome hs).symm
  exact hret _ _ _ _ (.inl rfl) hd16 (results1_ rfl (RVal.tmp_ e16_2)) ⟨own16, rfl, hX16⟩
theorem block_Check_w (w : World) (n1 : (List ((List (Int × Int)) × Int × Int)) × (List (List (List Int)))) (An1_0 : Option Addr) (cn1_0 : Nat) (An1_1 : Option Addr) (cn1_1 : Nat) (hAn1_0 : RdO (fun _ => 0) [0] w R59 An1_0 cn1_0 n1.1) (hAn1_1 : RdO (fun _ => 0) [0] w R27 An1_1 cn1_1 n1.2) (r : Int) (hs : block_Check n1 = some r) :
    Calls Try.prog 8 #[.agg #[.slice An1_0 n1.1.length cn1_0, .slice An1_1 n1.2.length cn1_1]] w fun e w' => ∃ own' : Own, e = .returned (.int .i64 r) ∧ Evo [] (fun _ => 0) own' w w' := by
  refine fl_enter (n := 62) rfl rfl rfl (Nat.le_of_ble_eq_true rfl) ?_
  intro a0 Q hd0 hz0 harg hret
  have ha0 := harg 0 _ rfl
  clear harg
  have hE0 : Evo [] (fun _ => 0) (fun _ => 0) w w := Evo.refl _ _ _
  refine rg0_seq 62 (fun _ => 0) [0, 0] [⟨[], [0], [], Fct.blk 607 1 (fun g => .pointer (some ⟨g, 0, none⟩)) 25 #[.slice An1_0 n1.1.length cn1_0, .slice An1_1 n1.2.length cn1_1]⟩, ⟨[], [], [], Fct.val 2 (.int .i64 0)⟩] hz0 hd0 (by kernel_rfl) ?_ ?_
  · refine sc (fun _ _ _ _ s _ => px (or_new [(0, .agg #[.slice An1_0 n1.1.length cn1_0, .slice An1_1 n1.2.length cn1_1])] rfl rfl ⟨(s.1.trans ha0), trivial⟩ (by kernel_rfl))) ?_
    refine sc (fun _ _ _ _ _ _ => px (or_assign rfl)) ?_
    exact steps_nil
  intro own608 a608 w608 hd608 hz608 hk608 hf608 hE608
  obtain ⟨⟨g606, (e608_1 : a608.eval (.tmp 1) = .pointer (some ⟨g606, 0, none⟩)), (b608_g606 : BlkO own608 607 w608 g606 25 #[.slice An1_0 n1.1.length cn1_0, .slice An1_1 n1.2.length cn1_1])⟩, -⟩ := hf608 [0] rfl
  have hX608 := es_ hE0 hE608
  have b608_An1_0 := RdO.evo rfl hE608 hAn1_0
  have b608_An1_1 := RdO.evo rfl hE608 hAn1_1
  refine fl_seq (fun Q609 hn609 hp609 => ?_)
  obtain ⟨r610, hr610, hs⟩ := obind hs
  refine rg0_seq 62 own608 (bz 2) [⟨[], [1], [], Fct.val 11 (.agg #[.slice An1_0 n1.1.length cn1_0, .slice An1_1 n1.2.length cn1_1])⟩, ⟨[0], [], [], Fct.val 12 (.bool r610)⟩] hz608 hd608 (by kernel_rfl) ?_ ?_
  · refine sc (fun _ _ _ _ s hE => px (or_load (l := [.slice An1_0 n1.1.length cn1_0, .slice An1_1 n1.2.length cn1_1]) ta25 (s.1.trans e608_1) (Blk.cellsFrom (be_ hE b608_g606).2 0 rfl) rfl)) ?_
    refine sc (fun _ _ _ f _ hE => px (or_call cf20 (args1 f.1) (block_many_w _ n1 An1_0 cn1_0 An1_1 cn1_1 (RdO.zero (RdO.evo rfl hE b608_An1_0)) (RdO.zero (RdO.evo rfl hE b608_An1_1)) r610 hr610) post_val)) ?_
    exact steps_nil
  intro own611 a611 w611 hd611 hz611 hk611 hf611 hE611
  have e611_1 := (hk611 1 rfl).trans e608_1
  obtain ⟨(e611_12 : a611.eval (.tmp 12) = .bool r610), -⟩ := hf611 [1] rfl
  have hX611 := es_ hX608 hE611
  have b611_An1_0 := RdO.evo rfl hE611 b608_An1_0
  have b611_An1_1 := RdO.evo rfl hE611 b608_An1_1
  have b611_g606 := be_ hE611 b608_g606
  refine fl_cond e611_12 hs (fun c612 hs => ?_) (fun c612 hs => ?_)
  · refine rg0_seq 62 own611 (bz 1) [⟨[], [], [], Fct.val 2 (.int .i64 6)⟩] hz611 hd611 (by kernel_rfl) ?_ ?_
    · refine sc (fun _ _ _ _ _ _ => px (or_assign rfl)) ?_
      exact steps_nil
    intro own613 a613 w613 hd613 hz613 hk613 hf613 hE613
    obtain ⟨(e613_2 : a613.eval (.tmp 2) = .int .i64 6), -⟩ := hf613 [0] rfl
    have hX613 := es_ hX611 hE613
    refine fl_ret ?_
    refine hp609 _ _ _ rfl ?_
    obtain rfl := osome hs
    exact hret _ _ _ _ (.inl rfl) hd613 (results1_ rfl (RVal.tmp_ e613_2)) ⟨own613, rfl, hX613⟩
  refine fl_skip ?_
  refine hn609 _ _ ?_
  refine fl_seq (fun Q614 hn614 hp614 => ?_)
  refine rg0_seq 62 own611 [0, 1, 3, 0] [⟨[], [1], [], Fct.val 13 (.pointer (some ⟨g606, 0, none⟩))⟩, ⟨[0], [], [], Fct.val 14 (.slice An1_0 n1.1.length cn1_0)⟩, ⟨[1], [], [], Fct.val 15 (.int .i64 (n1.1.length : Int))⟩, ⟨[], [], [], Fct.val 16 (.int .i64 0)⟩] hz611 hd611 (by kernel_rfl) ?_ ?_
  · refine sc (fun _ _ _ _ s _ => px (or_field fo25_0 (s.1.trans e611_1) (by rfl))) ?_
    refine sc (fun _ _ _ f _ hE => px (or_load1 to22 f.1 (Blk.at_ (be_ hE b611_g606).2 0 rfl))) ?_
    refine sc (fun _ _ _ f _ _ => px (or_len tu22 f.1 rfl)) ?_
    refine sc (fun _ _ _ _ _ _ => px (or_move rfl)) ?_
    exact steps_nil
  intro own615 a615 w615 hd615 hz615 hk615 hf615 hE615
  have e615_1 := (hk615 1 rfl).trans e611_1
  obtain ⟨(e615_14 : a615.eval (.tmp 14) = .slice An1_0 n1.1.length cn1_0), (e615_15 : a615.eval (.tmp 15) = .int .i64 (n1.1.length : Int)), (e615_16 : a615.eval (.tmp 16) = .int .i64 0), -⟩ := hf615 [1, 2, 3] rfl
  have hX615 := es_ hX611 hE615
  have b615_An1_0 := RdO.evo rfl hE615 b611_An1_0
  have b615_An1_1 := RdO.evo rfl hE615 b611_An1_1
  have b615_g606 := be_ hE615 b611_g606
  refine fl_block (fun Q616 hn616 hx616 hp616 => ?_)
  refine fl_loop (body := (fun s => block_Check_b1 n1 s)) (z := r) (show loopO _ _ = _ from hs) (fun (x636 : Int) a wx => ∃ (ox : Own), a.defers = [] ∧ a.tmps.size = 62 ∧ a.eval (.tmp 1) = .pointer (some ⟨g606, 0, none⟩) ∧ a.eval (.tmp 14) = .slice An1_0 n1.1.length cn1_0 ∧ a.eval (.tmp 15) = .int .i64 (n1.1.length : Int) ∧ a.eval (.tmp 16) = .int .i64 x636 ∧ Evo [] (fun _ => 0) ox w wx ∧ BlkO ox 607 wx g606 25 #[.slice An1_0 n1.1.length cn1_0, .slice An1_1 n1.2.length cn1_1] ∧ RdO ox [0] wx R59 An1_0 cn1_0 n1.1 ∧ RdO ox [0] wx R27 An1_1 cn1_1 n1.2) ?_ ?_
  · exact ⟨own615, hd615, hz615, e615_1, e615_14, e615_15, e615_16, hX615, b615_g606, b615_An1_0, b615_An1_1⟩
  · rintro x636 zz656 a656 w656 ⟨own656, hd657, hz657, e657_1, e657_14, e657_15, e657_16, hE657, b657_g606, b657_An1_0, b657_An1_1⟩ hs Q656 hn656 hp656 hz656
    have hs : block_Check_b1 n1 x636 = some zz656 := hs
    refine rg0_seq 62 own656 (bz 1) [⟨[], [16, 15], [], Fct.val 17 (.bool (decide (x636 < (n1.1.length : Int))))⟩] hz657 hd657 (by kernel_rfl) ?_ ?_
    · refine sc (fun _ _ _ _ s _ => px (or_lss (s.1.trans e657_16) (s.2.1.trans e657_15) rfl)) ?_
      exact steps_nil
    intro own658 a658 w658 hd658 hz658 hk658 hf658 hE658
    have e658_1 := (hk658 1 rfl).trans e657_1
    have e658_14 := (hk658 14 rfl).trans e657_14
    have e658_15 := (hk658 15 rfl).trans e657_15
    have e658_16 := (hk658 16 rfl).trans e657_16
    obtain ⟨(e658_17 : a658.eval (.tmp 17) = .bool (decide (x636 < (n1.1.length : Int)))), -⟩ := hf658 [0] rfl
    have hX658 := es_ hE657 hE658
    have b658_g606 := be_ hE658 b657_g606
    have b658_An1_0 := RdO.evo rfl hE658 b657_An1_0
    have b658_An1_1 := RdO.evo rfl hE658 b657_An1_1
    refine fl_seq (fun Q659 hn659 hp659 => ?_)
    refine fl_cond e658_17 hs (fun c660 hs => ?_) (fun c660 hs => ?_)
    · refine fl_skip ?_
      refine hn659 _ _ ?_
      refine fl_seq (fun Q661 hn661 hp661 => ?_)
      refine fl_block (fun Q662 hn662 hx662 hp662 => ?_)
      obtain ⟨x663, hx663, hs⟩ := obind hs
      refine rg_plain_seq (n := 62) (rs := []) (own0 := own658) (K := [666]) (bs := [0, 1, 0, 7]) (ds := [⟨[], [14, 16], [], Fct.val 18 (.pointer (some ((adr An1_0).add ((x636 : Int).toNat * R59.s))))⟩, ⟨[0], [], [], Fct.nest X59 [0] 19 (fun (y : ((Option Addr × Nat) × Unit × Unit)) => .agg #[.slice y.1.1 x663.1.length y.1.2, .int .i64 x663.2.1, .int .i64 x663.2.2]) x663⟩, ⟨[], [], [], Fct.blk 666 4 (fun g => .pointer (some ⟨g, 0, none⟩)) 59 #[.slice none 0 0, .int .i64 0, .int .i64 0]⟩, ⟨[2, 1], [], [666], Fct.by_ [667] [4, 19] (fun l own w => ∃ g665 : Nat, l.getD 0 undef = .pointer (some ⟨g665, 0, none⟩) ∧ (∀ (A664 : Option Addr) (cA664 : Nat), l.getD 1 undef = .agg #[.slice A664 x663.1.length cA664, .int .i64 x663.2.1, .int .i64 x663.2.2] → BlkO own 667 w g665 59 #[.slice A664 x663.1.length cA664, .int .i64 x663.2.1, .int .i64 x663.2.2])) (fun hk he h => by obtain ⟨g, e, h⟩ := h; exact ⟨g, e, fun _ _ h0' => BlkO.evo (not_hit hk (by decide)) he (h _ _ h0')⟩)⟩]) (by kernel_rfl) hz658 hd658 nm_ ?_ ?_
      · refine sc (fun _ _ _ _ s _ => px (or_index (R := R59) (l := n1.1) tl22 (s.1.trans e658_14) (s.2.1.trans e658_16) (RdO.some_ b658_An1_0 hx663) hx663)) ?_
        refine sc (fun _ _ _ f _ hE => px (or_loadN X59 0 3 ta59 f.1 (Addr.add_zero' _).symm (RdO.evo rfl hE b658_An1_0) hx663 (fun _ => rfl) (fun _ => rfl))) ?_
        refine sc (fun _ _ _ _ _ _ => px (or_new [] rfl rfl trivial (by kernel_rfl))) ?_
        refine sc (fun own a wx hf hsl hE => ?_) ?_
        · obtain ⟨⟨g665, f_4, b_g665⟩, ⟨⟨⟨A664, cA664⟩, _, _⟩, (f_19 : a.eval (.tmp 19) = .agg #[.slice A664 x663.1.length cA664, .int .i64 x663.2.1, .int .i64 x663.2.2]), ⟨b_A664, -, -⟩⟩, -⟩ := hf
          exact px (or_store (l := #[.slice A664 x663.1.length cA664, .int .i64 x663.2.1, .int .i64 x663.2.2]) (lab := 666) (lab2 := 667) ts59 f_4 f_19 b_g665 (by simp) (by kernel_rfl) (mem_of rfl) (by decide) (by kernel_rfl) (fun own' a' w' ha hb => ⟨_, (ha 4).trans f_4, fun _ _ h0' => by cases (f_19.symm.trans ((ha 19).symm.trans h0')); exact hb⟩))
        exact steps_nil
      intro own668 a668 w668 hd668 hz668 hk668 hf668 hE668
      have e668_1 := (hk668 1 rfl).trans e658_1
      have e668_14 := (hk668 14 rfl).trans e658_14
      have e668_15 := (hk668 15 rfl).trans e658_15
      have e668_16 := (hk668 16 rfl).trans e658_16
      obtain ⟨⟨⟨⟨A664, cA664⟩, _, _⟩, (f_19 : a668.eval (.tmp 19) = .agg #[.slice A664 x663.1.length cA664, .int .i64 x663.2.1, .int .i64 x663.2.2]), ⟨(b668_A664 : RdO own668 [0] w668 R56 A664 cA664 x663.1), -, -⟩⟩, ⟨g665, (e668_4 : a668.eval (.tmp 4) = .pointer (some ⟨g665, 0, none⟩)), (bq_g665 : ∀ (A664 : Option Addr) (cA664 : Nat), a668.eval (.tmp 19) = .agg #[.slice A664 x663.1.length cA664, .int .i64 x663.2.1, .int .i64 x663.2.2] → BlkO own668 667 w668 g665 59 #[.slice A664 x663.1.length cA664, .int .i64 x663.2.1, .int .i64 x663.2.2])⟩, -⟩ := hf668 [1, 3] rfl
      have b668_g665 := bq_g665 _ _ f_19
      have hX668 := es_ hX658 hE668
      have b668_g606 := be_ hE668 b658_g606
      have b668_An1_0 := RdO.evo rfl hE668 b658_An1_0
      have b668_An1_1 := RdO.evo rfl hE668 b658_An1_1
      obtain ⟨r669, hr669, hs⟩ := obind hs
      obtain ⟨r670, hr670, hs⟩ := obind hs
      obtain ⟨r671, hr671, hs⟩ := obind hs
      refine rg0_seq 62 own668 (bz 16) [⟨[], [4], [], Fct.val 20 (.pointer (some ⟨g665, 1, none⟩))⟩, ⟨[0], [], [], Fct.val 21 (.int .i64 x663.2.1)⟩, ⟨[1], [], [], Fct.val 22 (.bool r669)⟩, ⟨[2], [], [], Fct.val 23 (.bool (!r669))⟩, ⟨[3], [], [], Fct.val 24 (.bool (!r669))⟩, ⟨[4], [4], [], Fct.cond (!(!r669)) (some 25) (Fct.val 25 (.pointer (some ⟨g665, 2, none⟩)))⟩, ⟨[4, 5], [], [], Fct.cond (!(!r669)) (some 26) (Fct.val 26 (.int .i64 x663.2.2))⟩, ⟨[4, 6], [], [], Fct.cond (!(!r669)) (some 27) (Fct.val 27 (.bool r670))⟩, ⟨[4, 7], [], [], Fct.cond (!(!r669)) (some 28) (Fct.val 28 (.bool (!r670)))⟩, ⟨[4, 8], [], [], Fct.val 29 (.bool ((!r669) || (!r670)))⟩, ⟨[9], [], [], Fct.val 30 (.bool ((!r669) || (!r670)))⟩, ⟨[10], [4], [], Fct.cond (!((!r669) || (!r670))) (some 31) (Fct.val 31 (.pointer (some ⟨g665, 0, none⟩)))⟩, ⟨[10, 11], [], [], Fct.cond (!((!r669) || (!r670))) (some 32) (Fct.val 32 (.slice A664 x663.1.length cA664))⟩, ⟨[10, 12], [], [], Fct.cond (!((!r669) || (!r670))) (some 33) (Fct.val 33 (.bool r671))⟩, ⟨[10, 13], [], [], Fct.cond (!((!r669) || (!r670))) (some 34) (Fct.val 34 (.bool (!r671)))⟩, ⟨[10, 14], [], [], Fct.val 35 (.bool (((!r669) || (!r670)) || (!r671)))⟩] hz668 hd668 (by kernel_rfl) ?_ ?_
      · refine sc (fun _ _ _ _ s _ => px (or_field fo59_1 (s.1.trans e668_4) (by rfl))) ?_
        refine sc (fun _ _ _ f _ hE => px (or_load1 to3 f.1 (Blk.at_ (be_ hE b668_g665).2 1 rfl))) ?_
        refine sc (fun _ _ _ f _ _ => px (or_call cf21 (args1 f.1) (block_side_w _ x663.2.1  r669 hr669) post_val)) ?_
        refine sc (fun _ _ _ f _ _ => px (or_not f.1 rfl)) ?_
        refine sc (fun _ _ _ f _ _ => px (or_move f.1)) ?_
        refine sc (fun _ _ _ f s _ => sg_f rfl rfl rfl f.1 (fun hg => or_field fo59_2 (s.1.trans e668_4) (by rfl))) ?_
        refine sc (fun _ _ _ f _ hE => sg_f rfl rfl rfl f.1 (fun hg => or_load1 to3 (f.2.1.1 hg) (Blk.at_ (be_ hE b668_g665).2 2 rfl))) ?_
        refine sc (fun _ _ _ f _ _ => sg_f rfl rfl rfl f.1 (fun hg => or_call cf21 (args1 (f.2.1.1 hg)) (block_side_w _ x663.2.2  r670 (gd_t hr670 hg)) post_val)) ?_
        refine sc (fun _ _ _ f _ _ => sg_f rfl rfl rfl f.1 (fun hg => or_not (f.2.1.1 hg) rfl)) ?_
        refine sc (fun _ _ _ f _ _ => px (or_or f.1 rfl (fun hx => f.2.1.1 hx) rfl)) ?_
        refine sc (fun _ _ _ f _ _ => px (or_move f.1)) ?_
        refine sc (fun _ _ _ f s _ => sg_f rfl rfl rfl f.1 (fun hg => or_field fo59_0 (s.1.trans e668_4) (by rfl))) ?_
        refine sc (fun _ _ _ f _ hE => sg_f rfl rfl rfl f.1 (fun hg => or_load1 to57 (f.2.1.1 hg) (Blk.at_ (be_ hE b668_g665).2 0 rfl))) ?_
        refine sc (fun _ _ _ f _ hE => sg_f rfl rfl rfl f.1 (fun hg => or_call cf22 (args1 (f.2.1.1 hg)) (exact_Right_w _ x663.1 A664 cA664 (RdO.zero (RdO.evo rfl hE b668_A664)) r671 (gd_t hr671 hg)) post_val)) ?_
        refine sc (fun _ _ _ f _ _ => sg_f rfl rfl rfl f.1 (fun hg => or_not (f.2.1.1 hg) rfl)) ?_
        refine sc (fun _ _ _ f _ _ => px (or_or f.1 rfl (fun hx => f.2.1.1 hx) rfl)) ?_
        exact steps_nil
      intro own672 a672 w672 hd672 hz672 hk672 hf672 hE672
      have e672_1 := (hk672 1 rfl).trans e668_1
      have e672_14 := (hk672 14 rfl).trans e668_14
      have e672_15 := (hk672 15 rfl).trans e668_15
      have e672_16 := (hk672 16 rfl).trans e668_16
      obtain ⟨(e672_35 : a672.eval (.tmp 35) = .bool (((!r669) || (!r670)) || (!r671))), -⟩ := hf672 [15] rfl
      have hX672 := es_ hX668 hE672
      have b672_g606 := be_ hE672 b668_g606
      have b672_An1_0 := RdO.evo rfl hE672 b668_An1_0
      have b672_An1_1 := RdO.evo rfl hE672 b668_An1_1
      refine fl_cond e672_35 hs (fun c673 hs => ?_) (fun c673 hs => ?_)
      · refine rg0_seq 62 own672 (bz 1) [⟨[], [], [], Fct.val 2 (.int .i64 5)⟩] hz672 hd672 (by kernel_rfl) ?_ ?_
        · refine sc (fun _ _ _ _ _ _ => px (or_assign rfl)) ?_
          exact steps_nil
        intro own674 a674 w674 hd674 hz674 hk674 hf674 hE674
        obtain ⟨(e674_2 : a674.eval (.tmp 2) = .int .i64 5), -⟩ := hf674 [0] rfl
        have hX674 := es_ hX672 hE674
        refine fl_ret ?_
        refine hp662 _ _ _ rfl ?_
        refine hp661 _ _ _ rfl ?_
        replace hs := hz656 _ hs
        refine hp656 _ _ _ rfl ?_
        refine hp616 _ _ _ rfl ?_
        refine hp614 _ _ _ rfl ?_
        obtain rfl := osome hs
        exact hret _ _ _ _ (.inl rfl) hd674 (results1_ rfl (RVal.tmp_ e674_2)) ⟨own674, rfl, hX674⟩
      refine fl_skip ?_
      refine hn662 _ _ ?_
      refine hn661 _ _ ?_
      refine rg0 62 own672 (bz 2) [⟨[], [16], [], Fct.val 36 (.int .i64 (ad x636 1))⟩, ⟨[0], [], [], Fct.val 16 (.int .i64 (ad x636 1))⟩] hz672 hd672 (by kernel_rfl) ?_ ?_
      · refine sc (fun _ _ _ _ s _ => px (or_add (s.1.trans e672_16) rfl rfl)) ?_
        refine sc (fun _ _ _ f _ _ => px (or_move f.1)) ?_
        exact steps_nil
      intro own675 a675 w675 hd675 hz675 hk675 hf675 hE675
      have e675_1 := (hk675 1 rfl).trans e672_1
      have e675_14 := (hk675 14 rfl).trans e672_14
      have e675_15 := (hk675 15 rfl).trans e672_15
      obtain ⟨(e675_16 : a675.eval (.tmp 16) = .int .i64 (ad x636 1)), -⟩ := hf675 [1] rfl
      have hX675 := es_ hX672 hE675
      have b675_g606 := be_ hE675 b672_g606
      have b675_An1_0 := RdO.evo rfl hE675 b672_An1_0
      have b675_An1_1 := RdO.evo rfl hE675 b672_An1_1
      exact hn656 _ _ _ hs ⟨own675, hd675, hz675, e675_1, e675_14, e675_15, e675_16, hX675, b675_g606, b675_An1_0, b675_An1_1⟩
    refine fl_exit ?_
    refine hp659 _ _ _ rfl ?_
    replace hs := hz656 _ hs
    refine hp656 _ _ _ rfl ?_
    refine hx616 _ _ ?_
    refine hn614 _ _ ?_
    refine fl_seq (fun Q676 hn676 hp676 => ?_)
    refine rg0_seq 62 own658 [0, 1, 3, 0] [⟨[], [1], [], Fct.val 37 (.pointer (some ⟨g606, 1, none⟩))⟩, ⟨[0], [], [], Fct.val 38 (.slice An1_1 n1.2.length cn1_1)⟩, ⟨[1], [], [], Fct.val 39 (.int .i64 (n1.2.length : Int))⟩, ⟨[], [], [], Fct.val 40 (.int .i64 0)⟩] hz658 hd658 (by kernel_rfl) ?_ ?_
    · refine sc (fun _ _ _ _ s _ => px (or_field fo25_1 (s.1.trans e658_1) (by rfl))) ?_
      refine sc (fun _ _ _ f _ hE => px (or_load1 to23 f.1 (Blk.at_ (be_ hE b658_g606).2 1 rfl))) ?_
      refine sc (fun _ _ _ f _ _ => px (or_len tu23 f.1 rfl)) ?_
      refine sc (fun _ _ _ _ _ _ => px (or_move rfl)) ?_
      exact steps_nil
    intro own677 a677 w677 hd677 hz677 hk677 hf677 hE677
    obtain ⟨(e677_38 : a677.eval (.tmp 38) = .slice An1_1 n1.2.length cn1_1), (e677_39 : a677.eval (.tmp 39) = .int .i64 (n1.2.length : Int)), (e677_40 : a677.eval (.tmp 40) = .int .i64 0), -⟩ := hf677 [1, 2, 3] rfl
    have hX677 := es_ hX658 hE677
    have b677_An1_1 := RdO.evo rfl hE677 b658_An1_1
    refine fl_block (fun Q678 hn678 hx678 hp678 => ?_)
    refine fl_loop (body := (fun s => block_Check_b2 n1 s)) (z := r) (show loopO _ _ = _ from hs) (fun (x852 : Int) a wx => ∃ (ox : Own), a.defers = [] ∧ a.tmps.size = 62 ∧ a.eval (.tmp 38) = .slice An1_1 n1.2.length cn1_1 ∧ a.eval (.tmp 39) = .int .i64 (n1.2.length : Int) ∧ a.eval (.tmp 40) = .int .i64 x852 ∧ Evo [] (fun _ => 0) ox w wx ∧ RdO ox [0] wx R27 An1_1 cn1_1 n1.2) ?_ ?_
    · exact ⟨own677, hd677, hz677, e677_38, e677_39, e677_40, hX677, b677_An1_1⟩
    · rintro x852 zz1026 a1026 w1026 ⟨own1026, hd1027, hz1027, e1027_38, e1027_39, e1027_40, hE1027, b1027_An1_1⟩ hs Q1026 hn1026 hp1026 hz1026
      have hs : block_Check_b2 n1 x852 = some zz1026 := hs
      refine rg0_seq 62 own1026 (bz 1) [⟨[], [40, 39], [], Fct.val 41 (.bool (decide (x852 < (n1.2.length : Int))))⟩] hz1027 hd1027 (by kernel_rfl) ?_ ?_
      · refine sc (fun _ _ _ _ s _ => px (or_lss (s.1.trans e1027_40) (s.2.1.trans e1027_39) rfl)) ?_
        exact steps_nil
      intro own1028 a1028 w1028 hd1028 hz1028 hk1028 hf1028 hE1028
      have e1028_38 := (hk1028 38 rfl).trans e1027_38
      have e1028_39 := (hk1028 39 rfl).trans e1027_39
      have e1028_40 := (hk1028 40 rfl).trans e1027_40
      obtain ⟨(e1028_41 : a1028.eval (.tmp 41) = .bool (decide (x852 < (n1.2.length : Int)))), -⟩ := hf1028 [0] rfl
      have hX1028 := es_ hE1027 hE1028
      have b1028_An1_1 := RdO.evo rfl hE1028 b1027_An1_1
      refine fl_seq (fun Q1029 hn1029 hp1029 => ?_)
      refine fl_cond e1028_41 hs (fun c1030 hs => ?_) (fun c1030 hs => ?_)
      · refine fl_skip ?_
        refine hn1029 _ _ ?_
        refine fl_seq (fun Q1031 hn1031 hp1031 => ?_)
        refine fl_block (fun Q1032 hn1032 hx1032 hp1032 => ?_)
        obtain ⟨x1033, hx1033, hs⟩ := obind hs
        refine rg0_seq 62 own1028 (bz 3) [⟨[], [38, 40], [], Fct.val 42 (.pointer (some ((adr An1_1).add ((x852 : Int).toNat * R27.s))))⟩, ⟨[0], [], [], Fct.nest X27 [0] 43 (fun (y : (Option Addr × Nat)) => .slice y.1 x1033.length y.2) x1033⟩, ⟨[1], [], [], Fct.rel [6, 43] (fun l => ∀ (A1034 : Option Addr) (cA1034 : Nat), l.getD 1 undef = .slice A1034 x1033.length cA1034 → l.getD 0 undef = .slice A1034 x1033.length cA1034)⟩] hz1028 hd1028 (by kernel_rfl) ?_ ?_
        · refine sc (fun _ _ _ _ s _ => px (or_index (R := R27) (l := n1.2) tl23 (s.1.trans e1028_38) (s.2.1.trans e1028_40) (RdO.some_ b1028_An1_1 hx1033) hx1033)) ?_
          refine sc (fun _ _ _ f _ hE => px (or_loadN1 X27 0 to27 f.1 (Addr.add_zero' _).symm (RdO.evo rfl hE b1028_An1_1) hx1033 (fun _ => rfl))) ?_
          refine sc (fun own a wx hf hsl hE => ?_) ?_
          · obtain ⟨⟨⟨A1034, cA1034⟩, (f_43 : a.eval (.tmp 43) = .slice A1034 x1033.length cA1034), b_A1034⟩, -⟩ := hf
            exact px (or_mono (f := Fct.val 6 (.slice A1034 x1033.length cA1034)) (or_assign f_43) (fun own' a' w' v' hp h => fun _ _ h0' => by cases (f_43.symm.trans ((hp.2 43 (by decide)).symm.trans h0')); exact h))
          exact steps_nil
        intro own1035 a1035 w1035 hd1035 hz1035 hk1035 hf1035 hE1035
        have e1035_38 := (hk1035 38 rfl).trans e1028_38
        have e1035_39 := (hk1035 39 rfl).trans e1028_39
        have e1035_40 := (hk1035 40 rfl).trans e1028_40
        obtain ⟨⟨⟨A1034, cA1034⟩, (f_43 : a1035.eval (.tmp 43) = .slice A1034 x1033.length cA1034), (b1035_A1034 : RdO own1035 [0] w1035 R28 A1034 cA1034 x1033)⟩, (q_6 : ∀ (A1034 : Option Addr) (cA1034 : Nat), a1035.eval (.tmp 43) = .slice A1034 x1033.length cA1034 → a1035.eval (.tmp 6) = .slice A1034 x1033.length cA1034), -⟩ := hf1035 [1, 2] rfl
        have e1035_6 := q_6 _ _ f_43
        have hX1035 := es_ hX1028 hE1035
        have b1035_An1_1 := RdO.evo rfl hE1035 b1028_An1_1
        refine rg0_seq 62 own1035 [0, 1, 0] [⟨[], [6], [], Fct.val 44 (.slice A1034 x1033.length cA1034)⟩, ⟨[0], [], [], Fct.val 45 (.int .i64 (x1033.length : Int))⟩, ⟨[], [], [], Fct.val 46 (.int .i64 0)⟩] hz1035 hd1035 (by kernel_rfl) ?_ ?_
        · refine sc (fun _ _ _ _ s _ => px (or_move (s.1.trans e1035_6))) ?_
          refine sc (fun _ _ _ f _ _ => px (or_len tu27 f.1 rfl)) ?_
          refine sc (fun _ _ _ _ _ _ => px (or_move rfl)) ?_
          exact steps_nil
        intro own1036 a1036 w1036 hd1036 hz1036 hk1036 hf1036 hE1036
        have e1036_38 := (hk1036 38 rfl).trans e1035_38
        have e1036_39 := (hk1036 39 rfl).trans e1035_39
        have e1036_40 := (hk1036 40 rfl).trans e1035_40
        obtain ⟨(e1036_44 : a1036.eval (.tmp 44) = .slice A1034 x1033.length cA1034), (e1036_45 : a1036.eval (.tmp 45) = .int .i64 (x1033.length : Int)), (e1036_46 : a1036.eval (.tmp 46) = .int .i64 0), -⟩ := hf1036 [0, 1, 2] rfl
        have hX1036 := es_ hX1035 hE1036
        have b1036_An1_1 := RdO.evo rfl hE1036 b1035_An1_1
        have b1036_A1034 := RdO.evo rfl hE1036 b1035_A1034
        refine fl_block (fun Q1037 hn1037 hx1037 hp1037 => ?_)
        refine fl_loop (body := (fun s => block_Check_b3 x852 x1033 s)) (z := zz1026) (show loopO _ _ = _ from hs) (fun (x1091 : Int) a wx => ∃ (ox : Own), a.defers = [] ∧ a.tmps.size = 62 ∧ a.eval (.tmp 38) = .slice An1_1 n1.2.length cn1_1 ∧ a.eval (.tmp 39) = .int .i64 (n1.2.length : Int) ∧ a.eval (.tmp 40) = .int .i64 x852 ∧ a.eval (.tmp 44) = .slice A1034 x1033.length cA1034 ∧ a.eval (.tmp 45) = .int .i64 (x1033.length : Int) ∧ a.eval (.tmp 46) = .int .i64 x1091 ∧ Evo [] (fun _ => 0) ox w wx ∧ RdO ox [0] wx R27 An1_1 cn1_1 n1.2 ∧ RdO ox [0] wx R28 A1034 cA1034 x1033) ?_ ?_
        · exact ⟨own1036, hd1036, hz1036, e1036_38, e1036_39, e1036_40, e1036_44, e1036_45, e1036_46, hX1036, b1036_An1_1, b1036_A1034⟩
        · rintro x1091 zz1145 a1145 w1145 ⟨own1145, hd1146, hz1146, e1146_38, e1146_39, e1146_40, e1146_44, e1146_45, e1146_46, hE1146, b1146_An1_1, b1146_A1034⟩ hs Q1145 hn1145 hp1145 hz1145
          have hs : block_Check_b3 x852 x1033 x1091 = some zz1145 := hs
          refine rg0_seq 62 own1145 (bz 1) [⟨[], [46, 45], [], Fct.val 47 (.bool (decide (x1091 < (x1033.length : Int))))⟩] hz1146 hd1146 (by kernel_rfl) ?_ ?_
          · refine sc (fun _ _ _ _ s _ => px (or_lss (s.1.trans e1146_46) (s.2.1.trans e1146_45) rfl)) ?_
            exact steps_nil
          intro own1147 a1147 w1147 hd1147 hz1147 hk1147 hf1147 hE1147
          have e1147_38 := (hk1147 38 rfl).trans e1146_38
          have e1147_39 := (hk1147 39 rfl).trans e1146_39
          have e1147_40 := (hk1147 40 rfl).trans e1146_40
          have e1147_44 := (hk1147 44 rfl).trans e1146_44
          have e1147_45 := (hk1147 45 rfl).trans e1146_45
          have e1147_46 := (hk1147 46 rfl).trans e1146_46
          obtain ⟨(e1147_47 : a1147.eval (.tmp 47) = .bool (decide (x1091 < (x1033.length : Int)))), -⟩ := hf1147 [0] rfl
          have hX1147 := es_ hE1146 hE1147
          have b1147_An1_1 := RdO.evo rfl hE1147 b1146_An1_1
          have b1147_A1034 := RdO.evo rfl hE1147 b1146_A1034
          refine fl_seq (fun Q1148 hn1148 hp1148 => ?_)
          refine fl_cond e1147_47 hs (fun c1149 hs => ?_) (fun c1149 hs => ?_)
          · refine fl_skip ?_
            refine hn1148 _ _ ?_
            refine fl_seq (fun Q1150 hn1150 hp1150 => ?_)
            refine fl_block (fun Q1151 hn1151 hx1151 hp1151 => ?_)
            obtain ⟨x1152, hx1152, hs⟩ := obind hs
            refine rg0_seq 62 own1147 (bz 3) [⟨[], [44, 46], [], Fct.val 48 (.pointer (some ((adr A1034).add ((x1091 : Int).toNat * R28.s))))⟩, ⟨[0], [], [], Fct.nest X28 [0] 49 (fun (y : (Option Addr × Nat)) => .slice y.1 x1152.length y.2) x1152⟩, ⟨[1], [], [], Fct.rel [8, 49] (fun l => ∀ (A1153 : Option Addr) (cA1153 : Nat), l.getD 1 undef = .slice A1153 x1152.length cA1153 → l.getD 0 undef = .slice A1153 x1152.length cA1153)⟩] hz1147 hd1147 (by kernel_rfl) ?_ ?_
            · refine sc (fun _ _ _ _ s _ => px (or_index (R := R28) (l := x1033) tl27 (s.1.trans e1147_44) (s.2.1.trans e1147_46) (RdO.some_ b1147_A1034 hx1152) hx1152)) ?_
              refine sc (fun _ _ _ f _ hE => px (or_loadN1 X28 0 to28 f.1 (Addr.add_zero' _).symm (RdO.evo rfl hE b1147_A1034) hx1152 (fun _ => rfl))) ?_
              refine sc (fun own a wx hf hsl hE => ?_) ?_
              · obtain ⟨⟨⟨A1153, cA1153⟩, (f_49 : a.eval (.tmp 49) = .slice A1153 x1152.length cA1153), b_A1153⟩, -⟩ := hf
                exact px (or_mono (f := Fct.val 8 (.slice A1153 x1152.length cA1153)) (or_assign f_49) (fun own' a' w' v' hp h => fun _ _ h0' => by cases (f_49.symm.trans ((hp.2 49 (by decide)).symm.trans h0')); exact h))
              exact steps_nil
            intro own1154 a1154 w1154 hd1154 hz1154 hk1154 hf1154 hE1154
            have e1154_38 := (hk1154 38 rfl).trans e1147_38
            have e1154_39 := (hk1154 39 rfl).trans e1147_39
            have e1154_40 := (hk1154 40 rfl).trans e1147_40
            have e1154_44 := (hk1154 44 rfl).trans e1147_44
            have e1154_45 := (hk1154 45 rfl).trans e1147_45
            have e1154_46 := (hk1154 46 rfl).trans e1147_46
            obtain ⟨⟨⟨A1153, cA1153⟩, (f_49 : a1154.eval (.tmp 49) = .slice A1153 x1152.length cA1153), (b1154_A1153 : RdO own1154 [0] w1154 R3 A1153 cA1153 x1152)⟩, (q_8 : ∀ (A1153 : Option Addr) (cA1153 : Nat), a1154.eval (.tmp 49) = .slice A1153 x1152.length cA1153 → a1154.eval (.tmp 8) = .slice A1153 x1152.length cA1153), -⟩ := hf1154 [1, 2] rfl
            have e1154_8 := q_8 _ _ f_49
            have hX1154 := es_ hX1147 hE1154
            have b1154_An1_1 := RdO.evo rfl hE1154 b1147_An1_1
            have b1154_A1034 := RdO.evo rfl hE1154 b1147_A1034
            refine rg0_seq 62 own1154 [0, 1, 0] [⟨[], [8], [], Fct.val 50 (.slice A1153 x1152.length cA1153)⟩, ⟨[0], [], [], Fct.val 51 (.int .i64 (x1152.length : Int))⟩, ⟨[], [], [], Fct.val 52 (.int .i64 0)⟩] hz1154 hd1154 (by kernel_rfl) ?_ ?_
            · refine sc (fun _ _ _ _ s _ => px (or_move (s.1.trans e1154_8))) ?_
              refine sc (fun _ _ _ f _ _ => px (or_len tu28 f.1 rfl)) ?_
              refine sc (fun _ _ _ _ _ _ => px (or_move rfl)) ?_
              exact steps_nil
            intro own1155 a1155 w1155 hd1155 hz1155 hk1155 hf1155 hE1155
            have e1155_38 := (hk1155 38 rfl).trans e1154_38
            have e1155_39 := (hk1155 39 rfl).trans e1154_39
            have e1155_40 := (hk1155 40 rfl).trans e1154_40
            have e1155_44 := (hk1155 44 rfl).trans e1154_44
            have e1155_45 := (hk1155 45 rfl).trans e1154_45
            have e1155_46 := (hk1155 46 rfl).trans e1154_46
            obtain ⟨(e1155_50 : a1155.eval (.tmp 50) = .slice A1153 x1152.length cA1153), (e1155_51 : a1155.eval (.tmp 51) = .int .i64 (x1152.length : Int)), (e1155_52 : a1155.eval (.tmp 52) = .int .i64 0), -⟩ := hf1155 [0, 1, 2] rfl
            have hX1155 := es_ hX1154 hE1155
            have b1155_An1_1 := RdO.evo rfl hE1155 b1154_An1_1
            have b1155_A1034 := RdO.evo rfl hE1155 b1154_A1034
            have b1155_A1153 := RdO.evo rfl hE1155 b1154_A1153
            refine fl_block (fun Q1156 hn1156 hx1156 hp1156 => ?_)
            refine fl_loop (body := (fun s => block_Check_b4 x1091 x1152 s)) (z := zz1145) (show loopO _ _ = _ from hs) (fun (x1170 : Int) a wx => ∃ (ox : Own), a.defers = [] ∧ a.tmps.size = 62 ∧ a.eval (.tmp 38) = .slice An1_1 n1.2.length cn1_1 ∧ a.eval (.tmp 39) = .int .i64 (n1.2.length : Int) ∧ a.eval (.tmp 40) = .int .i64 x852 ∧ a.eval (.tmp 44) = .slice A1034 x1033.length cA1034 ∧ a.eval (.tmp 45) = .int .i64 (x1033.length : Int) ∧ a.eval (.tmp 46) = .int .i64 x1091 ∧ a.eval (.tmp 50) = .slice A1153 x1152.length cA1153 ∧ a.eval (.tmp 51) = .int .i64 (x1152.length : Int) ∧ a.eval (.tmp 52) = .int .i64 x1170 ∧ Evo [] (fun _ => 0) ox w wx ∧ RdO ox [0] wx R27 An1_1 cn1_1 n1.2 ∧ RdO ox [0] wx R28 A1034 cA1034 x1033 ∧ RdO ox [0] wx R3 A1153 cA1153 x1152) ?_ ?_
            · exact ⟨own1155, hd1155, hz1155, e1155_38, e1155_39, e1155_40, e1155_44, e1155_45, e1155_46, e1155_50, e1155_51, e1155_52, hX1155, b1155_An1_1, b1155_A1034, b1155_A1153⟩
            · rintro x1170 zz1184 a1184 w1184 ⟨own1184, hd1185, hz1185, e1185_38, e1185_39, e1185_40, e1185_44, e1185_45, e1185_46, e1185_50, e1185_51, e1185_52, hE1185, b1185_An1_1, b1185_A1034, b1185_A1153⟩ hs Q1184 hn1184 hp1184 hz1184
              have hs : block_Check_b4 x1091 x1152 x1170 = some zz1184 := hs
              refine rg0_seq 62 own1184 (bz 1) [⟨[], [52, 51], [], Fct.val 53 (.bool (decide (x1170 < (x1152.length : Int))))⟩] hz1185 hd1185 (by kernel_rfl) ?_ ?_
              · refine sc (fun _ _ _ _ s _ => px (or_lss (s.1.trans e1185_52) (s.2.1.trans e1185_51) rfl)) ?_
                exact steps_nil
              intro own1186 a1186 w1186 hd1186 hz1186 hk1186 hf1186 hE1186
              have e1186_38 := (hk1186 38 rfl).trans e1185_38
              have e1186_39 := (hk1186 39 rfl).trans e1185_39
              have e1186_40 := (hk1186 40 rfl).trans e1185_40
              have e1186_44 := (hk1186 44 rfl).trans e1185_44
              have e1186_45 := (hk1186 45 rfl).trans e1185_45
              have e1186_46 := (hk1186 46 rfl).trans e1185_46
              have e1186_50 := (hk1186 50 rfl).trans e1185_50
              have e1186_51 := (hk1186 51 rfl).trans e1185_51
              have e1186_52 := (hk1186 52 rfl).trans e1185_52
              obtain ⟨(e1186_53 : a1186.eval (.tmp 53) = .bool (decide (x1170 < (x1152.length : Int)))), -⟩ := hf1186 [0] rfl
              have hX1186 := es_ hE1185 hE1186
              have b1186_An1_1 := RdO.evo rfl hE1186 b1185_An1_1
              have b1186_A1034 := RdO.evo rfl hE1186 b1185_A1034
              have b1186_A1153 := RdO.evo rfl hE1186 b1185_A1153
              refine fl_seq (fun Q1187 hn1187 hp1187 => ?_)
              refine fl_cond e1186_53 hs (fun c1188 hs => ?_) (fun c1188 hs => ?_)
              · refine fl_skip ?_
                refine hn1187 _ _ ?_
                refine fl_seq (fun Q1189 hn1189 hp1189 => ?_)
                refine fl_block (fun Q1190 hn1190 hx1190 hp1190 => ?_)
                obtain ⟨x1191, hx1191, hs⟩ := obind hs
                refine rg0_seq 62 own1186 (bz 3) [⟨[], [50, 52], [], Fct.val 54 (.pointer (some ((adr A1153).add ((x1170 : Int).toNat * R3.s))))⟩, ⟨[0], [], [], Fct.val 55 (.int .i64 x1191)⟩, ⟨[1], [], [], Fct.val 10 (.int .i64 x1191)⟩] hz1186 hd1186 (by kernel_rfl) ?_ ?_
                · refine sc (fun _ _ _ _ s _ => px (or_index (R := R3) (l := x1152) tl28 (s.1.trans e1186_50) (s.2.1.trans e1186_52) (RdO.some_ b1186_A1153 hx1191) hx1191)) ?_
                  refine sc (fun _ _ _ f _ hE => px (or_load1 to3 f.1 (CellsAt.zero (RdO.cells (F := E3) (RdO.evo rfl hE b1186_A1153) hx1191) rfl))) ?_
                  refine sc (fun _ _ _ f _ _ => px (or_assign f.1)) ?_
                  exact steps_nil
                intro own1192 a1192 w1192 hd1192 hz1192 hk1192 hf1192 hE1192
                have e1192_38 := (hk1192 38 rfl).trans e1186_38
                have e1192_39 := (hk1192 39 rfl).trans e1186_39
                have e1192_40 := (hk1192 40 rfl).trans e1186_40
                have e1192_44 := (hk1192 44 rfl).trans e1186_44
                have e1192_45 := (hk1192 45 rfl).trans e1186_45
                have e1192_46 := (hk1192 46 rfl).trans e1186_46
                have e1192_50 := (hk1192 50 rfl).trans e1186_50
                have e1192_51 := (hk1192 51 rfl).trans e1186_51
                have e1192_52 := (hk1192 52 rfl).trans e1186_52
                obtain ⟨(e1192_10 : a1192.eval (.tmp 10) = .int .i64 x1191), -⟩ := hf1192 [2] rfl
                have hX1192 := es_ hX1186 hE1192
                have b1192_An1_1 := RdO.evo rfl hE1192 b1186_An1_1
                have b1192_A1034 := RdO.evo rfl hE1192 b1186_A1034
                have b1192_A1153 := RdO.evo rfl hE1192 b1186_A1153
                obtain ⟨r1193, hr1193, hs⟩ := obind hs
                refine rg0_seq 62 own1192 (bz 3) [⟨[], [10], [], Fct.val 56 (.int .i64 x1191)⟩, ⟨[0], [], [], Fct.val 57 (.bool r1193)⟩, ⟨[1], [], [], Fct.val 58 (.bool (!r1193))⟩] hz1192 hd1192 (by kernel_rfl) ?_ ?_
                · refine sc (fun _ _ _ _ s _ => px (or_move (s.1.trans e1192_10))) ?_
                  refine sc (fun _ _ _ f _ _ => px (or_call cf23 (args1 f.1) (block_ref_w _ x1191  r1193 hr1193) post_val)) ?_
                  refine sc (fun _ _ _ f _ _ => px (or_not f.1 rfl)) ?_
                  exact steps_nil
                intro own1194 a1194 w1194 hd1194 hz1194 hk1194 hf1194 hE1194
                have e1194_38 := (hk1194 38 rfl).trans e1192_38
                have e1194_39 := (hk1194 39 rfl).trans e1192_39
                have e1194_40 := (hk1194 40 rfl).trans e1192_40
                have e1194_44 := (hk1194 44 rfl).trans e1192_44
                have e1194_45 := (hk1194 45 rfl).trans e1192_45
                have e1194_46 := (hk1194 46 rfl).trans e1192_46
                have e1194_50 := (hk1194 50 rfl).trans e1192_50
                have e1194_51 := (hk1194 51 rfl).trans e1192_51
                have e1194_52 := (hk1194 52 rfl).trans e1192_52
                obtain ⟨(e1194_58 : a1194.eval (.tmp 58) = .bool (!r1193)), -⟩ := hf1194 [2] rfl
                have hX1194 := es_ hX1192 hE1194
                have b1194_An1_1 := RdO.evo rfl hE1194 b1192_An1_1
                have b1194_A1034 := RdO.evo rfl hE1194 b1192_A1034
                have b1194_A1153 := RdO.evo rfl hE1194 b1192_A1153
                refine fl_cond e1194_58 hs (fun c1195 hs => ?_) (fun c1195 hs => ?_)
                · refine rg0_seq 62 own1194 (bz 1) [⟨[], [], [], Fct.val 2 (.int .i64 5)⟩] hz1194 hd1194 (by kernel_rfl) ?_ ?_
                  · refine sc (fun _ _ _ _ _ _ => px (or_assign rfl)) ?_
                    exact steps_nil
                  intro own1196 a1196 w1196 hd1196 hz1196 hk1196 hf1196 hE1196
                  obtain ⟨(e1196_2 : a1196.eval (.tmp 2) = .int .i64 5), -⟩ := hf1196 [0] rfl
                  have hX1196 := es_ hX1194 hE1196
                  refine fl_ret ?_
                  refine hp1190 _ _ _ rfl ?_
                  refine hp1189 _ _ _ rfl ?_
                  replace hs := hz1184 _ hs
                  refine hp1184 _ _ _ rfl ?_
                  refine hp1156 _ _ _ rfl ?_
                  refine hp1151 _ _ _ rfl ?_
                  refine hp1150 _ _ _ rfl ?_
                  replace hs := hz1145 _ hs
                  refine hp1145 _ _ _ rfl ?_
                  refine hp1037 _ _ _ rfl ?_
                  refine hp1032 _ _ _ rfl ?_
                  refine hp1031 _ _ _ rfl ?_
                  replace hs := hz1026 _ hs
                  refine hp1026 _ _ _ rfl ?_
                  refine hp678 _ _ _ rfl ?_
                  refine hp676 _ _ _ rfl ?_
                  obtain rfl := osome hs
                  exact hret _ _ _ _ (.inl rfl) hd1196 (results1_ rfl (RVal.tmp_ e1196_2)) ⟨own1196, rfl, hX1196⟩
                refine fl_skip ?_
                refine hn1190 _ _ ?_
                refine hn1189 _ _ ?_
                refine rg0 62 own1194 (bz 2) [⟨[], [52], [], Fct.val 59 (.int .i64 (ad x1170 1))⟩, ⟨[0], [], [], Fct.val 52 (.int .i64 (ad x1170 1))⟩] hz1194 hd1194 (by kernel_rfl) ?_ ?_
                · refine sc (fun _ _ _ _ s _ => px (or_add (s.1.trans e1194_52) rfl rfl)) ?_
                  refine sc (fun _ _ _ f _ _ => px (or_move f.1)) ?_
                  exact steps_nil
                intro own1197 a1197 w1197 hd1197 hz1197 hk1197 hf1197 hE1197
                have e1197_38 := (hk1197 38 rfl).trans e1194_38
                have e1197_39 := (hk1197 39 rfl).trans e1194_39
                have e1197_40 := (hk1197 40 rfl).trans e1194_40
                have e1197_44 := (hk1197 44 rfl).trans e1194_44
                have e1197_45 := (hk1197 45 rfl).trans e1194_45
                have e1197_46 := (hk1197 46 rfl).trans e1194_46
                have e1197_50 := (hk1197 50 rfl).trans e1194_50
                have e1197_51 := (hk1197 51 rfl).trans e1194_51
                obtain ⟨(e1197_52 : a1197.eval (.tmp 52) = .int .i64 (ad x1170 1)), -⟩ := hf1197 [1] rfl
                have hX1197 := es_ hX1194 hE1197
                have b1197_An1_1 := RdO.evo rfl hE1197 b1194_An1_1
                have b1197_A1034 := RdO.evo rfl hE1197 b1194_A1034
                have b1197_A1153 := RdO.evo rfl hE1197 b1194_A1153
                exact hn1184 _ _ _ hs ⟨own1197, hd1197, hz1197, e1197_38, e1197_39, e1197_40, e1197_44, e1197_45, e1197_46, e1197_50, e1197_51, e1197_52, hX1197, b1197_An1_1, b1197_A1034, b1197_A1153⟩
              refine fl_exit ?_
              refine hp1187 _ _ _ rfl ?_
              replace hs := hz1184 _ hs
              refine hp1184 _ _ _ rfl ?_
              refine hx1156 _ _ ?_
              refine hn1151 _ _ ?_
              refine hn1150 _ _ ?_
              refine rg0 62 own1186 (bz 2) [⟨[], [46], [], Fct.val 60 (.int .i64 (ad x1091 1))⟩, ⟨[0], [], [], Fct.val 46 (.int .i64 (ad x1091 1))⟩] hz1186 hd1186 (by kernel_rfl) ?_ ?_
              · refine sc (fun _ _ _ _ s _ => px (or_add (s.1.trans e1186_46) rfl rfl)) ?_
                refine sc (fun _ _ _ f _ _ => px (or_move f.1)) ?_
                exact steps_nil
              intro own1198 a1198 w1198 hd1198 hz1198 hk1198 hf1198 hE1198
              have e1198_38 := (hk1198 38 rfl).trans e1186_38
              have e1198_39 := (hk1198 39 rfl).trans e1186_39
              have e1198_40 := (hk1198 40 rfl).trans e1186_40
              have e1198_44 := (hk1198 44 rfl).trans e1186_44
              have e1198_45 := (hk1198 45 rfl).trans e1186_45
              obtain ⟨(e1198_46 : a1198.eval (.tmp 46) = .int .i64 (ad x1091 1)), -⟩ := hf1198 [1] rfl
              have hX1198 := es_ hX1186 hE1198
              have b1198_An1_1 := RdO.evo rfl hE1198 b1186_An1_1
              have b1198_A1034 := RdO.evo rfl hE1198 b1186_A1034
              exact hn1145 _ _ _ hs ⟨own1198, hd1198, hz1198, e1198_38, e1198_39, e1198_40, e1198_44, e1198_45, e1198_46, hX1198, b1198_An1_1, b1198_A1034⟩
          refine fl_exit ?_
          refine hp1148 _ _ _ rfl ?_
          replace hs := hz1145 _ hs
          refine hp1145 _ _ _ rfl ?_
          refine hx1037 _ _ ?_
          refine hn1032 _ _ ?_
          refine hn1031 _ _ ?_
          refine rg0 62 own1147 (bz 2) [⟨[], [40], [], Fct.val 61 (.int .i64 (ad x852 1))⟩, ⟨[0], [], [], Fct.val 40 (.int .i64 (ad x852 1))⟩] hz1147 hd1147 (by kernel_rfl) ?_ ?_
          · refine sc (fun _ _ _ _ s _ => px (or_add (s.1.trans e1147_40) rfl rfl)) ?_
            refine sc (fun _ _ _ f _ _ => px (or_move f.1)) ?_
            exact steps_nil
          intro own1199 a1199 w1199 hd1199 hz1199 hk1199 hf1199 hE1199
          have e1199_38 := (hk1199 38 rfl).trans e1147_38
          have e1199_39 := (hk1199 39 rfl).trans e1147_39
          obtain ⟨(e1199_40 : a1199.eval (.tmp 40) = .int .i64 (ad x852 1)), -⟩ := hf1199 [1] rfl
          have hX1199 := es_ hX1147 hE1199
          have b1199_An1_1 := RdO.evo rfl hE1199 b1147_An1_1
          exact hn1026 _ _ _ hs ⟨own1199, hd1199, hz1199, e1199_38, e1199_39, e1199_40, hX1199, b1199_An1_1⟩
      refine fl_exit ?_
      refine hp1029 _ _ _ rfl ?_
      replace hs := hz1026 _ hs
      refine hp1026 _ _ _ rfl ?_
      refine hx678 _ _ ?_
      refine hn676 _ _ ?_
      refine rg0_seq 62 own1028 (bz 1) [⟨[], [], [], Fct.val 2 (.int .i64 0)⟩] hz1028 hd1028 (by kernel_rfl) ?_ ?_
      · refine sc (fun _ _ _ _ _ _ => px (or_assign rfl)) ?_
        exact steps_nil
      intro own1200 a1200 w1200 hd1200 hz1200 hk1200 hf1200 hE1200
      obtain ⟨(e1200_2 : a1200.eval (.tmp 2) = .int .i64 0), -⟩ := hf1200 [0] rfl
      have hX1200 := es_ hX1028 hE1200
      refine fl_ret ?_
      obtain rfl := osome hs
      exact hret _ _ _ _ (.inl rfl) hd1200 (results1_ rfl (RVal.tmp_ e1200_2)) ⟨own1200, rfl, hX1200⟩
theorem varint_Bytes_w (w : World) (l1 : List Int) (Al1 : Option Addr) (cl1 : Nat) (hl1 : RdO (fun _ => 0) [0] w R26 Al1 cl1 l1) (r : List Int) (hs : varint_Bytes l1 = some r) :
    Calls Try.prog 30 #[.slice Al1 l1.length cl1] w fun e w' => ∃ (own' : Own) (x : Option Addr × Nat), e = .returned (.slice x.1 r.length x.2) ∧ Evo [] (fun _ => 0) own' w w' ∧ RwO own' 1 [] w' 5 R5 x.1 x.2 r := by
  refine fl_enter (n := 29) rfl rfl rfl (Nat.le_of_ble_eq_true rfl) ?_
  intro a0 Q hd0 hz0 harg hret
  have ha0 := harg 0 _ rfl
  clear harg
  have hE0 : Evo [] (fun _ => 0) (fun _ => 0) w w := Evo.refl _ _ _
  refine rg0_seq 29 (fun _ => 0) (bz 1) [⟨[], [], [], Fct.val 2 (.slice none 0 0)⟩] hz0 hd0 (by kernel_rfl) ?_ ?_
  · refine sc (fun _ _ _ _ _ _ => px (or_assign rfl)) ?_
    exact steps_nil
  intro own939 a939 w939 hd939 hz939 hk939 hf939 hE939
  have e939_0 := (hk939 0 rfl).trans ha0
  have hX939 := es_ hE0 hE939
  have b939_Al1 := RdO.evo rfl hE939 hl1
  refine rg0_seq 29 own939 (bz 1) [⟨[], [], [], Fct.val 3 (.slice none 0 0)⟩] hz939 hd939 (by kernel_rfl) ?_ ?_
  · refine sc (fun _ _ _ _ _ _ => px (or_assign rfl)) ?_
    exact steps_nil
  intro own940 a940 w940 hd940 hz940 hk940 hf940 hE940
  have e940_0 := (hk940 0 rfl).trans e939_0
  obtain ⟨(e940_3 : a940.eval (.tmp 3) = .slice none 0 0), -⟩ := hf940 [0] rfl
  have hX940 := es_ hX939 hE940
  have b940_Al1 := RdO.evo rfl hE940 b939_Al1
  refine fl_seq (fun Q941 hn941 hp941 => ?_)
  refine rg0_seq 29 own940 [0, 1, 0] [⟨[], [0], [], Fct.val 6 (.slice Al1 l1.length cl1)⟩, ⟨[0], [], [], Fct.val 7 (.int .i64 (l1.length : Int))⟩, ⟨[], [], [], Fct.val 8 (.int .i64 0)⟩] hz940 hd940 (by kernel_rfl) ?_ ?_
  · refine sc (fun _ _ _ _ s _ => px (or_move (s.1.trans e940_0))) ?_
    refine sc (fun _ _ _ f _ _ => px (or_len tu87 f.1 rfl)) ?_
    refine sc (fun _ _ _ _ _ _ => px (or_move rfl)) ?_
    exact steps_nil
  intro own942 a942 w942 hd942 hz942 hk942 hf942 hE942
  have e942_3 := (hk942 3 rfl).trans e940_3
  obtain ⟨(e942_6 : a942.eval (.tmp 6) = .slice Al1 l1.length cl1), (e942_7 : a942.eval (.tmp 7) = .int .i64 (l1.length : Int)), (e942_8 : a942.eval (.tmp 8) = .int .i64 0), -⟩ := hf942 [0, 1, 2] rfl
  have hX942 := es_ hX940 hE942
  have b942_Al1 := RdO.evo rfl hE942 b940_Al1
  refine fl_block (fun Q943 hn943 hx943 hp943 => ?_)
  refine fl_loop (body := (fun s => varint_Bytes_b1 l1 s.1 s.2)) (z := r) (show loopO _ _ = _ from hs) (fun (s : (List Int) × Int) a wx => match s with | (out1246, x1248) => ∃ (ox : Own) (A1244 : Option Addr) (c1245 : Nat), a.defers = [] ∧ a.tmps.size = 29 ∧ a.eval (.tmp 3) = .slice A1244 out1246.length c1245 ∧ a.eval (.tmp 6) = .slice Al1 l1.length cl1 ∧ a.eval (.tmp 7) = .int .i64 (l1.length : Int) ∧ a.eval (.tmp 8) = .int .i64 x1248 ∧ Evo [] (fun _ => 0) ox w wx ∧ RwO ox 1247 [] wx 5 R5 A1244 c1245 out1246 ∧ RdO ox [0] wx R26 Al1 cl1 l1) ?_ ?_
  · exact ⟨own942, none, 0, hd942, hz942, e942_3, e942_6, e942_7, e942_8, hX942, RwO.nil_, b942_Al1⟩
  · rintro ⟨out1246, x1248⟩ zz1557 a1557 w1557 ⟨own1557, A1244, c1245, hd1558, hz1558, e1558_3, e1558_6, e1558_7, e1558_8, hE1558, b1558_A1244, b1558_Al1⟩ hs Q1557 hn1557 hp1557 hz1557
    have hs : varint_Bytes_b1 l1 out1246 x1248 = some zz1557 := hs
    refine rg0_seq 29 own1557 (bz 1) [⟨[], [8, 7], [], Fct.val 9 (.bool (decide (x1248 < (l1.length : Int))))⟩] hz1558 hd1558 (by kernel_rfl) ?_ ?_
    · refine sc (fun _ _ _ _ s _ => px (or_lss (s.1.trans e1558_8) (s.2.1.trans e1558_7) rfl)) ?_
      exact steps_nil
    intro own1559 a1559 w1559 hd1559 hz1559 hk1559 hf1559 hE1559
    have e1559_3 := (hk1559 3 rfl).trans e1558_3
    have e1559_6 := (hk1559 6 rfl).trans e1558_6
    have e1559_7 := (hk1559 7 rfl).trans e1558_7
    have e1559_8 := (hk1559 8 rfl).trans e1558_8
    obtain ⟨(e1559_9 : a1559.eval (.tmp 9) = .bool (decide (x1248 < (l1.length : Int)))), -⟩ := hf1559 [0] rfl
    have hX1559 := es_ hE1558 hE1559
    have b1559_A1244 := re_ hE1559 b1558_A1244
    have b1559_Al1 := RdO.evo rfl hE1559 b1558_Al1
    refine fl_seq (fun Q1560 hn1560 hp1560 => ?_)
    refine fl_cond e1559_9 hs (fun c1561 hs => ?_) (fun c1561 hs => ?_)
    · refine fl_skip ?_
      refine hn1560 _ _ ?_
      refine fl_seq (fun Q1562 hn1562 hp1562 => ?_)
      refine fl_block (fun Q1714 hn1714 hx1714 hp1714 => ?_)
      obtain ⟨x1790, hx1790, hs⟩ := obind hs
      refine rg0_seq 29 own1559 (bz 3) [⟨[], [6, 8], [], Fct.val 10 (.pointer (some ((adr Al1).add ((x1248 : Int).toNat * R26.s))))⟩, ⟨[0], [], [], Fct.val 11 (.int .u64 x1790)⟩, ⟨[1], [], [], Fct.val 5 (.int .u64 x1790)⟩] hz1559 hd1559 (by kernel_rfl) ?_ ?_
      · refine sc (fun _ _ _ _ s _ => px (or_index (R := R26) (l := l1) tl87 (s.1.trans e1559_6) (s.2.1.trans e1559_8) (RdO.some_ b1559_Al1 hx1790) hx1790)) ?_
        refine sc (fun _ _ _ f _ hE => px (or_load1 to26 f.1 (CellsAt.zero (RdO.cells (F := E26) (RdO.evo rfl hE b1559_Al1) hx1790) rfl))) ?_
        refine sc (fun _ _ _ f _ _ => px (or_assign f.1)) ?_
        exact steps_nil
      intro own1791 a1791 w1791 hd1791 hz1791 hk1791 hf1791 hE1791
      have e1791_3 := (hk1791 3 rfl).trans e1559_3
      have e1791_6 := (hk1791 6 rfl).trans e1559_6
      have e1791_7 := (hk1791 7 rfl).trans e1559_7
      have e1791_8 := (hk1791 8 rfl).trans e1559_8
      obtain ⟨(e1791_5 : a1791.eval (.tmp 5) = .int .u64 x1790), -⟩ := hf1791 [2] rfl
      have hX1791 := es_ hX1559 hE1791
      have b1791_A1244 := re_ hE1791 b1559_A1244
      have b1791_Al1 := RdO.evo rfl hE1791 b1559_Al1
      refine fl_scope_head (body := (fun s => varint_Bytes_b2_0 x1248 s.1 s.2)) (z := zz1557) (show loopO _ _ = _ from hs) (fun (s : (List Int) × Int) a wx => match s with | (out1816, n1817) => ∃ (ox : Own) (A1814 : Option Addr) (c1815 : Nat), a.defers = [] ∧ a.tmps.size = 29 ∧ a.eval (.tmp 3) = .slice A1814 out1816.length c1815 ∧ a.eval (.tmp 5) = .int .u64 n1817 ∧ a.eval (.tmp 6) = .slice Al1 l1.length cl1 ∧ a.eval (.tmp 7) = .int .i64 (l1.length : Int) ∧ a.eval (.tmp 8) = .int .i64 x1248 ∧ Evo [] (fun _ => 0) ox w wx ∧ RwO ox 1809 [] wx 5 R5 A1814 c1815 out1816 ∧ RdO ox [0] wx R26 Al1 cl1 l1) ?_ ?_
      · exact ⟨(rl [(1247, 1809)] own1791), A1244, c1245, hd1791, hz1791, e1791_3, e1791_5, e1791_6, e1791_7, e1791_8, (Evo.rl_ hX1791 (fun _ => Nat.le_refl 0) rfl), (RwO.rl_ (mm := [(1247, 1809)]) b1791_A1244), (RdO.rl_ (mm := [(1247, 1809)]) b1791_Al1)⟩
      · rintro ⟨out1816, n1817⟩
        rintro zz1841 a1842 w1842 ⟨own1842, A1814, c1815, hd1843, hz1843, e1843_3, e1843_5, e1843_6, e1843_7, e1843_8, hE1843, b1843_A1814, b1843_Al1⟩ hs Q1842 hj1842 hp1842 hz1842
        have hs : varint_Bytes_b2_0 x1248 out1816 n1817 = some zz1841 := hs
        refine fl_seq (fun Q1844 hn1844 hp1844 => ?_)
        refine rg0_seq 29 own1842 (bz 2) [⟨[], [5], [], Fct.val 12 (.int .u64 n1817)⟩, ⟨[0], [], [], Fct.val 13 (.bool (decide (n1817 < 128)))⟩] hz1843 hd1843 (by kernel_rfl) ?_ ?_
        · refine sc (fun _ _ _ _ s _ => px (or_move (s.1.trans e1843_5))) ?_
          refine sc (fun _ _ _ f _ _ => px (or_lss f.1 rfl rfl)) ?_
          exact steps_nil
        intro own1845 a1845 w1845 hd1845 hz1845 hk1845 hf1845 hE1845
        have e1845_3 := (hk1845 3 rfl).trans e1843_3
        have e1845_5 := (hk1845 5 rfl).trans e1843_5
        have e1845_6 := (hk1845 6 rfl).trans e1843_6
        have e1845_7 := (hk1845 7 rfl).trans e1843_7
        have e1845_8 := (hk1845 8 rfl).trans e1843_8
        obtain ⟨(e1845_13 : a1845.eval (.tmp 13) = .bool (decide (n1817 < 128))), -⟩ := hf1845 [1] rfl
        have hX1845 := es_ hE1843 hE1845
        have b1845_A1814 := re_ hE1845 b1843_A1814
        have b1845_Al1 := RdO.evo rfl hE1845 b1843_Al1
        refine fl_cond e1845_13 hs (fun c1846 hs => ?_) (fun c1846 hs => ?_)
        · obtain ⟨x1851, hx1851, hs⟩ := obind hs
          refine rg_plain_seq (n := 29) (rs := [Fct.rowAt 1809 [] 5 R5 A1814 c1815 out1816]) (own0 := own1845) (K := [1809]) (bs := [0, 0, 2, 6, 15, 31]) (ds := [⟨[], [3], [], Fct.val 14 (.slice A1814 out1816.length c1815)⟩, ⟨[], [5], [], Fct.val 15 (.int .u64 n1817)⟩, ⟨[1], [], [], Fct.val 16 (.int .u8 (IntKind.u8.wrap n1817))⟩, ⟨[2], [], [], Fct.row 1850 [] 17 5 R5 [IntKind.u8.wrap n1817]⟩, ⟨[0, 3, 6], [], [1809], Fct.row 1852 [] 18 5 R5 x1851⟩, ⟨[4], [], [], Fct.rel [3, 18] (fun l => ∀ (A1853 : Option Addr) (cA1853 : Nat), l.getD 1 undef = .slice A1853 x1851.length cA1853 → l.getD 0 undef = .slice A1853 x1851.length cA1853)⟩]) (by kernel_rfl) hz1845 hd1845 (by simp only [List.forall_mem_cons]; exact ⟨b1845_A1814, fun _ h => nomatch h⟩) ?_ ?_
          · refine sc (fun _ _ _ _ s _ => px (or_move (s.1.trans e1845_3))) ?_
            refine sc (fun _ _ _ _ s _ => px (or_move (s.1.trans e1845_5))) ?_
            refine sc (fun _ _ _ f _ _ => px (or_conv f.1 tn26 tn5 rfl)) ?_
            refine sc (fun _ _ _ f _ _ => px (or_lit (lab := 1850) (e := 5) (cs := #[.int .u8 (IntKind.u8.wrap n1817)]) (F := E5) (or_new [(16, .int .u8 (IntKind.u8.wrap n1817))] rfl rfl ⟨f.1, trivial⟩ (by kernel_rfl)) rfl rfl (show 1 ≤ maxLen by decide))) ?_
            refine sc (fun own a wx hf hsl hE => ?_) ?_
            · obtain ⟨f_14, ⟨⟨A1849, cA1849⟩, f_17, b_A1849⟩, b_A1814, -⟩ := hf
              exact px (or_append (R := R5) (lab := 1809) (lab2 := 1852) (L := []) (L3 := []) tp33 f_14 b_A1814 (by decide) f_17 (RwO.rd b_A1849) hx1851 (by decide) (by decide) (mem_of rfl) (.inl (Rep.fl_flat _)))
            refine sc (fun own a wx hf hsl hE => ?_) ?_
            · obtain ⟨⟨⟨A1853, cA1853⟩, (f_18 : a.eval (.tmp 18) = .slice A1853 x1851.length cA1853), b_A1853⟩, -⟩ := hf
              exact px (or_mono (f := Fct.val 3 (.slice A1853 x1851.length cA1853)) (or_assign f_18) (fun own' a' w' v' hp h => fun _ _ h0' => by cases (f_18.symm.trans ((hp.2 18 (by decide)).symm.trans h0')); exact h))
            exact steps_nil
          intro own1854 a1854 w1854 hd1854 hz1854 hk1854 hf1854 hE1854
          have e1854_6 := (hk1854 6 rfl).trans e1845_6
          have e1854_7 := (hk1854 7 rfl).trans e1845_7
          have e1854_8 := (hk1854 8 rfl).trans e1845_8
          obtain ⟨⟨⟨A1853, cA1853⟩, (f_18 : a1854.eval (.tmp 18) = .slice A1853 x1851.length cA1853), (b1854_A1853 : RwO own1854 1852 [] w1854 5 R5 A1853 cA1853 x1851)⟩, (q_3 : ∀ (A1853 : Option Addr) (cA1853 : Nat), a1854.eval (.tmp 18) = .slice A1853 x1851.length cA1853 → a1854.eval (.tmp 3) = .slice A1853 x1851.length cA1853), -⟩ := hf1854 [4, 5] rfl
          have e1854_3 := q_3 _ _ f_18
          have hX1854 := es_ hX1845 hE1854
          have b1854_Al1 := RdO.evo rfl hE1854 b1845_Al1
          refine fl_exit ?_
          refine hp1844 _ _ _ rfl ?_
          replace hs := hz1842 _ hs
          refine hp1842.leaves _ _ _ rfl ?_
          refine hx1714 _ _ ?_
          refine hn1562 _ _ ?_
          refine rg0 29 own1854 (bz 2) [⟨[], [8], [], Fct.val 27 (.int .i64 (ad x1248 1))⟩, ⟨[0], [], [], Fct.val 8 (.int .i64 (ad x1248 1))⟩] hz1854 hd1854 (by kernel_rfl) ?_ ?_
          · refine sc (fun _ _ _ _ s _ => px (or_add (s.1.trans e1854_8) rfl rfl)) ?_
            refine sc (fun _ _ _ f _ _ => px (or_move f.1)) ?_
            exact steps_nil
          intro own1855 a1855 w1855 hd1855 hz1855 hk1855 hf1855 hE1855
          have e1855_3 := (hk1855 3 rfl).trans e1854_3
          have e1855_6 := (hk1855 6 rfl).trans e1854_6
          have e1855_7 := (hk1855 7 rfl).trans e1854_7
          obtain ⟨(e1855_8 : a1855.eval (.tmp 8) = .int .i64 (ad x1248 1)), -⟩ := hf1855 [1] rfl
          have hX1855 := es_ hX1854 hE1855
          have b1855_Al1 := RdO.evo rfl hE1855 b1854_Al1
          have b1855_A1853 := re_ hE1855 b1854_A1853
          exact hn1557 _ _ _ hs ⟨(rl [(1852, 1247)] own1855), A1853, cA1853, hd1855, hz1855, e1855_3, e1855_6, e1855_7, e1855_8, (Evo.rl_ hX1855 (fun _ => Nat.le_refl 0) rfl), (RwO.rl_ (mm := [(1852, 1247)]) b1855_A1853), (RdO.rl_ (mm := [(1852, 1247)]) b1855_Al1)⟩
        refine fl_skip ?_
        refine hn1844 _ _ ?_
        obtain ⟨x1860, hx1860, hs⟩ := obind hs
        refine rg_plain_seq (n := 29) (rs := [Fct.rowAt 1809 [] 5 R5 A1814 c1815 out1816]) (own0 := own1845) (K := [1809]) (bs := [0, 0, 2, 6, 14, 31, 63]) (ds := [⟨[], [3], [], Fct.val 19 (.slice A1814 out1816.length c1815)⟩, ⟨[], [5], [], Fct.val 20 (.int .u64 n1817)⟩, ⟨[1], [], [], Fct.val 21 (.int .u8 (IntKind.u8.wrap n1817))⟩, ⟨[2], [], [], Fct.val 22 (.int .u8 (orK .u8 (IntKind.u8.wrap n1817) 128))⟩, ⟨[3], [], [], Fct.row 1859 [] 23 5 R5 [orK .u8 (IntKind.u8.wrap n1817) 128]⟩, ⟨[0, 4, 7], [], [1809], Fct.row 1861 [] 24 5 R5 x1860⟩, ⟨[5], [], [], Fct.rel [3, 24] (fun l => ∀ (A1862 : Option Addr) (cA1862 : Nat), l.getD 1 undef = .slice A1862 x1860.length cA1862 → l.getD 0 undef = .slice A1862 x1860.length cA1862)⟩]) (by kernel_rfl) hz1845 hd1845 (by simp only [List.forall_mem_cons]; exact ⟨b1845_A1814, fun _ h => nomatch h⟩) ?_ ?_
        · refine sc (fun _ _ _ _ s _ => px (or_move (s.1.trans e1845_3))) ?_
          refine sc (fun _ _ _ _ s _ => px (or_move (s.1.trans e1845_5))) ?_
          refine sc (fun _ _ _ f _ _ => px (or_conv f.1 tn26 tn5 rfl)) ?_
          refine sc (fun _ _ _ f _ _ => px (or_bor f.1 rfl rfl)) ?_
          refine sc (fun _ _ _ f _ _ => px (or_lit (lab := 1859) (e := 5) (cs := #[.int .u8 (orK .u8 (IntKind.u8.wrap n1817) 128)]) (F := E5) (or_new [(22, .int .u8 (orK .u8 (IntKind.u8.wrap n1817) 128))] rfl rfl ⟨f.1, trivial⟩ (by kernel_rfl)) rfl rfl (show 1 ≤ maxLen by decide))) ?_
          refine sc (fun own a wx hf hsl hE => ?_) ?_
          · obtain ⟨f_19, ⟨⟨A1858, cA1858⟩, f_23, b_A1858⟩, b_A1814, -⟩ := hf
            exact px (or_append (R := R5) (lab := 1809) (lab2 := 1861) (L := []) (L3 := []) tp33 f_19 b_A1814 (by decide) f_23 (RwO.rd b_A1858) hx1860 (by decide) (by decide) (mem_of rfl) (.inl (Rep.fl_flat _)))
          refine sc (fun own a wx hf hsl hE => ?_) ?_
          · obtain ⟨⟨⟨A1862, cA1862⟩, (f_24 : a.eval (.tmp 24) = .slice A1862 x1860.length cA1862), b_A1862⟩, -⟩ := hf
            exact px (or_mono (f := Fct.val 3 (.slice A1862 x1860.length cA1862)) (or_assign f_24) (fun own' a' w' v' hp h => fun _ _ h0' => by cases (f_24.symm.trans ((hp.2 24 (by decide)).symm.trans h0')); exact h))
          exact steps_nil
        intro own1863 a1863 w1863 hd1863 hz1863 hk1863 hf1863 hE1863
        have e1863_5 := (hk1863 5 rfl).trans e1845_5
        have e1863_6 := (hk1863 6 rfl).trans e1845_6
        have e1863_7 := (hk1863 7 rfl).trans e1845_7
        have e1863_8 := (hk1863 8 rfl).trans e1845_8
        obtain ⟨⟨⟨A1862, cA1862⟩, (f_24 : a1863.eval (.tmp 24) = .slice A1862 x1860.length cA1862), (b1863_A1862 : RwO own1863 1861 [] w1863 5 R5 A1862 cA1862 x1860)⟩, (q_3 : ∀ (A1862 : Option Addr) (cA1862 : Nat), a1863.eval (.tmp 24) = .slice A1862 x1860.length cA1862 → a1863.eval (.tmp 3) = .slice A1862 x1860.length cA1862), -⟩ := hf1863 [5, 6] rfl
        have e1863_3 := q_3 _ _ f_24
        have hX1863 := es_ hX1845 hE1863
        have b1863_Al1 := RdO.evo rfl hE1863 b1845_Al1
        obtain ⟨x1864, hx1864, hs⟩ := obind hs
        refine rg0_seq 29 own1863 (bz 3) [⟨[], [5], [], Fct.val 25 (.int .u64 n1817)⟩, ⟨[0], [], [], Fct.val 26 (.int .u64 x1864)⟩, ⟨[1], [], [], Fct.val 5 (.int .u64 x1864)⟩] hz1863 hd1863 (by kernel_rfl) ?_ ?_
        · refine sc (fun _ _ _ _ s _ => px (or_move (s.1.trans e1863_5))) ?_
          refine sc (fun _ _ _ f _ _ => px (or_shr f.1 rfl hx1864)) ?_
          refine sc (fun _ _ _ f _ _ => px (or_assign f.1)) ?_
          exact steps_nil
        intro own1865 a1865 w1865 hd1865 hz1865 hk1865 hf1865 hE1865
        have e1865_3 := (hk1865 3 rfl).trans e1863_3
        have e1865_6 := (hk1865 6 rfl).trans e1863_6
        have e1865_7 := (hk1865 7 rfl).trans e1863_7
        have e1865_8 := (hk1865 8 rfl).trans e1863_8
        obtain ⟨(e1865_5 : a1865.eval (.tmp 5) = .int .u64 x1864), -⟩ := hf1865 [2] rfl
        have hX1865 := es_ hX1863 hE1865
        have b1865_Al1 := RdO.evo rfl hE1865 b1863_Al1
        have b1865_A1862 := re_ hE1865 b1863_A1862
        refine fl_goto ?_
        exact hj1842 (x1860, x1864) _ _ hs ⟨(rl [(1861, 1809)] own1865), A1862, cA1862, hd1865, hz1865, e1865_3, e1865_5, e1865_6, e1865_7, e1865_8, (Evo.rl_ hX1865 (fun _ => Nat.le_refl 0) rfl), (RwO.rl_ (mm := [(1861, 1809)]) b1865_A1862), (RdO.rl_ (mm := [(1861, 1809)]) b1865_Al1)⟩
    refine fl_exit ?_
    refine hp1560 _ _ _ rfl ?_
    replace hs := hz1557 _ hs
    refine hp1557 _ _ _ rfl ?_
    refine hx943 _ _ ?_
    refine hn941 _ _ ?_
    refine rg0_seq 29 own1559 (bz 2) [⟨[], [3], [], Fct.val 28 (.slice A1244 out1246.length c1245)⟩, ⟨[0], [], [], Fct.val 2 (.slice A1244 out1246.length c1245)⟩] hz1559 hd1559 (by kernel_rfl) ?_ ?_
    · refine sc (fun _ _ _ _ s _ => px (or_move (s.1.trans e1559_3))) ?_
      refine sc (fun _ _ _ f _ _ => px (or_assign f.1)) ?_
      exact steps_nil
    intro own1866 a1866 w1866 hd1866 hz1866 hk1866 hf1866 hE1866
    obtain ⟨(e1866_2 : a1866.eval (.tmp 2) = .slice A1244 out1246.length c1245), -⟩ := hf1866 [1] rfl
    have hX1866 := es_ hX1559 hE1866
    have b1866_A1244 := re_ hE1866 b1559_A1244
    refine fl_ret ?_
    obtain rfl := (osome hs).symm
    exact hret _ _ _ _ (.inl rfl) hd1866 (results1_ rfl (RVal.tmp_ e1866_2)) ⟨(rl [(1247, 1)] own1866), (A1244, c1245), rfl, (Evo.rl_ hX1866 (fun _ => Nat.le_refl 0) rfl), (RwO.rl_ (mm := [(1247, 1)]) b1866_A1244)⟩
theorem varint_Zig_w (w : World) (n1 : Int) (r : Int) (hs : varint_Zig n1 = some r) :
    Calls Try.prog 32 #[.int .i64 n1] w fun e w' => ∃ own' : Own, e = .returned (.int .u64 r) ∧ Evo [] (fun _ => 0) own' w w' := by
  refine fl_enter (n := 10) rfl rfl rfl (Nat.le_of_ble_eq_true rfl) ?_
  intro a0 Q hd0 hz0 harg hret
  have ha0 := harg 0 _ rfl
  clear harg
  have hE0 : Evo [] (fun _ => 0) (fun _ => 0) w w := Evo.refl _ _ _
  refine rg0_seq 10 (fun _ => 0) (bz 1) [⟨[], [], [], Fct.val 2 (.int .u64 0)⟩] hz0 hd0 (by kernel_rfl) ?_ ?_
  · refine sc (fun _ _ _ _ _ _ => px (or_assign rfl)) ?_
    exact steps_nil
  intro own15 a15 w15 hd15 hz15 hk15 hf15 hE15
  have e15_0 := (hk15 0 rfl).trans ha0
  have hX15 := es_ hE0 hE15
  obtain ⟨x16, hx16, hs⟩ := obind hs
  obtain ⟨x17, hx17, hs⟩ := obind hs
  refine rg0_seq 10 own15 [0, 1, 3, 0, 8, 24, 63, 127] [⟨[], [0], [], Fct.val 3 (.int .i64 n1)⟩, ⟨[0], [], [], Fct.val 4 (.int .u64 (IntKind.u64.wrap n1))⟩, ⟨[1], [], [], Fct.val 5 (.int .u64 x16)⟩, ⟨[], [0], [], Fct.val 6 (.int .i64 n1)⟩, ⟨[3], [], [], Fct.val 7 (.int .i64 x17)⟩, ⟨[4], [], [], Fct.val 8 (.int .u64 (IntKind.u64.wrap x17))⟩, ⟨[2, 5], [], [], Fct.val 9 (.int .u64 (xoK .u64 x16 (IntKind.u64.wrap x17)))⟩, ⟨[6], [], [], Fct.val 2 (.int .u64 (xoK .u64 x16 (IntKind.u64.wrap x17)))⟩] hz15 hd15 (by kernel_rfl) ?_ ?_
  · refine sc (fun _ _ _ _ s _ => px (or_move (s.1.trans e15_0))) ?_
    refine sc (fun _ _ _ f _ _ => px (or_conv f.1 tn3 tn26 rfl)) ?_
    refine sc (fun _ _ _ f _ _ => px (or_shl f.1 rfl hx16)) ?_
    refine sc (fun _ _ _ _ s _ => px (or_move (s.1.trans e15_0))) ?_
    refine sc (fun _ _ _ f _ _ => px (or_shr f.1 rfl hx17)) ?_
    refine sc (fun _ _ _ f _ _ => px (or_conv f.1 tn3 tn26 rfl)) ?_
    refine sc (fun _ _ _ f _ _ => px (or_bxor f.1 f.2.1 rfl)) ?_
    refine sc (fun _ _ _ f _ _ => px (or_assign f.1)) ?_
    exact steps_nil
  intro own18 a18 w18 hd18 hz18 hk18 hf18 hE18
  obtain ⟨(e18_2 : a18.eval (.tmp 2) = .int .u64 (xoK .u64 x16 (IntKind.u64.wrap x17))), -⟩ := hf18 [7] rfl
  have hX18 := es_ hX15 hE18
  refine fl_ret ?_
  obtain rfl := osome hs
  exact hret _ _ _ _ (.inl rfl) hd18 (results1_ rfl (RVal.tmp_ e18_2)) ⟨own18, rfl, hX18⟩
theorem block_Bytes_1_w (w : World) (own : Own) (k1 : Int) (f1 : List Int) (gf1 : Nat) (tf1 : TypeId) (Af1_0 : Option Addr) (cf1_0 : Nat) (hown : ∀ b, own b ≤ 2) (hgf1 : BlkO own 1 w gf1 tf1 #[.slice Af1_0 f1.length cf1_0]) (hAf1_0 : RwO own 2 [] w 5 R5 Af1_0 cf1_0 f1) (r : List Int) (hs : block_Bytes_1 k1 f1 = some r) :
    Calls Try.prog 29 #[.int .i64 k1, .pointer (some ⟨gf1, 0, none⟩)] w fun e w' => ∃ (own' : Own) (x : Option Addr × Nat), e = .returned (.tuple #[]) ∧ Evo [1, 2] own own' w w' ∧ RwO own' 2 [] w' 5 R5 x.1 x.2 r ∧ BlkO own' 1 w' gf1 tf1 #[.slice x.1 r.length x.2] := by
  refine fl_enter (n := 9) rfl rfl rfl (Nat.le_of_ble_eq_true rfl) ?_
  intro a0 Q hd0 hz0 harg hret
  have ha0 := harg 0 _ rfl
  have ha1 := harg 1 _ rfl
  clear harg
  have hE0 : Evo [1, 2] own own w w := Evo.refl _ _ _
  obtain ⟨r51, hr51, hs⟩ := obind hs
  obtain ⟨x54, hx54, hs⟩ := obind hs
  refine rg_draw g_mixed (n := 9) (rs := [Fct.rowAt 2 [] 5 R5 Af1_0 cf1_0 f1, Fct.at_ 1 gf1 tf1 #[.slice Af1_0 f1.length cf1_0]]) (own0 := own) (K := [2, 1]) (bs := [0, 0, 2, 6, 14, 31, 63]) (ds := [⟨[8], [1], [], Fct.val 3 (.slice Af1_0 f1.length cf1_0)⟩, ⟨[], [0], [], Fct.val 4 (.int .i64 k1)⟩, ⟨[1], [], [], Fct.val 5 (.int .u64 (IntKind.u64.wrap k1))⟩, ⟨[2], [], [], Fct.row 50 [] 6 26 R26 [IntKind.u64.wrap k1]⟩, ⟨[3], [], [], Fct.row 53 [] 7 5 R5 r51⟩, ⟨[0, 4, 7], [], [2], Fct.row 55 [] 8 5 R5 x54⟩, ⟨[5, 8], [1], [1], Fct.by_ [57] [8] (fun l own w => ∀ (A56 : Option Addr) (cA56 : Nat), l.getD 0 undef = .slice A56 x54.length cA56 → BlkO own 57 w gf1 tf1 #[.slice A56 x54.length cA56]) (fun hk he h _ _ h0' => BlkO.evo (not_hit hk (by decide)) he (h _ _ h0'))⟩]) (by kernel_rfl) hz0 hd0 (by simp only [List.forall_mem_cons]; exact ⟨hAf1_0, hgf1, fun _ h => nomatch h⟩) ?_ ?_
  · refine sc (fun own a wx hf hsl hE => ?_) ?_
    · obtain ⟨(b_gf1 : BlkO own 1 wx gf1 tf1 #[.slice Af1_0 f1.length cf1_0]), -⟩ := hf
      obtain ⟨s_1, -⟩ := hsl
      exact px (or_load1 to33 (s_1.trans ha1) (Blk.at_ b_gf1.2 0 rfl))
    refine sc (fun _ _ _ _ s _ => px (or_move (s.1.trans ha0))) ?_
    refine sc (fun _ _ _ f _ _ => px (or_conv f.1 tn3 tn26 rfl)) ?_
    refine sc (fun _ _ _ f _ _ => px (or_lit (lab := 50) (e := 26) (cs := #[.int .u64 (IntKind.u64.wrap k1)]) (F := E26) (or_new [(5, .int .u64 (IntKind.u64.wrap k1))] rfl rfl ⟨f.1, trivial⟩ (by kernel_rfl)) rfl rfl (show 1 ≤ maxLen by decide))) ?_
    refine sc (fun own a wx hf hsl hE => ?_) ?_
    · obtain ⟨⟨⟨A49, cA49⟩, f_6, b_A49⟩, -⟩ := hf
      exact px (or_call cf30 (args1 f_6) (varint_Bytes_w _ [IntKind.u64.wrap k1] A49 cA49 (RdO.zero (RwO.rd b_A49)) r51 hr51) (post_row (m' := (look0 [(1, 53)])) (.inl (Rep.fl_flat _)) rfl rfl (fun _ => rfl)))
    refine sc (fun own a wx hf hsl hE => ?_) ?_
    · obtain ⟨f_3, ⟨⟨A52, cA52⟩, f_7, b_A52⟩, b_Af1_0, -⟩ := hf
      exact px (or_append (R := R5) (lab := 2) (lab2 := 55) (L := []) (L3 := []) tp33 f_3 b_Af1_0 (by decide) f_7 (RwO.rd b_A52) hx54 (by decide) (by decide) (mem_of rfl) (.inl (Rep.fl_flat _)))
    refine sc (fun own a wx hf hsl hE => ?_) ?_
    · obtain ⟨⟨⟨A56, cA56⟩, (f_8 : a.eval (.tmp 8) = .slice A56 x54.length cA56), b_A56⟩, b_gf1, -⟩ := hf
      obtain ⟨s_1, -⟩ := hsl
      exact px (or_store1 (lab := 1) (lab2 := 57) ts33 (s_1.trans ha1) f_8 b_gf1 (by simp) rfl (mem_of rfl) (by decide) rfl (fun own' a' w' ha hb => fun _ _ h0' => by cases (f_8.symm.trans ((ha 8).symm.trans h0')); exact hb))
    exact steps_nil
  intro own58 a58 w58 hd58 hz58 hk58 hf58 hE58
  have e58_1 := (hk58 1 rfl).trans ha1
  obtain ⟨⟨⟨A56, cA56⟩, (f_8 : a58.eval (.tmp 8) = .slice A56 x54.length cA56), (b58_A56 : RwO own58 55 [] w58 5 R5 A56 cA56 x54)⟩, (bq_gf1 : ∀ (A56 : Option Addr) (cA56 : Nat), a58.eval (.tmp 8) = .slice A56 x54.length cA56 → BlkO own58 57 w58 gf1 tf1 #[.slice A56 x54.length cA56]), -⟩ := hf58 [5, 6] rfl
  have b58_gf1 := bq_gf1 _ _ f_8
  have hX58 := Evo.step hE0 hown hE58 rfl
  obtain rfl := (osome hs).symm
  exact hret _ _ _ _ (.inr rfl) hd58 (results0_ rfl ) ⟨(rl [(55, 2), (57, 1)] own58), (A56, cA56), rfl, (Evo.rl_ hX58 hown rfl), (RwO.rl_ (mm := [(55, 2), (57, 1)]) b58_A56), (BlkO.rl_ (mm := [(55, 2), (57, 1)]) b58_gf1)⟩
theorem block_Bytes_2_w (w : World) (own : Own) (k1 : Int) (f1 : List Int) (gf1 : Nat) (tf1 : TypeId) (Af1_0 : Option Addr) (cf1_0 : Nat) (hown : ∀ b, own b ≤ 2) (hgf1 : BlkO own 1 w gf1 tf1 #[.slice Af1_0 f1.length cf1_0]) (hAf1_0 : RwO own 2 [] w 5 R5 Af1_0 cf1_0 f1) (r : List Int) (hs : block_Bytes_2 k1 f1 = some r) :
    Calls Try.prog 31 #[.int .i64 k1, .pointer (some ⟨gf1, 0, none⟩)] w fun e w' => ∃ (own' : Own) (x : Option Addr × Nat), e = .returned (.tuple #[]) ∧ Evo [1, 2] own own' w w' ∧ RwO own' 2 [] w' 5 R5 x.1 x.2 r ∧ BlkO own' 1 w' gf1 tf1 #[.slice x.1 r.length x.2] := by
  refine fl_enter (n := 9) rfl rfl rfl (Nat.le_of_ble_eq_true rfl) ?_
  intro a0 Q hd0 hz0 harg hret
  have ha0 := harg 0 _ rfl
  have ha1 := harg 1 _ rfl
  clear harg
  have hE0 : Evo [1, 2] own own w w := Evo.refl _ _ _
  obtain ⟨r54, hr54, hs⟩ := obind hs
  obtain ⟨r57, hr57, hs⟩ := obind hs
  obtain ⟨x60, hx60, hs⟩ := obind hs
  refine rg_draw g_mixed (n := 9) (rs := [Fct.rowAt 2 [] 5 R5 Af1_0 cf1_0 f1, Fct.at_ 1 gf1 tf1 #[.slice Af1_0 f1.length cf1_0]]) (own0 := own) (K := [2, 1]) (bs := [0, 0, 2, 6, 14, 31, 63]) (ds := [⟨[8], [1], [], Fct.val 3 (.slice Af1_0 f1.length cf1_0)⟩, ⟨[], [0], [], Fct.val 4 (.int .i64 k1)⟩, ⟨[1], [], [], Fct.val 5 (.int .u64 r54)⟩, ⟨[2], [], [], Fct.row 56 [] 6 26 R26 [r54]⟩, ⟨[3], [], [], Fct.row 59 [] 7 5 R5 r57⟩, ⟨[0, 4, 7], [], [2], Fct.row 61 [] 8 5 R5 x60⟩, ⟨[5, 8], [1], [1], Fct.by_ [63] [8] (fun l own w => ∀ (A62 : Option Addr) (cA62 : Nat), l.getD 0 undef = .slice A62 x60.length cA62 → BlkO own 63 w gf1 tf1 #[.slice A62 x60.length cA62]) (fun hk he h _ _ h0' => BlkO.evo (not_hit hk (by decide)) he (h _ _ h0'))⟩]) (by kernel_rfl) hz0 hd0 (by simp only [List.forall_mem_cons]; exact ⟨hAf1_0, hgf1, fun _ h => nomatch h⟩) ?_ ?_
  · refine sc (fun own a wx hf hsl hE => ?_) ?_
    · obtain ⟨(b_gf1 : BlkO own 1 wx gf1 tf1 #[.slice Af1_0 f1.length cf1_0]), -⟩ := hf
      obtain ⟨s_1, -⟩ := hsl
      exact px (or_load1 to33 (s_1.trans ha1) (Blk.at_ b_gf1.2 0 rfl))
    refine sc (fun _ _ _ _ s _ => px (or_move (s.1.trans ha0))) ?_
    refine sc (fun _ _ _ f _ _ => px (or_call cf32 (args1 f.1) (varint_Zig_w _ k1  r54 hr54) post_val)) ?_
    refine sc (fun _ _ _ f _ _ => px (or_lit (lab := 56) (e := 26) (cs := #[.int .u64 r54]) (F := E26) (or_new [(5, .int .u64 r54)] rfl rfl ⟨f.1, trivial⟩ (by kernel_rfl)) rfl rfl (show 1 ≤ maxLen by decide))) ?_
    refine sc (fun own a wx hf hsl hE => ?_) ?_
    · obtain ⟨⟨⟨A55, cA55⟩, f_6, b_A55⟩, -⟩ := hf
      exact px (or_call cf30 (args1 f_6) (varint_Bytes_w _ [r54] A55 cA55 (RdO.zero (RwO.rd b_A55)) r57 hr57) (post_row (m' := (look0 [(1, 59)])) (.inl (Rep.fl_flat _)) rfl rfl (fun _ => rfl)))
    refine sc (fun own a wx hf hsl hE => ?_) ?_
    · obtain ⟨f_3, ⟨⟨A58, cA58⟩, f_7, b_A58⟩, b_Af1_0, -⟩ := hf
      exact px (or_append (R := R5) (lab := 2) (lab2 := 61) (L := []) (L3 := []) tp33 f_3 b_Af1_0 (by decide) f_7 (RwO.rd b_A58) hx60 (by decide) (by decide) (mem_of rfl) (.inl (Rep.fl_flat _)))
    refine sc (fun own a wx hf hsl hE => ?_) ?_
    · obtain ⟨⟨⟨A62, cA62⟩, (f_8 : a.eval (.tmp 8) = .slice A62 x60.length cA62), b_A62⟩, b_gf1, -⟩ := hf
      obtain ⟨s_1, -⟩ := hsl
      exact px (or_store1 (lab := 1) (lab2 := 63) ts33 (s_1.trans ha1) f_8 b_gf1 (by simp) rfl (mem_of rfl) (by decide) rfl (fun own' a' w' ha hb => fun _ _ h0' => by cases (f_8.symm.trans ((ha 8).symm.trans h0')); exact hb))
    exact steps_nil
  intro own64 a64 w64 hd64 hz64 hk64 hf64 hE64
  have e64_1 := (hk64 1 rfl).trans ha1
  obtain ⟨⟨⟨A62, cA62⟩, (f_8 : a64.eval (.tmp 8) = .slice A62 x60.length cA62), (b64_A62 : RwO own64 61 [] w64 5 R5 A62 cA62 x60)⟩, (bq_gf1 : ∀ (A62 : Option Addr) (cA62 : Nat), a64.eval (.tmp 8) = .slice A62 x60.length cA62 → BlkO own64 63 w64 gf1 tf1 #[.slice A62 x60.length cA62]), -⟩ := hf64 [5, 6] rfl
  have b64_gf1 := bq_gf1 _ _ f_8
  have hX64 := Evo.step hE0 hown hE64 rfl
  obtain rfl := (osome hs).symm
  exact hret _ _ _ _ (.inr rfl) hd64 (results0_ rfl ) ⟨(rl [(61, 2), (63, 1)] own64), (A62, cA62), rfl, (Evo.rl_ hX64 hown rfl), (RwO.rl_ (mm := [(61, 2), (63, 1)]) b64_A62), (BlkO.rl_ (mm := [(61, 2), (63, 1)]) b64_gf1)⟩
set_option maxHeartbeats 2000000 in
theorem block_Bytes_w (w : World) (n1 : (List ((List (Int × Int)) × Int × Int)) × (List (List (List Int)))) (An1_0 : Option Addr) (cn1_0 : Nat) (An1_1 : Option Addr) (cn1_1 : Nat) (hAn1_0 : RdO (fun _ => 0) [0] w R59 An1_0 cn1_0 n1.1) (hAn1_1 : RdO (fun _ => 0) [0] w R27 An1_1 cn1_1 n1.2) (r : (List Int) × Int) (hs : block_Bytes n1 = some r) :
    Calls Try.prog 13 #[.agg #[.slice An1_0 n1.1.length cn1_0, .slice An1_1 n1.2.length cn1_1]] w fun e w' => ∃ (own' : Own) (x : Option Addr × Nat), e = .returned (.tuple #[.slice x.1 r.1.length x.2, .int .i64 r.2]) ∧ Evo [] (fun _ => 0) own' w w' ∧ RwO own' 1 [] w' 5 R5 x.1 x.2 r.1 := by
  refine fl_enter (n := 115) rfl rfl rfl (Nat.le_of_ble_eq_true rfl) ?_
  intro a0 Q hd0 hz0 harg hret
  have ha0 := harg 0 _ rfl
  clear harg
  have hE0 : Evo [] (fun _ => 0) (fun _ => 0) w w := Evo.refl _ _ _
  refine rg0_seq 115 (fun _ => 0) [0, 0, 2] [⟨[], [0], [], Fct.blk 1062 1 (fun g => .pointer (some ⟨g, 0, none⟩)) 25 #[.slice An1_0 n1.1.length cn1_0, .slice An1_1 n1.2.length cn1_1]⟩, ⟨[], [], [], Fct.val 2 (.slice none 0 0)⟩, ⟨[], [], [], Fct.val 3 (.int .i64 0)⟩] hz0 hd0 (by kernel_rfl) ?_ ?_
  · refine sc (fun _ _ _ _ s _ => px (or_new [(0, .agg #[.slice An1_0 n1.1.length cn1_0, .slice An1_1 n1.2.length cn1_1])] rfl rfl ⟨(s.1.trans ha0), trivial⟩ (by kernel_rfl))) ?_
    refine sc (fun _ _ _ _ _ _ => px (or_assign rfl)) ?_
    refine sc (fun _ _ _ _ _ _ => px (or_assign rfl)) ?_
    exact steps_nil
  intro own1063 a1063 w1063 hd1063 hz1063 hk1063 hf1063 hE1063
  obtain ⟨⟨g1061, (e1063_1 : a1063.eval (.tmp 1) = .pointer (some ⟨g1061, 0, none⟩)), (b1063_g1061 : BlkO own1063 1062 w1063 g1061 25 #[.slice An1_0 n1.1.length cn1_0, .slice An1_1 n1.2.length cn1_1])⟩, -⟩ := hf1063 [0] rfl
  have hX1063 := es_ hE0 hE1063
  have b1063_An1_0 := RdO.evo rfl hE1063 hAn1_0
  have b1063_An1_1 := RdO.evo rfl hE1063 hAn1_1
  refine fl_seq (fun Q1064 hn1064 hp1064 => ?_)
  obtain ⟨r1065, hr1065, hs⟩ := obind hs
  refine rg0_seq 115 own1063 (bz 3) [⟨[], [1], [], Fct.val 19 (.agg #[.slice An1_0 n1.1.length cn1_0, .slice An1_1 n1.2.length cn1_1])⟩, ⟨[0], [], [], Fct.val 20 (.int .i64 r1065)⟩, ⟨[1], [], [], Fct.val 4 (.int .i64 r1065)⟩] hz1063 hd1063 (by kernel_rfl) ?_ ?_
  · refine sc (fun _ _ _ _ s hE => px (or_load (l := [.slice An1_0 n1.1.length cn1_0, .slice An1_1 n1.2.length cn1_1]) ta25 (s.1.trans e1063_1) (Blk.cellsFrom (be_ hE b1063_g1061).2 0 rfl) rfl)) ?_
    refine sc (fun _ _ _ f _ hE => px (or_call cf8 (args1 f.1) (block_Check_w _ n1 An1_0 cn1_0 An1_1 cn1_1 (RdO.zero (RdO.evo rfl hE b1063_An1_0)) (RdO.zero (RdO.evo rfl hE b1063_An1_1)) r1065 hr1065) post_val)) ?_
    refine sc (fun _ _ _ f _ _ => px (or_assign f.1)) ?_
    exact steps_nil
  intro own1066 a1066 w1066 hd1066 hz1066 hk1066 hf1066 hE1066
  have e1066_1 := (hk1066 1 rfl).trans e1063_1
  obtain ⟨(e1066_4 : a1066.eval (.tmp 4) = .int .i64 r1065), -⟩ := hf1066 [2] rfl
  have hX1066 := es_ hX1063 hE1066
  have b1066_An1_0 := RdO.evo rfl hE1066 b1063_An1_0
  have b1066_An1_1 := RdO.evo rfl hE1066 b1063_An1_1
  have b1066_g1061 := be_ hE1066 b1063_g1061
  refine rg0_seq 115 own1066 (bz 2) [⟨[], [4], [], Fct.val 21 (.int .i64 r1065)⟩, ⟨[0], [], [], Fct.val 22 (.bool (!decide (r1065 = 0)))⟩] hz1066 hd1066 (by kernel_rfl) ?_ ?_
  · refine sc (fun _ _ _ _ s _ => px (or_move (s.1.trans e1066_4))) ?_
    refine sc (fun _ _ _ f _ _ => px (or_neq f.1 rfl rfl)) ?_
    exact steps_nil
  intro own1067 a1067 w1067 hd1067 hz1067 hk1067 hf1067 hE1067
  have e1067_1 := (hk1067 1 rfl).trans e1066_1
  have e1067_4 := (hk1067 4 rfl).trans e1066_4
  obtain ⟨(e1067_22 : a1067.eval (.tmp 22) = .bool (!decide (r1065 = 0))), -⟩ := hf1067 [1] rfl
  have hX1067 := es_ hX1066 hE1067
  have b1067_An1_0 := RdO.evo rfl hE1067 b1066_An1_0
  have b1067_An1_1 := RdO.evo rfl hE1067 b1066_An1_1
  have b1067_g1061 := be_ hE1067 b1066_g1061
  refine fl_cond e1067_22 hs (fun c1068 hs => ?_) (fun c1068 hs => ?_)
  · refine rg0_seq 115 own1067 [0, 0, 3] [⟨[], [4], [], Fct.val 23 (.int .i64 r1065)⟩, ⟨[], [], [], Fct.val 2 (.slice none 0 0)⟩, ⟨[0], [], [], Fct.val 3 (.int .i64 r1065)⟩] hz1067 hd1067 (by kernel_rfl) ?_ ?_
    · refine sc (fun _ _ _ _ s _ => px (or_move (s.1.trans e1067_4))) ?_
      refine sc (fun _ _ _ _ _ _ => px (or_assign rfl)) ?_
      refine sc (fun _ _ _ f _ _ => px (or_assign f.1)) ?_
      exact steps_nil
    intro own1069 a1069 w1069 hd1069 hz1069 hk1069 hf1069 hE1069
    obtain ⟨(e1069_2 : a1069.eval (.tmp 2) = .slice none 0 0), (e1069_3 : a1069.eval (.tmp 3) = .int .i64 r1065), -⟩ := hf1069 [1, 2] rfl
    have hX1069 := es_ hX1067 hE1069
    refine fl_ret ?_
    refine hp1064 _ _ _ rfl ?_
    obtain rfl := osome hs
    exact hret _ _ _ _ (.inl rfl) hd1069 (results2_ rfl (RVal.tmp_ e1069_2) (RVal.tmp_ e1069_3)) ⟨own1069, (none, 0), rfl, hX1069, RwO.nil_⟩
  refine fl_skip ?_
  refine hn1064 _ _ ?_
  refine rg0_seq 115 own1067 (bz 1) [⟨[], [], [], Fct.blk 1071 5 (fun g => .pointer (some ⟨g, 0, none⟩)) 33 #[.slice none 0 0]⟩] hz1067 hd1067 (by kernel_rfl) ?_ ?_
  · refine sc (fun _ _ _ _ _ _ => px (or_new [] rfl rfl trivial (by kernel_rfl))) ?_
    exact steps_nil
  intro own1072 a1072 w1072 hd1072 hz1072 hk1072 hf1072 hE1072
  have e1072_1 := (hk1072 1 rfl).trans e1067_1
  obtain ⟨⟨g1070, (e1072_5 : a1072.eval (.tmp 5) = .pointer (some ⟨g1070, 0, none⟩)), (b1072_g1070 : BlkO own1072 1071 w1072 g1070 33 #[.slice none 0 0])⟩, -⟩ := hf1072 [0] rfl
  have hX1072 := es_ hX1067 hE1072
  have b1072_An1_0 := RdO.evo rfl hE1072 b1067_An1_0
  have b1072_An1_1 := RdO.evo rfl hE1072 b1067_An1_1
  have b1072_g1061 := be_ hE1072 b1067_g1061
  refine rg0_seq 115 own1072 (bz 2) [⟨[], [5], [], Fct.val 24 (.func (.func 29) #[] #[.pointer (some ⟨g1070, 0, none⟩)])⟩, ⟨[0], [], [], Fct.val 6 (.func (.func 29) #[] #[.pointer (some ⟨g1070, 0, none⟩)])⟩] hz1072 hd1072 (by kernel_rfl) ?_ ?_
  · refine sc (fun _ _ _ _ s _ => px (or_k [(5, .pointer (some ⟨g1070, 0, none⟩))] rfl rfl ⟨(s.1.trans e1072_5), trivial⟩ (by kernel_rfl))) ?_
    refine sc (fun _ _ _ f _ _ => px (or_assign f.1)) ?_
    exact steps_nil
  intro own1073 a1073 w1073 hd1073 hz1073 hk1073 hf1073 hE1073
  have e1073_1 := (hk1073 1 rfl).trans e1072_1
  have e1073_5 := (hk1073 5 rfl).trans e1072_5
  obtain ⟨(e1073_6 : a1073.eval (.tmp 6) = .func (.func 29) #[] #[.pointer (some ⟨g1070, 0, none⟩)]), -⟩ := hf1073 [1] rfl
  have hX1073 := es_ hX1072 hE1073
  have b1073_An1_0 := RdO.evo rfl hE1073 b1072_An1_0
  have b1073_An1_1 := RdO.evo rfl hE1073 b1072_An1_1
  have b1073_g1061 := be_ hE1073 b1072_g1061
  have b1073_g1070 := be_ hE1073 b1072_g1070
  refine rg0_seq 115 own1073 (bz 2) [⟨[], [5], [], Fct.val 25 (.func (.func 31) #[] #[.pointer (some ⟨g1070, 0, none⟩)])⟩, ⟨[0], [], [], Fct.val 7 (.func (.func 31) #[] #[.pointer (some ⟨g1070, 0, none⟩)])⟩] hz1073 hd1073 (by kernel_rfl) ?_ ?_
  · refine sc (fun _ _ _ _ s _ => px (or_k [(5, .pointer (some ⟨g1070, 0, none⟩))] rfl rfl ⟨(s.1.trans e1073_5), trivial⟩ (by kernel_rfl))) ?_
    refine sc (fun _ _ _ f _ _ => px (or_assign f.1)) ?_
    exact steps_nil
  intro own1074 a1074 w1074 hd1074 hz1074 hk1074 hf1074 hE1074
  have e1074_1 := (hk1074 1 rfl).trans e1073_1
  have e1074_5 := (hk1074 5 rfl).trans e1073_5
  have e1074_6 := (hk1074 6 rfl).trans e1073_6
  obtain ⟨(e1074_7 : a1074.eval (.tmp 7) = .func (.func 31) #[] #[.pointer (some ⟨g1070, 0, none⟩)]), -⟩ := hf1074 [1] rfl
  have hX1074 := es_ hX1073 hE1074
  have b1074_An1_0 := RdO.evo rfl hE1074 b1073_An1_0
  have b1074_An1_1 := RdO.evo rfl hE1074 b1073_An1_1
  have b1074_g1061 := be_ hE1074 b1073_g1061
  have b1074_g1070 := be_ hE1074 b1073_g1070
  refine rg_plain_seq (n := 115) (rs := []) (own0 := own1074) (K := [1076]) (bs := [0, 0, 3]) (ds := [⟨[], [], [], Fct.val 26 (.agg #[.int .i64 0, .int .i64 0])⟩, ⟨[], [], [], Fct.blk 1076 8 (fun g => .pointer (some ⟨g, 0, none⟩)) 56 #[.int .i64 0, .int .i64 0]⟩, ⟨[1, 0], [], [1076], Fct.blk 1077 8 (fun g => .pointer (some ⟨g, 0, none⟩)) 56 #[.int .i64 0, .int .i64 0]⟩]) (by kernel_rfl) hz1074 hd1074 nm_ ?_ ?_
  · refine sc (fun _ _ _ _ _ _ => px (or_k [] rfl rfl trivial (by kernel_rfl))) ?_
    refine sc (fun _ _ _ _ _ _ => px (or_new [] rfl rfl trivial (by kernel_rfl))) ?_
    refine sc (fun own a wx hf hsl hE => ?_) ?_
    · obtain ⟨⟨g1075, f_8, b_g1075⟩, f_26, -⟩ := hf
      exact px (or_store (l := #[.int .i64 0, .int .i64 0]) (lab := 1076) (lab2 := 1077) ts56 f_8 f_26 b_g1075 (by simp) (by kernel_rfl) (mem_of rfl) (by decide) (by kernel_rfl) (fun own' a' w' ha hb => ⟨_, (ha 8).trans f_8, hb⟩))
    exact steps_nil
  intro own1078 a1078 w1078 hd1078 hz1078 hk1078 hf1078 hE1078
  have e1078_1 := (hk1078 1 rfl).trans e1074_1
  have e1078_5 := (hk1078 5 rfl).trans e1074_5
  have e1078_6 := (hk1078 6 rfl).trans e1074_6
  have e1078_7 := (hk1078 7 rfl).trans e1074_7
  obtain ⟨⟨g1075, (e1078_8 : a1078.eval (.tmp 8) = .pointer (some ⟨g1075, 0, none⟩)), (b1078_g1075 : BlkO own1078 1077 w1078 g1075 56 #[.int .i64 0, .int .i64 0])⟩, -⟩ := hf1078 [2] rfl
  have hX1078 := es_ hX1074 hE1078
  have b1078_An1_0 := RdO.evo rfl hE1078 b1074_An1_0
  have b1078_An1_1 := RdO.evo rfl hE1078 b1074_An1_1
  have b1078_g1061 := be_ hE1078 b1074_g1061
  have b1078_g1070 := be_ hE1078 b1074_g1070
  obtain ⟨r1079, hr1079, hs⟩ := obind hs
  refine rg_plain_seq (n := 115) (rs := [Fct.at_ 1071 g1070 33 #[.slice none 0 0]]) (own0 := own1078) (K := [1071]) (bs := [0, 0, 2, 6, 15]) (ds := [⟨[], [6], [], Fct.val 27 (.func (.func 29) #[] #[.pointer (some ⟨g1070, 0, none⟩)])⟩, ⟨[], [1], [], Fct.val 28 (.pointer (some ⟨g1061, 0, none⟩))⟩, ⟨[1], [], [], Fct.val 29 (.slice An1_0 n1.1.length cn1_0)⟩, ⟨[2], [], [], Fct.val 30 (.int .i64 (n1.1.length : Int))⟩, ⟨[0, 3, 5], [], [1071], Fct.mems [1081, 1082] 31 (fun (x : Option Addr × Nat) => .tuple #[]) (fun (x : Option Addr × Nat) own w => RwO own 1081 [] w 5 R5 x.1 x.2 r1079 ∧ BlkO own 1082 w g1070 33 #[.slice x.1 r1079.length x.2]) (fun hk he h => ⟨RwO.evo (hits_sub hk (by decide)) he h.1, BlkO.evo (not_hit hk (by decide)) he h.2⟩)⟩]) (by kernel_rfl) hz1078 hd1078 (by simp only [List.forall_mem_cons]; exact ⟨b1078_g1070, fun _ h => nomatch h⟩) ?_ ?_
  · refine sc (fun _ _ _ _ s _ => px (or_move (s.1.trans e1078_6))) ?_
    refine sc (fun _ _ _ _ s _ => px (or_field fo25_0 (s.1.trans e1078_1) (by rfl))) ?_
    refine sc (fun _ _ _ f _ hE => px (or_load1 to22 f.1 (Blk.at_ (be_ hE b1078_g1061).2 0 rfl))) ?_
    refine sc (fun _ _ _ f _ _ => px (or_len tu22 f.1 rfl)) ?_
    refine sc (fun own a wx hf hsl hE => ?_) ?_
    · obtain ⟨f_27, f_30, b_g1070, -⟩ := hf
      exact px (or_callf cf29 f_27 (args1 f_30) rfl (block_Bytes_1_w _ (forth own (look0 [(1071, 1)])) (n1.1.length : Int) ([] : List Int) g1070 33 none 0 (look0_le rfl) (BlkO.forth_ (m := (look0 [(1071, 1)])) b_g1070) RwO.nil_ r1079 hr1079) (post_mems (m := (look0 [(1071, 1)])) (m' := (look0 [(1, 1082), (2, 1081)])) (hm_of rfl) (fun own' w' a' x h1 h => ⟨x, h1, ⟨RwO.back_ h.1 (by decide) (.inl (Rep.fl_flat _)), BlkO.back_ h.2 (by decide)⟩⟩)))
    exact steps_nil
  intro own1083 a1083 w1083 hd1083 hz1083 hk1083 hf1083 hE1083
  have e1083_1 := (hk1083 1 rfl).trans e1078_1
  have e1083_5 := (hk1083 5 rfl).trans e1078_5
  have e1083_6 := (hk1083 6 rfl).trans e1078_6
  have e1083_7 := (hk1083 7 rfl).trans e1078_7
  have e1083_8 := (hk1083 8 rfl).trans e1078_8
  obtain ⟨⟨⟨A1080, cA1080⟩, (f_31 : a1083.eval (.tmp 31) = .tuple #[]), (b1083_A1080 : RwO own1083 1081 [] w1083 5 R5 A1080 cA1080 r1079), (b1083_g1070 : BlkO own1083 1082 w1083 g1070 33 #[.slice A1080 r1079.length cA1080])⟩, -⟩ := hf1083 [4] rfl
  have hX1083 := es_ hX1078 hE1083
  have b1083_An1_0 := RdO.evo rfl hE1083 b1078_An1_0
  have b1083_An1_1 := RdO.evo rfl hE1083 b1078_An1_1
  have b1083_g1061 := be_ hE1083 b1078_g1061
  have b1083_g1075 := be_ hE1083 b1078_g1075
  refine fl_seq (fun Q1084 hn1084 hp1084 => ?_)
  refine rg0_seq 115 own1083 [0, 1, 3, 0] [⟨[], [1], [], Fct.val 32 (.pointer (some ⟨g1061, 0, none⟩))⟩, ⟨[0], [], [], Fct.val 33 (.slice An1_0 n1.1.length cn1_0)⟩, ⟨[1], [], [], Fct.val 34 (.int .i64 (n1.1.length : Int))⟩, ⟨[], [], [], Fct.val 35 (.int .i64 0)⟩] hz1083 hd1083 (by kernel_rfl) ?_ ?_
  · refine sc (fun _ _ _ _ s _ => px (or_field fo25_0 (s.1.trans e1083_1) (by rfl))) ?_
    refine sc (fun _ _ _ f _ hE => px (or_load1 to22 f.1 (Blk.at_ (be_ hE b1083_g1061).2 0 rfl))) ?_
    refine sc (fun _ _ _ f _ _ => px (or_len tu22 f.1 rfl)) ?_
    refine sc (fun _ _ _ _ _ _ => px (or_move rfl)) ?_
    exact steps_nil
  intro own1085 a1085 w1085 hd1085 hz1085 hk1085 hf1085 hE1085
  have e1085_1 := (hk1085 1 rfl).trans e1083_1
  have e1085_5 := (hk1085 5 rfl).trans e1083_5
  have e1085_6 := (hk1085 6 rfl).trans e1083_6
  have e1085_7 := (hk1085 7 rfl).trans e1083_7
  have e1085_8 := (hk1085 8 rfl).trans e1083_8
  obtain ⟨(e1085_33 : a1085.eval (.tmp 33) = .slice An1_0 n1.1.length cn1_0), (e1085_34 : a1085.eval (.tmp 34) = .int .i64 (n1.1.length : Int)), (e1085_35 : a1085.eval (.tmp 35) = .int .i64 0), -⟩ := hf1085 [1, 2, 3] rfl
  have hX1085 := es_ hX1083 hE1085
  have b1085_An1_0 := RdO.evo rfl hE1085 b1083_An1_0
  have b1085_An1_1 := RdO.evo rfl hE1085 b1083_An1_1
  have b1085_g1061 := be_ hE1085 b1083_g1061
  have b1085_g1075 := be_ hE1085 b1083_g1075
  have b1085_g1070 := be_ hE1085 b1083_g1070
  have b1085_A1080 := re_ hE1085 b1083_A1080
  refine fl_block (fun Q1086 hn1086 hx1086 hp1086 => ?_)
  refine fl_loop (body := (fun s => block_Bytes_b1 n1 s.1 s.2.1 s.2.2)) (z := r) (show loopO _ _ = _ from hs) (fun (s : (List Int) × (Int × Int) × Int) a wx => match s with | (out1201, x1204, x1205) => ∃ (ox : Own) (A1199 : Option Addr) (c1200 : Nat), a.defers = [] ∧ a.tmps.size = 115 ∧ a.eval (.tmp 1) = .pointer (some ⟨g1061, 0, none⟩) ∧ a.eval (.tmp 5) = .pointer (some ⟨g1070, 0, none⟩) ∧ a.eval (.tmp 6) = .func (.func 29) #[] #[.pointer (some ⟨g1070, 0, none⟩)] ∧ a.eval (.tmp 7) = .func (.func 31) #[] #[.pointer (some ⟨g1070, 0, none⟩)] ∧ a.eval (.tmp 8) = .pointer (some ⟨g1075, 0, none⟩) ∧ a.eval (.tmp 33) = .slice An1_0 n1.1.length cn1_0 ∧ a.eval (.tmp 34) = .int .i64 (n1.1.length : Int) ∧ a.eval (.tmp 35) = .int .i64 x1205 ∧ Evo [] (fun _ => 0) ox w wx ∧ BlkO ox 1062 wx g1061 25 #[.slice An1_0 n1.1.length cn1_0, .slice An1_1 n1.2.length cn1_1] ∧ RdO ox [0] wx R59 An1_0 cn1_0 n1.1 ∧ RdO ox [0] wx R27 An1_1 cn1_1 n1.2 ∧ BlkO ox 1198 wx g1070 33 #[.slice A1199 out1201.length c1200] ∧ RwO ox 1202 [] wx 5 R5 A1199 c1200 out1201 ∧ BlkO ox 1203 wx g1075 56 #[.int .i64 x1204.1, .int .i64 x1204.2]) ?_ ?_
  · exact ⟨(rl [(1077, 1203), (1081, 1202), (1082, 1198)] own1085), A1080, cA1080, hd1085, hz1085, e1085_1, e1085_5, e1085_6, e1085_7, e1085_8, e1085_33, e1085_34, e1085_35, (Evo.rl_ hX1085 (fun _ => Nat.le_refl 0) rfl), (BlkO.rl_ (mm := [(1077, 1203), (1081, 1202), (1082, 1198)]) b1085_g1061), (RdO.rl_ (mm := [(1077, 1203), (1081, 1202), (1082, 1198)]) b1085_An1_0), (RdO.rl_ (mm := [(1077, 1203), (1081, 1202), (1082, 1198)]) b1085_An1_1), (BlkO.rl_ (mm := [(1077, 1203), (1081, 1202), (1082, 1198)]) b1085_g1070), (RwO.rl_ (mm := [(1077, 1203), (1081, 1202), (1082, 1198)]) b1085_A1080), (BlkO.rl_ (mm := [(1077, 1203), (1081, 1202), (1082, 1198)]) b1085_g1075)⟩
  · rintro ⟨out1201, x1204, x1205⟩ zz1317 a1317 w1317 ⟨own1317, A1199, c1200, hd1318, hz1318, e1318_1, e1318_5, e1318_6, e1318_7, e1318_8, e1318_33, e1318_34, e1318_35, hE1318, b1318_g1061, b1318_An1_0, b1318_An1_1, b1318_g1070, b1318_A1199, b1318_g1075⟩ hs Q1317 hn1317 hp1317 hz1317
    have hs : block_Bytes_b1 n1 out1201 x1204 x1205 = some zz1317 := hs
    refine rg0_seq 115 own1317 (bz 1) [⟨[], [35, 34], [], Fct.val 36 (.bool (decide (x1205 < (n1.1.length : Int))))⟩] hz1318 hd1318 (by kernel_rfl) ?_ ?_
    · refine sc (fun _ _ _ _ s _ => px (or_lss (s.1.trans e1318_35) (s.2.1.trans e1318_34) rfl)) ?_
      exact steps_nil
    intro own1319 a1319 w1319 hd1319 hz1319 hk1319 hf1319 hE1319
    have e1319_1 := (hk1319 1 rfl).trans e1318_1
    have e1319_5 := (hk1319 5 rfl).trans e1318_5
    have e1319_6 := (hk1319 6 rfl).trans e1318_6
    have e1319_7 := (hk1319 7 rfl).trans e1318_7
    have e1319_8 := (hk1319 8 rfl).trans e1318_8
    have e1319_33 := (hk1319 33 rfl).trans e1318_33
    have e1319_34 := (hk1319 34 rfl).trans e1318_34
    have e1319_35 := (hk1319 35 rfl).trans e1318_35
    obtain ⟨(e1319_36 : a1319.eval (.tmp 36) = .bool (decide (x1205 < (n1.1.length : Int)))), -⟩ := hf1319 [0] rfl
    have hX1319 := es_ hE1318 hE1319
    have b1319_g1061 := be_ hE1319 b1318_g1061
    have b1319_An1_0 := RdO.evo rfl hE1319 b1318_An1_0
    have b1319_An1_1 := RdO.evo rfl hE1319 b1318_An1_1
    have b1319_g1070 := be_ hE1319 b1318_g1070
    have b1319_A1199 := re_ hE1319 b1318_A1199
    have b1319_g1075 := be_ hE1319 b1318_g1075
    refine fl_seq (fun Q1320 hn1320 hp1320 => ?_)
    refine fl_cond e1319_36 hs (fun c1321 hs => ?_) (fun c1321 hs => ?_)
    · refine fl_skip ?_
      refine hn1320 _ _ ?_
      refine fl_seq (fun Q1322 hn1322 hp1322 => ?_)
      refine fl_block (fun Q1323 hn1323 hx1323 hp1323 => ?_)
      obtain ⟨x1324, hx1324, hs⟩ := obind hs
      refine rg_plain_seq (n := 115) (rs := []) (own0 := own1319) (K := [1327]) (bs := [0, 1, 0, 7]) (ds := [⟨[], [33, 35], [], Fct.val 37 (.pointer (some ((adr An1_0).add ((x1205 : Int).toNat * R59.s))))⟩, ⟨[0], [], [], Fct.nest X59 [0] 38 (fun (y : ((Option Addr × Nat) × Unit × Unit)) => .agg #[.slice y.1.1 x1324.1.length y.1.2, .int .i64 x1324.2.1, .int .i64 x1324.2.2]) x1324⟩, ⟨[], [], [], Fct.blk 1327 10 (fun g => .pointer (some ⟨g, 0, none⟩)) 59 #[.slice none 0 0, .int .i64 0, .int .i64 0]⟩, ⟨[2, 1], [], [1327], Fct.by_ [1328] [10, 38] (fun l own w => ∃ g1326 : Nat, l.getD 0 undef = .pointer (some ⟨g1326, 0, none⟩) ∧ (∀ (A1325 : Option Addr) (cA1325 : Nat), l.getD 1 undef = .agg #[.slice A1325 x1324.1.length cA1325, .int .i64 x1324.2.1, .int .i64 x1324.2.2] → BlkO own 1328 w g1326 59 #[.slice A1325 x1324.1.length cA1325, .int .i64 x1324.2.1, .int .i64 x1324.2.2])) (fun hk he h => by obtain ⟨g, e, h⟩ := h; exact ⟨g, e, fun _ _ h0' => BlkO.evo (not_hit hk (by decide)) he (h _ _ h0')⟩)⟩]) (by kernel_rfl) hz1319 hd1319 nm_ ?_ ?_
      · refine sc (fun _ _ _ _ s _ => px (or_index (R := R59) (l := n1.1) tl22 (s.1.trans e1319_33) (s.2.1.trans e1319_35) (RdO.some_ b1319_An1_0 hx1324) hx1324)) ?_
        refine sc (fun _ _ _ f _ hE => px (or_loadN X59 0 3 ta59 f.1 (Addr.add_zero' _).symm (RdO.evo rfl hE b1319_An1_0) hx1324 (fun _ => rfl) (fun _ => rfl))) ?_
        refine sc (fun _ _ _ _ _ _ => px (or_new [] rfl rfl trivial (by kernel_rfl))) ?_
        refine sc (fun own a wx hf hsl hE => ?_) ?_
        · obtain ⟨⟨g1326, f_10, b_g1326⟩, ⟨⟨⟨A1325, cA1325⟩, _, _⟩, (f_38 : a.eval (.tmp 38) = .agg #[.slice A1325 x1324.1.length cA1325, .int .i64 x1324.2.1, .int .i64 x1324.2.2]), ⟨b_A1325, -, -⟩⟩, -⟩ := hf
          exact px (or_store (l := #[.slice A1325 x1324.1.length cA1325, .int .i64 x1324.2.1, .int .i64 x1324.2.2]) (lab := 1327) (lab2 := 1328) ts59 f_10 f_38 b_g1326 (by simp) (by kernel_rfl) (mem_of rfl) (by decide) (by kernel_rfl) (fun own' a' w' ha hb => ⟨_, (ha 10).trans f_10, fun _ _ h0' => by cases (f_38.symm.trans ((ha 38).symm.trans h0')); exact hb⟩))
        exact steps_nil
      intro own1329 a1329 w1329 hd1329 hz1329 hk1329 hf1329 hE1329
      have e1329_1 := (hk1329 1 rfl).trans e1319_1
      have e1329_5 := (hk1329 5 rfl).trans e1319_5
      have e1329_6 := (hk1329 6 rfl).trans e1319_6
      have e1329_7 := (hk1329 7 rfl).trans e1319_7
      have e1329_8 := (hk1329 8 rfl).trans e1319_8
      have e1329_33 := (hk1329 33 rfl).trans e1319_33
      have e1329_34 := (hk1329 34 rfl).trans e1319_34
      have e1329_35 := (hk1329 35 rfl).trans e1319_35
      obtain ⟨⟨⟨⟨A1325, cA1325⟩, _, _⟩, (f_38 : a1329.eval (.tmp 38) = .agg #[.slice A1325 x1324.1.length cA1325, .int .i64 x1324.2.1, .int .i64 x1324.2.2]), ⟨(b1329_A1325 : RdO own1329 [0] w1329 R56 A1325 cA1325 x1324.1), -, -⟩⟩, ⟨g1326, (e1329_10 : a1329.eval (.tmp 10) = .pointer (some ⟨g1326, 0, none⟩)), (bq_g1326 : ∀ (A1325 : Option Addr) (cA1325 : Nat), a1329.eval (.tmp 38) = .agg #[.slice A1325 x1324.1.length cA1325, .int .i64 x1324.2.1, .int .i64 x1324.2.2] → BlkO own1329 1328 w1329 g1326 59 #[.slice A1325 x1324.1.length cA1325, .int .i64 x1324.2.1, .int .i64 x1324.2.2])⟩, -⟩ := hf1329 [1, 3] rfl
      have b1329_g1326 := bq_g1326 _ _ f_38
      have hX1329 := es_ hX1319 hE1329
      have b1329_g1061 := be_ hE1329 b1319_g1061
      have b1329_An1_0 := RdO.evo rfl hE1329 b1319_An1_0
      have b1329_An1_1 := RdO.evo rfl hE1329 b1319_An1_1
      have b1329_g1070 := be_ hE1329 b1319_g1070
      have b1329_A1199 := re_ hE1329 b1319_A1199
      have b1329_g1075 := be_ hE1329 b1319_g1075
      obtain ⟨r1330, hr1330, hs⟩ := obind hs
      refine rg_plain_seq (n := 115) (rs := [Fct.at_ 1198 g1070 33 #[.slice A1199 out1201.length c1200], Fct.rowAt 1202 [] 5 R5 A1199 c1200 out1201]) (own0 := own1329) (K := [1198, 1202]) (bs := [0, 0, 2, 7]) (ds := [⟨[], [6], [], Fct.val 39 (.func (.func 29) #[] #[.pointer (some ⟨g1070, 0, none⟩)])⟩, ⟨[], [10], [], Fct.val 40 (.pointer (some ⟨g1326, 1, none⟩))⟩, ⟨[1], [], [], Fct.val 41 (.int .i64 x1324.2.1)⟩, ⟨[0, 2, 4, 5], [], [1198, 1202], Fct.mems [1332, 1333] 42 (fun (x : Option Addr × Nat) => .tuple #[]) (fun (x : Option Addr × Nat) own w => RwO own 1332 [] w 5 R5 x.1 x.2 r1330 ∧ BlkO own 1333 w g1070 33 #[.slice x.1 r1330.length x.2]) (fun hk he h => ⟨RwO.evo (hits_sub hk (by decide)) he h.1, BlkO.evo (not_hit hk (by decide)) he h.2⟩)⟩]) (by kernel_rfl) hz1329 hd1329 (by simp only [List.forall_mem_cons]; exact ⟨b1329_g1070, b1329_A1199, fun _ h => nomatch h⟩) ?_ ?_
      · refine sc (fun _ _ _ _ s _ => px (or_move (s.1.trans e1329_6))) ?_
        refine sc (fun _ _ _ _ s _ => px (or_field fo59_1 (s.1.trans e1329_10) (by rfl))) ?_
        refine sc (fun _ _ _ f _ hE => px (or_load1 to3 f.1 (Blk.at_ (be_ hE b1329_g1326).2 1 rfl))) ?_
        refine sc (fun own a wx hf hsl hE => ?_) ?_
        · obtain ⟨f_39, f_41, b_g1070, b_A1199, -⟩ := hf
          exact px (or_callf cf29 f_39 (args1 f_41) rfl (block_Bytes_1_w _ (forth own (look0 [(1198, 1), (1202, 2)])) x1324.2.1 out1201 g1070 33 A1199 c1200 (look0_le rfl) (BlkO.forth_ (m := (look0 [(1198, 1), (1202, 2)])) b_g1070) (RwO.forth_ (m := (look0 [(1198, 1), (1202, 2)])) b_A1199) r1330 hr1330) (post_mems (m := (look0 [(1198, 1), (1202, 2)])) (m' := (look0 [(1, 1333), (2, 1332)])) (hm_of rfl) (fun own' w' a' x h1 h => ⟨x, h1, ⟨RwO.back_ h.1 (by decide) (.inl (Rep.fl_flat _)), BlkO.back_ h.2 (by decide)⟩⟩)))
        exact steps_nil
      intro own1334 a1334 w1334 hd1334 hz1334 hk1334 hf1334 hE1334
      have e1334_1 := (hk1334 1 rfl).trans e1329_1
      have e1334_5 := (hk1334 5 rfl).trans e1329_5
      have e1334_6 := (hk1334 6 rfl).trans e1329_6
      have e1334_7 := (hk1334 7 rfl).trans e1329_7
      have e1334_8 := (hk1334 8 rfl).trans e1329_8
      have e1334_10 := (hk1334 10 rfl).trans e1329_10
      have e1334_33 := (hk1334 33 rfl).trans e1329_33
      have e1334_34 := (hk1334 34 rfl).trans e1329_34
      have e1334_35 := (hk1334 35 rfl).trans e1329_35
      obtain ⟨⟨⟨A1331, cA1331⟩, (f_42 : a1334.eval (.tmp 42) = .tuple #[]), (b1334_A1331 : RwO own1334 1332 [] w1334 5 R5 A1331 cA1331 r1330), (b1334_g1070 : BlkO own1334 1333 w1334 g1070 33 #[.slice A1331 r1330.length cA1331])⟩, -⟩ := hf1334 [3] rfl
      have hX1334 := es_ hX1329 hE1334
      have b1334_g1061 := be_ hE1334 b1329_g1061
      have b1334_An1_0 := RdO.evo rfl hE1334 b1329_An1_0
      have b1334_An1_1 := RdO.evo rfl hE1334 b1329_An1_1
      have b1334_g1075 := be_ hE1334 b1329_g1075
      have b1334_A1325 := RdO.evo rfl hE1334 b1329_A1325
      have b1334_g1326 := be_ hE1334 b1329_g1326
      obtain ⟨r1335, hr1335, hs⟩ := obind hs
      refine rg_plain_seq (n := 115) (rs := [Fct.at_ 1333 g1070 33 #[.slice A1331 r1330.length cA1331], Fct.rowAt 1332 [] 5 R5 A1331 cA1331 r1330]) (own0 := own1334) (K := [1333, 1332]) (bs := [0, 0, 2, 7]) (ds := [⟨[], [6], [], Fct.val 43 (.func (.func 29) #[] #[.pointer (some ⟨g1070, 0, none⟩)])⟩, ⟨[], [10], [], Fct.val 44 (.pointer (some ⟨g1326, 2, none⟩))⟩, ⟨[1], [], [], Fct.val 45 (.int .i64 x1324.2.2)⟩, ⟨[0, 2, 4, 5], [], [1333, 1332], Fct.mems [1337, 1338] 46 (fun (x : Option Addr × Nat) => .tuple #[]) (fun (x : Option Addr × Nat) own w => RwO own 1337 [] w 5 R5 x.1 x.2 r1335 ∧ BlkO own 1338 w g1070 33 #[.slice x.1 r1335.length x.2]) (fun hk he h => ⟨RwO.evo (hits_sub hk (by decide)) he h.1, BlkO.evo (not_hit hk (by decide)) he h.2⟩)⟩]) (by kernel_rfl) hz1334 hd1334 (by simp only [List.forall_mem_cons]; exact ⟨b1334_g1070, b1334_A1331, fun _ h => nomatch h⟩) ?_ ?_
      · refine sc (fun _ _ _ _ s _ => px (or_move (s.1.trans e1334_6))) ?_
        refine sc (fun _ _ _ _ s _ => px (or_field fo59_2 (s.1.trans e1334_10) (by rfl))) ?_
        refine sc (fun _ _ _ f _ hE => px (or_load1 to3 f.1 (Blk.at_ (be_ hE b1334_g1326).2 2 rfl))) ?_
        refine sc (fun own a wx hf hsl hE => ?_) ?_
        · obtain ⟨f_43, f_45, b_g1070, b_A1331, -⟩ := hf
          exact px (or_callf cf29 f_43 (args1 f_45) rfl (block_Bytes_1_w _ (forth own (look0 [(1332, 2), (1333, 1)])) x1324.2.2 r1330 g1070 33 A1331 cA1331 (look0_le rfl) (BlkO.forth_ (m := (look0 [(1332, 2), (1333, 1)])) b_g1070) (RwO.forth_ (m := (look0 [(1332, 2), (1333, 1)])) b_A1331) r1335 hr1335) (post_mems (m := (look0 [(1332, 2), (1333, 1)])) (m' := (look0 [(1, 1338), (2, 1337)])) (hm_of rfl) (fun own' w' a' x h1 h => ⟨x, h1, ⟨RwO.back_ h.1 (by decide) (.inl (Rep.fl_flat _)), BlkO.back_ h.2 (by decide)⟩⟩)))
        exact steps_nil
      intro own1339 a1339 w1339 hd1339 hz1339 hk1339 hf1339 hE1339
      have e1339_1 := (hk1339 1 rfl).trans e1334_1
      have e1339_5 := (hk1339 5 rfl).trans e1334_5
      have e1339_6 := (hk1339 6 rfl).trans e1334_6
      have e1339_7 := (hk1339 7 rfl).trans e1334_7
      have e1339_8 := (hk1339 8 rfl).trans e1334_8
      have e1339_10 := (hk1339 10 rfl).trans e1334_10
      have e1339_33 := (hk1339 33 rfl).trans e1334_33
      have e1339_34 := (hk1339 34 rfl).trans e1334_34
      have e1339_35 := (hk1339 35 rfl).trans e1334_35
      obtain ⟨⟨⟨A1336, cA1336⟩, (f_46 : a1339.eval (.tmp 46) = .tuple #[]), (b1339_A1336 : RwO own1339 1337 [] w1339 5 R5 A1336 cA1336 r1335), (b1339_g1070 : BlkO own1339 1338 w1339 g1070 33 #[.slice A1336 r1335.length cA1336])⟩, -⟩ := hf1339 [3] rfl
      have hX1339 := es_ hX1334 hE1339
      have b1339_g1061 := be_ hE1339 b1334_g1061
      have b1339_An1_0 := RdO.evo rfl hE1339 b1334_An1_0
      have b1339_An1_1 := RdO.evo rfl hE1339 b1334_An1_1
      have b1339_g1075 := be_ hE1339 b1334_g1075
      have b1339_A1325 := RdO.evo rfl hE1339 b1334_A1325
      have b1339_g1326 := be_ hE1339 b1334_g1326
      obtain ⟨r1340, hr1340, hs⟩ := obind hs
      refine rg_plain_seq (n := 115) (rs := [Fct.at_ 1338 g1070 33 #[.slice A1336 r1335.length cA1336], Fct.rowAt 1337 [] 5 R5 A1336 cA1336 r1335]) (own0 := own1339) (K := [1338, 1337]) (bs := [0, 0, 2, 6, 15]) (ds := [⟨[], [6], [], Fct.val 47 (.func (.func 29) #[] #[.pointer (some ⟨g1070, 0, none⟩)])⟩, ⟨[], [10], [], Fct.val 48 (.pointer (some ⟨g1326, 0, none⟩))⟩, ⟨[1], [], [], Fct.val 49 (.slice A1325 x1324.1.length cA1325)⟩, ⟨[2], [], [], Fct.val 50 (.int .i64 (x1324.1.length : Int))⟩, ⟨[0, 3, 5, 6], [], [1338, 1337], Fct.mems [1342, 1343] 51 (fun (x : Option Addr × Nat) => .tuple #[]) (fun (x : Option Addr × Nat) own w => RwO own 1342 [] w 5 R5 x.1 x.2 r1340 ∧ BlkO own 1343 w g1070 33 #[.slice x.1 r1340.length x.2]) (fun hk he h => ⟨RwO.evo (hits_sub hk (by decide)) he h.1, BlkO.evo (not_hit hk (by decide)) he h.2⟩)⟩]) (by kernel_rfl) hz1339 hd1339 (by simp only [List.forall_mem_cons]; exact ⟨b1339_g1070, b1339_A1336, fun _ h => nomatch h⟩) ?_ ?_
      · refine sc (fun _ _ _ _ s _ => px (or_move (s.1.trans e1339_6))) ?_
        refine sc (fun _ _ _ _ s _ => px (or_field fo59_0 (s.1.trans e1339_10) (by rfl))) ?_
        refine sc (fun _ _ _ f _ hE => px (or_load1 to57 f.1 (Blk.at_ (be_ hE b1339_g1326).2 0 rfl))) ?_
        refine sc (fun _ _ _ f _ _ => px (or_len tu57 f.1 rfl)) ?_
        refine sc (fun own a wx hf hsl hE => ?_) ?_
        · obtain ⟨f_47, f_50, b_g1070, b_A1336, -⟩ := hf
          exact px (or_callf cf29 f_47 (args1 f_50) rfl (block_Bytes_1_w _ (forth own (look0 [(1337, 2), (1338, 1)])) (x1324.1.length : Int) r1335 g1070 33 A1336 cA1336 (look0_le rfl) (BlkO.forth_ (m := (look0 [(1337, 2), (1338, 1)])) b_g1070) (RwO.forth_ (m := (look0 [(1337, 2), (1338, 1)])) b_A1336) r1340 hr1340) (post_mems (m := (look0 [(1337, 2), (1338, 1)])) (m' := (look0 [(1, 1343), (2, 1342)])) (hm_of rfl) (fun own' w' a' x h1 h => ⟨x, h1, ⟨RwO.back_ h.1 (by decide) (.inl (Rep.fl_flat _)), BlkO.back_ h.2 (by decide)⟩⟩)))
        exact steps_nil
      intro own1344 a1344 w1344 hd1344 hz1344 hk1344 hf1344 hE1344
      have e1344_1 := (hk1344 1 rfl).trans e1339_1
      have e1344_5 := (hk1344 5 rfl).trans e1339_5
      have e1344_6 := (hk1344 6 rfl).trans e1339_6
      have e1344_7 := (hk1344 7 rfl).trans e1339_7
      have e1344_8 := (hk1344 8 rfl).trans e1339_8
      have e1344_10 := (hk1344 10 rfl).trans e1339_10
      have e1344_33 := (hk1344 33 rfl).trans e1339_33
      have e1344_34 := (hk1344 34 rfl).trans e1339_34
      have e1344_35 := (hk1344 35 rfl).trans e1339_35
      obtain ⟨⟨⟨A1341, cA1341⟩, (f_51 : a1344.eval (.tmp 51) = .tuple #[]), (b1344_A1341 : RwO own1344 1342 [] w1344 5 R5 A1341 cA1341 r1340), (b1344_g1070 : BlkO own1344 1343 w1344 g1070 33 #[.slice A1341 r1340.length cA1341])⟩, -⟩ := hf1344 [4] rfl
      have hX1344 := es_ hX1339 hE1344
      have b1344_g1061 := be_ hE1344 b1339_g1061
      have b1344_An1_0 := RdO.evo rfl hE1344 b1339_An1_0
      have b1344_An1_1 := RdO.evo rfl hE1344 b1339_An1_1
      have b1344_g1075 := be_ hE1344 b1339_g1075
      have b1344_A1325 := RdO.evo rfl hE1344 b1339_A1325
      have b1344_g1326 := be_ hE1344 b1339_g1326
      refine rg0_seq 115 own1344 [0, 1, 3, 0] [⟨[], [10], [], Fct.val 52 (.pointer (some ⟨g1326, 0, none⟩))⟩, ⟨[0], [], [], Fct.val 53 (.slice A1325 x1324.1.length cA1325)⟩, ⟨[1], [], [], Fct.val 54 (.int .i64 (x1324.1.length : Int))⟩, ⟨[], [], [], Fct.val 55 (.int .i64 0)⟩] hz1344 hd1344 (by kernel_rfl) ?_ ?_
      · refine sc (fun _ _ _ _ s _ => px (or_field fo59_0 (s.1.trans e1344_10) (by rfl))) ?_
        refine sc (fun _ _ _ f _ hE => px (or_load1 to57 f.1 (Blk.at_ (be_ hE b1344_g1326).2 0 rfl))) ?_
        refine sc (fun _ _ _ f _ _ => px (or_len tu57 f.1 rfl)) ?_
        refine sc (fun _ _ _ _ _ _ => px (or_move rfl)) ?_
        exact steps_nil
      intro own1345 a1345 w1345 hd1345 hz1345 hk1345 hf1345 hE1345
      have e1345_1 := (hk1345 1 rfl).trans e1344_1
      have e1345_5 := (hk1345 5 rfl).trans e1344_5
      have e1345_6 := (hk1345 6 rfl).trans e1344_6
      have e1345_7 := (hk1345 7 rfl).trans e1344_7
      have e1345_8 := (hk1345 8 rfl).trans e1344_8
      have e1345_33 := (hk1345 33 rfl).trans e1344_33
      have e1345_34 := (hk1345 34 rfl).trans e1344_34
      have e1345_35 := (hk1345 35 rfl).trans e1344_35
      obtain ⟨(e1345_53 : a1345.eval (.tmp 53) = .slice A1325 x1324.1.length cA1325), (e1345_54 : a1345.eval (.tmp 54) = .int .i64 (x1324.1.length : Int)), (e1345_55 : a1345.eval (.tmp 55) = .int .i64 0), -⟩ := hf1345 [1, 2, 3] rfl
      have hX1345 := es_ hX1344 hE1345
      have b1345_g1061 := be_ hE1345 b1344_g1061
      have b1345_An1_0 := RdO.evo rfl hE1345 b1344_An1_0
      have b1345_An1_1 := RdO.evo rfl hE1345 b1344_An1_1
      have b1345_g1075 := be_ hE1345 b1344_g1075
      have b1345_A1325 := RdO.evo rfl hE1345 b1344_A1325
      have b1345_g1070 := be_ hE1345 b1344_g1070
      have b1345_A1341 := re_ hE1345 b1344_A1341
      refine fl_block (fun Q1346 hn1346 hx1346 hp1346 => ?_)
      refine fl_loop (body := (fun s => block_Bytes_b2 x1205 x1324 s.1 s.2.1 s.2.2)) (z := zz1317) (show loopO _ _ = _ from hs) (fun (s : (List Int) × (Int × Int) × Int) a wx => match s with | (out1374, x1377, x1378) => ∃ (ox : Own) (A1372 : Option Addr) (c1373 : Nat), a.defers = [] ∧ a.tmps.size = 115 ∧ a.eval (.tmp 1) = .pointer (some ⟨g1061, 0, none⟩) ∧ a.eval (.tmp 5) = .pointer (some ⟨g1070, 0, none⟩) ∧ a.eval (.tmp 6) = .func (.func 29) #[] #[.pointer (some ⟨g1070, 0, none⟩)] ∧ a.eval (.tmp 7) = .func (.func 31) #[] #[.pointer (some ⟨g1070, 0, none⟩)] ∧ a.eval (.tmp 8) = .pointer (some ⟨g1075, 0, none⟩) ∧ a.eval (.tmp 33) = .slice An1_0 n1.1.length cn1_0 ∧ a.eval (.tmp 34) = .int .i64 (n1.1.length : Int) ∧ a.eval (.tmp 35) = .int .i64 x1205 ∧ a.eval (.tmp 53) = .slice A1325 x1324.1.length cA1325 ∧ a.eval (.tmp 54) = .int .i64 (x1324.1.length : Int) ∧ a.eval (.tmp 55) = .int .i64 x1378 ∧ Evo [] (fun _ => 0) ox w wx ∧ BlkO ox 1062 wx g1061 25 #[.slice An1_0 n1.1.length cn1_0, .slice An1_1 n1.2.length cn1_1] ∧ RdO ox [0] wx R59 An1_0 cn1_0 n1.1 ∧ RdO ox [0] wx R27 An1_1 cn1_1 n1.2 ∧ BlkO ox 1371 wx g1070 33 #[.slice A1372 out1374.length c1373] ∧ RwO ox 1375 [] wx 5 R5 A1372 c1373 out1374 ∧ BlkO ox 1376 wx g1075 56 #[.int .i64 x1377.1, .int .i64 x1377.2] ∧ RdO ox [0] wx R56 A1325 cA1325 x1324.1) ?_ ?_
      · exact ⟨(rl [(1203, 1376), (1342, 1375), (1343, 1371)] own1345), A1341, cA1341, hd1345, hz1345, e1345_1, e1345_5, e1345_6, e1345_7, e1345_8, e1345_33, e1345_34, e1345_35, e1345_53, e1345_54, e1345_55, (Evo.rl_ hX1345 (fun _ => Nat.le_refl 0) rfl), (BlkO.rl_ (mm := [(1203, 1376), (1342, 1375), (1343, 1371)]) b1345_g1061), (RdO.rl_ (mm := [(1203, 1376), (1342, 1375), (1343, 1371)]) b1345_An1_0), (RdO.rl_ (mm := [(1203, 1376), (1342, 1375), (1343, 1371)]) b1345_An1_1), (BlkO.rl_ (mm := [(1203, 1376), (1342, 1375), (1343, 1371)]) b1345_g1070), (RwO.rl_ (mm := [(1203, 1376), (1342, 1375), (1343, 1371)]) b1345_A1341), (BlkO.rl_ (mm := [(1203, 1376), (1342, 1375), (1343, 1371)]) b1345_g1075), (RdO.rl_ (mm := [(1203, 1376), (1342, 1375), (1343, 1371)]) b1345_A1325)⟩
      · rintro ⟨out1374, x1377, x1378⟩ zz1403 a1403 w1403 ⟨own1403, A1372, c1373, hd1404, hz1404, e1404_1, e1404_5, e1404_6, e1404_7, e1404_8, e1404_33, e1404_34, e1404_35, e1404_53, e1404_54, e1404_55, hE1404, b1404_g1061, b1404_An1_0, b1404_An1_1, b1404_g1070, b1404_A1372, b1404_g1075, b1404_A1325⟩ hs Q1403 hn1403 hp1403 hz1403
        have hs : block_Bytes_b2 x1205 x1324 out1374 x1377 x1378 = some zz1403 := hs
        refine rg0_seq 115 own1403 (bz 1) [⟨[], [55, 54], [], Fct.val 56 (.bool (decide (x1378 < (x1324.1.length : Int))))⟩] hz1404 hd1404 (by kernel_rfl) ?_ ?_
        · refine sc (fun _ _ _ _ s _ => px (or_lss (s.1.trans e1404_55) (s.2.1.trans e1404_54) rfl)) ?_
          exact steps_nil
        intro own1405 a1405 w1405 hd1405 hz1405 hk1405 hf1405 hE1405
        have e1405_1 := (hk1405 1 rfl).trans e1404_1
        have e1405_5 := (hk1405 5 rfl).trans e1404_5
        have e1405_6 := (hk1405 6 rfl).trans e1404_6
        have e1405_7 := (hk1405 7 rfl).trans e1404_7
        have e1405_8 := (hk1405 8 rfl).trans e1404_8
        have e1405_33 := (hk1405 33 rfl).trans e1404_33
        have e1405_34 := (hk1405 34 rfl).trans e1404_34
        have e1405_35 := (hk1405 35 rfl).trans e1404_35
        have e1405_53 := (hk1405 53 rfl).trans e1404_53
        have e1405_54 := (hk1405 54 rfl).trans e1404_54
        have e1405_55 := (hk1405 55 rfl).trans e1404_55
        obtain ⟨(e1405_56 : a1405.eval (.tmp 56) = .bool (decide (x1378 < (x1324.1.length : Int)))), -⟩ := hf1405 [0] rfl
        have hX1405 := es_ hE1404 hE1405
        have b1405_g1061 := be_ hE1405 b1404_g1061
        have b1405_An1_0 := RdO.evo rfl hE1405 b1404_An1_0
        have b1405_An1_1 := RdO.evo rfl hE1405 b1404_An1_1
        have b1405_g1070 := be_ hE1405 b1404_g1070
        have b1405_A1372 := re_ hE1405 b1404_A1372
        have b1405_g1075 := be_ hE1405 b1404_g1075
        have b1405_A1325 := RdO.evo rfl hE1405 b1404_A1325
        refine fl_seq (fun Q1406 hn1406 hp1406 => ?_)
        refine fl_cond e1405_56 hs (fun c1407 hs => ?_) (fun c1407 hs => ?_)
        · refine fl_skip ?_
          refine hn1406 _ _ ?_
          refine fl_seq (fun Q1408 hn1408 hp1408 => ?_)
          refine fl_block (fun Q1409 hn1409 hx1409 hp1409 => ?_)
          obtain ⟨x1410, hx1410, hs⟩ := obind hs
          refine rg_plain_seq (n := 115) (rs := []) (own0 := own1405) (K := [1412]) (bs := [0, 1, 0, 7]) (ds := [⟨[], [53, 55], [], Fct.val 57 (.pointer (some ((adr A1325).add ((x1378 : Int).toNat * R56.s))))⟩, ⟨[0], [], [], Fct.val 58 (.agg #[.int .i64 x1410.1, .int .i64 x1410.2])⟩, ⟨[], [], [], Fct.blk 1412 12 (fun g => .pointer (some ⟨g, 0, none⟩)) 56 #[.int .i64 0, .int .i64 0]⟩, ⟨[2, 1], [], [1412], Fct.blk 1413 12 (fun g => .pointer (some ⟨g, 0, none⟩)) 56 #[.int .i64 x1410.1, .int .i64 x1410.2]⟩]) (by kernel_rfl) hz1405 hd1405 nm_ ?_ ?_
          · refine sc (fun _ _ _ _ s _ => px (or_index (R := R56) (l := x1324.1) tl57 (s.1.trans e1405_53) (s.2.1.trans e1405_55) (RdO.some_ b1405_A1325 hx1410) hx1410)) ?_
            refine sc (fun _ _ _ f _ hE => px (or_load (l := E56.f x1410) ta56 f.1 (RdO.cells (F := E56) (RdO.evo rfl hE b1405_A1325) hx1410) rfl)) ?_
            refine sc (fun _ _ _ _ _ _ => px (or_new [] rfl rfl trivial (by kernel_rfl))) ?_
            refine sc (fun own a wx hf hsl hE => ?_) ?_
            · obtain ⟨⟨g1411, f_12, b_g1411⟩, f_58, -⟩ := hf
              exact px (or_store (l := #[.int .i64 x1410.1, .int .i64 x1410.2]) (lab := 1412) (lab2 := 1413) ts56 f_12 f_58 b_g1411 (by simp) (by kernel_rfl) (mem_of rfl) (by decide) (by kernel_rfl) (fun own' a' w' ha hb => ⟨_, (ha 12).trans f_12, hb⟩))
            exact steps_nil
          intro own1414 a1414 w1414 hd1414 hz1414 hk1414 hf1414 hE1414
          have e1414_1 := (hk1414 1 rfl).trans e1405_1
          have e1414_5 := (hk1414 5 rfl).trans e1405_5
          have e1414_6 := (hk1414 6 rfl).trans e1405_6
          have e1414_7 := (hk1414 7 rfl).trans e1405_7
          have e1414_8 := (hk1414 8 rfl).trans e1405_8
          have e1414_33 := (hk1414 33 rfl).trans e1405_33
          have e1414_34 := (hk1414 34 rfl).trans e1405_34
          have e1414_35 := (hk1414 35 rfl).trans e1405_35
          have e1414_53 := (hk1414 53 rfl).trans e1405_53
          have e1414_54 := (hk1414 54 rfl).trans e1405_54
          have e1414_55 := (hk1414 55 rfl).trans e1405_55
          obtain ⟨⟨g1411, (e1414_12 : a1414.eval (.tmp 12) = .pointer (some ⟨g1411, 0, none⟩)), (b1414_g1411 : BlkO own1414 1413 w1414 g1411 56 #[.int .i64 x1410.1, .int .i64 x1410.2])⟩, -⟩ := hf1414 [3] rfl
          have hX1414 := es_ hX1405 hE1414
          have b1414_g1061 := be_ hE1414 b1405_g1061
          have b1414_An1_0 := RdO.evo rfl hE1414 b1405_An1_0
          have b1414_An1_1 := RdO.evo rfl hE1414 b1405_An1_1
          have b1414_g1070 := be_ hE1414 b1405_g1070
          have b1414_A1372 := re_ hE1414 b1405_A1372
          have b1414_g1075 := be_ hE1414 b1405_g1075
          have b1414_A1325 := RdO.evo rfl hE1414 b1405_A1325
          obtain ⟨r1415, hr1415, hs⟩ := obind hs
          refine rg_plain_seq (n := 115) (rs := [Fct.at_ 1371 g1070 33 #[.slice A1372 out1374.length c1373], Fct.rowAt 1375 [] 5 R5 A1372 c1373 out1374]) (own0 := own1414) (K := [1371, 1375]) (bs := [0, 0, 2, 0, 8, 30, 63]) (ds := [⟨[], [7], [], Fct.val 59 (.func (.func 31) #[] #[.pointer (some ⟨g1070, 0, none⟩)])⟩, ⟨[], [12], [], Fct.val 60 (.pointer (some ⟨g1411, 0, none⟩))⟩, ⟨[1], [], [], Fct.val 61 (.int .i64 x1410.1)⟩, ⟨[], [8], [], Fct.val 62 (.pointer (some ⟨g1075, 0, none⟩))⟩, ⟨[3], [], [], Fct.val 63 (.int .i64 x1377.1)⟩, ⟨[2, 4], [], [], Fct.val 64 (.int .i64 (sb x1410.1 x1377.1))⟩, ⟨[0, 5, 7, 8], [], [1371, 1375], Fct.mems [1417, 1418] 65 (fun (x : Option Addr × Nat) => .tuple #[]) (fun (x : Option Addr × Nat) own w => RwO own 1417 [] w 5 R5 x.1 x.2 r1415 ∧ BlkO own 1418 w g1070 33 #[.slice x.1 r1415.length x.2]) (fun hk he h => ⟨RwO.evo (hits_sub hk (by decide)) he h.1, BlkO.evo (not_hit hk (by decide)) he h.2⟩)⟩]) (by kernel_rfl) hz1414 hd1414 (by simp only [List.forall_mem_cons]; exact ⟨b1414_g1070, b1414_A1372, fun _ h => nomatch h⟩) ?_ ?_
          · refine sc (fun _ _ _ _ s _ => px (or_move (s.1.trans e1414_7))) ?_
            refine sc (fun _ _ _ _ s _ => px (or_field fo56_0 (s.1.trans e1414_12) (by rfl))) ?_
            refine sc (fun _ _ _ f _ hE => px (or_load1 to3 f.1 (Blk.at_ (be_ hE b1414_g1411).2 0 rfl))) ?_
            refine sc (fun _ _ _ _ s _ => px (or_field fo56_0 (s.1.trans e1414_8) (by rfl))) ?_
            refine sc (fun _ _ _ f _ hE => px (or_load1 to3 f.1 (Blk.at_ (be_ hE b1414_g1075).2 0 rfl))) ?_
            refine sc (fun _ _ _ f _ _ => px (or_sub f.1 f.2.1 rfl)) ?_
            refine sc (fun own a wx hf hsl hE => ?_) ?_
            · obtain ⟨f_59, f_64, b_g1070, b_A1372, -⟩ := hf
              exact px (or_callf cf31 f_59 (args1 f_64) rfl (block_Bytes_2_w _ (forth own (look0 [(1371, 1), (1375, 2)])) (sb x1410.1 x1377.1) out1374 g1070 33 A1372 c1373 (look0_le rfl) (BlkO.forth_ (m := (look0 [(1371, 1), (1375, 2)])) b_g1070) (RwO.forth_ (m := (look0 [(1371, 1), (1375, 2)])) b_A1372) r1415 hr1415) (post_mems (m := (look0 [(1371, 1), (1375, 2)])) (m' := (look0 [(1, 1418), (2, 1417)])) (hm_of rfl) (fun own' w' a' x h1 h => ⟨x, h1, ⟨RwO.back_ h.1 (by decide) (.inl (Rep.fl_flat _)), BlkO.back_ h.2 (by decide)⟩⟩)))
            exact steps_nil
          intro own1419 a1419 w1419 hd1419 hz1419 hk1419 hf1419 hE1419
          have e1419_1 := (hk1419 1 rfl).trans e1414_1
          have e1419_5 := (hk1419 5 rfl).trans e1414_5
          have e1419_6 := (hk1419 6 rfl).trans e1414_6
          have e1419_7 := (hk1419 7 rfl).trans e1414_7
          have e1419_8 := (hk1419 8 rfl).trans e1414_8
          have e1419_12 := (hk1419 12 rfl).trans e1414_12
          have e1419_33 := (hk1419 33 rfl).trans e1414_33
          have e1419_34 := (hk1419 34 rfl).trans e1414_34
          have e1419_35 := (hk1419 35 rfl).trans e1414_35
          have e1419_53 := (hk1419 53 rfl).trans e1414_53
          have e1419_54 := (hk1419 54 rfl).trans e1414_54
          have e1419_55 := (hk1419 55 rfl).trans e1414_55
          obtain ⟨⟨⟨A1416, cA1416⟩, (f_65 : a1419.eval (.tmp 65) = .tuple #[]), (b1419_A1416 : RwO own1419 1417 [] w1419 5 R5 A1416 cA1416 r1415), (b1419_g1070 : BlkO own1419 1418 w1419 g1070 33 #[.slice A1416 r1415.length cA1416])⟩, -⟩ := hf1419 [6] rfl
          have hX1419 := es_ hX1414 hE1419
          have b1419_g1061 := be_ hE1419 b1414_g1061
          have b1419_An1_0 := RdO.evo rfl hE1419 b1414_An1_0
          have b1419_An1_1 := RdO.evo rfl hE1419 b1414_An1_1
          have b1419_g1075 := be_ hE1419 b1414_g1075
          have b1419_A1325 := RdO.evo rfl hE1419 b1414_A1325
          have b1419_g1411 := be_ hE1419 b1414_g1411
          obtain ⟨r1420, hr1420, hs⟩ := obind hs
          refine rg_plain_seq (n := 115) (rs := [Fct.at_ 1418 g1070 33 #[.slice A1416 r1415.length cA1416], Fct.rowAt 1417 [] 5 R5 A1416 cA1416 r1415]) (own0 := own1419) (K := [1418, 1417]) (bs := [0, 0, 2, 0, 8, 30, 63]) (ds := [⟨[], [7], [], Fct.val 66 (.func (.func 31) #[] #[.pointer (some ⟨g1070, 0, none⟩)])⟩, ⟨[], [12], [], Fct.val 67 (.pointer (some ⟨g1411, 1, none⟩))⟩, ⟨[1], [], [], Fct.val 68 (.int .i64 x1410.2)⟩, ⟨[], [8], [], Fct.val 69 (.pointer (some ⟨g1075, 1, none⟩))⟩, ⟨[3], [], [], Fct.val 70 (.int .i64 x1377.2)⟩, ⟨[2, 4], [], [], Fct.val 71 (.int .i64 (sb x1410.2 x1377.2))⟩, ⟨[0, 5, 7, 8], [], [1418, 1417], Fct.mems [1422, 1423] 72 (fun (x : Option Addr × Nat) => .tuple #[]) (fun (x : Option Addr × Nat) own w => RwO own 1422 [] w 5 R5 x.1 x.2 r1420 ∧ BlkO own 1423 w g1070 33 #[.slice x.1 r1420.length x.2]) (fun hk he h => ⟨RwO.evo (hits_sub hk (by decide)) he h.1, BlkO.evo (not_hit hk (by decide)) he h.2⟩)⟩]) (by kernel_rfl) hz1419 hd1419 (by simp only [List.forall_mem_cons]; exact ⟨b1419_g1070, b1419_A1416, fun _ h => nomatch h⟩) ?_ ?_
          · refine sc (fun _ _ _ _ s _ => px (or_move (s.1.trans e1419_7))) ?_
            refine sc (fun _ _ _ _ s _ => px (or_field fo56_1 (s.1.trans e1419_12) (by rfl))) ?_
            refine sc (fun _ _ _ f _ hE => px (or_load1 to3 f.1 (Blk.at_ (be_ hE b1419_g1411).2 1 rfl))) ?_
            refine sc (fun _ _ _ _ s _ => px (or_field fo56_1 (s.1.trans e1419_8) (by rfl))) ?_
            refine sc (fun _ _ _ f _ hE => px (or_load1 to3 f.1 (Blk.at_ (be_ hE b1419_g1075).2 1 rfl))) ?_
            refine sc (fun _ _ _ f _ _ => px (or_sub f.1 f.2.1 rfl)) ?_
            refine sc (fun own a wx hf hsl hE => ?_) ?_
            · obtain ⟨f_66, f_71, b_g1070, b_A1416, -⟩ := hf
              exact px (or_callf cf31 f_66 (args1 f_71) rfl (block_Bytes_2_w _ (forth own (look0 [(1417, 2), (1418, 1)])) (sb x1410.2 x1377.2) r1415 g1070 33 A1416 cA1416 (look0_le rfl) (BlkO.forth_ (m := (look0 [(1417, 2), (1418, 1)])) b_g1070) (RwO.forth_ (m := (look0 [(1417, 2), (1418, 1)])) b_A1416) r1420 hr1420) (post_mems (m := (look0 [(1417, 2), (1418, 1)])) (m' := (look0 [(1, 1423), (2, 1422)])) (hm_of rfl) (fun own' w' a' x h1 h => ⟨x, h1, ⟨RwO.back_ h.1 (by decide) (.inl (Rep.fl_flat _)), BlkO.back_ h.2 (by decide)⟩⟩)))
            exact steps_nil
          intro own1424 a1424 w1424 hd1424 hz1424 hk1424 hf1424 hE1424
          have e1424_1 := (hk1424 1 rfl).trans e1419_1
          have e1424_5 := (hk1424 5 rfl).trans e1419_5
          have e1424_6 := (hk1424 6 rfl).trans e1419_6
          have e1424_7 := (hk1424 7 rfl).trans e1419_7
          have e1424_8 := (hk1424 8 rfl).trans e1419_8
          have e1424_12 := (hk1424 12 rfl).trans e1419_12
          have e1424_33 := (hk1424 33 rfl).trans e1419_33
          have e1424_34 := (hk1424 34 rfl).trans e1419_34
          have e1424_35 := (hk1424 35 rfl).trans e1419_35
          have e1424_53 := (hk1424 53 rfl).trans e1419_53
          have e1424_54 := (hk1424 54 rfl).trans e1419_54
          have e1424_55 := (hk1424 55 rfl).trans e1419_55
          obtain ⟨⟨⟨A1421, cA1421⟩, (f_72 : a1424.eval (.tmp 72) = .tuple #[]), (b1424_A1421 : RwO own1424 1422 [] w1424 5 R5 A1421 cA1421 r1420), (b1424_g1070 : BlkO own1424 1423 w1424 g1070 33 #[.slice A1421 r1420.length cA1421])⟩, -⟩ := hf1424 [6] rfl
          have hX1424 := es_ hX1419 hE1424
          have b1424_g1061 := be_ hE1424 b1419_g1061
          have b1424_An1_0 := RdO.evo rfl hE1424 b1419_An1_0
          have b1424_An1_1 := RdO.evo rfl hE1424 b1419_An1_1
          have b1424_g1075 := be_ hE1424 b1419_g1075
          have b1424_A1325 := RdO.evo rfl hE1424 b1419_A1325
          have b1424_g1411 := be_ hE1424 b1419_g1411
          refine rg_plain (n := 115) (rs := [Fct.at_ 1376 g1075 56 #[.int .i64 x1377.1, .int .i64 x1377.2]]) (own0 := own1424) (K := [1376]) (bs := (bz 2)) (ds := [⟨[], [12], [], Fct.val 73 (.agg #[.int .i64 x1410.1, .int .i64 x1410.2])⟩, ⟨[0, 2], [8], [1376], Fct.at_ 1425 g1075 56 #[.int .i64 x1410.1, .int .i64 x1410.2]⟩]) (by kernel_rfl) hz1424 hd1424 (by simp only [List.forall_mem_cons]; exact ⟨b1424_g1075, fun _ h => nomatch h⟩) ?_ ?_
          · refine sc (fun _ _ _ _ s hE => px (or_load (l := [.int .i64 x1410.1, .int .i64 x1410.2]) ta56 (s.1.trans e1424_12) (Blk.cellsFrom (be_ hE b1424_g1411).2 0 rfl) rfl)) ?_
            refine sc (fun own a wx hf hsl hE => ?_) ?_
            · obtain ⟨f_73, b_g1075, -⟩ := hf
              obtain ⟨s_8, -⟩ := hsl
              exact px (or_store (l := #[.int .i64 x1410.1, .int .i64 x1410.2]) (lab := 1376) (lab2 := 1425) ts56 (s_8.trans e1424_8) f_73 b_g1075 (by simp) (by kernel_rfl) (mem_of rfl) (by decide) (by kernel_rfl) (fun own' a' w' ha hb => hb))
            exact steps_nil
          intro own1426 a1426 w1426 hd1426 hz1426 hk1426 hf1426 hE1426
          have e1426_1 := (hk1426 1 rfl).trans e1424_1
          have e1426_5 := (hk1426 5 rfl).trans e1424_5
          have e1426_6 := (hk1426 6 rfl).trans e1424_6
          have e1426_7 := (hk1426 7 rfl).trans e1424_7
          have e1426_8 := (hk1426 8 rfl).trans e1424_8
          have e1426_33 := (hk1426 33 rfl).trans e1424_33
          have e1426_34 := (hk1426 34 rfl).trans e1424_34
          have e1426_35 := (hk1426 35 rfl).trans e1424_35
          have e1426_53 := (hk1426 53 rfl).trans e1424_53
          have e1426_54 := (hk1426 54 rfl).trans e1424_54
          have e1426_55 := (hk1426 55 rfl).trans e1424_55
          obtain ⟨(b1426_g1075 : BlkO own1426 1425 w1426 g1075 56 #[.int .i64 x1410.1, .int .i64 x1410.2]), -⟩ := hf1426 [1] rfl
          have hX1426 := es_ hX1424 hE1426
          have b1426_g1061 := be_ hE1426 b1424_g1061
          have b1426_An1_0 := RdO.evo rfl hE1426 b1424_An1_0
          have b1426_An1_1 := RdO.evo rfl hE1426 b1424_An1_1
          have b1426_A1325 := RdO.evo rfl hE1426 b1424_A1325
          have b1426_g1070 := be_ hE1426 b1424_g1070
          have b1426_A1421 := re_ hE1426 b1424_A1421
          refine hn1409 _ _ ?_
          refine hn1408 _ _ ?_
          refine rg0 115 own1426 (bz 2) [⟨[], [55], [], Fct.val 74 (.int .i64 (ad x1378 1))⟩, ⟨[0], [], [], Fct.val 55 (.int .i64 (ad x1378 1))⟩] hz1426 hd1426 (by kernel_rfl) ?_ ?_
          · refine sc (fun _ _ _ _ s _ => px (or_add (s.1.trans e1426_55) rfl rfl)) ?_
            refine sc (fun _ _ _ f _ _ => px (or_move f.1)) ?_
            exact steps_nil
          intro own1427 a1427 w1427 hd1427 hz1427 hk1427 hf1427 hE1427
          have e1427_1 := (hk1427 1 rfl).trans e1426_1
          have e1427_5 := (hk1427 5 rfl).trans e1426_5
          have e1427_6 := (hk1427 6 rfl).trans e1426_6
          have e1427_7 := (hk1427 7 rfl).trans e1426_7
          have e1427_8 := (hk1427 8 rfl).trans e1426_8
          have e1427_33 := (hk1427 33 rfl).trans e1426_33
          have e1427_34 := (hk1427 34 rfl).trans e1426_34
          have e1427_35 := (hk1427 35 rfl).trans e1426_35
          have e1427_53 := (hk1427 53 rfl).trans e1426_53
          have e1427_54 := (hk1427 54 rfl).trans e1426_54
          obtain ⟨(e1427_55 : a1427.eval (.tmp 55) = .int .i64 (ad x1378 1)), -⟩ := hf1427 [1] rfl
          have hX1427 := es_ hX1426 hE1427
          have b1427_g1061 := be_ hE1427 b1426_g1061
          have b1427_An1_0 := RdO.evo rfl hE1427 b1426_An1_0
          have b1427_An1_1 := RdO.evo rfl hE1427 b1426_An1_1
          have b1427_A1325 := RdO.evo rfl hE1427 b1426_A1325
          have b1427_g1070 := be_ hE1427 b1426_g1070
          have b1427_A1421 := re_ hE1427 b1426_A1421
          have b1427_g1075 := be_ hE1427 b1426_g1075
          exact hn1403 _ _ _ hs ⟨(rl [(1422, 1375), (1423, 1371), (1425, 1376)] own1427), A1421, cA1421, hd1427, hz1427, e1427_1, e1427_5, e1427_6, e1427_7, e1427_8, e1427_33, e1427_34, e1427_35, e1427_53, e1427_54, e1427_55, (Evo.rl_ hX1427 (fun _ => Nat.le_refl 0) rfl), (BlkO.rl_ (mm := [(1422, 1375), (1423, 1371), (1425, 1376)]) b1427_g1061), (RdO.rl_ (mm := [(1422, 1375), (1423, 1371), (1425, 1376)]) b1427_An1_0), (RdO.rl_ (mm := [(1422, 1375), (1423, 1371), (1425, 1376)]) b1427_An1_1), (BlkO.rl_ (mm := [(1422, 1375), (1423, 1371), (1425, 1376)]) b1427_g1070), (RwO.rl_ (mm := [(1422, 1375), (1423, 1371), (1425, 1376)]) b1427_A1421), (BlkO.rl_ (mm := [(1422, 1375), (1423, 1371), (1425, 1376)]) b1427_g1075), (RdO.rl_ (mm := [(1422, 1375), (1423, 1371), (1425, 1376)]) b1427_A1325)⟩
        refine fl_exit ?_
        refine hp1406 _ _ _ rfl ?_
        replace hs := hz1403 _ hs
        refine hp1403 _ _ _ rfl ?_
        refine hx1346 _ _ ?_
        refine hn1323 _ _ ?_
        refine hn1322 _ _ ?_
        refine rg0 115 own1405 (bz 2) [⟨[], [35], [], Fct.val 75 (.int .i64 (ad x1205 1))⟩, ⟨[0], [], [], Fct.val 35 (.int .i64 (ad x1205 1))⟩] hz1405 hd1405 (by kernel_rfl) ?_ ?_
        · refine sc (fun _ _ _ _ s _ => px (or_add (s.1.trans e1405_35) rfl rfl)) ?_
          refine sc (fun _ _ _ f _ _ => px (or_move f.1)) ?_
          exact steps_nil
        intro own1428 a1428 w1428 hd1428 hz1428 hk1428 hf1428 hE1428
        have e1428_1 := (hk1428 1 rfl).trans e1405_1
        have e1428_5 := (hk1428 5 rfl).trans e1405_5
        have e1428_6 := (hk1428 6 rfl).trans e1405_6
        have e1428_7 := (hk1428 7 rfl).trans e1405_7
        have e1428_8 := (hk1428 8 rfl).trans e1405_8
        have e1428_33 := (hk1428 33 rfl).trans e1405_33
        have e1428_34 := (hk1428 34 rfl).trans e1405_34
        obtain ⟨(e1428_35 : a1428.eval (.tmp 35) = .int .i64 (ad x1205 1)), -⟩ := hf1428 [1] rfl
        have hX1428 := es_ hX1405 hE1428
        have b1428_g1061 := be_ hE1428 b1405_g1061
        have b1428_An1_0 := RdO.evo rfl hE1428 b1405_An1_0
        have b1428_An1_1 := RdO.evo rfl hE1428 b1405_An1_1
        have b1428_g1070 := be_ hE1428 b1405_g1070
        have b1428_A1372 := re_ hE1428 b1405_A1372
        have b1428_g1075 := be_ hE1428 b1405_g1075
        exact hn1317 _ _ _ hs ⟨(rl [(1371, 1198), (1375, 1202), (1376, 1203)] own1428), A1372, c1373, hd1428, hz1428, e1428_1, e1428_5, e1428_6, e1428_7, e1428_8, e1428_33, e1428_34, e1428_35, (Evo.rl_ hX1428 (fun _ => Nat.le_refl 0) rfl), (BlkO.rl_ (mm := [(1371, 1198), (1375, 1202), (1376, 1203)]) b1428_g1061), (RdO.rl_ (mm := [(1371, 1198), (1375, 1202), (1376, 1203)]) b1428_An1_0), (RdO.rl_ (mm := [(1371, 1198), (1375, 1202), (1376, 1203)]) b1428_An1_1), (BlkO.rl_ (mm := [(1371, 1198), (1375, 1202), (1376, 1203)]) b1428_g1070), (RwO.rl_ (mm := [(1371, 1198), (1375, 1202), (1376, 1203)]) b1428_A1372), (BlkO.rl_ (mm := [(1371, 1198), (1375, 1202), (1376, 1203)]) b1428_g1075)⟩
    refine fl_exit ?_
    refine hp1320 _ _ _ rfl ?_
    replace hs := hz1317 _ hs
    refine hp1317 _ _ _ rfl ?_
    refine hx1086 _ _ ?_
    refine hn1084 _ _ ?_
    obtain ⟨r1429, hr1429, hs⟩ := obind hs
    refine rg_plain_seq (n := 115) (rs := [Fct.at_ 1198 g1070 33 #[.slice A1199 out1201.length c1200], Fct.rowAt 1202 [] 5 R5 A1199 c1200 out1201]) (own0 := own1319) (K := [1198, 1202]) (bs := [0, 0, 2, 6, 15]) (ds := [⟨[], [6], [], Fct.val 76 (.func (.func 29) #[] #[.pointer (some ⟨g1070, 0, none⟩)])⟩, ⟨[], [1], [], Fct.val 77 (.pointer (some ⟨g1061, 1, none⟩))⟩, ⟨[1], [], [], Fct.val 78 (.slice An1_1 n1.2.length cn1_1)⟩, ⟨[2], [], [], Fct.val 79 (.int .i64 (n1.2.length : Int))⟩, ⟨[0, 3, 5, 6], [], [1198, 1202], Fct.mems [1431, 1432] 80 (fun (x : Option Addr × Nat) => .tuple #[]) (fun (x : Option Addr × Nat) own w => RwO own 1431 [] w 5 R5 x.1 x.2 r1429 ∧ BlkO own 1432 w g1070 33 #[.slice x.1 r1429.length x.2]) (fun hk he h => ⟨RwO.evo (hits_sub hk (by decide)) he h.1, BlkO.evo (not_hit hk (by decide)) he h.2⟩)⟩]) (by kernel_rfl) hz1319 hd1319 (by simp only [List.forall_mem_cons]; exact ⟨b1319_g1070, b1319_A1199, fun _ h => nomatch h⟩) ?_ ?_
    · refine sc (fun _ _ _ _ s _ => px (or_move (s.1.trans e1319_6))) ?_
      refine sc (fun _ _ _ _ s _ => px (or_field fo25_1 (s.1.trans e1319_1) (by rfl))) ?_
      refine sc (fun _ _ _ f _ hE => px (or_load1 to23 f.1 (Blk.at_ (be_ hE b1319_g1061).2 1 rfl))) ?_
      refine sc (fun _ _ _ f _ _ => px (or_len tu23 f.1 rfl)) ?_
      refine sc (fun own a wx hf hsl hE => ?_) ?_
      · obtain ⟨f_76, f_79, b_g1070, b_A1199, -⟩ := hf
        exact px (or_callf cf29 f_76 (args1 f_79) rfl (block_Bytes_1_w _ (forth own (look0 [(1198, 1), (1202, 2)])) (n1.2.length : Int) out1201 g1070 33 A1199 c1200 (look0_le rfl) (BlkO.forth_ (m := (look0 [(1198, 1), (1202, 2)])) b_g1070) (RwO.forth_ (m := (look0 [(1198, 1), (1202, 2)])) b_A1199) r1429 hr1429) (post_mems (m := (look0 [(1198, 1), (1202, 2)])) (m' := (look0 [(1, 1432), (2, 1431)])) (hm_of rfl) (fun own' w' a' x h1 h => ⟨x, h1, ⟨RwO.back_ h.1 (by decide) (.inl (Rep.fl_flat _)), BlkO.back_ h.2 (by decide)⟩⟩)))
      exact steps_nil
    intro own1433 a1433 w1433 hd1433 hz1433 hk1433 hf1433 hE1433
    have e1433_1 := (hk1433 1 rfl).trans e1319_1
    have e1433_5 := (hk1433 5 rfl).trans e1319_5
    have e1433_6 := (hk1433 6 rfl).trans e1319_6
    have e1433_7 := (hk1433 7 rfl).trans e1319_7
    obtain ⟨⟨⟨A1430, cA1430⟩, (f_80 : a1433.eval (.tmp 80) = .tuple #[]), (b1433_A1430 : RwO own1433 1431 [] w1433 5 R5 A1430 cA1430 r1429), (b1433_g1070 : BlkO own1433 1432 w1433 g1070 33 #[.slice A1430 r1429.length cA1430])⟩, -⟩ := hf1433 [4] rfl
    have hX1433 := es_ hX1319 hE1433
    have b1433_g1061 := be_ hE1433 b1319_g1061
    have b1433_An1_0 := RdO.evo rfl hE1433 b1319_An1_0
    have b1433_An1_1 := RdO.evo rfl hE1433 b1319_An1_1
    refine fl_seq (fun Q1434 hn1434 hp1434 => ?_)
    refine rg0_seq 115 own1433 [0, 1, 3, 0] [⟨[], [1], [], Fct.val 81 (.pointer (some ⟨g1061, 1, none⟩))⟩, ⟨[0], [], [], Fct.val 82 (.slice An1_1 n1.2.length cn1_1)⟩, ⟨[1], [], [], Fct.val 83 (.int .i64 (n1.2.length : Int))⟩, ⟨[], [], [], Fct.val 84 (.int .i64 0)⟩] hz1433 hd1433 (by kernel_rfl) ?_ ?_
    · refine sc (fun _ _ _ _ s _ => px (or_field fo25_1 (s.1.trans e1433_1) (by rfl))) ?_
      refine sc (fun _ _ _ f _ hE => px (or_load1 to23 f.1 (Blk.at_ (be_ hE b1433_g1061).2 1 rfl))) ?_
      refine sc (fun _ _ _ f _ _ => px (or_len tu23 f.1 rfl)) ?_
      refine sc (fun _ _ _ _ _ _ => px (or_move rfl)) ?_
      exact steps_nil
    intro own1435 a1435 w1435 hd1435 hz1435 hk1435 hf1435 hE1435
    have e1435_5 := (hk1435 5 rfl).trans e1433_5
    have e1435_6 := (hk1435 6 rfl).trans e1433_6
    have e1435_7 := (hk1435 7 rfl).trans e1433_7
    obtain ⟨(e1435_82 : a1435.eval (.tmp 82) = .slice An1_1 n1.2.length cn1_1), (e1435_83 : a1435.eval (.tmp 83) = .int .i64 (n1.2.length : Int)), (e1435_84 : a1435.eval (.tmp 84) = .int .i64 0), -⟩ := hf1435 [1, 2, 3] rfl
    have hX1435 := es_ hX1433 hE1435
    have b1435_An1_1 := RdO.evo rfl hE1435 b1433_An1_1
    have b1435_g1070 := be_ hE1435 b1433_g1070
    have b1435_A1430 := re_ hE1435 b1433_A1430
    refine fl_block (fun Q1436 hn1436 hx1436 hp1436 => ?_)
    refine fl_loop (body := (fun s => block_Bytes_b3 n1 s.1 s.2)) (z := r) (show loopO _ _ = _ from hs) (fun (s : (List Int) × Int) a wx => match s with | (out1662, x1664) => ∃ (ox : Own) (A1660 : Option Addr) (c1661 : Nat), a.defers = [] ∧ a.tmps.size = 115 ∧ a.eval (.tmp 5) = .pointer (some ⟨g1070, 0, none⟩) ∧ a.eval (.tmp 6) = .func (.func 29) #[] #[.pointer (some ⟨g1070, 0, none⟩)] ∧ a.eval (.tmp 7) = .func (.func 31) #[] #[.pointer (some ⟨g1070, 0, none⟩)] ∧ a.eval (.tmp 82) = .slice An1_1 n1.2.length cn1_1 ∧ a.eval (.tmp 83) = .int .i64 (n1.2.length : Int) ∧ a.eval (.tmp 84) = .int .i64 x1664 ∧ Evo [] (fun _ => 0) ox w wx ∧ BlkO ox 1659 wx g1070 33 #[.slice A1660 out1662.length c1661] ∧ RwO ox 1663 [] wx 5 R5 A1660 c1661 out1662 ∧ RdO ox [0] wx R27 An1_1 cn1_1 n1.2) ?_ ?_
    · exact ⟨(rl [(1431, 1663), (1432, 1659)] own1435), A1430, cA1430, hd1435, hz1435, e1435_5, e1435_6, e1435_7, e1435_82, e1435_83, e1435_84, (Evo.rl_ hX1435 (fun _ => Nat.le_refl 0) rfl), (BlkO.rl_ (mm := [(1431, 1663), (1432, 1659)]) b1435_g1070), (RwO.rl_ (mm := [(1431, 1663), (1432, 1659)]) b1435_A1430), (RdO.rl_ (mm := [(1431, 1663), (1432, 1659)]) b1435_An1_1)⟩
    · rintro ⟨out1662, x1664⟩ zz1887 a1887 w1887 ⟨own1887, A1660, c1661, hd1888, hz1888, e1888_5, e1888_6, e1888_7, e1888_82, e1888_83, e1888_84, hE1888, b1888_g1070, b1888_A1660, b1888_An1_1⟩ hs Q1887 hn1887 hp1887 hz1887
      have hs : block_Bytes_b3 n1 out1662 x1664 = some zz1887 := hs
      refine rg0_seq 115 own1887 (bz 1) [⟨[], [84, 83], [], Fct.val 85 (.bool (decide (x1664 < (n1.2.length : Int))))⟩] hz1888 hd1888 (by kernel_rfl) ?_ ?_
      · refine sc (fun _ _ _ _ s _ => px (or_lss (s.1.trans e1888_84) (s.2.1.trans e1888_83) rfl)) ?_
        exact steps_nil
      intro own1889 a1889 w1889 hd1889 hz1889 hk1889 hf1889 hE1889
      have e1889_5 := (hk1889 5 rfl).trans e1888_5
      have e1889_6 := (hk1889 6 rfl).trans e1888_6
      have e1889_7 := (hk1889 7 rfl).trans e1888_7
      have e1889_82 := (hk1889 82 rfl).trans e1888_82
      have e1889_83 := (hk1889 83 rfl).trans e1888_83
      have e1889_84 := (hk1889 84 rfl).trans e1888_84
      obtain ⟨(e1889_85 : a1889.eval (.tmp 85) = .bool (decide (x1664 < (n1.2.length : Int)))), -⟩ := hf1889 [0] rfl
      have hX1889 := es_ hE1888 hE1889
      have b1889_g1070 := be_ hE1889 b1888_g1070
      have b1889_A1660 := re_ hE1889 b1888_A1660
      have b1889_An1_1 := RdO.evo rfl hE1889 b1888_An1_1
      refine fl_seq (fun Q1890 hn1890 hp1890 => ?_)
      refine fl_cond e1889_85 hs (fun c1891 hs => ?_) (fun c1891 hs => ?_)
      · refine fl_skip ?_
        refine hn1890 _ _ ?_
        refine fl_seq (fun Q1892 hn1892 hp1892 => ?_)
        refine fl_block (fun Q1893 hn1893 hx1893 hp1893 => ?_)
        obtain ⟨x1894, hx1894, hs⟩ := obind hs
        refine rg0_seq 115 own1889 (bz 3) [⟨[], [82, 84], [], Fct.val 86 (.pointer (some ((adr An1_1).add ((x1664 : Int).toNat * R27.s))))⟩, ⟨[0], [], [], Fct.nest X27 [0] 87 (fun (y : (Option Addr × Nat)) => .slice y.1 x1894.length y.2) x1894⟩, ⟨[1], [], [], Fct.rel [14, 87] (fun l => ∀ (A1895 : Option Addr) (cA1895 : Nat), l.getD 1 undef = .slice A1895 x1894.length cA1895 → l.getD 0 undef = .slice A1895 x1894.length cA1895)⟩] hz1889 hd1889 (by kernel_rfl) ?_ ?_
        · refine sc (fun _ _ _ _ s _ => px (or_index (R := R27) (l := n1.2) tl23 (s.1.trans e1889_82) (s.2.1.trans e1889_84) (RdO.some_ b1889_An1_1 hx1894) hx1894)) ?_
          refine sc (fun _ _ _ f _ hE => px (or_loadN1 X27 0 to27 f.1 (Addr.add_zero' _).symm (RdO.evo rfl hE b1889_An1_1) hx1894 (fun _ => rfl))) ?_
          refine sc (fun own a wx hf hsl hE => ?_) ?_
          · obtain ⟨⟨⟨A1895, cA1895⟩, (f_87 : a.eval (.tmp 87) = .slice A1895 x1894.length cA1895), b_A1895⟩, -⟩ := hf
            exact px (or_mono (f := Fct.val 14 (.slice A1895 x1894.length cA1895)) (or_assign f_87) (fun own' a' w' v' hp h => fun _ _ h0' => by cases (f_87.symm.trans ((hp.2 87 (by decide)).symm.trans h0')); exact h))
          exact steps_nil
        intro own1896 a1896 w1896 hd1896 hz1896 hk1896 hf1896 hE1896
        have e1896_5 := (hk1896 5 rfl).trans e1889_5
        have e1896_6 := (hk1896 6 rfl).trans e1889_6
        have e1896_7 := (hk1896 7 rfl).trans e1889_7
        have e1896_82 := (hk1896 82 rfl).trans e1889_82
        have e1896_83 := (hk1896 83 rfl).trans e1889_83
        have e1896_84 := (hk1896 84 rfl).trans e1889_84
        obtain ⟨⟨⟨A1895, cA1895⟩, (f_87 : a1896.eval (.tmp 87) = .slice A1895 x1894.length cA1895), (b1896_A1895 : RdO own1896 [0] w1896 R28 A1895 cA1895 x1894)⟩, (q_14 : ∀ (A1895 : Option Addr) (cA1895 : Nat), a1896.eval (.tmp 87) = .slice A1895 x1894.length cA1895 → a1896.eval (.tmp 14) = .slice A1895 x1894.length cA1895), -⟩ := hf1896 [1, 2] rfl
        have e1896_14 := q_14 _ _ f_87
        have hX1896 := es_ hX1889 hE1896
        have b1896_g1070 := be_ hE1896 b1889_g1070
        have b1896_A1660 := re_ hE1896 b1889_A1660
        have b1896_An1_1 := RdO.evo rfl hE1896 b1889_An1_1
        obtain ⟨r1897, hr1897, hs⟩ := obind hs
        refine rg_plain_seq (n := 115) (rs := [Fct.at_ 1659 g1070 33 #[.slice A1660 out1662.length c1661], Fct.rowAt 1663 [] 5 R5 A1660 c1661 out1662]) (own0 := own1896) (K := [1659, 1663]) (bs := [0, 0, 2, 7]) (ds := [⟨[], [6], [], Fct.val 88 (.func (.func 29) #[] #[.pointer (some ⟨g1070, 0, none⟩)])⟩, ⟨[], [14], [], Fct.val 89 (.slice A1895 x1894.length cA1895)⟩, ⟨[1], [], [], Fct.val 90 (.int .i64 (x1894.length : Int))⟩, ⟨[0, 2, 4, 5], [], [1659, 1663], Fct.mems [1899, 1900] 91 (fun (x : Option Addr × Nat) => .tuple #[]) (fun (x : Option Addr × Nat) own w => RwO own 1899 [] w 5 R5 x.1 x.2 r1897 ∧ BlkO own 1900 w g1070 33 #[.slice x.1 r1897.length x.2]) (fun hk he h => ⟨RwO.evo (hits_sub hk (by decide)) he h.1, BlkO.evo (not_hit hk (by decide)) he h.2⟩)⟩]) (by kernel_rfl) hz1896 hd1896 (by simp only [List.forall_mem_cons]; exact ⟨b1896_g1070, b1896_A1660, fun _ h => nomatch h⟩) ?_ ?_
        · refine sc (fun _ _ _ _ s _ => px (or_move (s.1.trans e1896_6))) ?_
          refine sc (fun _ _ _ _ s _ => px (or_move (s.1.trans e1896_14))) ?_
          refine sc (fun _ _ _ f _ _ => px (or_len tu27 f.1 rfl)) ?_
          refine sc (fun own a wx hf hsl hE => ?_) ?_
          · obtain ⟨f_88, f_90, b_g1070, b_A1660, -⟩ := hf
            exact px (or_callf cf29 f_88 (args1 f_90) rfl (block_Bytes_1_w _ (forth own (look0 [(1659, 1), (1663, 2)])) (x1894.length : Int) out1662 g1070 33 A1660 c1661 (look0_le rfl) (BlkO.forth_ (m := (look0 [(1659, 1), (1663, 2)])) b_g1070) (RwO.forth_ (m := (look0 [(1659, 1), (1663, 2)])) b_A1660) r1897 hr1897) (post_mems (m := (look0 [(1659, 1), (1663, 2)])) (m' := (look0 [(1, 1900), (2, 1899)])) (hm_of rfl) (fun own' w' a' x h1 h => ⟨x, h1, ⟨RwO.back_ h.1 (by decide) (.inl (Rep.fl_flat _)), BlkO.back_ h.2 (by decide)⟩⟩)))
          exact steps_nil
        intro own1901 a1901 w1901 hd1901 hz1901 hk1901 hf1901 hE1901
        have e1901_5 := (hk1901 5 rfl).trans e1896_5
        have e1901_6 := (hk1901 6 rfl).trans e1896_6
        have e1901_7 := (hk1901 7 rfl).trans e1896_7
        have e1901_14 := (hk1901 14 rfl).trans e1896_14
        have e1901_82 := (hk1901 82 rfl).trans e1896_82
        have e1901_83 := (hk1901 83 rfl).trans e1896_83
        have e1901_84 := (hk1901 84 rfl).trans e1896_84
        obtain ⟨⟨⟨A1898, cA1898⟩, (f_91 : a1901.eval (.tmp 91) = .tuple #[]), (b1901_A1898 : RwO own1901 1899 [] w1901 5 R5 A1898 cA1898 r1897), (b1901_g1070 : BlkO own1901 1900 w1901 g1070 33 #[.slice A1898 r1897.length cA1898])⟩, -⟩ := hf1901 [3] rfl
        have hX1901 := es_ hX1896 hE1901
        have b1901_An1_1 := RdO.evo rfl hE1901 b1896_An1_1
        have b1901_A1895 := RdO.evo rfl hE1901 b1896_A1895
        refine rg0_seq 115 own1901 [0, 1, 0] [⟨[], [14], [], Fct.val 92 (.slice A1895 x1894.length cA1895)⟩, ⟨[0], [], [], Fct.val 93 (.int .i64 (x1894.length : Int))⟩, ⟨[], [], [], Fct.val 94 (.int .i64 0)⟩] hz1901 hd1901 (by kernel_rfl) ?_ ?_
        · refine sc (fun _ _ _ _ s _ => px (or_move (s.1.trans e1901_14))) ?_
          refine sc (fun _ _ _ f _ _ => px (or_len tu27 f.1 rfl)) ?_
          refine sc (fun _ _ _ _ _ _ => px (or_move rfl)) ?_
          exact steps_nil
        intro own1902 a1902 w1902 hd1902 hz1902 hk1902 hf1902 hE1902
        have e1902_5 := (hk1902 5 rfl).trans e1901_5
        have e1902_6 := (hk1902 6 rfl).trans e1901_6
        have e1902_7 := (hk1902 7 rfl).trans e1901_7
        have e1902_82 := (hk1902 82 rfl).trans e1901_82
        have e1902_83 := (hk1902 83 rfl).trans e1901_83
        have e1902_84 := (hk1902 84 rfl).trans e1901_84
        obtain ⟨(e1902_92 : a1902.eval (.tmp 92) = .slice A1895 x1894.length cA1895), (e1902_93 : a1902.eval (.tmp 93) = .int .i64 (x1894.length : Int)), (e1902_94 : a1902.eval (.tmp 94) = .int .i64 0), -⟩ := hf1902 [0, 1, 2] rfl
        have hX1902 := es_ hX1901 hE1902
        have b1902_An1_1 := RdO.evo rfl hE1902 b1901_An1_1
        have b1902_A1895 := RdO.evo rfl hE1902 b1901_A1895
        have b1902_g1070 := be_ hE1902 b1901_g1070
        have b1902_A1898 := re_ hE1902 b1901_A1898
        refine fl_block (fun Q1903 hn1903 hx1903 hp1903 => ?_)
        refine fl_loop (body := (fun s => block_Bytes_b4 x1664 x1894 s.1 s.2)) (z := zz1887) (show loopO _ _ = _ from hs) (fun (s : (List Int) × Int) a wx => match s with | (out1973, x1975) => ∃ (ox : Own) (A1971 : Option Addr) (c1972 : Nat), a.defers = [] ∧ a.tmps.size = 115 ∧ a.eval (.tmp 5) = .pointer (some ⟨g1070, 0, none⟩) ∧ a.eval (.tmp 6) = .func (.func 29) #[] #[.pointer (some ⟨g1070, 0, none⟩)] ∧ a.eval (.tmp 7) = .func (.func 31) #[] #[.pointer (some ⟨g1070, 0, none⟩)] ∧ a.eval (.tmp 82) = .slice An1_1 n1.2.length cn1_1 ∧ a.eval (.tmp 83) = .int .i64 (n1.2.length : Int) ∧ a.eval (.tmp 84) = .int .i64 x1664 ∧ a.eval (.tmp 92) = .slice A1895 x1894.length cA1895 ∧ a.eval (.tmp 93) = .int .i64 (x1894.length : Int) ∧ a.eval (.tmp 94) = .int .i64 x1975 ∧ Evo [] (fun _ => 0) ox w wx ∧ BlkO ox 1970 wx g1070 33 #[.slice A1971 out1973.length c1972] ∧ RwO ox 1974 [] wx 5 R5 A1971 c1972 out1973 ∧ RdO ox [0] wx R27 An1_1 cn1_1 n1.2 ∧ RdO ox [0] wx R28 A1895 cA1895 x1894) ?_ ?_
        · exact ⟨(rl [(1899, 1974), (1900, 1970)] own1902), A1898, cA1898, hd1902, hz1902, e1902_5, e1902_6, e1902_7, e1902_82, e1902_83, e1902_84, e1902_92, e1902_93, e1902_94, (Evo.rl_ hX1902 (fun _ => Nat.le_refl 0) rfl), (BlkO.rl_ (mm := [(1899, 1974), (1900, 1970)]) b1902_g1070), (RwO.rl_ (mm := [(1899, 1974), (1900, 1970)]) b1902_A1898), (RdO.rl_ (mm := [(1899, 1974), (1900, 1970)]) b1902_An1_1), (RdO.rl_ (mm := [(1899, 1974), (1900, 1970)]) b1902_A1895)⟩
        · rintro ⟨out1973, x1975⟩ zz2042 a2042 w2042 ⟨own2042, A1971, c1972, hd2043, hz2043, e2043_5, e2043_6, e2043_7, e2043_82, e2043_83, e2043_84, e2043_92, e2043_93, e2043_94, hE2043, b2043_g1070, b2043_A1971, b2043_An1_1, b2043_A1895⟩ hs Q2042 hn2042 hp2042 hz2042
          have hs : block_Bytes_b4 x1664 x1894 out1973 x1975 = some zz2042 := hs
          refine rg0_seq 115 own2042 (bz 1) [⟨[], [94, 93], [], Fct.val 95 (.bool (decide (x1975 < (x1894.length : Int))))⟩] hz2043 hd2043 (by kernel_rfl) ?_ ?_
          · refine sc (fun _ _ _ _ s _ => px (or_lss (s.1.trans e2043_94) (s.2.1.trans e2043_93) rfl)) ?_
            exact steps_nil
          intro own2044 a2044 w2044 hd2044 hz2044 hk2044 hf2044 hE2044
          have e2044_5 := (hk2044 5 rfl).trans e2043_5
          have e2044_6 := (hk2044 6 rfl).trans e2043_6
          have e2044_7 := (hk2044 7 rfl).trans e2043_7
          have e2044_82 := (hk2044 82 rfl).trans e2043_82
          have e2044_83 := (hk2044 83 rfl).trans e2043_83
          have e2044_84 := (hk2044 84 rfl).trans e2043_84
          have e2044_92 := (hk2044 92 rfl).trans e2043_92
          have e2044_93 := (hk2044 93 rfl).trans e2043_93
          have e2044_94 := (hk2044 94 rfl).trans e2043_94
          obtain ⟨(e2044_95 : a2044.eval (.tmp 95) = .bool (decide (x1975 < (x1894.length : Int)))), -⟩ := hf2044 [0] rfl
          have hX2044 := es_ hE2043 hE2044
          have b2044_g1070 := be_ hE2044 b2043_g1070
          have b2044_A1971 := re_ hE2044 b2043_A1971
          have b2044_An1_1 := RdO.evo rfl hE2044 b2043_An1_1
          have b2044_A1895 := RdO.evo rfl hE2044 b2043_A1895
          refine fl_seq (fun Q2045 hn2045 hp2045 => ?_)
          refine fl_cond e2044_95 hs (fun c2046 hs => ?_) (fun c2046 hs => ?_)
          · refine fl_skip ?_
            refine hn2045 _ _ ?_
            refine fl_seq (fun Q2047 hn2047 hp2047 => ?_)
            refine fl_block (fun Q2048 hn2048 hx2048 hp2048 => ?_)
            obtain ⟨x2049, hx2049, hs⟩ := obind hs
            refine rg0_seq 115 own2044 (bz 3) [⟨[], [92, 94], [], Fct.val 96 (.pointer (some ((adr A1895).add ((x1975 : Int).toNat * R28.s))))⟩, ⟨[0], [], [], Fct.nest X28 [0] 97 (fun (y : (Option Addr × Nat)) => .slice y.1 x2049.length y.2) x2049⟩, ⟨[1], [], [], Fct.rel [16, 97] (fun l => ∀ (A2050 : Option Addr) (cA2050 : Nat), l.getD 1 undef = .slice A2050 x2049.length cA2050 → l.getD 0 undef = .slice A2050 x2049.length cA2050)⟩] hz2044 hd2044 (by kernel_rfl) ?_ ?_
            · refine sc (fun _ _ _ _ s _ => px (or_index (R := R28) (l := x1894) tl27 (s.1.trans e2044_92) (s.2.1.trans e2044_94) (RdO.some_ b2044_A1895 hx2049) hx2049)) ?_
              refine sc (fun _ _ _ f _ hE => px (or_loadN1 X28 0 to28 f.1 (Addr.add_zero' _).symm (RdO.evo rfl hE b2044_A1895) hx2049 (fun _ => rfl))) ?_
              refine sc (fun own a wx hf hsl hE => ?_) ?_
              · obtain ⟨⟨⟨A2050, cA2050⟩, (f_97 : a.eval (.tmp 97) = .slice A2050 x2049.length cA2050), b_A2050⟩, -⟩ := hf
                exact px (or_mono (f := Fct.val 16 (.slice A2050 x2049.length cA2050)) (or_assign f_97) (fun own' a' w' v' hp h => fun _ _ h0' => by cases (f_97.symm.trans ((hp.2 97 (by decide)).symm.trans h0')); exact h))
              exact steps_nil
            intro own2051 a2051 w2051 hd2051 hz2051 hk2051 hf2051 hE2051
            have e2051_5 := (hk2051 5 rfl).trans e2044_5
            have e2051_6 := (hk2051 6 rfl).trans e2044_6
            have e2051_7 := (hk2051 7 rfl).trans e2044_7
            have e2051_82 := (hk2051 82 rfl).trans e2044_82
            have e2051_83 := (hk2051 83 rfl).trans e2044_83
            have e2051_84 := (hk2051 84 rfl).trans e2044_84
            have e2051_92 := (hk2051 92 rfl).trans e2044_92
            have e2051_93 := (hk2051 93 rfl).trans e2044_93
            have e2051_94 := (hk2051 94 rfl).trans e2044_94
            obtain ⟨⟨⟨A2050, cA2050⟩, (f_97 : a2051.eval (.tmp 97) = .slice A2050 x2049.length cA2050), (b2051_A2050 : RdO own2051 [0] w2051 R3 A2050 cA2050 x2049)⟩, (q_16 : ∀ (A2050 : Option Addr) (cA2050 : Nat), a2051.eval (.tmp 97) = .slice A2050 x2049.length cA2050 → a2051.eval (.tmp 16) = .slice A2050 x2049.length cA2050), -⟩ := hf2051 [1, 2] rfl
            have e2051_16 := q_16 _ _ f_97
            have hX2051 := es_ hX2044 hE2051
            have b2051_g1070 := be_ hE2051 b2044_g1070
            have b2051_A1971 := re_ hE2051 b2044_A1971
            have b2051_An1_1 := RdO.evo rfl hE2051 b2044_An1_1
            have b2051_A1895 := RdO.evo rfl hE2051 b2044_A1895
            obtain ⟨r2052, hr2052, hs⟩ := obind hs
            refine rg_plain_seq (n := 115) (rs := [Fct.at_ 1970 g1070 33 #[.slice A1971 out1973.length c1972], Fct.rowAt 1974 [] 5 R5 A1971 c1972 out1973]) (own0 := own2051) (K := [1970, 1974]) (bs := [0, 0, 2, 7]) (ds := [⟨[], [6], [], Fct.val 98 (.func (.func 29) #[] #[.pointer (some ⟨g1070, 0, none⟩)])⟩, ⟨[], [16], [], Fct.val 99 (.slice A2050 x2049.length cA2050)⟩, ⟨[1], [], [], Fct.val 100 (.int .i64 (x2049.length : Int))⟩, ⟨[0, 2, 4, 5], [], [1970, 1974], Fct.mems [2054, 2055] 101 (fun (x : Option Addr × Nat) => .tuple #[]) (fun (x : Option Addr × Nat) own w => RwO own 2054 [] w 5 R5 x.1 x.2 r2052 ∧ BlkO own 2055 w g1070 33 #[.slice x.1 r2052.length x.2]) (fun hk he h => ⟨RwO.evo (hits_sub hk (by decide)) he h.1, BlkO.evo (not_hit hk (by decide)) he h.2⟩)⟩]) (by kernel_rfl) hz2051 hd2051 (by simp only [List.forall_mem_cons]; exact ⟨b2051_g1070, b2051_A1971, fun _ h => nomatch h⟩) ?_ ?_
            · refine sc (fun _ _ _ _ s _ => px (or_move (s.1.trans e2051_6))) ?_
              refine sc (fun _ _ _ _ s _ => px (or_move (s.1.trans e2051_16))) ?_
              refine sc (fun _ _ _ f _ _ => px (or_len tu28 f.1 rfl)) ?_
              refine sc (fun own a wx hf hsl hE => ?_) ?_
              · obtain ⟨f_98, f_100, b_g1070, b_A1971, -⟩ := hf
                exact px (or_callf cf29 f_98 (args1 f_100) rfl (block_Bytes_1_w _ (forth own (look0 [(1970, 1), (1974, 2)])) (x2049.length : Int) out1973 g1070 33 A1971 c1972 (look0_le rfl) (BlkO.forth_ (m := (look0 [(1970, 1), (1974, 2)])) b_g1070) (RwO.forth_ (m := (look0 [(1970, 1), (1974, 2)])) b_A1971) r2052 hr2052) (post_mems (m := (look0 [(1970, 1), (1974, 2)])) (m' := (look0 [(1, 2055), (2, 2054)])) (hm_of rfl) (fun own' w' a' x h1 h => ⟨x, h1, ⟨RwO.back_ h.1 (by decide) (.inl (Rep.fl_flat _)), BlkO.back_ h.2 (by decide)⟩⟩)))
              exact steps_nil
            intro own2056 a2056 w2056 hd2056 hz2056 hk2056 hf2056 hE2056
            have e2056_5 := (hk2056 5 rfl).trans e2051_5
            have e2056_6 := (hk2056 6 rfl).trans e2051_6
            have e2056_7 := (hk2056 7 rfl).trans e2051_7
            have e2056_16 := (hk2056 16 rfl).trans e2051_16
            have e2056_82 := (hk2056 82 rfl).trans e2051_82
            have e2056_83 := (hk2056 83 rfl).trans e2051_83
            have e2056_84 := (hk2056 84 rfl).trans e2051_84
            have e2056_92 := (hk2056 92 rfl).trans e2051_92
            have e2056_93 := (hk2056 93 rfl).trans e2051_93
            have e2056_94 := (hk2056 94 rfl).trans e2051_94
            obtain ⟨⟨⟨A2053, cA2053⟩, (f_101 : a2056.eval (.tmp 101) = .tuple #[]), (b2056_A2053 : RwO own2056 2054 [] w2056 5 R5 A2053 cA2053 r2052), (b2056_g1070 : BlkO own2056 2055 w2056 g1070 33 #[.slice A2053 r2052.length cA2053])⟩, -⟩ := hf2056 [3] rfl
            have hX2056 := es_ hX2051 hE2056
            have b2056_An1_1 := RdO.evo rfl hE2056 b2051_An1_1
            have b2056_A1895 := RdO.evo rfl hE2056 b2051_A1895
            have b2056_A2050 := RdO.evo rfl hE2056 b2051_A2050
            refine rg0_seq 115 own2056 [0, 1, 0] [⟨[], [16], [], Fct.val 102 (.slice A2050 x2049.length cA2050)⟩, ⟨[0], [], [], Fct.val 103 (.int .i64 (x2049.length : Int))⟩, ⟨[], [], [], Fct.val 104 (.int .i64 0)⟩] hz2056 hd2056 (by kernel_rfl) ?_ ?_
            · refine sc (fun _ _ _ _ s _ => px (or_move (s.1.trans e2056_16))) ?_
              refine sc (fun _ _ _ f _ _ => px (or_len tu28 f.1 rfl)) ?_
              refine sc (fun _ _ _ _ _ _ => px (or_move rfl)) ?_
              exact steps_nil
            intro own2057 a2057 w2057 hd2057 hz2057 hk2057 hf2057 hE2057
            have e2057_5 := (hk2057 5 rfl).trans e2056_5
            have e2057_6 := (hk2057 6 rfl).trans e2056_6
            have e2057_7 := (hk2057 7 rfl).trans e2056_7
            have e2057_82 := (hk2057 82 rfl).trans e2056_82
            have e2057_83 := (hk2057 83 rfl).trans e2056_83
            have e2057_84 := (hk2057 84 rfl).trans e2056_84
            have e2057_92 := (hk2057 92 rfl).trans e2056_92
            have e2057_93 := (hk2057 93 rfl).trans e2056_93
            have e2057_94 := (hk2057 94 rfl).trans e2056_94
            obtain ⟨(e2057_102 : a2057.eval (.tmp 102) = .slice A2050 x2049.length cA2050), (e2057_103 : a2057.eval (.tmp 103) = .int .i64 (x2049.length : Int)), (e2057_104 : a2057.eval (.tmp 104) = .int .i64 0), -⟩ := hf2057 [0, 1, 2] rfl
            have hX2057 := es_ hX2056 hE2057
            have b2057_An1_1 := RdO.evo rfl hE2057 b2056_An1_1
            have b2057_A1895 := RdO.evo rfl hE2057 b2056_A1895
            have b2057_A2050 := RdO.evo rfl hE2057 b2056_A2050
            have b2057_g1070 := be_ hE2057 b2056_g1070
            have b2057_A2053 := re_ hE2057 b2056_A2053
            refine fl_block (fun Q2058 hn2058 hx2058 hp2058 => ?_)
            refine fl_loop (body := (fun s => block_Bytes_b5 x1975 x2049 s.1 s.2)) (z := zz2042) (show loopO _ _ = _ from hs) (fun (s : (List Int) × Int) a wx => match s with | (out2076, x2078) => ∃ (ox : Own) (A2074 : Option Addr) (c2075 : Nat), a.defers = [] ∧ a.tmps.size = 115 ∧ a.eval (.tmp 5) = .pointer (some ⟨g1070, 0, none⟩) ∧ a.eval (.tmp 6) = .func (.func 29) #[] #[.pointer (some ⟨g1070, 0, none⟩)] ∧ a.eval (.tmp 7) = .func (.func 31) #[] #[.pointer (some ⟨g1070, 0, none⟩)] ∧ a.eval (.tmp 82) = .slice An1_1 n1.2.length cn1_1 ∧ a.eval (.tmp 83) = .int .i64 (n1.2.length : Int) ∧ a.eval (.tmp 84) = .int .i64 x1664 ∧ a.eval (.tmp 92) = .slice A1895 x1894.length cA1895 ∧ a.eval (.tmp 93) = .int .i64 (x1894.length : Int) ∧ a.eval (.tmp 94) = .int .i64 x1975 ∧ a.eval (.tmp 102) = .slice A2050 x2049.length cA2050 ∧ a.eval (.tmp 103) = .int .i64 (x2049.length : Int) ∧ a.eval (.tmp 104) = .int .i64 x2078 ∧ Evo [] (fun _ => 0) ox w wx ∧ BlkO ox 2073 wx g1070 33 #[.slice A2074 out2076.length c2075] ∧ RwO ox 2077 [] wx 5 R5 A2074 c2075 out2076 ∧ RdO ox [0] wx R27 An1_1 cn1_1 n1.2 ∧ RdO ox [0] wx R28 A1895 cA1895 x1894 ∧ RdO ox [0] wx R3 A2050 cA2050 x2049) ?_ ?_
            · exact ⟨(rl [(2054, 2077), (2055, 2073)] own2057), A2053, cA2053, hd2057, hz2057, e2057_5, e2057_6, e2057_7, e2057_82, e2057_83, e2057_84, e2057_92, e2057_93, e2057_94, e2057_102, e2057_103, e2057_104, (Evo.rl_ hX2057 (fun _ => Nat.le_refl 0) rfl), (BlkO.rl_ (mm := [(2054, 2077), (2055, 2073)]) b2057_g1070), (RwO.rl_ (mm := [(2054, 2077), (2055, 2073)]) b2057_A2053), (RdO.rl_ (mm := [(2054, 2077), (2055, 2073)]) b2057_An1_1), (RdO.rl_ (mm := [(2054, 2077), (2055, 2073)]) b2057_A1895), (RdO.rl_ (mm := [(2054, 2077), (2055, 2073)]) b2057_A2050)⟩
            · rintro ⟨out2076, x2078⟩ zz2093 a2093 w2093 ⟨own2093, A2074, c2075, hd2094, hz2094, e2094_5, e2094_6, e2094_7, e2094_82, e2094_83, e2094_84, e2094_92, e2094_93, e2094_94, e2094_102, e2094_103, e2094_104, hE2094, b2094_g1070, b2094_A2074, b2094_An1_1, b2094_A1895, b2094_A2050⟩ hs Q2093 hn2093 hp2093 hz2093
              have hs : block_Bytes_b5 x1975 x2049 out2076 x2078 = some zz2093 := hs
              refine rg0_seq 115 own2093 (bz 1) [⟨[], [104, 103], [], Fct.val 105 (.bool (decide (x2078 < (x2049.length : Int))))⟩] hz2094 hd2094 (by kernel_rfl) ?_ ?_
              · refine sc (fun _ _ _ _ s _ => px (or_lss (s.1.trans e2094_104) (s.2.1.trans e2094_103) rfl)) ?_
                exact steps_nil
              intro own2095 a2095 w2095 hd2095 hz2095 hk2095 hf2095 hE2095
              have e2095_5 := (hk2095 5 rfl).trans e2094_5
              have e2095_6 := (hk2095 6 rfl).trans e2094_6
              have e2095_7 := (hk2095 7 rfl).trans e2094_7
              have e2095_82 := (hk2095 82 rfl).trans e2094_82
              have e2095_83 := (hk2095 83 rfl).trans e2094_83
              have e2095_84 := (hk2095 84 rfl).trans e2094_84
              have e2095_92 := (hk2095 92 rfl).trans e2094_92
              have e2095_93 := (hk2095 93 rfl).trans e2094_93
              have e2095_94 := (hk2095 94 rfl).trans e2094_94
              have e2095_102 := (hk2095 102 rfl).trans e2094_102
              have e2095_103 := (hk2095 103 rfl).trans e2094_103
              have e2095_104 := (hk2095 104 rfl).trans e2094_104
              obtain ⟨(e2095_105 : a2095.eval (.tmp 105) = .bool (decide (x2078 < (x2049.length : Int)))), -⟩ := hf2095 [0] rfl
              have hX2095 := es_ hE2094 hE2095
              have b2095_g1070 := be_ hE2095 b2094_g1070
              have b2095_A2074 := re_ hE2095 b2094_A2074
              have b2095_An1_1 := RdO.evo rfl hE2095 b2094_An1_1
              have b2095_A1895 := RdO.evo rfl hE2095 b2094_A1895
              have b2095_A2050 := RdO.evo rfl hE2095 b2094_A2050
              refine fl_seq (fun Q2096 hn2096 hp2096 => ?_)
              refine fl_cond e2095_105 hs (fun c2097 hs => ?_) (fun c2097 hs => ?_)
              · refine fl_skip ?_
                refine hn2096 _ _ ?_
                refine fl_seq (fun Q2098 hn2098 hp2098 => ?_)
                refine fl_block (fun Q2099 hn2099 hx2099 hp2099 => ?_)
                obtain ⟨x2100, hx2100, hs⟩ := obind hs
                refine rg0_seq 115 own2095 (bz 3) [⟨[], [102, 104], [], Fct.val 106 (.pointer (some ((adr A2050).add ((x2078 : Int).toNat * R3.s))))⟩, ⟨[0], [], [], Fct.val 107 (.int .i64 x2100)⟩, ⟨[1], [], [], Fct.val 18 (.int .i64 x2100)⟩] hz2095 hd2095 (by kernel_rfl) ?_ ?_
                · refine sc (fun _ _ _ _ s _ => px (or_index (R := R3) (l := x2049) tl28 (s.1.trans e2095_102) (s.2.1.trans e2095_104) (RdO.some_ b2095_A2050 hx2100) hx2100)) ?_
                  refine sc (fun _ _ _ f _ hE => px (or_load1 to3 f.1 (CellsAt.zero (RdO.cells (F := E3) (RdO.evo rfl hE b2095_A2050) hx2100) rfl))) ?_
                  refine sc (fun _ _ _ f _ _ => px (or_assign f.1)) ?_
                  exact steps_nil
                intro own2101 a2101 w2101 hd2101 hz2101 hk2101 hf2101 hE2101
                have e2101_5 := (hk2101 5 rfl).trans e2095_5
                have e2101_6 := (hk2101 6 rfl).trans e2095_6
                have e2101_7 := (hk2101 7 rfl).trans e2095_7
                have e2101_82 := (hk2101 82 rfl).trans e2095_82
                have e2101_83 := (hk2101 83 rfl).trans e2095_83
                have e2101_84 := (hk2101 84 rfl).trans e2095_84
                have e2101_92 := (hk2101 92 rfl).trans e2095_92
                have e2101_93 := (hk2101 93 rfl).trans e2095_93
                have e2101_94 := (hk2101 94 rfl).trans e2095_94
                have e2101_102 := (hk2101 102 rfl).trans e2095_102
                have e2101_103 := (hk2101 103 rfl).trans e2095_103
                have e2101_104 := (hk2101 104 rfl).trans e2095_104
                obtain ⟨(e2101_18 : a2101.eval (.tmp 18) = .int .i64 x2100), -⟩ := hf2101 [2] rfl
                have hX2101 := es_ hX2095 hE2101
                have b2101_g1070 := be_ hE2101 b2095_g1070
                have b2101_A2074 := re_ hE2101 b2095_A2074
                have b2101_An1_1 := RdO.evo rfl hE2101 b2095_An1_1
                have b2101_A1895 := RdO.evo rfl hE2101 b2095_A1895
                have b2101_A2050 := RdO.evo rfl hE2101 b2095_A2050
                obtain ⟨r2102, hr2102, hs⟩ := obind hs
                refine rg_plain (n := 115) (rs := [Fct.at_ 2073 g1070 33 #[.slice A2074 out2076.length c2075], Fct.rowAt 2077 [] 5 R5 A2074 c2075 out2076]) (own0 := own2101) (K := [2073, 2077]) (bs := [0, 0, 3]) (ds := [⟨[], [7], [], Fct.val 108 (.func (.func 31) #[] #[.pointer (some ⟨g1070, 0, none⟩)])⟩, ⟨[], [18], [], Fct.val 109 (.int .i64 x2100)⟩, ⟨[0, 1, 3, 4], [], [2073, 2077], Fct.mems [2104, 2105] 110 (fun (x : Option Addr × Nat) => .tuple #[]) (fun (x : Option Addr × Nat) own w => RwO own 2104 [] w 5 R5 x.1 x.2 r2102 ∧ BlkO own 2105 w g1070 33 #[.slice x.1 r2102.length x.2]) (fun hk he h => ⟨RwO.evo (hits_sub hk (by decide)) he h.1, BlkO.evo (not_hit hk (by decide)) he h.2⟩)⟩]) (by kernel_rfl) hz2101 hd2101 (by simp only [List.forall_mem_cons]; exact ⟨b2101_g1070, b2101_A2074, fun _ h => nomatch h⟩) ?_ ?_
                · refine sc (fun _ _ _ _ s _ => px (or_move (s.1.trans e2101_7))) ?_
                  refine sc (fun _ _ _ _ s _ => px (or_move (s.1.trans e2101_18))) ?_
                  refine sc (fun own a wx hf hsl hE => ?_) ?_
                  · obtain ⟨f_108, f_109, b_g1070, b_A2074, -⟩ := hf
                    exact px (or_callf cf31 f_108 (args1 f_109) rfl (block_Bytes_2_w _ (forth own (look0 [(2073, 1), (2077, 2)])) x2100 out2076 g1070 33 A2074 c2075 (look0_le rfl) (BlkO.forth_ (m := (look0 [(2073, 1), (2077, 2)])) b_g1070) (RwO.forth_ (m := (look0 [(2073, 1), (2077, 2)])) b_A2074) r2102 hr2102) (post_mems (m := (look0 [(2073, 1), (2077, 2)])) (m' := (look0 [(1, 2105), (2, 2104)])) (hm_of rfl) (fun own' w' a' x h1 h => ⟨x, h1, ⟨RwO.back_ h.1 (by decide) (.inl (Rep.fl_flat _)), BlkO.back_ h.2 (by decide)⟩⟩)))
                  exact steps_nil
                intro own2106 a2106 w2106 hd2106 hz2106 hk2106 hf2106 hE2106
                have e2106_5 := (hk2106 5 rfl).trans e2101_5
                have e2106_6 := (hk2106 6 rfl).trans e2101_6
                have e2106_7 := (hk2106 7 rfl).trans e2101_7
                have e2106_82 := (hk2106 82 rfl).trans e2101_82
                have e2106_83 := (hk2106 83 rfl).trans e2101_83
                have e2106_84 := (hk2106 84 rfl).trans e2101_84
                have e2106_92 := (hk2106 92 rfl).trans e2101_92
                have e2106_93 := (hk2106 93 rfl).trans e2101_93
                have e2106_94 := (hk2106 94 rfl).trans e2101_94
                have e2106_102 := (hk2106 102 rfl).trans e2101_102
                have e2106_103 := (hk2106 103 rfl).trans e2101_103
                have e2106_104 := (hk2106 104 rfl).trans e2101_104
                obtain ⟨⟨⟨A2103, cA2103⟩, (f_110 : a2106.eval (.tmp 110) = .tuple #[]), (b2106_A2103 : RwO own2106 2104 [] w2106 5 R5 A2103 cA2103 r2102), (b2106_g1070 : BlkO own2106 2105 w2106 g1070 33 #[.slice A2103 r2102.length cA2103])⟩, -⟩ := hf2106 [2] rfl
                have hX2106 := es_ hX2101 hE2106
                have b2106_An1_1 := RdO.evo rfl hE2106 b2101_An1_1
                have b2106_A1895 := RdO.evo rfl hE2106 b2101_A1895
                have b2106_A2050 := RdO.evo rfl hE2106 b2101_A2050
                refine hn2099 _ _ ?_
                refine hn2098 _ _ ?_
                refine rg0 115 own2106 (bz 2) [⟨[], [104], [], Fct.val 111 (.int .i64 (ad x2078 1))⟩, ⟨[0], [], [], Fct.val 104 (.int .i64 (ad x2078 1))⟩] hz2106 hd2106 (by kernel_rfl) ?_ ?_
                · refine sc (fun _ _ _ _ s _ => px (or_add (s.1.trans e2106_104) rfl rfl)) ?_
                  refine sc (fun _ _ _ f _ _ => px (or_move f.1)) ?_
                  exact steps_nil
                intro own2107 a2107 w2107 hd2107 hz2107 hk2107 hf2107 hE2107
                have e2107_5 := (hk2107 5 rfl).trans e2106_5
                have e2107_6 := (hk2107 6 rfl).trans e2106_6
                have e2107_7 := (hk2107 7 rfl).trans e2106_7
                have e2107_82 := (hk2107 82 rfl).trans e2106_82
                have e2107_83 := (hk2107 83 rfl).trans e2106_83
                have e2107_84 := (hk2107 84 rfl).trans e2106_84
                have e2107_92 := (hk2107 92 rfl).trans e2106_92
                have e2107_93 := (hk2107 93 rfl).trans e2106_93
                have e2107_94 := (hk2107 94 rfl).trans e2106_94
                have e2107_102 := (hk2107 102 rfl).trans e2106_102
                have e2107_103 := (hk2107 103 rfl).trans e2106_103
                obtain ⟨(e2107_104 : a2107.eval (.tmp 104) = .int .i64 (ad x2078 1)), -⟩ := hf2107 [1] rfl
                have hX2107 := es_ hX2106 hE2107
                have b2107_An1_1 := RdO.evo rfl hE2107 b2106_An1_1
                have b2107_A1895 := RdO.evo rfl hE2107 b2106_A1895
                have b2107_A2050 := RdO.evo rfl hE2107 b2106_A2050
                have b2107_g1070 := be_ hE2107 b2106_g1070
                have b2107_A2103 := re_ hE2107 b2106_A2103
                exact hn2093 _ _ _ hs ⟨(rl [(2104, 2077), (2105, 2073)] own2107), A2103, cA2103, hd2107, hz2107, e2107_5, e2107_6, e2107_7, e2107_82, e2107_83, e2107_84, e2107_92, e2107_93, e2107_94, e2107_102, e2107_103, e2107_104, (Evo.rl_ hX2107 (fun _ => Nat.le_refl 0) rfl), (BlkO.rl_ (mm := [(2104, 2077), (2105, 2073)]) b2107_g1070), (RwO.rl_ (mm := [(2104, 2077), (2105, 2073)]) b2107_A2103), (RdO.rl_ (mm := [(2104, 2077), (2105, 2073)]) b2107_An1_1), (RdO.rl_ (mm := [(2104, 2077), (2105, 2073)]) b2107_A1895), (RdO.rl_ (mm := [(2104, 2077), (2105, 2073)]) b2107_A2050)⟩
              refine fl_exit ?_
              refine hp2096 _ _ _ rfl ?_
              replace hs := hz2093 _ hs
              refine hp2093 _ _ _ rfl ?_
              refine hx2058 _ _ ?_
              refine hn2048 _ _ ?_
              refine hn2047 _ _ ?_
              refine rg0 115 own2095 (bz 2) [⟨[], [94], [], Fct.val 112 (.int .i64 (ad x1975 1))⟩, ⟨[0], [], [], Fct.val 94 (.int .i64 (ad x1975 1))⟩] hz2095 hd2095 (by kernel_rfl) ?_ ?_
              · refine sc (fun _ _ _ _ s _ => px (or_add (s.1.trans e2095_94) rfl rfl)) ?_
                refine sc (fun _ _ _ f _ _ => px (or_move f.1)) ?_
                exact steps_nil
              intro own2108 a2108 w2108 hd2108 hz2108 hk2108 hf2108 hE2108
              have e2108_5 := (hk2108 5 rfl).trans e2095_5
              have e2108_6 := (hk2108 6 rfl).trans e2095_6
              have e2108_7 := (hk2108 7 rfl).trans e2095_7
              have e2108_82 := (hk2108 82 rfl).trans e2095_82
              have e2108_83 := (hk2108 83 rfl).trans e2095_83
              have e2108_84 := (hk2108 84 rfl).trans e2095_84
              have e2108_92 := (hk2108 92 rfl).trans e2095_92
              have e2108_93 := (hk2108 93 rfl).trans e2095_93
              obtain ⟨(e2108_94 : a2108.eval (.tmp 94) = .int .i64 (ad x1975 1)), -⟩ := hf2108 [1] rfl
              have hX2108 := es_ hX2095 hE2108
              have b2108_g1070 := be_ hE2108 b2095_g1070
              have b2108_A2074 := re_ hE2108 b2095_A2074
              have b2108_An1_1 := RdO.evo rfl hE2108 b2095_An1_1
              have b2108_A1895 := RdO.evo rfl hE2108 b2095_A1895
              exact hn2042 _ _ _ hs ⟨(rl [(2073, 1970), (2077, 1974)] own2108), A2074, c2075, hd2108, hz2108, e2108_5, e2108_6, e2108_7, e2108_82, e2108_83, e2108_84, e2108_92, e2108_93, e2108_94, (Evo.rl_ hX2108 (fun _ => Nat.le_refl 0) rfl), (BlkO.rl_ (mm := [(2073, 1970), (2077, 1974)]) b2108_g1070), (RwO.rl_ (mm := [(2073, 1970), (2077, 1974)]) b2108_A2074), (RdO.rl_ (mm := [(2073, 1970), (2077, 1974)]) b2108_An1_1), (RdO.rl_ (mm := [(2073, 1970), (2077, 1974)]) b2108_A1895)⟩
          refine fl_exit ?_
          refine hp2045 _ _ _ rfl ?_
          replace hs := hz2042 _ hs
          refine hp2042 _ _ _ rfl ?_
          refine hx1903 _ _ ?_
          refine hn1893 _ _ ?_
          refine hn1892 _ _ ?_
          refine rg0 115 own2044 (bz 2) [⟨[], [84], [], Fct.val 113 (.int .i64 (ad x1664 1))⟩, ⟨[0], [], [], Fct.val 84 (.int .i64 (ad x1664 1))⟩] hz2044 hd2044 (by kernel_rfl) ?_ ?_
          · refine sc (fun _ _ _ _ s _ => px (or_add (s.1.trans e2044_84) rfl rfl)) ?_
            refine sc (fun _ _ _ f _ _ => px (or_move f.1)) ?_
            exact steps_nil
          intro own2109 a2109 w2109 hd2109 hz2109 hk2109 hf2109 hE2109
          have e2109_5 := (hk2109 5 rfl).trans e2044_5
          have e2109_6 := (hk2109 6 rfl).trans e2044_6
          have e2109_7 := (hk2109 7 rfl).trans e2044_7
          have e2109_82 := (hk2109 82 rfl).trans e2044_82
          have e2109_83 := (hk2109 83 rfl).trans e2044_83
          obtain ⟨(e2109_84 : a2109.eval (.tmp 84) = .int .i64 (ad x1664 1)), -⟩ := hf2109 [1] rfl
          have hX2109 := es_ hX2044 hE2109
          have b2109_g1070 := be_ hE2109 b2044_g1070
          have b2109_A1971 := re_ hE2109 b2044_A1971
          have b2109_An1_1 := RdO.evo rfl hE2109 b2044_An1_1
          exact hn1887 _ _ _ hs ⟨(rl [(1970, 1659), (1974, 1663)] own2109), A1971, c1972, hd2109, hz2109, e2109_5, e2109_6, e2109_7, e2109_82, e2109_83, e2109_84, (Evo.rl_ hX2109 (fun _ => Nat.le_refl 0) rfl), (BlkO.rl_ (mm := [(1970, 1659), (1974, 1663)]) b2109_g1070), (RwO.rl_ (mm := [(1970, 1659), (1974, 1663)]) b2109_A1971), (RdO.rl_ (mm := [(1970, 1659), (1974, 1663)]) b2109_An1_1)⟩
      refine fl_exit ?_
      refine hp1890 _ _ _ rfl ?_
      replace hs := hz1887 _ hs
      refine hp1887 _ _ _ rfl ?_
      refine hx1436 _ _ ?_
      refine hn1434 _ _ ?_
      refine rg0_seq 115 own1889 (bz 3) [⟨[], [5], [], Fct.val 114 (.slice A1660 out1662.length c1661)⟩, ⟨[0], [], [], Fct.val 2 (.slice A1660 out1662.length c1661)⟩, ⟨[], [], [], Fct.val 3 (.int .i64 0)⟩] hz1889 hd1889 (by kernel_rfl) ?_ ?_
      · refine sc (fun _ _ _ _ s hE => px (or_load1 to33 (s.1.trans e1889_5) (Blk.at_ (be_ hE b1889_g1070).2 0 rfl))) ?_
        refine sc (fun _ _ _ f _ _ => px (or_assign f.1)) ?_
        refine sc (fun _ _ _ _ _ _ => px (or_assign rfl)) ?_
        exact steps_nil
      intro own2110 a2110 w2110 hd2110 hz2110 hk2110 hf2110 hE2110
      obtain ⟨(e2110_2 : a2110.eval (.tmp 2) = .slice A1660 out1662.length c1661), (e2110_3 : a2110.eval (.tmp 3) = .int .i64 0), -⟩ := hf2110 [1, 2] rfl
      have hX2110 := es_ hX1889 hE2110
      have b2110_A1660 := re_ hE2110 b1889_A1660
      refine fl_ret ?_
      obtain rfl := osome hs
      exact hret _ _ _ _ (.inl rfl) hd2110 (results2_ rfl (RVal.tmp_ e2110_2) (RVal.tmp_ e2110_3)) ⟨(rl [(1663, 1)] own2110), (A1660, c1661), rfl, (Evo.rl_ hX2110 (fun _ => Nat.le_refl 0) rfl), (RwO.rl_ (mm := [(1663, 1)]) b2110_A1660)⟩
end Go.Proofs.Ytaobbaohelpdgaa
