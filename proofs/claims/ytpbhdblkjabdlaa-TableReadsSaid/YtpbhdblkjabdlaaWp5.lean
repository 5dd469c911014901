import Derived.Test.YtpbhdblkjabdlaaWp2
import Derived.Test.YtpbhdblkjabdlaaSp5
namespace Go.Proofs.Ytpbhdblkjabdlaa
open Go.RowKit
set_option linter.unusedVariables false
set_option maxRecDepth 10000
theorem ref11_Attrs_w (w : World) (t1 : (List ByteArray) × (List (Int × ByteArray × Int))) (At1_0 : Option Addr) (ct1_0 : Nat) (At1_1 : Option Addr) (ct1_1 : Nat) (tags2 : List Int) (Atags2 : Option Addr) (ctags2 : Nat) (hAt1_0 : RdO (fun _ => 0) [0] w R9 At1_0 ct1_0 t1.1) (hAt1_1 : RdO (fun _ => 0) [0] w R75 At1_1 ct1_1 t1.2) (htags2 : RdO (fun _ => 0) [0] w R3 Atags2 ctags2 tags2) (r : (List (ByteArray × (Int × ByteArray × Int))) × Int) (hs : ref11_Attrs t1 tags2 = some r) :
    Calls Try.prog 10 #[.agg #[.slice At1_0 t1.1.length ct1_0, .slice At1_1 t1.2.length ct1_1], .slice Atags2 tags2.length ctags2] w fun e w' => ∃ (own' : Own) (x : Option Addr × Nat), e = .returned (.tuple #[.slice x.1 r.1.length x.2, .int .i64 r.2]) ∧ Evo [] (fun _ => 0) own' w w' ∧ RwO own' 1 [] w' 77 R77 x.1 x.2 r.1 := by
  refine fl_enter (n := 85) rfl rfl rfl (Nat.le_of_ble_eq_true rfl) ?_
  intro a0 Q hd0 hz0 harg hret
  have ha0 := harg 0 _ rfl
  have ha1 := harg 1 _ rfl
  clear harg
  have hE0 : Evo [] (fun _ => 0) (fun _ => 0) w w := Evo.refl _ _ _
  refine rg0_seq 85 (fun _ => 0) [0, 0, 2] [⟨[], [0], [], Fct.blk 208 2 (fun g => .pointer (some ⟨g, 0, none⟩)) 37 #[.slice At1_0 t1.1.length ct1_0, .slice At1_1 t1.2.length ct1_1]⟩, ⟨[], [], [], Fct.val 4 (.slice none 0 0)⟩, ⟨[], [], [], Fct.val 5 (.int .i64 0)⟩] hz0 hd0 (by kernel_rfl) ?_ ?_
  · refine sc (fun _ _ _ _ s _ => px (or_new [(0, .agg #[.slice At1_0 t1.1.length ct1_0, .slice At1_1 t1.2.length ct1_1])] rfl rfl ⟨(s.1.trans ha0), trivial⟩ (by kernel_rfl))) ?_
    refine sc (fun _ _ _ _ _ _ => px (or_assign rfl)) ?_
    refine sc (fun _ _ _ _ _ _ => px (or_assign rfl)) ?_
    exact steps_nil
  intro own209 a209 w209 hd209 hz209 hk209 hf209 hE209
  have e209_1 := (hk209 1 rfl).trans ha1
  obtain ⟨⟨g207, (e209_2 : a209.eval (.tmp 2) = .pointer (some ⟨g207, 0, none⟩)), (b209_g207 : BlkO own209 208 w209 g207 37 #[.slice At1_0 t1.1.length ct1_0, .slice At1_1 t1.2.length ct1_1])⟩, -⟩ := hf209 [0] rfl
  have hX209 := es_ hE0 hE209
  have b209_At1_0 := RdO.evo rfl hE209 hAt1_0
  have b209_At1_1 := RdO.evo rfl hE209 hAt1_1
  have b209_Atags2 := RdO.evo rfl hE209 htags2
  refine fl_seq (fun Q210 hn210 hp210 => ?_)
  obtain ⟨x211, hx211, hs⟩ := obind hs
  refine rg0_seq 85 own209 (bz 4) [⟨[], [1], [], Fct.val 11 (.slice Atags2 tags2.length ctags2)⟩, ⟨[0], [], [], Fct.val 12 (.int .i64 (tags2.length : Int))⟩, ⟨[1], [], [], Fct.val 13 (.int .i64 x211)⟩, ⟨[2], [], [], Fct.val 14 (.bool (decide (x211 = 1)))⟩] hz209 hd209 (by kernel_rfl) ?_ ?_
  · refine sc (fun _ _ _ _ s _ => px (or_move (s.1.trans e209_1))) ?_
    refine sc (fun _ _ _ f _ _ => px (or_len tu23 f.1 rfl)) ?_
    refine sc (fun _ _ _ f _ _ => px (or_rem f.1 rfl hx211)) ?_
    refine sc (fun _ _ _ f _ _ => px (or_eql f.1 rfl rfl)) ?_
    exact steps_nil
  intro own212 a212 w212 hd212 hz212 hk212 hf212 hE212
  have e212_1 := (hk212 1 rfl).trans e209_1
  have e212_2 := (hk212 2 rfl).trans e209_2
  obtain ⟨(e212_14 : a212.eval (.tmp 14) = .bool (decide (x211 = 1))), -⟩ := hf212 [3] rfl
  have hX212 := es_ hX209 hE212
  have b212_At1_0 := RdO.evo rfl hE212 b209_At1_0
  have b212_At1_1 := RdO.evo rfl hE212 b209_At1_1
  have b212_Atags2 := RdO.evo rfl hE212 b209_Atags2
  have b212_g207 := be_ hE212 b209_g207
  refine fl_cond e212_14 hs (fun c213 hs => ?_) (fun c213 hs => ?_)
  · refine rg0_seq 85 own212 (bz 2) [⟨[], [], [], Fct.val 4 (.slice none 0 0)⟩, ⟨[], [], [], Fct.val 5 (.int .i64 3)⟩] hz212 hd212 (by kernel_rfl) ?_ ?_
    · refine sc (fun _ _ _ _ _ _ => px (or_assign rfl)) ?_
      refine sc (fun _ _ _ _ _ _ => px (or_assign rfl)) ?_
      exact steps_nil
    intro own214 a214 w214 hd214 hz214 hk214 hf214 hE214
    obtain ⟨(e214_4 : a214.eval (.tmp 4) = .slice none 0 0), (e214_5 : a214.eval (.tmp 5) = .int .i64 3), -⟩ := hf214 [0, 1] rfl
    have hX214 := es_ hX212 hE214
    refine fl_ret ?_
    refine hp210 _ _ _ rfl ?_
    obtain rfl := osome hs
    exact hret _ _ _ _ (.inl rfl) hd214 (results2_ rfl (RVal.tmp_ e214_4) (RVal.tmp_ e214_5)) ⟨own214, (none, 0), rfl, hX214, RwO.nil_⟩
  refine fl_skip ?_
  refine hn210 _ _ ?_
  refine fl_seq (fun Q215 hn215 hp215 => ?_)
  refine rg0_seq 85 own212 (bz 3) [⟨[], [1], [], Fct.val 15 (.slice Atags2 tags2.length ctags2)⟩, ⟨[0], [], [], Fct.val 16 (.int .i64 (tags2.length : Int))⟩, ⟨[1], [], [], Fct.val 17 (.bool (decide (16 < (tags2.length : Int))))⟩] hz212 hd212 (by kernel_rfl) ?_ ?_
  · refine sc (fun _ _ _ _ s _ => px (or_move (s.1.trans e212_1))) ?_
    refine sc (fun _ _ _ f _ _ => px (or_len tu23 f.1 rfl)) ?_
    refine sc (fun _ _ _ f _ _ => px (or_gtr f.1 rfl rfl)) ?_
    exact steps_nil
  intro own216 a216 w216 hd216 hz216 hk216 hf216 hE216
  have e216_1 := (hk216 1 rfl).trans e212_1
  have e216_2 := (hk216 2 rfl).trans e212_2
  obtain ⟨(e216_17 : a216.eval (.tmp 17) = .bool (decide (16 < (tags2.length : Int)))), -⟩ := hf216 [2] rfl
  have hX216 := es_ hX212 hE216
  have b216_At1_0 := RdO.evo rfl hE216 b212_At1_0
  have b216_At1_1 := RdO.evo rfl hE216 b212_At1_1
  have b216_Atags2 := RdO.evo rfl hE216 b212_Atags2
  have b216_g207 := be_ hE216 b212_g207
  refine fl_cond e216_17 hs (fun c217 hs => ?_) (fun c217 hs => ?_)
  · refine rg0_seq 85 own216 (bz 2) [⟨[], [], [], Fct.val 4 (.slice none 0 0)⟩, ⟨[], [], [], Fct.val 5 (.int .i64 6)⟩] hz216 hd216 (by kernel_rfl) ?_ ?_
    · refine sc (fun _ _ _ _ _ _ => px (or_assign rfl)) ?_
      refine sc (fun _ _ _ _ _ _ => px (or_assign rfl)) ?_
      exact steps_nil
    intro own218 a218 w218 hd218 hz218 hk218 hf218 hE218
    obtain ⟨(e218_4 : a218.eval (.tmp 4) = .slice none 0 0), (e218_5 : a218.eval (.tmp 5) = .int .i64 6), -⟩ := hf218 [0, 1] rfl
    have hX218 := es_ hX216 hE218
    refine fl_ret ?_
    refine hp215 _ _ _ rfl ?_
    obtain rfl := osome hs
    exact hret _ _ _ _ (.inl rfl) hd218 (results2_ rfl (RVal.tmp_ e218_4) (RVal.tmp_ e218_5)) ⟨own218, (none, 0), rfl, hX218, RwO.nil_⟩
  refine fl_skip ?_
  refine hn215 _ _ ?_
  refine rg0_seq 85 own216 (bz 1) [⟨[], [], [], Fct.val 6 (.slice none 0 0)⟩] hz216 hd216 (by kernel_rfl) ?_ ?_
  · refine sc (fun _ _ _ _ _ _ => px (or_assign rfl)) ?_
    exact steps_nil
  intro own219 a219 w219 hd219 hz219 hk219 hf219 hE219
  have e219_1 := (hk219 1 rfl).trans e216_1
  have e219_2 := (hk219 2 rfl).trans e216_2
  obtain ⟨(e219_6 : a219.eval (.tmp 6) = .slice none 0 0), -⟩ := hf219 [0] rfl
  have hX219 := es_ hX216 hE219
  have b219_At1_0 := RdO.evo rfl hE219 b216_At1_0
  have b219_At1_1 := RdO.evo rfl hE219 b216_At1_1
  have b219_Atags2 := RdO.evo rfl hE219 b216_Atags2
  have b219_g207 := be_ hE219 b216_g207
  refine fl_seq (fun Q220 hn220 hp220 => ?_)
  refine rg0_seq 85 own219 (bz 1) [⟨[], [], [], Fct.val 7 (.int .i64 0)⟩] hz219 hd219 (by kernel_rfl) ?_ ?_
  · refine sc (fun _ _ _ _ _ _ => px (or_assign rfl)) ?_
    exact steps_nil
  intro own221 a221 w221 hd221 hz221 hk221 hf221 hE221
  have e221_1 := (hk221 1 rfl).trans e219_1
  have e221_2 := (hk221 2 rfl).trans e219_2
  have e221_6 := (hk221 6 rfl).trans e219_6
  obtain ⟨(e221_7 : a221.eval (.tmp 7) = .int .i64 0), -⟩ := hf221 [0] rfl
  have hX221 := es_ hX219 hE221
  have b221_At1_0 := RdO.evo rfl hE221 b219_At1_0
  have b221_At1_1 := RdO.evo rfl hE221 b219_At1_1
  have b221_Atags2 := RdO.evo rfl hE221 b219_Atags2
  have b221_g207 := be_ hE221 b219_g207
  refine fl_block (fun Q222 hn222 hx222 hp222 => ?_)
  refine fl_loop (body := (fun s => ref11_Attrs_b1 t1 tags2 s.1 s.2)) (z := r) (show loopO _ _ = _ from hs) (fun (s : (List (ByteArray × (Int × ByteArray × Int))) × Int) a wx => match s with | (out260, i262) => ∃ (ox : Own) (A258 : Option Addr) (c259 : Nat), a.defers = [] ∧ a.tmps.size = 85 ∧ a.eval (.tmp 1) = .slice Atags2 tags2.length ctags2 ∧ a.eval (.tmp 2) = .pointer (some ⟨g207, 0, none⟩) ∧ a.eval (.tmp 6) = .slice A258 out260.length c259 ∧ a.eval (.tmp 7) = .int .i64 i262 ∧ Evo [] (fun _ => 0) ox w wx ∧ RdO ox [0] wx R3 Atags2 ctags2 tags2 ∧ BlkO ox 208 wx g207 37 #[.slice At1_0 t1.1.length ct1_0, .slice At1_1 t1.2.length ct1_1] ∧ RdO ox [0] wx R9 At1_0 ct1_0 t1.1 ∧ RdO ox [0] wx R75 At1_1 ct1_1 t1.2 ∧ RwO ox 261 [] wx 77 R77 A258 c259 out260) ?_ ?_
  · exact ⟨own221, none, 0, hd221, hz221, e221_1, e221_2, e221_6, e221_7, hX221, b221_Atags2, b221_g207, b221_At1_0, b221_At1_1, RwO.nil_⟩
  · rintro ⟨out260, i262⟩ zz332 a332 w332 ⟨own332, A258, c259, hd333, hz333, e333_1, e333_2, e333_6, e333_7, hE333, b333_Atags2, b333_g207, b333_At1_0, b333_At1_1, b333_A258⟩ hs Q332 hn332 hp332 hz332
    have hs : ref11_Attrs_b1 t1 tags2 out260 i262 = some zz332 := hs
    refine fl_seq (fun Q334 hn334 hp334 => ?_)
    refine rg0_seq 85 own332 [0, 0, 2, 7] [⟨[], [7], [], Fct.val 18 (.int .i64 i262)⟩, ⟨[], [1], [], Fct.val 19 (.slice Atags2 tags2.length ctags2)⟩, ⟨[1], [], [], Fct.val 20 (.int .i64 (tags2.length : Int))⟩, ⟨[0, 2], [], [], Fct.val 21 (.bool (decide (i262 < (tags2.length : Int))))⟩] hz333 hd333 (by kernel_rfl) ?_ ?_
    · refine sc (fun _ _ _ _ s _ => px (or_move (s.1.trans e333_7))) ?_
      refine sc (fun _ _ _ _ s _ => px (or_move (s.1.trans e333_1))) ?_
      refine sc (fun _ _ _ f _ _ => px (or_len tu23 f.1 rfl)) ?_
      refine sc (fun _ _ _ f _ _ => px (or_lss f.1 f.2.1 rfl)) ?_
      exact steps_nil
    intro own335 a335 w335 hd335 hz335 hk335 hf335 hE335
    have e335_1 := (hk335 1 rfl).trans e333_1
    have e335_2 := (hk335 2 rfl).trans e333_2
    have e335_6 := (hk335 6 rfl).trans e333_6
    have e335_7 := (hk335 7 rfl).trans e333_7
    obtain ⟨(e335_21 : a335.eval (.tmp 21) = .bool (decide (i262 < (tags2.length : Int)))), -⟩ := hf335 [3] rfl
    have hX335 := es_ hE333 hE335
    have b335_Atags2 := RdO.evo rfl hE335 b333_Atags2
    have b335_g207 := be_ hE335 b333_g207
    have b335_At1_0 := RdO.evo rfl hE335 b333_At1_0
    have b335_At1_1 := RdO.evo rfl hE335 b333_At1_1
    have b335_A258 := re_ hE335 b333_A258
    refine fl_cond e335_21 hs (fun c336 hs => ?_) (fun c336 hs => ?_)
    · refine fl_skip ?_
      refine hn334 _ _ ?_
      refine fl_seq (fun Q337 hn337 hp337 => ?_)
      refine fl_block (fun Q338 hn338 hx338 hp338 => ?_)
      obtain ⟨x339, hx339, hs⟩ := obind hs
      obtain ⟨x340, hx340, hs⟩ := obind hs
      refine rg_draw_seq g_mixed (n := 85) (rs := []) (own0 := own335) (K := []) (bs := [0, 0, 3, 7, 0, 0, 32, 112, 240, 15, 1023]) (ds := [⟨[], [1], [], Fct.val 24 (.slice Atags2 tags2.length ctags2)⟩, ⟨[], [7], [], Fct.val 25 (.int .i64 i262)⟩, ⟨[0, 1], [], [], Fct.val 26 (.pointer (some ((adr Atags2).add ((i262 : Int).toNat * R3.s))))⟩, ⟨[2], [], [], Fct.val 27 (.int .i64 x339)⟩, ⟨[], [1], [], Fct.val 28 (.slice Atags2 tags2.length ctags2)⟩, ⟨[], [7], [], Fct.val 29 (.int .i64 i262)⟩, ⟨[5], [], [], Fct.val 30 (.int .i64 (ad i262 1))⟩, ⟨[4, 6], [], [], Fct.val 31 (.pointer (some ((adr Atags2).add ((ad i262 1 : Int).toNat * R3.s))))⟩, ⟨[7], [], [], Fct.val 32 (.int .i64 x340)⟩, ⟨[3], [], [], Fct.val 8 (.int .i64 x339)⟩, ⟨[8], [], [], Fct.val 9 (.int .i64 x340)⟩]) (by kernel_rfl) hz335 hd335 nm_ ?_ ?_
      · refine sc (fun _ _ _ _ s _ => px (or_move (s.1.trans e335_1))) ?_
        refine sc (fun _ _ _ _ s _ => px (or_move (s.1.trans e335_7))) ?_
        refine sc (fun _ _ _ f _ _ => px (or_index (R := R3) (l := tags2) tl23 f.1 f.2.1 (RdO.some_ b335_Atags2 hx339) hx339)) ?_
        refine sc (fun _ _ _ f _ hE => px (or_load1 to3 f.1 (CellsAt.zero (RdO.cells (F := E3) (RdO.evo rfl hE b335_Atags2) hx339) rfl))) ?_
        refine sc (fun _ _ _ _ s _ => px (or_move (s.1.trans e335_1))) ?_
        refine sc (fun _ _ _ _ s _ => px (or_move (s.1.trans e335_7))) ?_
        refine sc (fun _ _ _ f _ _ => px (or_add f.1 rfl rfl)) ?_
        refine sc (fun _ _ _ f _ _ => px (or_index (R := R3) (l := tags2) tl23 f.1 f.2.1 (RdO.some_ b335_Atags2 hx340) hx340)) ?_
        refine sc (fun _ _ _ f _ hE => px (or_load1 to3 f.1 (CellsAt.zero (RdO.cells (F := E3) (RdO.evo rfl hE b335_Atags2) hx340) rfl))) ?_
        refine sc (fun _ _ _ f _ _ => px (or_assign f.1)) ?_
        refine sc (fun _ _ _ f _ _ => px (or_assign f.1)) ?_
        exact steps_nil
      intro own341 a341 w341 hd341 hz341 hk341 hf341 hE341
      have e341_1 := (hk341 1 rfl).trans e335_1
      have e341_2 := (hk341 2 rfl).trans e335_2
      have e341_6 := (hk341 6 rfl).trans e335_6
      have e341_7 := (hk341 7 rfl).trans e335_7
      obtain ⟨(e341_8 : a341.eval (.tmp 8) = .int .i64 x339), (e341_9 : a341.eval (.tmp 9) = .int .i64 x340), -⟩ := hf341 [9, 10] rfl
      have hX341 := es_ hX335 hE341
      have b341_Atags2 := RdO.evo rfl hE341 b335_Atags2
      have b341_g207 := be_ hE341 b335_g207
      have b341_At1_0 := RdO.evo rfl hE341 b335_At1_0
      have b341_At1_1 := RdO.evo rfl hE341 b335_At1_1
      have b341_A258 := re_ hE341 b335_A258
      refine fl_seq (fun Q342 hn342 hp342 => ?_)
      obtain ⟨x343, hx343, hs⟩ := obind hs
      obtain ⟨x344, hx344, hs⟩ := obind hs
      refine rg0_seq 85 own341 [0, 1, 3, 7, 7, 23, 55, 127, 255, 511, 1023, 2047, 4095, 8191, 16383, 16383, 49151, 114687, 262143, 524287] [⟨[], [8], [], Fct.val 33 (.int .i64 x339)⟩, ⟨[0], [], [], Fct.val 34 (.bool (decide (x339 < 0)))⟩, ⟨[1], [], [], Fct.val 35 (.bool (decide (x339 < 0)))⟩, ⟨[2], [8], [], Fct.cond (!(decide (x339 < 0))) (some 36) (Fct.val 36 (.int .i64 x339))⟩, ⟨[2], [2], [], Fct.cond (!(decide (x339 < 0))) (some 37) (Fct.val 37 (.pointer (some ⟨g207, 0, none⟩)))⟩, ⟨[2, 4], [], [], Fct.cond (!(decide (x339 < 0))) (some 38) (Fct.val 38 (.slice At1_0 t1.1.length ct1_0))⟩, ⟨[2, 5], [], [], Fct.cond (!(decide (x339 < 0))) (some 39) (Fct.val 39 (.int .i64 (t1.1.length : Int)))⟩, ⟨[2, 3, 6], [], [], Fct.cond (!(decide (x339 < 0))) (some 40) (Fct.val 40 (.bool (decide ((t1.1.length : Int) ≤ x339))))⟩, ⟨[2, 7], [], [], Fct.val 41 (.bool x343)⟩, ⟨[8], [], [], Fct.val 42 (.bool x343)⟩, ⟨[9], [9], [], Fct.cond (!x343) (some 43) (Fct.val 43 (.int .i64 x340))⟩, ⟨[9, 10], [], [], Fct.cond (!x343) (some 44) (Fct.val 44 (.bool (decide (x340 < 0))))⟩, ⟨[9, 11], [], [], Fct.val 45 (.bool (x343 || (decide (x340 < 0))))⟩, ⟨[12], [], [], Fct.val 46 (.bool (x343 || (decide (x340 < 0))))⟩, ⟨[13], [9], [], Fct.cond (!(x343 || (decide (x340 < 0)))) (some 47) (Fct.val 47 (.int .i64 x340))⟩, ⟨[13], [2], [], Fct.cond (!(x343 || (decide (x340 < 0)))) (some 48) (Fct.val 48 (.pointer (some ⟨g207, 1, none⟩)))⟩, ⟨[13, 15], [], [], Fct.cond (!(x343 || (decide (x340 < 0)))) (some 49) (Fct.val 49 (.slice At1_1 t1.2.length ct1_1))⟩, ⟨[13, 16], [], [], Fct.cond (!(x343 || (decide (x340 < 0)))) (some 50) (Fct.val 50 (.int .i64 (t1.2.length : Int)))⟩, ⟨[13, 14, 17], [], [], Fct.cond (!(x343 || (decide (x340 < 0)))) (some 51) (Fct.val 51 (.bool (decide ((t1.2.length : Int) ≤ x340))))⟩, ⟨[13, 18], [], [], Fct.val 52 (.bool x344)⟩] hz341 hd341 (by kernel_rfl) ?_ ?_
      · refine sc (fun _ _ _ _ s _ => px (or_move (s.1.trans e341_8))) ?_
        refine sc (fun _ _ _ f _ _ => px (or_lss f.1 rfl rfl)) ?_
        refine sc (fun _ _ _ f _ _ => px (or_move f.1)) ?_
        refine sc (fun _ _ _ f s _ => sg_f rfl rfl rfl f.1 (fun hg => or_move (s.1.trans e341_8))) ?_
        refine sc (fun _ _ _ f s _ => sg_f rfl rfl rfl f.1 (fun hg => or_field fo37_0 (s.1.trans e341_2) (by rfl))) ?_
        refine sc (fun _ _ _ f _ hE => sg_f rfl rfl rfl f.1 (fun hg => or_load1 to34 (f.2.1.1 hg) (Blk.at_ (be_ hE b341_g207).2 0 rfl))) ?_
        refine sc (fun _ _ _ f _ _ => sg_f rfl rfl rfl f.1 (fun hg => or_len tu34 (f.2.1.1 hg) rfl)) ?_
        refine sc (fun _ _ _ f _ _ => sg_f rfl rfl rfl f.1 (fun hg => or_geq (f.2.1.1 hg) (f.2.2.1.1 hg) rfl)) ?_
        refine sc (fun _ _ _ f _ _ => px (or_or f.1 rfl (fun hx => f.2.1.1 hx) (osome hx343).symm)) ?_
        refine sc (fun _ _ _ f _ _ => px (or_move f.1)) ?_
        refine sc (fun _ _ _ f s _ => sg_f rfl rfl rfl f.1 (fun hg => or_move (s.1.trans e341_9))) ?_
        refine sc (fun _ _ _ f _ _ => sg_f rfl rfl rfl f.1 (fun hg => or_lss (f.2.1.1 hg) rfl rfl)) ?_
        refine sc (fun _ _ _ f _ _ => px (or_or f.1 rfl (fun hx => f.2.1.1 hx) rfl)) ?_
        refine sc (fun _ _ _ f _ _ => px (or_move f.1)) ?_
        refine sc (fun _ _ _ f s _ => sg_f rfl rfl rfl f.1 (fun hg => or_move (s.1.trans e341_9))) ?_
        refine sc (fun _ _ _ f s _ => sg_f rfl rfl rfl f.1 (fun hg => or_field fo37_1 (s.1.trans e341_2) (by rfl))) ?_
        refine sc (fun _ _ _ f _ hE => sg_f rfl rfl rfl f.1 (fun hg => or_load1 to35 (f.2.1.1 hg) (Blk.at_ (be_ hE b341_g207).2 1 rfl))) ?_
        refine sc (fun _ _ _ f _ _ => sg_f rfl rfl rfl f.1 (fun hg => or_len tu35 (f.2.1.1 hg) rfl)) ?_
        refine sc (fun _ _ _ f _ _ => sg_f rfl rfl rfl f.1 (fun hg => or_geq (f.2.1.1 hg) (f.2.2.1.1 hg) rfl)) ?_
        refine sc (fun _ _ _ f _ _ => px (or_or f.1 rfl (fun hx => f.2.1.1 hx) (osome hx344).symm)) ?_
        exact steps_nil
      intro own345 a345 w345 hd345 hz345 hk345 hf345 hE345
      have e345_1 := (hk345 1 rfl).trans e341_1
      have e345_2 := (hk345 2 rfl).trans e341_2
      have e345_6 := (hk345 6 rfl).trans e341_6
      have e345_7 := (hk345 7 rfl).trans e341_7
      have e345_8 := (hk345 8 rfl).trans e341_8
      have e345_9 := (hk345 9 rfl).trans e341_9
      obtain ⟨(e345_52 : a345.eval (.tmp 52) = .bool x344), -⟩ := hf345 [19] rfl
      have hX345 := es_ hX341 hE345
      have b345_Atags2 := RdO.evo rfl hE345 b341_Atags2
      have b345_g207 := be_ hE345 b341_g207
      have b345_At1_0 := RdO.evo rfl hE345 b341_At1_0
      have b345_At1_1 := RdO.evo rfl hE345 b341_At1_1
      have b345_A258 := re_ hE345 b341_A258
      refine fl_cond e345_52 hs (fun c346 hs => ?_) (fun c346 hs => ?_)
      · refine rg0_seq 85 own345 (bz 2) [⟨[], [], [], Fct.val 4 (.slice none 0 0)⟩, ⟨[], [], [], Fct.val 5 (.int .i64 5)⟩] hz345 hd345 (by kernel_rfl) ?_ ?_
        · refine sc (fun _ _ _ _ _ _ => px (or_assign rfl)) ?_
          refine sc (fun _ _ _ _ _ _ => px (or_assign rfl)) ?_
          exact steps_nil
        intro own347 a347 w347 hd347 hz347 hk347 hf347 hE347
        obtain ⟨(e347_4 : a347.eval (.tmp 4) = .slice none 0 0), (e347_5 : a347.eval (.tmp 5) = .int .i64 5), -⟩ := hf347 [0, 1] rfl
        have hX347 := es_ hX345 hE347
        refine fl_ret ?_
        refine hp342 _ _ _ rfl ?_
        refine hp338 _ _ _ rfl ?_
        refine hp337 _ _ _ rfl ?_
        replace hs := hz332 _ hs
        refine hp332 _ _ _ rfl ?_
        refine hp222 _ _ _ rfl ?_
        refine hp220 _ _ _ rfl ?_
        obtain rfl := osome hs
        exact hret _ _ _ _ (.inl rfl) hd347 (results2_ rfl (RVal.tmp_ e347_4) (RVal.tmp_ e347_5)) ⟨own347, (none, 0), rfl, hX347, RwO.nil_⟩
      refine fl_skip ?_
      refine hn342 _ _ ?_
      refine fl_seq (fun Q348 hn348 hp348 => ?_)
      refine rg0_seq 85 own345 (bz 1) [⟨[], [], [], Fct.val 10 (.int .i64 0)⟩] hz345 hd345 (by kernel_rfl) ?_ ?_
      · refine sc (fun _ _ _ _ _ _ => px (or_assign rfl)) ?_
        exact steps_nil
      intro own349 a349 w349 hd349 hz349 hk349 hf349 hE349
      have e349_1 := (hk349 1 rfl).trans e345_1
      have e349_2 := (hk349 2 rfl).trans e345_2
      have e349_6 := (hk349 6 rfl).trans e345_6
      have e349_7 := (hk349 7 rfl).trans e345_7
      have e349_8 := (hk349 8 rfl).trans e345_8
      have e349_9 := (hk349 9 rfl).trans e345_9
      obtain ⟨(e349_10 : a349.eval (.tmp 10) = .int .i64 0), -⟩ := hf349 [0] rfl
      have hX349 := es_ hX345 hE349
      have b349_Atags2 := RdO.evo rfl hE349 b345_Atags2
      have b349_g207 := be_ hE349 b345_g207
      have b349_At1_0 := RdO.evo rfl hE349 b345_At1_0
      have b349_At1_1 := RdO.evo rfl hE349 b345_At1_1
      have b349_A258 := re_ hE349 b345_A258
      refine fl_block (fun Q350 hn350 hx350 hp350 => ?_)
      refine fl_loop (body := (fun s => ref11_Attrs_b2 t1 out260 i262 x339 x340 s)) (z := zz332) (show loopO _ _ = _ from hs) (fun (j363 : Int) a wx => ∃ (ox : Own), a.defers = [] ∧ a.tmps.size = 85 ∧ a.eval (.tmp 1) = .slice Atags2 tags2.length ctags2 ∧ a.eval (.tmp 2) = .pointer (some ⟨g207, 0, none⟩) ∧ a.eval (.tmp 6) = .slice A258 out260.length c259 ∧ a.eval (.tmp 7) = .int .i64 i262 ∧ a.eval (.tmp 8) = .int .i64 x339 ∧ a.eval (.tmp 9) = .int .i64 x340 ∧ a.eval (.tmp 10) = .int .i64 j363 ∧ Evo [] (fun _ => 0) ox w wx ∧ RdO ox [0] wx R3 Atags2 ctags2 tags2 ∧ BlkO ox 208 wx g207 37 #[.slice At1_0 t1.1.length ct1_0, .slice At1_1 t1.2.length ct1_1] ∧ RdO ox [0] wx R9 At1_0 ct1_0 t1.1 ∧ RdO ox [0] wx R75 At1_1 ct1_1 t1.2 ∧ RwO ox 261 [] wx 77 R77 A258 c259 out260) ?_ ?_
      · exact ⟨own349, hd349, hz349, e349_1, e349_2, e349_6, e349_7, e349_8, e349_9, e349_10, hX349, b349_Atags2, b349_g207, b349_At1_0, b349_At1_1, b349_A258⟩
      · rintro j363 zz376 a376 w376 ⟨own376, hd377, hz377, e377_1, e377_2, e377_6, e377_7, e377_8, e377_9, e377_10, hE377, b377_Atags2, b377_g207, b377_At1_0, b377_At1_1, b377_A258⟩ hs Q376 hn376 hp376 hz376
        have hs : ref11_Attrs_b2 t1 out260 i262 x339 x340 j363 = some zz376 := hs
        refine fl_seq (fun Q378 hn378 hp378 => ?_)
        refine rg0_seq 85 own376 [0, 0, 2, 7] [⟨[], [10], [], Fct.val 53 (.int .i64 j363)⟩, ⟨[], [6], [], Fct.val 54 (.slice A258 out260.length c259)⟩, ⟨[1], [], [], Fct.val 55 (.int .i64 (out260.length : Int))⟩, ⟨[0, 2], [], [], Fct.val 56 (.bool (decide (j363 < (out260.length : Int))))⟩] hz377 hd377 (by kernel_rfl) ?_ ?_
        · refine sc (fun _ _ _ _ s _ => px (or_move (s.1.trans e377_10))) ?_
          refine sc (fun _ _ _ _ s _ => px (or_move (s.1.trans e377_6))) ?_
          refine sc (fun _ _ _ f _ _ => px (or_len tu31 f.1 rfl)) ?_
          refine sc (fun _ _ _ f _ _ => px (or_lss f.1 f.2.1 rfl)) ?_
          exact steps_nil
        intro own379 a379 w379 hd379 hz379 hk379 hf379 hE379
        have e379_1 := (hk379 1 rfl).trans e377_1
        have e379_2 := (hk379 2 rfl).trans e377_2
        have e379_6 := (hk379 6 rfl).trans e377_6
        have e379_7 := (hk379 7 rfl).trans e377_7
        have e379_8 := (hk379 8 rfl).trans e377_8
        have e379_9 := (hk379 9 rfl).trans e377_9
        have e379_10 := (hk379 10 rfl).trans e377_10
        obtain ⟨(e379_56 : a379.eval (.tmp 56) = .bool (decide (j363 < (out260.length : Int)))), -⟩ := hf379 [3] rfl
        have hX379 := es_ hE377 hE379
        have b379_Atags2 := RdO.evo rfl hE379 b377_Atags2
        have b379_g207 := be_ hE379 b377_g207
        have b379_At1_0 := RdO.evo rfl hE379 b377_At1_0
        have b379_At1_1 := RdO.evo rfl hE379 b377_At1_1
        have b379_A258 := re_ hE379 b377_A258
        refine fl_cond e379_56 hs (fun c380 hs => ?_) (fun c380 hs => ?_)
        · refine fl_skip ?_
          refine hn378 _ _ ?_
          refine fl_seq (fun Q381 hn381 hp381 => ?_)
          refine fl_block (fun Q382 hn382 hx382 hp382 => ?_)
          obtain ⟨x383, hx383, hs⟩ := obind hs
          obtain ⟨x384, hx384, hs⟩ := obind hs
          refine rg_draw_seq g_mixed (n := 85) (rs := []) (own0 := own379) (K := []) (bs := [0, 0, 3, 7, 15, 0, 32, 0, 224, 480, 1023]) (ds := [⟨[], [6], [], Fct.val 59 (.slice A258 out260.length c259)⟩, ⟨[], [10], [], Fct.val 60 (.int .i64 j363)⟩, ⟨[0, 1], [], [], Fct.val 61 (.pointer (some ((adr A258).add ((j363 : Int).toNat * R77.s))))⟩, ⟨[2], [], [], Fct.val 62 (.pointer (some ((adr A258).add ((j363 : Int).toNat * R77.s))))⟩, ⟨[3], [], [], Fct.val 63 (.string x383.1)⟩, ⟨[], [2], [], Fct.val 64 (.pointer (some ⟨g207, 0, none⟩))⟩, ⟨[5], [], [], Fct.val 65 (.slice At1_0 t1.1.length ct1_0)⟩, ⟨[], [8], [], Fct.val 66 (.int .i64 x339)⟩, ⟨[6, 7], [], [], Fct.val 67 (.pointer (some ((adr At1_0).add ((x339 : Int).toNat * R9.s))))⟩, ⟨[8], [], [], Fct.val 68 (.string x384)⟩, ⟨[4, 9], [], [], Fct.val 69 (.bool (eqS x383.1 x384))⟩]) (by kernel_rfl) hz379 hd379 nm_ ?_ ?_
          · refine sc (fun _ _ _ _ s _ => px (or_move (s.1.trans e379_6))) ?_
            refine sc (fun _ _ _ _ s _ => px (or_move (s.1.trans e379_10))) ?_
            refine sc (fun _ _ _ f _ _ => px (or_index (R := R77) (l := out260) tl31 f.1 f.2.1 (RdO.some_ (RwO.rd b379_A258) hx383) hx383)) ?_
            refine sc (fun _ _ _ f _ _ => px (or_field fo77_0 f.1 (Addr.add_zero' _))) ?_
            refine sc (fun _ _ _ f _ hE => px (or_load1 to9 f.1 (CellsAt.zero (RdO.cells (F := E77) (RwO.rd (re_ hE b379_A258)) hx383) rfl))) ?_
            refine sc (fun _ _ _ _ s _ => px (or_field fo37_0 (s.1.trans e379_2) (by rfl))) ?_
            refine sc (fun _ _ _ f _ hE => px (or_load1 to34 f.1 (Blk.at_ (be_ hE b379_g207).2 0 rfl))) ?_
            refine sc (fun _ _ _ _ s _ => px (or_move (s.1.trans e379_8))) ?_
            refine sc (fun _ _ _ f _ _ => px (or_index (R := R9) (l := t1.1) tl34 f.1 f.2.1 (RdO.some_ b379_At1_0 hx384) hx384)) ?_
            refine sc (fun _ _ _ f _ hE => px (or_load1 to9 f.1 (CellsAt.zero (RdO.cells (F := E9) (RdO.evo rfl hE b379_At1_0) hx384) rfl))) ?_
            refine sc (fun _ _ _ f _ _ => px (or_eqlS tS9 f.1 f.2.1 rfl)) ?_
            exact steps_nil
          intro own385 a385 w385 hd385 hz385 hk385 hf385 hE385
          have e385_1 := (hk385 1 rfl).trans e379_1
          have e385_2 := (hk385 2 rfl).trans e379_2
          have e385_6 := (hk385 6 rfl).trans e379_6
          have e385_7 := (hk385 7 rfl).trans e379_7
          have e385_8 := (hk385 8 rfl).trans e379_8
          have e385_9 := (hk385 9 rfl).trans e379_9
          have e385_10 := (hk385 10 rfl).trans e379_10
          obtain ⟨(e385_69 : a385.eval (.tmp 69) = .bool (eqS x383.1 x384)), -⟩ := hf385 [10] rfl
          have hX385 := es_ hX379 hE385
          have b385_Atags2 := RdO.evo rfl hE385 b379_Atags2
          have b385_g207 := be_ hE385 b379_g207
          have b385_At1_0 := RdO.evo rfl hE385 b379_At1_0
          have b385_At1_1 := RdO.evo rfl hE385 b379_At1_1
          have b385_A258 := re_ hE385 b379_A258
          refine fl_cond e385_69 hs (fun c386 hs => ?_) (fun c386 hs => ?_)
          · refine rg0_seq 85 own385 (bz 2) [⟨[], [], [], Fct.val 4 (.slice none 0 0)⟩, ⟨[], [], [], Fct.val 5 (.int .i64 8)⟩] hz385 hd385 (by kernel_rfl) ?_ ?_
            · refine sc (fun _ _ _ _ _ _ => px (or_assign rfl)) ?_
              refine sc (fun _ _ _ _ _ _ => px (or_assign rfl)) ?_
              exact steps_nil
            intro own387 a387 w387 hd387 hz387 hk387 hf387 hE387
            obtain ⟨(e387_4 : a387.eval (.tmp 4) = .slice none 0 0), (e387_5 : a387.eval (.tmp 5) = .int .i64 8), -⟩ := hf387 [0, 1] rfl
            have hX387 := es_ hX385 hE387
            refine fl_ret ?_
            refine hp382 _ _ _ rfl ?_
            refine hp381 _ _ _ rfl ?_
            replace hs := hz376 _ hs
            refine hp376 _ _ _ rfl ?_
            refine hp350 _ _ _ rfl ?_
            refine hp348 _ _ _ rfl ?_
            refine hp338 _ _ _ rfl ?_
            refine hp337 _ _ _ rfl ?_
            replace hs := hz332 _ hs
            refine hp332 _ _ _ rfl ?_
            refine hp222 _ _ _ rfl ?_
            refine hp220 _ _ _ rfl ?_
            obtain rfl := osome hs
            exact hret _ _ _ _ (.inl rfl) hd387 (results2_ rfl (RVal.tmp_ e387_4) (RVal.tmp_ e387_5)) ⟨own387, (none, 0), rfl, hX387, RwO.nil_⟩
          refine fl_skip ?_
          refine hn382 _ _ ?_
          refine hn381 _ _ ?_
          refine rg0 85 own385 (bz 3) [⟨[], [10], [], Fct.val 57 (.int .i64 j363)⟩, ⟨[0], [], [], Fct.val 58 (.int .i64 (ad j363 1))⟩, ⟨[1], [], [], Fct.val 10 (.int .i64 (ad j363 1))⟩] hz385 hd385 (by kernel_rfl) ?_ ?_
          · refine sc (fun _ _ _ _ s _ => px (or_move (s.1.trans e385_10))) ?_
            refine sc (fun _ _ _ f _ _ => px (or_add f.1 rfl rfl)) ?_
            refine sc (fun _ _ _ f _ _ => px (or_assign f.1)) ?_
            exact steps_nil
          intro own388 a388 w388 hd388 hz388 hk388 hf388 hE388
          have e388_1 := (hk388 1 rfl).trans e385_1
          have e388_2 := (hk388 2 rfl).trans e385_2
          have e388_6 := (hk388 6 rfl).trans e385_6
          have e388_7 := (hk388 7 rfl).trans e385_7
          have e388_8 := (hk388 8 rfl).trans e385_8
          have e388_9 := (hk388 9 rfl).trans e385_9
          obtain ⟨(e388_10 : a388.eval (.tmp 10) = .int .i64 (ad j363 1)), -⟩ := hf388 [2] rfl
          have hX388 := es_ hX385 hE388
          have b388_Atags2 := RdO.evo rfl hE388 b385_Atags2
          have b388_g207 := be_ hE388 b385_g207
          have b388_At1_0 := RdO.evo rfl hE388 b385_At1_0
          have b388_At1_1 := RdO.evo rfl hE388 b385_At1_1
          have b388_A258 := re_ hE388 b385_A258
          exact hn376 _ _ _ hs ⟨own388, hd388, hz388, e388_1, e388_2, e388_6, e388_7, e388_8, e388_9, e388_10, hX388, b388_Atags2, b388_g207, b388_At1_0, b388_At1_1, b388_A258⟩
        refine fl_exit ?_
        refine hp378 _ _ _ rfl ?_
        replace hs := hz376 _ hs
        refine hp376 _ _ _ rfl ?_
        refine hx350 _ _ ?_
        refine hn348 _ _ ?_
        obtain ⟨x393, hx393, hs⟩ := obind hs
        obtain ⟨x394, hx394, hs⟩ := obind hs
        obtain ⟨x397, hx397, hs⟩ := obind hs
        refine rg_draw g_mixed (n := 85) (rs := [Fct.rowAt 261 [] 77 R77 A258 c259 out260]) (own0 := own379) (K := [261]) (bs := [0, 0, 2, 0, 14, 30, 0, 64, 0, 448, 960, 2046, 4094, 8191, 16383]) (ds := [⟨[], [6], [], Fct.val 70 (.slice A258 out260.length c259)⟩, ⟨[], [2], [], Fct.val 71 (.pointer (some ⟨g207, 0, none⟩))⟩, ⟨[1], [], [], Fct.val 72 (.slice At1_0 t1.1.length ct1_0)⟩, ⟨[], [8], [], Fct.val 73 (.int .i64 x339)⟩, ⟨[2, 3], [], [], Fct.val 74 (.pointer (some ((adr At1_0).add ((x339 : Int).toNat * R9.s))))⟩, ⟨[4], [], [], Fct.val 75 (.string x393)⟩, ⟨[], [2], [], Fct.val 76 (.pointer (some ⟨g207, 1, none⟩))⟩, ⟨[6], [], [], Fct.val 77 (.slice At1_1 t1.2.length ct1_1)⟩, ⟨[], [9], [], Fct.val 78 (.int .i64 x340)⟩, ⟨[7, 8], [], [], Fct.val 79 (.pointer (some ((adr At1_1).add ((x340 : Int).toNat * R75.s))))⟩, ⟨[9], [], [], Fct.val 80 (.agg #[.int .i64 x394.1, .string x394.2.1, .int .i64 x394.2.2])⟩, ⟨[5, 10], [], [], Fct.val 81 (.agg #[.string x393, .int .i64 x394.1, .string x394.2.1, .int .i64 x394.2.2])⟩, ⟨[11], [], [], Fct.row 396 [] 82 77 R77 [(x393, x394)]⟩, ⟨[0, 12, 15], [], [261], Fct.row 398 [] 83 77 R77 x397⟩, ⟨[13], [], [], Fct.rel [6, 83] (fun l => ∀ (A399 : Option Addr) (cA399 : Nat), l.getD 1 undef = .slice A399 x397.length cA399 → l.getD 0 undef = .slice A399 x397.length cA399)⟩]) (by kernel_rfl) hz379 hd379 (by simp only [List.forall_mem_cons]; exact ⟨b379_A258, fun _ h => nomatch h⟩) ?_ ?_
        · refine sc (fun _ _ _ _ s _ => px (or_move (s.1.trans e379_6))) ?_
          refine sc (fun _ _ _ _ s _ => px (or_field fo37_0 (s.1.trans e379_2) (by rfl))) ?_
          refine sc (fun _ _ _ f _ hE => px (or_load1 to34 f.1 (Blk.at_ (be_ hE b379_g207).2 0 rfl))) ?_
          refine sc (fun _ _ _ _ s _ => px (or_move (s.1.trans e379_8))) ?_
          refine sc (fun _ _ _ f _ _ => px (or_index (R := R9) (l := t1.1) tl34 f.1 f.2.1 (RdO.some_ b379_At1_0 hx393) hx393)) ?_
          refine sc (fun _ _ _ f _ hE => px (or_load1 to9 f.1 (CellsAt.zero (RdO.cells (F := E9) (RdO.evo rfl hE b379_At1_0) hx393) rfl))) ?_
          refine sc (fun _ _ _ _ s _ => px (or_field fo37_1 (s.1.trans e379_2) (by rfl))) ?_
          refine sc (fun _ _ _ f _ hE => px (or_load1 to35 f.1 (Blk.at_ (be_ hE b379_g207).2 1 rfl))) ?_
          refine sc (fun _ _ _ _ s _ => px (or_move (s.1.trans e379_9))) ?_
          refine sc (fun _ _ _ f _ _ => px (or_index (R := R75) (l := t1.2) tl35 f.1 f.2.1 (RdO.some_ b379_At1_1 hx394) hx394)) ?_
          refine sc (fun _ _ _ f _ hE => px (or_load (l := E75.f x394) ta75 f.1 (RdO.cells (F := E75) (RdO.evo rfl hE b379_At1_1) hx394) rfl)) ?_
          refine sc (fun _ _ _ f _ _ => px (or_k [(75, .string x393), (80, .agg #[.int .i64 x394.1, .string x394.2.1, .int .i64 x394.2.2])] rfl rfl ⟨f.1, f.2.1, trivial⟩ (by kernel_rfl))) ?_
          refine sc (fun _ _ _ f _ _ => px (or_lit (lab := 396) (e := 77) (cs := #[.string x393, .int .i64 x394.1, .string x394.2.1, .int .i64 x394.2.2]) (F := E77) (or_new [(81, .agg #[.string x393, .int .i64 x394.1, .string x394.2.1, .int .i64 x394.2.2])] rfl rfl ⟨f.1, trivial⟩ (by kernel_rfl)) rfl rfl (show 1 ≤ maxLen by decide))) ?_
          refine sc (fun own a wx hf hsl hE => ?_) ?_
          · obtain ⟨f_70, ⟨⟨A395, cA395⟩, f_82, b_A395⟩, b_A258, -⟩ := hf
            exact px (or_append (R := R77) (lab := 261) (lab2 := 398) (L := []) (L3 := []) tp31 f_70 b_A258 (by decide) f_82 (RwO.rd b_A395) hx397 (by decide) (by decide) (mem_of rfl) (.inl (Rep.fl_flat _)))
          refine sc (fun own a wx hf hsl hE => ?_) ?_
          · obtain ⟨⟨⟨A399, cA399⟩, (f_83 : a.eval (.tmp 83) = .slice A399 x397.length cA399), b_A399⟩, -⟩ := hf
            exact px (or_mono (f := Fct.val 6 (.slice A399 x397.length cA399)) (or_assign f_83) (fun own' a' w' v' hp h => fun _ _ h0' => by cases (f_83.symm.trans ((hp.2 83 (by decide)).symm.trans h0')); exact h))
          exact steps_nil
        intro own400 a400 w400 hd400 hz400 hk400 hf400 hE400
        have e400_1 := (hk400 1 rfl).trans e379_1
        have e400_2 := (hk400 2 rfl).trans e379_2
        have e400_7 := (hk400 7 rfl).trans e379_7
        obtain ⟨⟨⟨A399, cA399⟩, (f_83 : a400.eval (.tmp 83) = .slice A399 x397.length cA399), (b400_A399 : RwO own400 398 [] w400 77 R77 A399 cA399 x397)⟩, (q_6 : ∀ (A399 : Option Addr) (cA399 : Nat), a400.eval (.tmp 83) = .slice A399 x397.length cA399 → a400.eval (.tmp 6) = .slice A399 x397.length cA399), -⟩ := hf400 [13, 14] rfl
        have e400_6 := q_6 _ _ f_83
        have hX400 := es_ hX379 hE400
        have b400_Atags2 := RdO.evo rfl hE400 b379_Atags2
        have b400_g207 := be_ hE400 b379_g207
        have b400_At1_0 := RdO.evo rfl hE400 b379_At1_0
        have b400_At1_1 := RdO.evo rfl hE400 b379_At1_1
        refine hn338 _ _ ?_
        refine hn337 _ _ ?_
        refine rg0 85 own400 (bz 3) [⟨[], [7], [], Fct.val 22 (.int .i64 i262)⟩, ⟨[0], [], [], Fct.val 23 (.int .i64 (ad i262 2))⟩, ⟨[1], [], [], Fct.val 7 (.int .i64 (ad i262 2))⟩] hz400 hd400 (by kernel_rfl) ?_ ?_
        · refine sc (fun _ _ _ _ s _ => px (or_move (s.1.trans e400_7))) ?_
          refine sc (fun _ _ _ f _ _ => px (or_add f.1 rfl rfl)) ?_
          refine sc (fun _ _ _ f _ _ => px (or_assign f.1)) ?_
          exact steps_nil
        intro own401 a401 w401 hd401 hz401 hk401 hf401 hE401
        have e401_1 := (hk401 1 rfl).trans e400_1
        have e401_2 := (hk401 2 rfl).trans e400_2
        have e401_6 := (hk401 6 rfl).trans e400_6
        obtain ⟨(e401_7 : a401.eval (.tmp 7) = .int .i64 (ad i262 2)), -⟩ := hf401 [2] rfl
        have hX401 := es_ hX400 hE401
        have b401_Atags2 := RdO.evo rfl hE401 b400_Atags2
        have b401_g207 := be_ hE401 b400_g207
        have b401_At1_0 := RdO.evo rfl hE401 b400_At1_0
        have b401_At1_1 := RdO.evo rfl hE401 b400_At1_1
        have b401_A399 := re_ hE401 b400_A399
        exact hn332 _ _ _ hs ⟨(rl [(398, 261)] own401), A399, cA399, hd401, hz401, e401_1, e401_2, e401_6, e401_7, (Evo.rl_ hX401 (fun _ => Nat.le_refl 0) rfl), (RdO.rl_ (mm := [(398, 261)]) b401_Atags2), (BlkO.rl_ (mm := [(398, 261)]) b401_g207), (RdO.rl_ (mm := [(398, 261)]) b401_At1_0), (RdO.rl_ (mm := [(398, 261)]) b401_At1_1), (RwO.rl_ (mm := [(398, 261)]) b401_A399)⟩
    refine fl_exit ?_
    refine hp334 _ _ _ rfl ?_
    replace hs := hz332 _ hs
    refine hp332 _ _ _ rfl ?_
    refine hx222 _ _ ?_
    refine hn220 _ _ ?_
    refine rg0_seq 85 own335 (bz 3) [⟨[], [6], [], Fct.val 84 (.slice A258 out260.length c259)⟩, ⟨[0], [], [], Fct.val 4 (.slice A258 out260.length c259)⟩, ⟨[], [], [], Fct.val 5 (.int .i64 0)⟩] hz335 hd335 (by kernel_rfl) ?_ ?_
    · refine sc (fun _ _ _ _ s _ => px (or_move (s.1.trans e335_6))) ?_
      refine sc (fun _ _ _ f _ _ => px (or_assign f.1)) ?_
      refine sc (fun _ _ _ _ _ _ => px (or_assign rfl)) ?_
      exact steps_nil
    intro own402 a402 w402 hd402 hz402 hk402 hf402 hE402
    obtain ⟨(e402_4 : a402.eval (.tmp 4) = .slice A258 out260.length c259), (e402_5 : a402.eval (.tmp 5) = .int .i64 0), -⟩ := hf402 [1, 2] rfl
    have hX402 := es_ hX335 hE402
    have b402_A258 := re_ hE402 b335_A258
    refine fl_ret ?_
    obtain rfl := osome hs
    exact hret _ _ _ _ (.inl rfl) hd402 (results2_ rfl (RVal.tmp_ e402_4) (RVal.tmp_ e402_5)) ⟨(rl [(261, 1)] own402), (A258, c259), rfl, (Evo.rl_ hX402 (fun _ => Nat.le_refl 0) rfl), (RwO.rl_ (mm := [(261, 1)]) b402_A258)⟩
end Go.Proofs.Ytpbhdblkjabdlaa
