import Derived.Test.YtpbhdblkjabdlaaWp2
import Derived.Test.YtpbhdblkjabdlaaWp4
import Derived.Test.YtpbhdblkjabdlaaSp6
namespace Go.Proofs.Ytpbhdblkjabdlaa
open Go.RowKit
set_option linter.unusedVariables false
set_option maxRecDepth 10000
theorem law11_Table_w (w : World) (t1 : (List ByteArray) × (List (Int × ByteArray × Int))) (At1_0 : Option Addr) (ct1_0 : Nat) (At1_1 : Option Addr) (ct1_1 : Nat) (hAt1_0 : RdO (fun _ => 0) [0] w R9 At1_0 ct1_0 t1.1) (hAt1_1 : RdO (fun _ => 0) [0] w R60 At1_1 ct1_1 t1.2) (r : ((List ByteArray) × (List (Int × ByteArray × Int))) × ((List ByteArray) × (List (Int × ByteArray × Int)))) (hs : law11_Table t1 = some r) :
    Calls Try.prog 13 #[.agg #[.slice At1_0 t1.1.length ct1_0, .slice At1_1 t1.2.length ct1_1]] w fun e w' => ∃ (own' : Own) (x : (Option Addr × Nat) × (Option Addr × Nat) × (Option Addr × Nat) × (Option Addr × Nat)), e = .returned (.tuple #[.agg #[.slice x.1.1 r.1.1.length x.1.2, .slice x.2.1.1 r.1.2.length x.2.1.2], .agg #[.slice x.2.2.1.1 r.2.1.length x.2.2.1.2, .slice x.2.2.2.1 r.2.2.length x.2.2.2.2]]) ∧ Evo [] (fun _ => 0) own' w w' ∧ RwO own' 1 [] w' 9 R9 x.1.1 x.1.2 r.1.1 ∧ RwO own' 2 [] w' 60 R60 x.2.1.1 x.2.1.2 r.1.2 ∧ RwO own' 3 [] w' 9 R9 x.2.2.1.1 x.2.2.1.2 r.2.1 ∧ RwO own' 4 [] w' 75 R75 x.2.2.2.1 x.2.2.2.2 r.2.2 := by
  refine fl_enter (n := 77) rfl rfl rfl (Nat.le_of_ble_eq_true rfl) ?_
  intro a0 Q hd0 hz0 harg hret
  have ha0 := harg 0 _ rfl
  clear harg
  have hE0 : Evo [] (fun _ => 0) (fun _ => 0) w w := Evo.refl _ _ _
  refine rg0_seq 77 (fun _ => 0) [0, 0, 0] [⟨[], [0], [], Fct.blk 389 1 (fun g => .pointer (some ⟨g, 0, none⟩)) 43 #[.slice At1_0 t1.1.length ct1_0, .slice At1_1 t1.2.length ct1_1]⟩, ⟨[], [], [], Fct.blk 391 2 (fun g => .pointer (some ⟨g, 0, none⟩)) 43 #[.slice none 0 0, .slice none 0 0]⟩, ⟨[], [], [], Fct.blk 393 3 (fun g => .pointer (some ⟨g, 0, none⟩)) 37 #[.slice none 0 0, .slice none 0 0]⟩] hz0 hd0 (by kernel_rfl) ?_ ?_
  · refine sc (fun _ _ _ _ s _ => px (or_new [(0, .agg #[.slice At1_0 t1.1.length ct1_0, .slice At1_1 t1.2.length ct1_1])] rfl rfl ⟨(s.1.trans ha0), trivial⟩ (by kernel_rfl))) ?_
    refine sc (fun _ _ _ _ _ _ => px (or_new [] rfl rfl trivial (by kernel_rfl))) ?_
    refine sc (fun _ _ _ _ _ _ => px (or_new [] rfl rfl trivial (by kernel_rfl))) ?_
    exact steps_nil
  intro own394 a394 w394 hd394 hz394 hk394 hf394 hE394
  obtain ⟨⟨g388, (e394_1 : a394.eval (.tmp 1) = .pointer (some ⟨g388, 0, none⟩)), (b394_g388 : BlkO own394 389 w394 g388 43 #[.slice At1_0 t1.1.length ct1_0, .slice At1_1 t1.2.length ct1_1])⟩, ⟨g390, (e394_2 : a394.eval (.tmp 2) = .pointer (some ⟨g390, 0, none⟩)), (b394_g390 : BlkO own394 391 w394 g390 43 #[.slice none 0 0, .slice none 0 0])⟩, ⟨g392, (e394_3 : a394.eval (.tmp 3) = .pointer (some ⟨g392, 0, none⟩)), (b394_g392 : BlkO own394 393 w394 g392 37 #[.slice none 0 0, .slice none 0 0])⟩, -⟩ := hf394 [0, 1, 2] rfl
  have hX394 := es_ hE0 hE394
  have b394_At1_0 := RdO.evo rfl hE394 hAt1_0
  have b394_At1_1 := RdO.evo rfl hE394 hAt1_1
  refine rg0_seq 77 own394 (bz 1) [⟨[], [], [], Fct.blk 396 4 (fun g => .pointer (some ⟨g, 0, none⟩)) 43 #[.slice none 0 0, .slice none 0 0]⟩] hz394 hd394 (by kernel_rfl) ?_ ?_
  · refine sc (fun _ _ _ _ _ _ => px (or_new [] rfl rfl trivial (by kernel_rfl))) ?_
    exact steps_nil
  intro own397 a397 w397 hd397 hz397 hk397 hf397 hE397
  have e397_1 := (hk397 1 rfl).trans e394_1
  have e397_2 := (hk397 2 rfl).trans e394_2
  have e397_3 := (hk397 3 rfl).trans e394_3
  obtain ⟨⟨g395, (e397_4 : a397.eval (.tmp 4) = .pointer (some ⟨g395, 0, none⟩)), (b397_g395 : BlkO own397 396 w397 g395 43 #[.slice none 0 0, .slice none 0 0])⟩, -⟩ := hf397 [0] rfl
  have hX397 := es_ hX394 hE397
  have b397_At1_0 := RdO.evo rfl hE397 b394_At1_0
  have b397_At1_1 := RdO.evo rfl hE397 b394_At1_1
  have b397_g388 := be_ hE397 b394_g388
  have b397_g390 := be_ hE397 b394_g390
  have b397_g392 := be_ hE397 b394_g392
  refine rg0_seq 77 own397 (bz 1) [⟨[], [], [], Fct.blk 399 5 (fun g => .pointer (some ⟨g, 0, none⟩)) 37 #[.slice none 0 0, .slice none 0 0]⟩] hz397 hd397 (by kernel_rfl) ?_ ?_
  · refine sc (fun _ _ _ _ _ _ => px (or_new [] rfl rfl trivial (by kernel_rfl))) ?_
    exact steps_nil
  intro own400 a400 w400 hd400 hz400 hk400 hf400 hE400
  have e400_1 := (hk400 1 rfl).trans e397_1
  have e400_2 := (hk400 2 rfl).trans e397_2
  have e400_3 := (hk400 3 rfl).trans e397_3
  have e400_4 := (hk400 4 rfl).trans e397_4
  obtain ⟨⟨g398, (e400_5 : a400.eval (.tmp 5) = .pointer (some ⟨g398, 0, none⟩)), (b400_g398 : BlkO own400 399 w400 g398 37 #[.slice none 0 0, .slice none 0 0])⟩, -⟩ := hf400 [0] rfl
  have hX400 := es_ hX397 hE400
  have b400_At1_0 := RdO.evo rfl hE400 b397_At1_0
  have b400_At1_1 := RdO.evo rfl hE400 b397_At1_1
  have b400_g388 := be_ hE400 b397_g388
  have b400_g390 := be_ hE400 b397_g390
  have b400_g392 := be_ hE400 b397_g392
  have b400_g395 := be_ hE400 b397_g395
  refine fl_seq (fun Q401 hn401 hp401 => ?_)
  refine rg0_seq 77 own400 (bz 1) [⟨[], [], [], Fct.val 6 (.int .i64 0)⟩] hz400 hd400 (by kernel_rfl) ?_ ?_
  · refine sc (fun _ _ _ _ _ _ => px (or_assign rfl)) ?_
    exact steps_nil
  intro own402 a402 w402 hd402 hz402 hk402 hf402 hE402
  have e402_1 := (hk402 1 rfl).trans e400_1
  have e402_2 := (hk402 2 rfl).trans e400_2
  have e402_3 := (hk402 3 rfl).trans e400_3
  have e402_4 := (hk402 4 rfl).trans e400_4
  have e402_5 := (hk402 5 rfl).trans e400_5
  obtain ⟨(e402_6 : a402.eval (.tmp 6) = .int .i64 0), -⟩ := hf402 [0] rfl
  have hX402 := es_ hX400 hE402
  have b402_At1_0 := RdO.evo rfl hE402 b400_At1_0
  have b402_At1_1 := RdO.evo rfl hE402 b400_At1_1
  have b402_g388 := be_ hE402 b400_g388
  have b402_g390 := be_ hE402 b400_g390
  have b402_g392 := be_ hE402 b400_g392
  have b402_g395 := be_ hE402 b400_g395
  have b402_g398 := be_ hE402 b400_g398
  refine fl_block (fun Q403 hn403 hx403 hp403 => ?_)
  refine fl_loop (body := (fun s => law11_Table_b1 t1 s.1 s.2.1 s.2.2)) (z := r) (show loopO _ _ = _ from hs) (fun (s : (List ByteArray) × (List ByteArray) × Int) a wx => match s with | (x459, x464, i466) => ∃ (ox : Own) (A457 : Option Addr) (c458 : Nat) (A462 : Option Addr) (c463 : Nat), a.defers = [] ∧ a.tmps.size = 77 ∧ a.eval (.tmp 1) = .pointer (some ⟨g388, 0, none⟩) ∧ a.eval (.tmp 2) = .pointer (some ⟨g390, 0, none⟩) ∧ a.eval (.tmp 3) = .pointer (some ⟨g392, 0, none⟩) ∧ a.eval (.tmp 4) = .pointer (some ⟨g395, 0, none⟩) ∧ a.eval (.tmp 5) = .pointer (some ⟨g398, 0, none⟩) ∧ a.eval (.tmp 6) = .int .i64 i466 ∧ Evo [] (fun _ => 0) ox w wx ∧ BlkO ox 389 wx g388 43 #[.slice At1_0 t1.1.length ct1_0, .slice At1_1 t1.2.length ct1_1] ∧ RdO ox [0] wx R9 At1_0 ct1_0 t1.1 ∧ RdO ox [0] wx R60 At1_1 ct1_1 t1.2 ∧ BlkO ox 391 wx g390 43 #[.slice none 0 0, .slice none 0 0] ∧ BlkO ox 393 wx g392 37 #[.slice none 0 0, .slice none 0 0] ∧ BlkO ox 456 wx g395 43 #[.slice A457 x459.length c458, .slice none 0 0] ∧ RwO ox 460 [] wx 9 R9 A457 c458 x459 ∧ BlkO ox 461 wx g398 37 #[.slice A462 x464.length c463, .slice none 0 0] ∧ RwO ox 465 [] wx 9 R9 A462 c463 x464) ?_ ?_
  · exact ⟨(rl [(396, 456), (399, 461)] own402), none, 0, none, 0, hd402, hz402, e402_1, e402_2, e402_3, e402_4, e402_5, e402_6, (Evo.rl_ hX402 (fun _ => Nat.le_refl 0) rfl), (BlkO.rl_ (mm := [(396, 456), (399, 461)]) b402_g388), (RdO.rl_ (mm := [(396, 456), (399, 461)]) b402_At1_0), (RdO.rl_ (mm := [(396, 456), (399, 461)]) b402_At1_1), (BlkO.rl_ (mm := [(396, 456), (399, 461)]) b402_g390), (BlkO.rl_ (mm := [(396, 456), (399, 461)]) b402_g392), (BlkO.rl_ (mm := [(396, 456), (399, 461)]) b402_g395), RwO.nil_, (BlkO.rl_ (mm := [(396, 456), (399, 461)]) b402_g398), RwO.nil_⟩
  · rintro ⟨x459, x464, i466⟩ zz522 a522 w522 ⟨own522, A457, c458, A462, c463, hd523, hz523, e523_1, e523_2, e523_3, e523_4, e523_5, e523_6, hE523, b523_g388, b523_At1_0, b523_At1_1, b523_g390, b523_g392, b523_g395, b523_A457, b523_g398, b523_A462⟩ hs Q522 hn522 hp522 hz522
    have hs : law11_Table_b1 t1 x459 x464 i466 = some zz522 := hs
    refine fl_seq (fun Q524 hn524 hp524 => ?_)
    obtain ⟨x525, hx525, hs⟩ := obind hs
    refine rg0_seq 77 own522 [0, 0, 2, 6, 15, 31, 63, 127, 255] [⟨[], [6], [], Fct.val 10 (.int .i64 i466)⟩, ⟨[], [1], [], Fct.val 11 (.pointer (some ⟨g388, 0, none⟩))⟩, ⟨[1], [], [], Fct.val 12 (.slice At1_0 t1.1.length ct1_0)⟩, ⟨[2], [], [], Fct.val 13 (.int .i64 (t1.1.length : Int))⟩, ⟨[0, 3], [], [], Fct.val 14 (.bool (decide (i466 < (t1.1.length : Int))))⟩, ⟨[4], [], [], Fct.val 15 (.bool (decide (i466 < (t1.1.length : Int))))⟩, ⟨[5], [6], [], Fct.cond (decide (i466 < (t1.1.length : Int))) (some 16) (Fct.val 16 (.int .i64 i466))⟩, ⟨[5, 6], [], [], Fct.cond (decide (i466 < (t1.1.length : Int))) (some 17) (Fct.val 17 (.bool (decide (i466 < 20))))⟩, ⟨[5, 7], [], [], Fct.val 18 (.bool x525)⟩] hz523 hd523 (by kernel_rfl) ?_ ?_
    · refine sc (fun _ _ _ _ s _ => px (or_move (s.1.trans e523_6))) ?_
      refine sc (fun _ _ _ _ s _ => px (or_field fo43_0 (s.1.trans e523_1) (by rfl))) ?_
      refine sc (fun _ _ _ f _ hE => px (or_load1 to34 f.1 (Blk.at_ (be_ hE b523_g388).2 0 rfl))) ?_
      refine sc (fun _ _ _ f _ _ => px (or_len tu34 f.1 rfl)) ?_
      refine sc (fun _ _ _ f _ _ => px (or_lss f.1 f.2.1 rfl)) ?_
      refine sc (fun _ _ _ f _ _ => px (or_move f.1)) ?_
      refine sc (fun _ _ _ f s _ => sg_t rfl rfl rfl f.1 (fun hg => or_move (s.1.trans e523_6))) ?_
      refine sc (fun _ _ _ f _ _ => sg_t rfl rfl rfl f.1 (fun hg => or_lss (f.2.1.1 hg) rfl rfl)) ?_
      refine sc (fun _ _ _ f _ _ => px (or_and f.1 (fun hx => f.2.1.1 hx) rfl (osome hx525).symm)) ?_
      exact steps_nil
    intro own526 a526 w526 hd526 hz526 hk526 hf526 hE526
    have e526_1 := (hk526 1 rfl).trans e523_1
    have e526_2 := (hk526 2 rfl).trans e523_2
    have e526_3 := (hk526 3 rfl).trans e523_3
    have e526_4 := (hk526 4 rfl).trans e523_4
    have e526_5 := (hk526 5 rfl).trans e523_5
    have e526_6 := (hk526 6 rfl).trans e523_6
    obtain ⟨(e526_18 : a526.eval (.tmp 18) = .bool x525), -⟩ := hf526 [8] rfl
    have hX526 := es_ hE523 hE526
    have b526_g388 := be_ hE526 b523_g388
    have b526_At1_0 := RdO.evo rfl hE526 b523_At1_0
    have b526_At1_1 := RdO.evo rfl hE526 b523_At1_1
    have b526_g390 := be_ hE526 b523_g390
    have b526_g392 := be_ hE526 b523_g392
    have b526_g395 := be_ hE526 b523_g395
    have b526_A457 := re_ hE526 b523_A457
    have b526_g398 := be_ hE526 b523_g398
    have b526_A462 := re_ hE526 b523_A462
    refine fl_cond e526_18 hs (fun c527 hs => ?_) (fun c527 hs => ?_)
    · refine fl_skip ?_
      refine hn524 _ _ ?_
      refine fl_seq (fun Q528 hn528 hp528 => ?_)
      refine fl_block (fun Q529 hn529 hx529 hp529 => ?_)
      obtain ⟨x530, hx530, hs⟩ := obind hs
      obtain ⟨x531, hx531, hs⟩ := obind hs
      obtain ⟨x532, hx532, hs⟩ := obind hs
      refine rg_draw_seq g_mixed (n := 77) (rs := []) (own0 := own526) (K := []) (bs := [0, 1, 0, 7, 15, 0, 32, 0, 224, 480, 992, 2016, 4095, 8191]) (ds := [⟨[], [1], [], Fct.val 21 (.pointer (some ⟨g388, 0, none⟩))⟩, ⟨[0], [], [], Fct.val 22 (.slice At1_0 t1.1.length ct1_0)⟩, ⟨[], [6], [], Fct.val 23 (.int .i64 i466)⟩, ⟨[1, 2], [], [], Fct.val 24 (.pointer (some ((adr At1_0).add ((i466 : Int).toNat * R9.s))))⟩, ⟨[3], [], [], Fct.val 25 (.string x530)⟩, ⟨[], [1], [], Fct.val 26 (.pointer (some ⟨g388, 0, none⟩))⟩, ⟨[5], [], [], Fct.val 27 (.slice At1_0 t1.1.length ct1_0)⟩, ⟨[], [6], [], Fct.val 28 (.int .i64 i466)⟩, ⟨[6, 7], [], [], Fct.val 29 (.pointer (some ((adr At1_0).add ((i466 : Int).toNat * R9.s))))⟩, ⟨[8], [], [], Fct.val 30 (.string x531)⟩, ⟨[9], [], [], Fct.val 31 (.int .i64 (x531.size : Int))⟩, ⟨[10], [], [], Fct.val 32 (.int .i64 (mn (x531.size : Int) 100))⟩, ⟨[4, 11], [], [], Fct.val 33 (.string x532)⟩, ⟨[12], [], [], Fct.val 7 (.string x532)⟩]) (by kernel_rfl) hz526 hd526 nm_ ?_ ?_
      · refine sc (fun _ _ _ _ s _ => px (or_field fo43_0 (s.1.trans e526_1) (by rfl))) ?_
        refine sc (fun _ _ _ f _ hE => px (or_load1 to34 f.1 (Blk.at_ (be_ hE b526_g388).2 0 rfl))) ?_
        refine sc (fun _ _ _ _ s _ => px (or_move (s.1.trans e526_6))) ?_
        refine sc (fun _ _ _ f _ _ => px (or_index (R := R9) (l := t1.1) tl34 f.1 f.2.1 (RdO.some_ b526_At1_0 hx530) hx530)) ?_
        refine sc (fun _ _ _ f _ hE => px (or_load1 to9 f.1 (CellsAt.zero (RdO.cells (F := E9) (RdO.evo rfl hE b526_At1_0) hx530) rfl))) ?_
        refine sc (fun _ _ _ _ s _ => px (or_field fo43_0 (s.1.trans e526_1) (by rfl))) ?_
        refine sc (fun _ _ _ f _ hE => px (or_load1 to34 f.1 (Blk.at_ (be_ hE b526_g388).2 0 rfl))) ?_
        refine sc (fun _ _ _ _ s _ => px (or_move (s.1.trans e526_6))) ?_
        refine sc (fun _ _ _ f _ _ => px (or_index (R := R9) (l := t1.1) tl34 f.1 f.2.1 (RdO.some_ b526_At1_0 hx531) hx531)) ?_
        refine sc (fun _ _ _ f _ hE => px (or_load1 to9 f.1 (CellsAt.zero (RdO.cells (F := E9) (RdO.evo rfl hE b526_At1_0) hx531) rfl))) ?_
        refine sc (fun _ _ _ f _ _ => px (or_lenS tS9 f.1 rfl)) ?_
        refine sc (fun _ _ _ f _ _ => px (or_min f.1 rfl)) ?_
        refine sc (fun _ _ _ f _ _ => px (or_sliceS tS9 f.1 Bnd.none_ (Bnd.some_ f.2.1) hx532)) ?_
        refine sc (fun _ _ _ f _ _ => px (or_assign f.1)) ?_
        exact steps_nil
      intro own533 a533 w533 hd533 hz533 hk533 hf533 hE533
      have e533_1 := (hk533 1 rfl).trans e526_1
      have e533_2 := (hk533 2 rfl).trans e526_2
      have e533_3 := (hk533 3 rfl).trans e526_3
      have e533_4 := (hk533 4 rfl).trans e526_4
      have e533_5 := (hk533 5 rfl).trans e526_5
      have e533_6 := (hk533 6 rfl).trans e526_6
      obtain ⟨(e533_7 : a533.eval (.tmp 7) = .string x532), -⟩ := hf533 [13] rfl
      have hX533 := es_ hX526 hE533
      have b533_g388 := be_ hE533 b526_g388
      have b533_At1_0 := RdO.evo rfl hE533 b526_At1_0
      have b533_At1_1 := RdO.evo rfl hE533 b526_At1_1
      have b533_g390 := be_ hE533 b526_g390
      have b533_g392 := be_ hE533 b526_g392
      have b533_g395 := be_ hE533 b526_g395
      have b533_A457 := re_ hE533 b526_A457
      have b533_g398 := be_ hE533 b526_g398
      have b533_A462 := re_ hE533 b526_A462
      obtain ⟨x566, hx566, hs⟩ := obind hs
      obtain ⟨x571, hx571, hs⟩ := obind hs
      refine rg_draw g_mixed (n := 77) (rs := [Fct.rowAt 460 [] 9 R9 A457 c458 x459, Fct.rowAt 465 [] 9 R9 A462 c463 x464, Fct.at_ 456 g395 43 #[.slice A457 x459.length c458, .slice none 0 0], Fct.at_ 461 g398 37 #[.slice A462 x464.length c463, .slice none 0 0]]) (own0 := own533) (K := [460, 465, 456, 461]) (bs := [0, 1, 0, 4, 15, 0, 32, 0, 128, 511, 31, 2047, 4095, 8191]) (ds := [⟨[], [4], [], Fct.val 34 (.pointer (some ⟨g395, 0, none⟩))⟩, ⟨[0, 16], [], [], Fct.val 35 (.slice A457 x459.length c458)⟩, ⟨[], [7], [], Fct.val 36 (.string x532)⟩, ⟨[2], [], [], Fct.row 565 [] 37 9 R9 [x532]⟩, ⟨[1, 3, 14], [], [460], Fct.row 567 [] 38 9 R9 x566⟩, ⟨[], [5], [], Fct.val 39 (.pointer (some ⟨g398, 0, none⟩))⟩, ⟨[5, 17], [], [], Fct.val 40 (.slice A462 x464.length c463)⟩, ⟨[], [7], [], Fct.val 41 (.string x532)⟩, ⟨[7], [], [], Fct.row 570 [] 42 9 R9 [x532]⟩, ⟨[6, 8, 15], [], [465], Fct.row 572 [] 43 9 R9 x571⟩, ⟨[], [4], [], Fct.val 44 (.pointer (some ⟨g395, 0, none⟩))⟩, ⟨[10, 4, 16], [], [456], Fct.by_ [574] [38] (fun l own w => ∀ (A568 : Option Addr) (cA568 : Nat), l.getD 0 undef = .slice A568 x566.length cA568 → BlkO own 574 w g395 43 #[.slice A568 x566.length cA568, .slice none 0 0]) (fun hk he h _ _ h0' => BlkO.evo (not_hit hk (by decide)) he (h _ _ h0'))⟩, ⟨[], [5], [], Fct.val 45 (.pointer (some ⟨g398, 0, none⟩))⟩, ⟨[12, 9, 17], [], [461], Fct.by_ [575] [43] (fun l own w => ∀ (A573 : Option Addr) (cA573 : Nat), l.getD 0 undef = .slice A573 x571.length cA573 → BlkO own 575 w g398 37 #[.slice A573 x571.length cA573, .slice none 0 0]) (fun hk he h _ _ h0' => BlkO.evo (not_hit hk (by decide)) he (h _ _ h0'))⟩]) (by kernel_rfl) hz533 hd533 (by simp only [List.forall_mem_cons]; exact ⟨b533_A457, b533_A462, b533_g395, b533_g398, fun _ h => nomatch h⟩) ?_ ?_
      · refine sc (fun _ _ _ _ s _ => px (or_field fo43_0 (s.1.trans e533_4) (by rfl))) ?_
        refine sc (fun own a wx hf hsl hE => ?_) ?_
        · obtain ⟨f_34, (b_g395 : BlkO own 456 wx g395 43 #[.slice A457 x459.length c458, .slice none 0 0]), -⟩ := hf
          exact px (or_load1 to34 f_34 (Blk.at_ b_g395.2 0 rfl))
        refine sc (fun _ _ _ _ s _ => px (or_move (s.1.trans e533_7))) ?_
        refine sc (fun _ _ _ f _ _ => px (or_lit (lab := 565) (e := 9) (cs := #[.string x532]) (F := E9) (or_new [(36, .string x532)] rfl rfl ⟨f.1, trivial⟩ (by kernel_rfl)) rfl rfl (show 1 ≤ maxLen by decide))) ?_
        refine sc (fun own a wx hf hsl hE => ?_) ?_
        · obtain ⟨f_35, ⟨⟨A564, cA564⟩, f_37, b_A564⟩, b_A457, -⟩ := hf
          exact px (or_append (R := R9) (lab := 460) (lab2 := 567) (L := []) (L3 := []) tp34 f_35 b_A457 (by decide) f_37 (RwO.rd b_A564) hx566 (by decide) (by decide) (mem_of rfl) (.inl (Rep.fl_flat _)))
        refine sc (fun _ _ _ _ s _ => px (or_field fo37_0 (s.1.trans e533_5) (by rfl))) ?_
        refine sc (fun own a wx hf hsl hE => ?_) ?_
        · obtain ⟨f_39, (b_g398 : BlkO own 461 wx g398 37 #[.slice A462 x464.length c463, .slice none 0 0]), -⟩ := hf
          exact px (or_load1 to34 f_39 (Blk.at_ b_g398.2 0 rfl))
        refine sc (fun _ _ _ _ s _ => px (or_move (s.1.trans e533_7))) ?_
        refine sc (fun _ _ _ f _ _ => px (or_lit (lab := 570) (e := 9) (cs := #[.string x532]) (F := E9) (or_new [(41, .string x532)] rfl rfl ⟨f.1, trivial⟩ (by kernel_rfl)) rfl rfl (show 1 ≤ maxLen by decide))) ?_
        refine sc (fun own a wx hf hsl hE => ?_) ?_
        · obtain ⟨f_40, ⟨⟨A569, cA569⟩, f_42, b_A569⟩, b_A462, -⟩ := hf
          exact px (or_append (R := R9) (lab := 465) (lab2 := 572) (L := []) (L3 := []) tp34 f_40 b_A462 (by decide) f_42 (RwO.rd b_A569) hx571 (by decide) (by decide) (mem_of rfl) (.inl (Rep.fl_flat _)))
        refine sc (fun _ _ _ _ s _ => px (or_field fo43_0 (s.1.trans e533_4) (by rfl))) ?_
        refine sc (fun own a wx hf hsl hE => ?_) ?_
        · obtain ⟨f_44, ⟨⟨A568, cA568⟩, (f_38 : a.eval (.tmp 38) = .slice A568 x566.length cA568), b_A568⟩, b_g395, -⟩ := hf
          exact px (or_store1 (lab := 456) (lab2 := 574) ts34 f_44 f_38 b_g395 (by simp) rfl (mem_of rfl) (by decide) rfl (fun own' a' w' ha hb => fun _ _ h0' => by cases (f_38.symm.trans ((ha 38).symm.trans h0')); exact hb))
        refine sc (fun _ _ _ _ s _ => px (or_field fo37_0 (s.1.trans e533_5) (by rfl))) ?_
        refine sc (fun own a wx hf hsl hE => ?_) ?_
        · obtain ⟨f_45, ⟨⟨A573, cA573⟩, (f_43 : a.eval (.tmp 43) = .slice A573 x571.length cA573), b_A573⟩, b_g398, -⟩ := hf
          exact px (or_store1 (lab := 461) (lab2 := 575) ts34 f_45 f_43 b_g398 (by simp) rfl (mem_of rfl) (by decide) rfl (fun own' a' w' ha hb => fun _ _ h0' => by cases (f_43.symm.trans ((ha 43).symm.trans h0')); exact hb))
        exact steps_nil
      intro own576 a576 w576 hd576 hz576 hk576 hf576 hE576
      have e576_1 := (hk576 1 rfl).trans e533_1
      have e576_2 := (hk576 2 rfl).trans e533_2
      have e576_3 := (hk576 3 rfl).trans e533_3
      have e576_4 := (hk576 4 rfl).trans e533_4
      have e576_5 := (hk576 5 rfl).trans e533_5
      have e576_6 := (hk576 6 rfl).trans e533_6
      obtain ⟨⟨⟨A568, cA568⟩, (f_38 : a576.eval (.tmp 38) = .slice A568 x566.length cA568), (b576_A568 : RwO own576 567 [] w576 9 R9 A568 cA568 x566)⟩, (bq_g395 : ∀ (A568 : Option Addr) (cA568 : Nat), a576.eval (.tmp 38) = .slice A568 x566.length cA568 → BlkO own576 574 w576 g395 43 #[.slice A568 x566.length cA568, .slice none 0 0]), ⟨⟨A573, cA573⟩, (f_43 : a576.eval (.tmp 43) = .slice A573 x571.length cA573), (b576_A573 : RwO own576 572 [] w576 9 R9 A573 cA573 x571)⟩, (bq_g398 : ∀ (A573 : Option Addr) (cA573 : Nat), a576.eval (.tmp 43) = .slice A573 x571.length cA573 → BlkO own576 575 w576 g398 37 #[.slice A573 x571.length cA573, .slice none 0 0]), -⟩ := hf576 [4, 11, 9, 13] rfl
      have b576_g395 := bq_g395 _ _ f_38
      have b576_g398 := bq_g398 _ _ f_43
      have hX576 := es_ hX533 hE576
      have b576_g388 := be_ hE576 b533_g388
      have b576_At1_0 := RdO.evo rfl hE576 b533_At1_0
      have b576_At1_1 := RdO.evo rfl hE576 b533_At1_1
      have b576_g390 := be_ hE576 b533_g390
      have b576_g392 := be_ hE576 b533_g392
      refine hn529 _ _ ?_
      refine hn528 _ _ ?_
      refine rg0 77 own576 (bz 3) [⟨[], [6], [], Fct.val 19 (.int .i64 i466)⟩, ⟨[0], [], [], Fct.val 20 (.int .i64 (ad i466 1))⟩, ⟨[1], [], [], Fct.val 6 (.int .i64 (ad i466 1))⟩] hz576 hd576 (by kernel_rfl) ?_ ?_
      · refine sc (fun _ _ _ _ s _ => px (or_move (s.1.trans e576_6))) ?_
        refine sc (fun _ _ _ f _ _ => px (or_add f.1 rfl rfl)) ?_
        refine sc (fun _ _ _ f _ _ => px (or_assign f.1)) ?_
        exact steps_nil
      intro own577 a577 w577 hd577 hz577 hk577 hf577 hE577
      have e577_1 := (hk577 1 rfl).trans e576_1
      have e577_2 := (hk577 2 rfl).trans e576_2
      have e577_3 := (hk577 3 rfl).trans e576_3
      have e577_4 := (hk577 4 rfl).trans e576_4
      have e577_5 := (hk577 5 rfl).trans e576_5
      obtain ⟨(e577_6 : a577.eval (.tmp 6) = .int .i64 (ad i466 1)), -⟩ := hf577 [2] rfl
      have hX577 := es_ hX576 hE577
      have b577_g388 := be_ hE577 b576_g388
      have b577_At1_0 := RdO.evo rfl hE577 b576_At1_0
      have b577_At1_1 := RdO.evo rfl hE577 b576_At1_1
      have b577_g390 := be_ hE577 b576_g390
      have b577_g392 := be_ hE577 b576_g392
      have b577_g395 := be_ hE577 b576_g395
      have b577_g398 := be_ hE577 b576_g398
      have b577_A568 := re_ hE577 b576_A568
      have b577_A573 := re_ hE577 b576_A573
      exact hn522 _ _ _ hs ⟨(rl [(567, 460), (572, 465), (574, 456), (575, 461)] own577), A568, cA568, A573, cA573, hd577, hz577, e577_1, e577_2, e577_3, e577_4, e577_5, e577_6, (Evo.rl_ hX577 (fun _ => Nat.le_refl 0) rfl), (BlkO.rl_ (mm := [(567, 460), (572, 465), (574, 456), (575, 461)]) b577_g388), (RdO.rl_ (mm := [(567, 460), (572, 465), (574, 456), (575, 461)]) b577_At1_0), (RdO.rl_ (mm := [(567, 460), (572, 465), (574, 456), (575, 461)]) b577_At1_1), (BlkO.rl_ (mm := [(567, 460), (572, 465), (574, 456), (575, 461)]) b577_g390), (BlkO.rl_ (mm := [(567, 460), (572, 465), (574, 456), (575, 461)]) b577_g392), (BlkO.rl_ (mm := [(567, 460), (572, 465), (574, 456), (575, 461)]) b577_g395), (RwO.rl_ (mm := [(567, 460), (572, 465), (574, 456), (575, 461)]) b577_A568), (BlkO.rl_ (mm := [(567, 460), (572, 465), (574, 456), (575, 461)]) b577_g398), (RwO.rl_ (mm := [(567, 460), (572, 465), (574, 456), (575, 461)]) b577_A573)⟩
    refine fl_exit ?_
    refine hp524 _ _ _ rfl ?_
    replace hs := hz522 _ hs
    refine hp522 _ _ _ rfl ?_
    refine hx403 _ _ ?_
    refine hn401 _ _ ?_
    refine fl_seq (fun Q578 hn578 hp578 => ?_)
    refine rg0_seq 77 own526 (bz 1) [⟨[], [], [], Fct.val 8 (.int .i64 0)⟩] hz526 hd526 (by kernel_rfl) ?_ ?_
    · refine sc (fun _ _ _ _ _ _ => px (or_assign rfl)) ?_
      exact steps_nil
    intro own579 a579 w579 hd579 hz579 hk579 hf579 hE579
    have e579_1 := (hk579 1 rfl).trans e526_1
    have e579_2 := (hk579 2 rfl).trans e526_2
    have e579_3 := (hk579 3 rfl).trans e526_3
    have e579_4 := (hk579 4 rfl).trans e526_4
    have e579_5 := (hk579 5 rfl).trans e526_5
    obtain ⟨(e579_8 : a579.eval (.tmp 8) = .int .i64 0), -⟩ := hf579 [0] rfl
    have hX579 := es_ hX526 hE579
    have b579_g388 := be_ hE579 b526_g388
    have b579_At1_0 := RdO.evo rfl hE579 b526_At1_0
    have b579_At1_1 := RdO.evo rfl hE579 b526_At1_1
    have b579_g390 := be_ hE579 b526_g390
    have b579_g392 := be_ hE579 b526_g392
    have b579_g395 := be_ hE579 b526_g395
    have b579_A457 := re_ hE579 b526_A457
    have b579_g398 := be_ hE579 b526_g398
    have b579_A462 := re_ hE579 b526_A462
    refine fl_block (fun Q580 hn580 hx580 hp580 => ?_)
    refine fl_loop (body := (fun s => law11_Table_b2 t1 x459 x464 s.1 s.2.1 s.2.2)) (z := r) (show loopO _ _ = _ from hs) (fun (s : (List (Int × ByteArray × Int)) × (List (Int × ByteArray × Int)) × Int) a wx => match s with | (x638, x643, i645) => ∃ (ox : Own) (A636 : Option Addr) (c637 : Nat) (A641 : Option Addr) (c642 : Nat), a.defers = [] ∧ a.tmps.size = 77 ∧ a.eval (.tmp 1) = .pointer (some ⟨g388, 0, none⟩) ∧ a.eval (.tmp 2) = .pointer (some ⟨g390, 0, none⟩) ∧ a.eval (.tmp 3) = .pointer (some ⟨g392, 0, none⟩) ∧ a.eval (.tmp 4) = .pointer (some ⟨g395, 0, none⟩) ∧ a.eval (.tmp 5) = .pointer (some ⟨g398, 0, none⟩) ∧ a.eval (.tmp 8) = .int .i64 i645 ∧ Evo [] (fun _ => 0) ox w wx ∧ BlkO ox 389 wx g388 43 #[.slice At1_0 t1.1.length ct1_0, .slice At1_1 t1.2.length ct1_1] ∧ RdO ox [0] wx R9 At1_0 ct1_0 t1.1 ∧ RdO ox [0] wx R60 At1_1 ct1_1 t1.2 ∧ BlkO ox 391 wx g390 43 #[.slice none 0 0, .slice none 0 0] ∧ BlkO ox 393 wx g392 37 #[.slice none 0 0, .slice none 0 0] ∧ BlkO ox 635 wx g395 43 #[.slice A457 x459.length c458, .slice A636 x638.length c637] ∧ RwO ox 460 [] wx 9 R9 A457 c458 x459 ∧ RwO ox 639 [] wx 60 R60 A636 c637 x638 ∧ BlkO ox 640 wx g398 37 #[.slice A462 x464.length c463, .slice A641 x643.length c642] ∧ RwO ox 465 [] wx 9 R9 A462 c463 x464 ∧ RwO ox 644 [] wx 75 R75 A641 c642 x643) ?_ ?_
    · exact ⟨(rl [(456, 635), (461, 640)] own579), none, 0, none, 0, hd579, hz579, e579_1, e579_2, e579_3, e579_4, e579_5, e579_8, (Evo.rl_ hX579 (fun _ => Nat.le_refl 0) rfl), (BlkO.rl_ (mm := [(456, 635), (461, 640)]) b579_g388), (RdO.rl_ (mm := [(456, 635), (461, 640)]) b579_At1_0), (RdO.rl_ (mm := [(456, 635), (461, 640)]) b579_At1_1), (BlkO.rl_ (mm := [(456, 635), (461, 640)]) b579_g390), (BlkO.rl_ (mm := [(456, 635), (461, 640)]) b579_g392), (BlkO.rl_ (mm := [(456, 635), (461, 640)]) b579_g395), (RwO.rl_ (mm := [(456, 635), (461, 640)]) b579_A457), RwO.nil_, (BlkO.rl_ (mm := [(456, 635), (461, 640)]) b579_g398), (RwO.rl_ (mm := [(456, 635), (461, 640)]) b579_A462), RwO.nil_⟩
    · rintro ⟨x638, x643, i645⟩ zz703 a703 w703 ⟨own703, A636, c637, A641, c642, hd704, hz704, e704_1, e704_2, e704_3, e704_4, e704_5, e704_8, hE704, b704_g388, b704_At1_0, b704_At1_1, b704_g390, b704_g392, b704_g395, b704_A457, b704_A636, b704_g398, b704_A462, b704_A641⟩ hs Q703 hn703 hp703 hz703
      have hs : law11_Table_b2 t1 x459 x464 x638 x643 i645 = some zz703 := hs
      refine fl_seq (fun Q705 hn705 hp705 => ?_)
      obtain ⟨x706, hx706, hs⟩ := obind hs
      refine rg0_seq 77 own703 [0, 0, 2, 6, 15, 31, 63, 127, 255] [⟨[], [8], [], Fct.val 46 (.int .i64 i645)⟩, ⟨[], [1], [], Fct.val 47 (.pointer (some ⟨g388, 1, none⟩))⟩, ⟨[1], [], [], Fct.val 48 (.slice At1_1 t1.2.length ct1_1)⟩, ⟨[2], [], [], Fct.val 49 (.int .i64 (t1.2.length : Int))⟩, ⟨[0, 3], [], [], Fct.val 50 (.bool (decide (i645 < (t1.2.length : Int))))⟩, ⟨[4], [], [], Fct.val 51 (.bool (decide (i645 < (t1.2.length : Int))))⟩, ⟨[5], [8], [], Fct.cond (decide (i645 < (t1.2.length : Int))) (some 52) (Fct.val 52 (.int .i64 i645))⟩, ⟨[5, 6], [], [], Fct.cond (decide (i645 < (t1.2.length : Int))) (some 53) (Fct.val 53 (.bool (decide (i645 < 20))))⟩, ⟨[5, 7], [], [], Fct.val 54 (.bool x706)⟩] hz704 hd704 (by kernel_rfl) ?_ ?_
      · refine sc (fun _ _ _ _ s _ => px (or_move (s.1.trans e704_8))) ?_
        refine sc (fun _ _ _ _ s _ => px (or_field fo43_1 (s.1.trans e704_1) (by rfl))) ?_
        refine sc (fun _ _ _ f _ hE => px (or_load1 to41 f.1 (Blk.at_ (be_ hE b704_g388).2 1 rfl))) ?_
        refine sc (fun _ _ _ f _ _ => px (or_len tu41 f.1 rfl)) ?_
        refine sc (fun _ _ _ f _ _ => px (or_lss f.1 f.2.1 rfl)) ?_
        refine sc (fun _ _ _ f _ _ => px (or_move f.1)) ?_
        refine sc (fun _ _ _ f s _ => sg_t rfl rfl rfl f.1 (fun hg => or_move (s.1.trans e704_8))) ?_
        refine sc (fun _ _ _ f _ _ => sg_t rfl rfl rfl f.1 (fun hg => or_lss (f.2.1.1 hg) rfl rfl)) ?_
        refine sc (fun _ _ _ f _ _ => px (or_and f.1 (fun hx => f.2.1.1 hx) rfl (osome hx706).symm)) ?_
        exact steps_nil
      intro own707 a707 w707 hd707 hz707 hk707 hf707 hE707
      have e707_1 := (hk707 1 rfl).trans e704_1
      have e707_2 := (hk707 2 rfl).trans e704_2
      have e707_3 := (hk707 3 rfl).trans e704_3
      have e707_4 := (hk707 4 rfl).trans e704_4
      have e707_5 := (hk707 5 rfl).trans e704_5
      have e707_8 := (hk707 8 rfl).trans e704_8
      obtain ⟨(e707_54 : a707.eval (.tmp 54) = .bool x706), -⟩ := hf707 [8] rfl
      have hX707 := es_ hE704 hE707
      have b707_g388 := be_ hE707 b704_g388
      have b707_At1_0 := RdO.evo rfl hE707 b704_At1_0
      have b707_At1_1 := RdO.evo rfl hE707 b704_At1_1
      have b707_g390 := be_ hE707 b704_g390
      have b707_g392 := be_ hE707 b704_g392
      have b707_g395 := be_ hE707 b704_g395
      have b707_A457 := re_ hE707 b704_A457
      have b707_A636 := re_ hE707 b704_A636
      have b707_g398 := be_ hE707 b704_g398
      have b707_A462 := re_ hE707 b704_A462
      have b707_A641 := re_ hE707 b704_A641
      refine fl_cond e707_54 hs (fun c708 hs => ?_) (fun c708 hs => ?_)
      · refine fl_skip ?_
        refine hn705 _ _ ?_
        refine fl_seq (fun Q709 hn709 hp709 => ?_)
        refine fl_block (fun Q710 hn710 hx710 hp710 => ?_)
        obtain ⟨x711, hx711, hs⟩ := obind hs
        obtain ⟨r712, hr712, hs⟩ := obind hs
        refine rg_plain_seq (n := 77) (rs := []) (own0 := own707) (K := [714]) (bs := [0, 1, 0, 7, 15, 31, 0, 127]) (ds := [⟨[], [1], [], Fct.val 57 (.pointer (some ⟨g388, 1, none⟩))⟩, ⟨[0], [], [], Fct.val 58 (.slice At1_1 t1.2.length ct1_1)⟩, ⟨[], [8], [], Fct.val 59 (.int .i64 i645)⟩, ⟨[1, 2], [], [], Fct.val 60 (.pointer (some ((adr At1_1).add ((i645 : Int).toNat * R60.s))))⟩, ⟨[3], [], [], Fct.val 61 (.agg #[.int .i64 x711.1, .string x711.2.1, .int .i64 x711.2.2])⟩, ⟨[4], [], [], Fct.val 62 (.agg #[.int .i64 r712.1, .string r712.2.1, .int .i64 r712.2.2])⟩, ⟨[], [], [], Fct.blk 714 9 (fun g => .pointer (some ⟨g, 0, none⟩)) 60 #[.int .i64 0, .string ByteArray.empty, .int .i64 0]⟩, ⟨[6, 5], [], [714], Fct.blk 715 9 (fun g => .pointer (some ⟨g, 0, none⟩)) 60 #[.int .i64 r712.1, .string r712.2.1, .int .i64 r712.2.2]⟩]) (by kernel_rfl) hz707 hd707 nm_ ?_ ?_
        · refine sc (fun _ _ _ _ s _ => px (or_field fo43_1 (s.1.trans e707_1) (by rfl))) ?_
          refine sc (fun _ _ _ f _ hE => px (or_load1 to41 f.1 (Blk.at_ (be_ hE b707_g388).2 1 rfl))) ?_
          refine sc (fun _ _ _ _ s _ => px (or_move (s.1.trans e707_8))) ?_
          refine sc (fun _ _ _ f _ _ => px (or_index (R := R60) (l := t1.2) tl41 f.1 f.2.1 (RdO.some_ b707_At1_1 hx711) hx711)) ?_
          refine sc (fun _ _ _ f _ hE => px (or_load (l := E60.f x711) ta60 f.1 (RdO.cells (F := E60) (RdO.evo rfl hE b707_At1_1) hx711) rfl)) ?_
          refine sc (fun _ _ _ f _ _ => px (or_call cf26 (args1 f.1) (law10_Cut_w _ x711  r712 hr712) post_val)) ?_
          refine sc (fun _ _ _ _ _ _ => px (or_new [] rfl rfl trivial (by kernel_rfl))) ?_
          refine sc (fun own a wx hf hsl hE => ?_) ?_
          · obtain ⟨⟨g713, f_9, b_g713⟩, f_62, -⟩ := hf
            exact px (or_store (l := #[.int .i64 r712.1, .string r712.2.1, .int .i64 r712.2.2]) (lab := 714) (lab2 := 715) ts60 f_9 f_62 b_g713 (by simp) (by kernel_rfl) (mem_of rfl) (by decide) (by kernel_rfl) (fun own' a' w' ha hb => ⟨_, (ha 9).trans f_9, hb⟩))
          exact steps_nil
        intro own716 a716 w716 hd716 hz716 hk716 hf716 hE716
        have e716_1 := (hk716 1 rfl).trans e707_1
        have e716_2 := (hk716 2 rfl).trans e707_2
        have e716_3 := (hk716 3 rfl).trans e707_3
        have e716_4 := (hk716 4 rfl).trans e707_4
        have e716_5 := (hk716 5 rfl).trans e707_5
        have e716_8 := (hk716 8 rfl).trans e707_8
        obtain ⟨⟨g713, (e716_9 : a716.eval (.tmp 9) = .pointer (some ⟨g713, 0, none⟩)), (b716_g713 : BlkO own716 715 w716 g713 60 #[.int .i64 r712.1, .string r712.2.1, .int .i64 r712.2.2])⟩, -⟩ := hf716 [7] rfl
        have hX716 := es_ hX707 hE716
        have b716_g388 := be_ hE716 b707_g388
        have b716_At1_0 := RdO.evo rfl hE716 b707_At1_0
        have b716_At1_1 := RdO.evo rfl hE716 b707_At1_1
        have b716_g390 := be_ hE716 b707_g390
        have b716_g392 := be_ hE716 b707_g392
        have b716_g395 := be_ hE716 b707_g395
        have b716_A457 := re_ hE716 b707_A457
        have b716_A636 := re_ hE716 b707_A636
        have b716_g398 := be_ hE716 b707_g398
        have b716_A462 := re_ hE716 b707_A462
        have b716_A641 := re_ hE716 b707_A641
        obtain ⟨x749, hx749, hs⟩ := obind hs
        obtain ⟨x754, hx754, hs⟩ := obind hs
        refine rg_draw g_mixed (n := 77) (rs := [Fct.rowAt 639 [] 60 R60 A636 c637 x638, Fct.rowAt 644 [] 75 R75 A641 c642 x643, Fct.at_ 635 g395 43 #[.slice A457 x459.length c458, .slice A636 x638.length c637], Fct.at_ 640 g398 37 #[.slice A462 x464.length c463, .slice A641 x643.length c642]]) (own0 := own716) (K := [639, 644, 635, 640]) (bs := [0, 1, 0, 4, 15, 0, 32, 0, 128, 511, 31, 2047, 4095, 8191]) (ds := [⟨[], [4], [], Fct.val 63 (.pointer (some ⟨g395, 1, none⟩))⟩, ⟨[0, 16], [], [], Fct.val 64 (.slice A636 x638.length c637)⟩, ⟨[], [9], [], Fct.val 65 (.agg #[.int .i64 r712.1, .string r712.2.1, .int .i64 r712.2.2])⟩, ⟨[2], [], [], Fct.row 748 [] 66 60 R60 [r712]⟩, ⟨[1, 3, 14], [], [639], Fct.row 750 [] 67 60 R60 x749⟩, ⟨[], [5], [], Fct.val 68 (.pointer (some ⟨g398, 1, none⟩))⟩, ⟨[5, 17], [], [], Fct.val 69 (.slice A641 x643.length c642)⟩, ⟨[], [9], [], Fct.val 70 (.agg #[.int .i64 r712.1, .string r712.2.1, .int .i64 r712.2.2])⟩, ⟨[7], [], [], Fct.row 753 [] 71 75 R75 [r712]⟩, ⟨[6, 8, 15], [], [644], Fct.row 755 [] 72 75 R75 x754⟩, ⟨[], [4], [], Fct.val 73 (.pointer (some ⟨g395, 1, none⟩))⟩, ⟨[10, 4, 16], [], [635], Fct.by_ [757] [67] (fun l own w => ∀ (A751 : Option Addr) (cA751 : Nat), l.getD 0 undef = .slice A751 x749.length cA751 → BlkO own 757 w g395 43 #[.slice A457 x459.length c458, .slice A751 x749.length cA751]) (fun hk he h _ _ h0' => BlkO.evo (not_hit hk (by decide)) he (h _ _ h0'))⟩, ⟨[], [5], [], Fct.val 74 (.pointer (some ⟨g398, 1, none⟩))⟩, ⟨[12, 9, 17], [], [640], Fct.by_ [758] [72] (fun l own w => ∀ (A756 : Option Addr) (cA756 : Nat), l.getD 0 undef = .slice A756 x754.length cA756 → BlkO own 758 w g398 37 #[.slice A462 x464.length c463, .slice A756 x754.length cA756]) (fun hk he h _ _ h0' => BlkO.evo (not_hit hk (by decide)) he (h _ _ h0'))⟩]) (by kernel_rfl) hz716 hd716 (by simp only [List.forall_mem_cons]; exact ⟨b716_A636, b716_A641, b716_g395, b716_g398, fun _ h => nomatch h⟩) ?_ ?_
        · refine sc (fun _ _ _ _ s _ => px (or_field fo43_1 (s.1.trans e716_4) (by rfl))) ?_
          refine sc (fun own a wx hf hsl hE => ?_) ?_
          · obtain ⟨f_63, (b_g395 : BlkO own 635 wx g395 43 #[.slice A457 x459.length c458, .slice A636 x638.length c637]), -⟩ := hf
            exact px (or_load1 to41 f_63 (Blk.at_ b_g395.2 1 rfl))
          refine sc (fun _ _ _ _ s hE => px (or_load (l := [.int .i64 r712.1, .string r712.2.1, .int .i64 r712.2.2]) ta60 (s.1.trans e716_9) (Blk.cellsFrom (be_ hE b716_g713).2 0 rfl) rfl)) ?_
          refine sc (fun _ _ _ f _ _ => px (or_lit (lab := 748) (e := 60) (cs := #[.int .i64 r712.1, .string r712.2.1, .int .i64 r712.2.2]) (F := E60) (or_new [(65, .agg #[.int .i64 r712.1, .string r712.2.1, .int .i64 r712.2.2])] rfl rfl ⟨f.1, trivial⟩ (by kernel_rfl)) rfl rfl (show 1 ≤ maxLen by decide))) ?_
          refine sc (fun own a wx hf hsl hE => ?_) ?_
          · obtain ⟨f_64, ⟨⟨A747, cA747⟩, f_66, b_A747⟩, b_A636, -⟩ := hf
            exact px (or_append (R := R60) (lab := 639) (lab2 := 750) (L := []) (L3 := []) tp41 f_64 b_A636 (by decide) f_66 (RwO.rd b_A747) hx749 (by decide) (by decide) (mem_of rfl) (.inl (Rep.fl_flat _)))
          refine sc (fun _ _ _ _ s _ => px (or_field fo37_1 (s.1.trans e716_5) (by rfl))) ?_
          refine sc (fun own a wx hf hsl hE => ?_) ?_
          · obtain ⟨f_68, (b_g398 : BlkO own 640 wx g398 37 #[.slice A462 x464.length c463, .slice A641 x643.length c642]), -⟩ := hf
            exact px (or_load1 to35 f_68 (Blk.at_ b_g398.2 1 rfl))
          refine sc (fun _ _ _ _ s hE => px (or_load (l := [.int .i64 r712.1, .string r712.2.1, .int .i64 r712.2.2]) ta60 (s.1.trans e716_9) (Blk.cellsFrom (be_ hE b716_g713).2 0 rfl) rfl)) ?_
          refine sc (fun _ _ _ f _ _ => px (or_lit (lab := 753) (e := 75) (cs := #[.int .i64 r712.1, .string r712.2.1, .int .i64 r712.2.2]) (F := E75) (or_new [(70, .agg #[.int .i64 r712.1, .string r712.2.1, .int .i64 r712.2.2])] rfl rfl ⟨f.1, trivial⟩ (by kernel_rfl)) rfl rfl (show 1 ≤ maxLen by decide))) ?_
          refine sc (fun own a wx hf hsl hE => ?_) ?_
          · obtain ⟨f_69, ⟨⟨A752, cA752⟩, f_71, b_A752⟩, b_A641, -⟩ := hf
            exact px (or_append (R := R75) (lab := 644) (lab2 := 755) (L := []) (L3 := []) tp35 f_69 b_A641 (by decide) f_71 (RwO.rd b_A752) hx754 (by decide) (by decide) (mem_of rfl) (.inl (Rep.fl_flat _)))
          refine sc (fun _ _ _ _ s _ => px (or_field fo43_1 (s.1.trans e716_4) (by rfl))) ?_
          refine sc (fun own a wx hf hsl hE => ?_) ?_
          · obtain ⟨f_73, ⟨⟨A751, cA751⟩, (f_67 : a.eval (.tmp 67) = .slice A751 x749.length cA751), b_A751⟩, b_g395, -⟩ := hf
            exact px (or_store1 (lab := 635) (lab2 := 757) ts41 f_73 f_67 b_g395 (by simp) rfl (mem_of rfl) (by decide) rfl (fun own' a' w' ha hb => fun _ _ h0' => by cases (f_67.symm.trans ((ha 67).symm.trans h0')); exact hb))
          refine sc (fun _ _ _ _ s _ => px (or_field fo37_1 (s.1.trans e716_5) (by rfl))) ?_
          refine sc (fun own a wx hf hsl hE => ?_) ?_
          · obtain ⟨f_74, ⟨⟨A756, cA756⟩, (f_72 : a.eval (.tmp 72) = .slice A756 x754.length cA756), b_A756⟩, b_g398, -⟩ := hf
            exact px (or_store1 (lab := 640) (lab2 := 758) ts35 f_74 f_72 b_g398 (by simp) rfl (mem_of rfl) (by decide) rfl (fun own' a' w' ha hb => fun _ _ h0' => by cases (f_72.symm.trans ((ha 72).symm.trans h0')); exact hb))
          exact steps_nil
        intro own759 a759 w759 hd759 hz759 hk759 hf759 hE759
        have e759_1 := (hk759 1 rfl).trans e716_1
        have e759_2 := (hk759 2 rfl).trans e716_2
        have e759_3 := (hk759 3 rfl).trans e716_3
        have e759_4 := (hk759 4 rfl).trans e716_4
        have e759_5 := (hk759 5 rfl).trans e716_5
        have e759_8 := (hk759 8 rfl).trans e716_8
        obtain ⟨⟨⟨A751, cA751⟩, (f_67 : a759.eval (.tmp 67) = .slice A751 x749.length cA751), (b759_A751 : RwO own759 750 [] w759 60 R60 A751 cA751 x749)⟩, (bq_g395 : ∀ (A751 : Option Addr) (cA751 : Nat), a759.eval (.tmp 67) = .slice A751 x749.length cA751 → BlkO own759 757 w759 g395 43 #[.slice A457 x459.length c458, .slice A751 x749.length cA751]), ⟨⟨A756, cA756⟩, (f_72 : a759.eval (.tmp 72) = .slice A756 x754.length cA756), (b759_A756 : RwO own759 755 [] w759 75 R75 A756 cA756 x754)⟩, (bq_g398 : ∀ (A756 : Option Addr) (cA756 : Nat), a759.eval (.tmp 72) = .slice A756 x754.length cA756 → BlkO own759 758 w759 g398 37 #[.slice A462 x464.length c463, .slice A756 x754.length cA756]), -⟩ := hf759 [4, 11, 9, 13] rfl
        have b759_g395 := bq_g395 _ _ f_67
        have b759_g398 := bq_g398 _ _ f_72
        have hX759 := es_ hX716 hE759
        have b759_g388 := be_ hE759 b716_g388
        have b759_At1_0 := RdO.evo rfl hE759 b716_At1_0
        have b759_At1_1 := RdO.evo rfl hE759 b716_At1_1
        have b759_g390 := be_ hE759 b716_g390
        have b759_g392 := be_ hE759 b716_g392
        have b759_A457 := re_ hE759 b716_A457
        have b759_A462 := re_ hE759 b716_A462
        refine hn710 _ _ ?_
        refine hn709 _ _ ?_
        refine rg0 77 own759 (bz 3) [⟨[], [8], [], Fct.val 55 (.int .i64 i645)⟩, ⟨[0], [], [], Fct.val 56 (.int .i64 (ad i645 1))⟩, ⟨[1], [], [], Fct.val 8 (.int .i64 (ad i645 1))⟩] hz759 hd759 (by kernel_rfl) ?_ ?_
        · refine sc (fun _ _ _ _ s _ => px (or_move (s.1.trans e759_8))) ?_
          refine sc (fun _ _ _ f _ _ => px (or_add f.1 rfl rfl)) ?_
          refine sc (fun _ _ _ f _ _ => px (or_assign f.1)) ?_
          exact steps_nil
        intro own760 a760 w760 hd760 hz760 hk760 hf760 hE760
        have e760_1 := (hk760 1 rfl).trans e759_1
        have e760_2 := (hk760 2 rfl).trans e759_2
        have e760_3 := (hk760 3 rfl).trans e759_3
        have e760_4 := (hk760 4 rfl).trans e759_4
        have e760_5 := (hk760 5 rfl).trans e759_5
        obtain ⟨(e760_8 : a760.eval (.tmp 8) = .int .i64 (ad i645 1)), -⟩ := hf760 [2] rfl
        have hX760 := es_ hX759 hE760
        have b760_g388 := be_ hE760 b759_g388
        have b760_At1_0 := RdO.evo rfl hE760 b759_At1_0
        have b760_At1_1 := RdO.evo rfl hE760 b759_At1_1
        have b760_g390 := be_ hE760 b759_g390
        have b760_g392 := be_ hE760 b759_g392
        have b760_A457 := re_ hE760 b759_A457
        have b760_A462 := re_ hE760 b759_A462
        have b760_g395 := be_ hE760 b759_g395
        have b760_g398 := be_ hE760 b759_g398
        have b760_A751 := re_ hE760 b759_A751
        have b760_A756 := re_ hE760 b759_A756
        exact hn703 _ _ _ hs ⟨(rl [(750, 639), (755, 644), (757, 635), (758, 640)] own760), A751, cA751, A756, cA756, hd760, hz760, e760_1, e760_2, e760_3, e760_4, e760_5, e760_8, (Evo.rl_ hX760 (fun _ => Nat.le_refl 0) rfl), (BlkO.rl_ (mm := [(750, 639), (755, 644), (757, 635), (758, 640)]) b760_g388), (RdO.rl_ (mm := [(750, 639), (755, 644), (757, 635), (758, 640)]) b760_At1_0), (RdO.rl_ (mm := [(750, 639), (755, 644), (757, 635), (758, 640)]) b760_At1_1), (BlkO.rl_ (mm := [(750, 639), (755, 644), (757, 635), (758, 640)]) b760_g390), (BlkO.rl_ (mm := [(750, 639), (755, 644), (757, 635), (758, 640)]) b760_g392), (BlkO.rl_ (mm := [(750, 639), (755, 644), (757, 635), (758, 640)]) b760_g395), (RwO.rl_ (mm := [(750, 639), (755, 644), (757, 635), (758, 640)]) b760_A457), (RwO.rl_ (mm := [(750, 639), (755, 644), (757, 635), (758, 640)]) b760_A751), (BlkO.rl_ (mm := [(750, 639), (755, 644), (757, 635), (758, 640)]) b760_g398), (RwO.rl_ (mm := [(750, 639), (755, 644), (757, 635), (758, 640)]) b760_A462), (RwO.rl_ (mm := [(750, 639), (755, 644), (757, 635), (758, 640)]) b760_A756)⟩
      refine fl_exit ?_
      refine hp705 _ _ _ rfl ?_
      replace hs := hz703 _ hs
      refine hp703 _ _ _ rfl ?_
      refine hx580 _ _ ?_
      refine hn578 _ _ ?_
      refine rg_draw_seq g_mixed (n := 77) (rs := [Fct.at_ 391 g390 43 #[.slice none 0 0, .slice none 0 0], Fct.at_ 393 g392 37 #[.slice none 0 0, .slice none 0 0]]) (own0 := own707) (K := [391, 393]) (bs := [0, 0, 1, 7]) (ds := [⟨[], [4], [], Fct.val 75 (.agg #[.slice A457 x459.length c458, .slice A636 x638.length c637])⟩, ⟨[], [5], [], Fct.val 76 (.agg #[.slice A462 x464.length c463, .slice A641 x643.length c642])⟩, ⟨[0, 4], [2], [391], Fct.at_ 762 g390 43 #[.slice A457 x459.length c458, .slice A636 x638.length c637]⟩, ⟨[1, 5], [3], [393], Fct.at_ 763 g392 37 #[.slice A462 x464.length c463, .slice A641 x643.length c642]⟩]) (by kernel_rfl) hz707 hd707 (by simp only [List.forall_mem_cons]; exact ⟨b707_g390, b707_g392, fun _ h => nomatch h⟩) ?_ ?_
      · refine sc (fun _ _ _ _ s hE => px (or_load (l := [.slice A457 x459.length c458, .slice A636 x638.length c637]) ta43 (s.1.trans e707_4) (Blk.cellsFrom (be_ hE b707_g395).2 0 rfl) rfl)) ?_
        refine sc (fun _ _ _ _ s hE => px (or_load (l := [.slice A462 x464.length c463, .slice A641 x643.length c642]) ta37 (s.1.trans e707_5) (Blk.cellsFrom (be_ hE b707_g398).2 0 rfl) rfl)) ?_
        refine sc (fun own a wx hf hsl hE => ?_) ?_
        · obtain ⟨f_75, b_g390, -⟩ := hf
          obtain ⟨s_2, -⟩ := hsl
          exact px (or_store (l := #[.slice A457 x459.length c458, .slice A636 x638.length c637]) (lab := 391) (lab2 := 762) ts43 (s_2.trans e707_2) f_75 b_g390 (by simp) (by kernel_rfl) (mem_of rfl) (by decide) (by kernel_rfl) (fun own' a' w' ha hb => hb))
        refine sc (fun own a wx hf hsl hE => ?_) ?_
        · obtain ⟨f_76, b_g392, -⟩ := hf
          obtain ⟨s_3, -⟩ := hsl
          exact px (or_store (l := #[.slice A462 x464.length c463, .slice A641 x643.length c642]) (lab := 393) (lab2 := 763) ts37 (s_3.trans e707_3) f_76 b_g392 (by simp) (by kernel_rfl) (mem_of rfl) (by decide) (by kernel_rfl) (fun own' a' w' ha hb => hb))
        exact steps_nil
      intro own764 a764 w764 hd764 hz764 hk764 hf764 hE764
      have e764_2 := (hk764 2 rfl).trans e707_2
      have e764_3 := (hk764 3 rfl).trans e707_3
      obtain ⟨(b764_g390 : BlkO own764 762 w764 g390 43 #[.slice A457 x459.length c458, .slice A636 x638.length c637]), (b764_g392 : BlkO own764 763 w764 g392 37 #[.slice A462 x464.length c463, .slice A641 x643.length c642]), -⟩ := hf764 [2, 3] rfl
      have hX764 := es_ hX707 hE764
      have b764_A457 := re_ hE764 b707_A457
      have b764_A636 := re_ hE764 b707_A636
      have b764_A462 := re_ hE764 b707_A462
      have b764_A641 := re_ hE764 b707_A641
      refine fl_ret ?_
      obtain rfl := osome hs
      exact hret _ _ _ _ (.inl rfl) hd764 (results2_ rfl (RVal.cell_ e764_2 (run_loadVarAgg (l := [.slice A457 x459.length c458, .slice A636 x638.length c637]) ta43 (Blk.cellsFrom b764_g390.2 0 rfl) rfl)) (RVal.cell_ e764_3 (run_loadVarAgg (l := [.slice A462 x464.length c463, .slice A641 x643.length c642]) ta37 (Blk.cellsFrom b764_g392.2 0 rfl) rfl))) ⟨(rl [(460, 1), (465, 3), (639, 2), (644, 4)] own764), ((A457, c458), (A636, c637), (A462, c463), (A641, c642)), rfl, (Evo.rl_ hX764 (fun _ => Nat.le_refl 0) rfl), (RwO.rl_ (mm := [(460, 1), (465, 3), (639, 2), (644, 4)]) b764_A457), (RwO.rl_ (mm := [(460, 1), (465, 3), (639, 2), (644, 4)]) b764_A636), (RwO.rl_ (mm := [(460, 1), (465, 3), (639, 2), (644, 4)]) b764_A462), (RwO.rl_ (mm := [(460, 1), (465, 3), (639, 2), (644, 4)]) b764_A641)⟩
theorem law11_Ofs_w (w : World) (l1 : List (ByteArray × (Int × ByteArray × Int))) (Al1 : Option Addr) (cl1 : Nat) (hl1 : RdO (fun _ => 0) [0] w R64 Al1 cl1 l1) (r : List (ByteArray × (Int × ByteArray × Int))) (hs : law11_Ofs l1 = some r) :
    Calls Try.prog 16 #[.slice Al1 l1.length cl1] w fun e w' => ∃ (own' : Own) (x : Option Addr × Nat), e = .returned (.slice x.1 r.length x.2) ∧ Evo [] (fun _ => 0) own' w w' ∧ RwO own' 1 [] w' 77 R77 x.1 x.2 r := by
  refine fl_enter (n := 26) rfl rfl rfl (Nat.le_of_ble_eq_true rfl) ?_
  intro a0 Q hd0 hz0 harg hret
  have ha0 := harg 0 _ rfl
  clear harg
  have hE0 : Evo [] (fun _ => 0) (fun _ => 0) w w := Evo.refl _ _ _
  refine rg0_seq 26 (fun _ => 0) (bz 1) [⟨[], [], [], Fct.val 2 (.slice none 0 0)⟩] hz0 hd0 (by kernel_rfl) ?_ ?_
  · refine sc (fun _ _ _ _ _ _ => px (or_assign rfl)) ?_
    exact steps_nil
  intro own77 a77 w77 hd77 hz77 hk77 hf77 hE77
  have e77_0 := (hk77 0 rfl).trans ha0
  have hX77 := es_ hE0 hE77
  have b77_Al1 := RdO.evo rfl hE77 hl1
  refine rg0_seq 26 own77 (bz 1) [⟨[], [], [], Fct.val 3 (.slice none 0 0)⟩] hz77 hd77 (by kernel_rfl) ?_ ?_
  · refine sc (fun _ _ _ _ _ _ => px (or_assign rfl)) ?_
    exact steps_nil
  intro own78 a78 w78 hd78 hz78 hk78 hf78 hE78
  have e78_0 := (hk78 0 rfl).trans e77_0
  obtain ⟨(e78_3 : a78.eval (.tmp 3) = .slice none 0 0), -⟩ := hf78 [0] rfl
  have hX78 := es_ hX77 hE78
  have b78_Al1 := RdO.evo rfl hE78 b77_Al1
  refine fl_seq (fun Q79 hn79 hp79 => ?_)
  refine rg0_seq 26 own78 (bz 1) [⟨[], [], [], Fct.val 4 (.int .i64 0)⟩] hz78 hd78 (by kernel_rfl) ?_ ?_
  · refine sc (fun _ _ _ _ _ _ => px (or_assign rfl)) ?_
    exact steps_nil
  intro own80 a80 w80 hd80 hz80 hk80 hf80 hE80
  have e80_0 := (hk80 0 rfl).trans e78_0
  have e80_3 := (hk80 3 rfl).trans e78_3
  obtain ⟨(e80_4 : a80.eval (.tmp 4) = .int .i64 0), -⟩ := hf80 [0] rfl
  have hX80 := es_ hX78 hE80
  have b80_Al1 := RdO.evo rfl hE80 b78_Al1
  refine fl_block (fun Q81 hn81 hx81 hp81 => ?_)
  refine fl_loop (body := (fun s => law11_Ofs_b1 l1 s.1 s.2)) (z := r) (show loopO _ _ = _ from hs) (fun (s : (List (ByteArray × (Int × ByteArray × Int))) × Int) a wx => match s with | (out100, i102) => ∃ (ox : Own) (A98 : Option Addr) (c99 : Nat), a.defers = [] ∧ a.tmps.size = 26 ∧ a.eval (.tmp 0) = .slice Al1 l1.length cl1 ∧ a.eval (.tmp 3) = .slice A98 out100.length c99 ∧ a.eval (.tmp 4) = .int .i64 i102 ∧ Evo [] (fun _ => 0) ox w wx ∧ RdO ox [0] wx R64 Al1 cl1 l1 ∧ RwO ox 101 [] wx 77 R77 A98 c99 out100) ?_ ?_
  · exact ⟨own80, none, 0, hd80, hz80, e80_0, e80_3, e80_4, hX80, b80_Al1, RwO.nil_⟩
  · rintro ⟨out100, i102⟩ zz122 a122 w122 ⟨own122, A98, c99, hd123, hz123, e123_0, e123_3, e123_4, hE123, b123_Al1, b123_A98⟩ hs Q122 hn122 hp122 hz122
    have hs : law11_Ofs_b1 l1 out100 i102 = some zz122 := hs
    refine fl_seq (fun Q124 hn124 hp124 => ?_)
    refine rg0_seq 26 own122 [0, 0, 2, 7] [⟨[], [4], [], Fct.val 5 (.int .i64 i102)⟩, ⟨[], [0], [], Fct.val 6 (.slice Al1 l1.length cl1)⟩, ⟨[1], [], [], Fct.val 7 (.int .i64 (l1.length : Int))⟩, ⟨[0, 2], [], [], Fct.val 8 (.bool (decide (i102 < (l1.length : Int))))⟩] hz123 hd123 (by kernel_rfl) ?_ ?_
    · refine sc (fun _ _ _ _ s _ => px (or_move (s.1.trans e123_4))) ?_
      refine sc (fun _ _ _ _ s _ => px (or_move (s.1.trans e123_0))) ?_
      refine sc (fun _ _ _ f _ _ => px (or_len tu22 f.1 rfl)) ?_
      refine sc (fun _ _ _ f _ _ => px (or_lss f.1 f.2.1 rfl)) ?_
      exact steps_nil
    intro own125 a125 w125 hd125 hz125 hk125 hf125 hE125
    have e125_0 := (hk125 0 rfl).trans e123_0
    have e125_3 := (hk125 3 rfl).trans e123_3
    have e125_4 := (hk125 4 rfl).trans e123_4
    obtain ⟨(e125_8 : a125.eval (.tmp 8) = .bool (decide (i102 < (l1.length : Int)))), -⟩ := hf125 [3] rfl
    have hX125 := es_ hE123 hE125
    have b125_Al1 := RdO.evo rfl hE125 b123_Al1
    have b125_A98 := re_ hE125 b123_A98
    refine fl_cond e125_8 hs (fun c126 hs => ?_) (fun c126 hs => ?_)
    · refine fl_skip ?_
      refine hn124 _ _ ?_
      refine fl_seq (fun Q127 hn127 hp127 => ?_)
      refine fl_block (fun Q128 hn128 hx128 hp128 => ?_)
      obtain ⟨x133, hx133, hs⟩ := obind hs
      obtain ⟨x134, hx134, hs⟩ := obind hs
      obtain ⟨x137, hx137, hs⟩ := obind hs
      refine rg_draw g_mixed (n := 26) (rs := [Fct.rowAt 101 [] 77 R77 A98 c99 out100]) (own0 := own125) (K := [101]) (bs := [0, 0, 0, 6, 14, 30, 0, 0, 192, 448, 960, 2046, 4094, 8191, 16383]) (ds := [⟨[], [3], [], Fct.val 11 (.slice A98 out100.length c99)⟩, ⟨[], [0], [], Fct.val 12 (.slice Al1 l1.length cl1)⟩, ⟨[], [4], [], Fct.val 13 (.int .i64 i102)⟩, ⟨[1, 2], [], [], Fct.val 14 (.pointer (some ((adr Al1).add ((i102 : Int).toNat * R64.s))))⟩, ⟨[3], [], [], Fct.val 15 (.pointer (some ((adr Al1).add ((i102 : Int).toNat * R64.s))))⟩, ⟨[4], [], [], Fct.val 16 (.string x133.1)⟩, ⟨[], [0], [], Fct.val 17 (.slice Al1 l1.length cl1)⟩, ⟨[], [4], [], Fct.val 18 (.int .i64 i102)⟩, ⟨[6, 7], [], [], Fct.val 19 (.pointer (some ((adr Al1).add ((i102 : Int).toNat * R64.s))))⟩, ⟨[8], [], [], Fct.val 20 (.pointer (some (((adr Al1).add ((i102 : Int).toNat * R64.s)).add 1)))⟩, ⟨[9], [], [], Fct.val 21 (.agg #[.int .i64 x134.2.1, .string x134.2.2.1, .int .i64 x134.2.2.2])⟩, ⟨[5, 10], [], [], Fct.val 22 (.agg #[.string x133.1, .int .i64 x134.2.1, .string x134.2.2.1, .int .i64 x134.2.2.2])⟩, ⟨[11], [], [], Fct.row 136 [] 23 77 R77 [(x133.1, x134.2)]⟩, ⟨[0, 12, 15], [], [101], Fct.row 138 [] 24 77 R77 x137⟩, ⟨[13], [], [], Fct.rel [3, 24] (fun l => ∀ (A139 : Option Addr) (cA139 : Nat), l.getD 1 undef = .slice A139 x137.length cA139 → l.getD 0 undef = .slice A139 x137.length cA139)⟩]) (by kernel_rfl) hz125 hd125 (by simp only [List.forall_mem_cons]; exact ⟨b125_A98, fun _ h => nomatch h⟩) ?_ ?_
      · refine sc (fun _ _ _ _ s _ => px (or_move (s.1.trans e125_3))) ?_
        refine sc (fun _ _ _ _ s _ => px (or_move (s.1.trans e125_0))) ?_
        refine sc (fun _ _ _ _ s _ => px (or_move (s.1.trans e125_4))) ?_
        refine sc (fun _ _ _ f _ _ => px (or_index (R := R64) (l := l1) tl22 f.1 f.2.1 (RdO.some_ b125_Al1 hx133) hx133)) ?_
        refine sc (fun _ _ _ f _ _ => px (or_field fo64_0 f.1 (Addr.add_zero' _))) ?_
        refine sc (fun _ _ _ f _ hE => px (or_load1 to9 f.1 (CellsAt.zero (RdO.cells (F := E64) (RdO.evo rfl hE b125_Al1) hx133) rfl))) ?_
        refine sc (fun _ _ _ _ s _ => px (or_move (s.1.trans e125_0))) ?_
        refine sc (fun _ _ _ _ s _ => px (or_move (s.1.trans e125_4))) ?_
        refine sc (fun _ _ _ f _ _ => px (or_index (R := R64) (l := l1) tl22 f.1 f.2.1 (RdO.some_ b125_Al1 hx134) hx134)) ?_
        refine sc (fun _ _ _ f _ _ => px (or_field fo64_1 f.1 rfl)) ?_
        refine sc (fun _ _ _ f _ hE => px (or_load (l := [.int .i64 x134.2.1, .string x134.2.2.1, .int .i64 x134.2.2.2]) ta60 f.1 (CellsAt.part (RdO.cells (F := E64) (RdO.evo rfl hE b125_Al1) hx134) 1 rfl) rfl)) ?_
        refine sc (fun _ _ _ f _ _ => px (or_k [(16, .string x133.1), (21, .agg #[.int .i64 x134.2.1, .string x134.2.2.1, .int .i64 x134.2.2.2])] rfl rfl ⟨f.1, f.2.1, trivial⟩ (by kernel_rfl))) ?_
        refine sc (fun _ _ _ f _ _ => px (or_lit (lab := 136) (e := 77) (cs := #[.string x133.1, .int .i64 x134.2.1, .string x134.2.2.1, .int .i64 x134.2.2.2]) (F := E77) (or_new [(22, .agg #[.string x133.1, .int .i64 x134.2.1, .string x134.2.2.1, .int .i64 x134.2.2.2])] rfl rfl ⟨f.1, trivial⟩ (by kernel_rfl)) rfl rfl (show 1 ≤ maxLen by decide))) ?_
        refine sc (fun own a wx hf hsl hE => ?_) ?_
        · obtain ⟨f_11, ⟨⟨A135, cA135⟩, f_23, b_A135⟩, b_A98, -⟩ := hf
          exact px (or_append (R := R77) (lab := 101) (lab2 := 138) (L := []) (L3 := []) tp31 f_11 b_A98 (by decide) f_23 (RwO.rd b_A135) hx137 (by decide) (by decide) (mem_of rfl) (.inl (Rep.fl_flat _)))
        refine sc (fun own a wx hf hsl hE => ?_) ?_
        · obtain ⟨⟨⟨A139, cA139⟩, (f_24 : a.eval (.tmp 24) = .slice A139 x137.length cA139), b_A139⟩, -⟩ := hf
          exact px (or_mono (f := Fct.val 3 (.slice A139 x137.length cA139)) (or_assign f_24) (fun own' a' w' v' hp h => fun _ _ h0' => by cases (f_24.symm.trans ((hp.2 24 (by decide)).symm.trans h0')); exact h))
        exact steps_nil
      intro own140 a140 w140 hd140 hz140 hk140 hf140 hE140
      have e140_0 := (hk140 0 rfl).trans e125_0
      have e140_4 := (hk140 4 rfl).trans e125_4
      obtain ⟨⟨⟨A139, cA139⟩, (f_24 : a140.eval (.tmp 24) = .slice A139 x137.length cA139), (b140_A139 : RwO own140 138 [] w140 77 R77 A139 cA139 x137)⟩, (q_3 : ∀ (A139 : Option Addr) (cA139 : Nat), a140.eval (.tmp 24) = .slice A139 x137.length cA139 → a140.eval (.tmp 3) = .slice A139 x137.length cA139), -⟩ := hf140 [13, 14] rfl
      have e140_3 := q_3 _ _ f_24
      have hX140 := es_ hX125 hE140
      have b140_Al1 := RdO.evo rfl hE140 b125_Al1
      refine hn128 _ _ ?_
      refine hn127 _ _ ?_
      refine rg0 26 own140 (bz 3) [⟨[], [4], [], Fct.val 9 (.int .i64 i102)⟩, ⟨[0], [], [], Fct.val 10 (.int .i64 (ad i102 1))⟩, ⟨[1], [], [], Fct.val 4 (.int .i64 (ad i102 1))⟩] hz140 hd140 (by kernel_rfl) ?_ ?_
      · refine sc (fun _ _ _ _ s _ => px (or_move (s.1.trans e140_4))) ?_
        refine sc (fun _ _ _ f _ _ => px (or_add f.1 rfl rfl)) ?_
        refine sc (fun _ _ _ f _ _ => px (or_assign f.1)) ?_
        exact steps_nil
      intro own141 a141 w141 hd141 hz141 hk141 hf141 hE141
      have e141_0 := (hk141 0 rfl).trans e140_0
      have e141_3 := (hk141 3 rfl).trans e140_3
      obtain ⟨(e141_4 : a141.eval (.tmp 4) = .int .i64 (ad i102 1)), -⟩ := hf141 [2] rfl
      have hX141 := es_ hX140 hE141
      have b141_Al1 := RdO.evo rfl hE141 b140_Al1
      have b141_A139 := re_ hE141 b140_A139
      exact hn122 _ _ _ hs ⟨(rl [(138, 101)] own141), A139, cA139, hd141, hz141, e141_0, e141_3, e141_4, (Evo.rl_ hX141 (fun _ => Nat.le_refl 0) rfl), (RdO.rl_ (mm := [(138, 101)]) b141_Al1), (RwO.rl_ (mm := [(138, 101)]) b141_A139)⟩
    refine fl_exit ?_
    refine hp124 _ _ _ rfl ?_
    replace hs := hz122 _ hs
    refine hp122 _ _ _ rfl ?_
    refine hx81 _ _ ?_
    refine hn79 _ _ ?_
    refine rg0_seq 26 own125 (bz 2) [⟨[], [3], [], Fct.val 25 (.slice A98 out100.length c99)⟩, ⟨[0], [], [], Fct.val 2 (.slice A98 out100.length c99)⟩] hz125 hd125 (by kernel_rfl) ?_ ?_
    · refine sc (fun _ _ _ _ s _ => px (or_move (s.1.trans e125_3))) ?_
      refine sc (fun _ _ _ f _ _ => px (or_assign f.1)) ?_
      exact steps_nil
    intro own142 a142 w142 hd142 hz142 hk142 hf142 hE142
    obtain ⟨(e142_2 : a142.eval (.tmp 2) = .slice A98 out100.length c99), -⟩ := hf142 [1] rfl
    have hX142 := es_ hX125 hE142
    have b142_A98 := re_ hE142 b125_A98
    refine fl_ret ?_
    obtain rfl := (osome hs).symm
    exact hret _ _ _ _ (.inl rfl) hd142 (results1_ rfl (RVal.tmp_ e142_2)) ⟨(rl [(101, 1)] own142), (A98, c99), rfl, (Evo.rl_ hX142 (fun _ => Nat.le_refl 0) rfl), (RwO.rl_ (mm := [(101, 1)]) b142_A98)⟩
end Go.Proofs.Ytpbhdblkjabdlaa
