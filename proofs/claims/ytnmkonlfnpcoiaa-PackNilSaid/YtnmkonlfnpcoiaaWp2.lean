import Derived.Test.YtnmkonlfnpcoiaaWp1
import Derived.Test.YtnmkonlfnpcoiaaSp2
namespace Go.Proofs.Ytnmkonlfnpcoiaa
open Go.RowKit
set_option linter.unusedVariables false
set_option maxRecDepth 10000
theorem ref07_Same_w (w : World) (x1 : List Int) (Ax1 : Option Addr) (cx1 : Nat) (b2 : List Int) (Ab2 : Option Addr) (cb2 : Nat) (hx1 : RdO (fun _ => 0) [0] w R5 Ax1 cx1 x1) (hb2 : RdO (fun _ => 0) [0] w R5 Ab2 cb2 b2) (r : Bool) (hs : ref07_Same x1 b2 = some r) :
  Calls Try.prog 11 #[sl Ax1 x1 cx1, sl Ab2 b2 cb2] w fun e w' => ∃ own' : Own, e = .returned (.bool r) ∧ Evo [] (fun _ => 0) own' w w' := by
 refine fl_enter (n := 26) rfl rfl rfl (Nat.le_of_ble_eq_true rfl) ?_
 intro a0 Q d0 z0 harg hret
 have ha0 := harg 0 _ rfl
 have ha1 := harg 1 _ rfl
 clear harg
 have hE0 : Evo [] (fun _ => 0) (fun _ => 0) w w := Evo.refl _ _ _
 refine rq_seq 26 (fun _ => 0) (bz 1) [dv [] [] 4 (.bool false)] z0 d0 ?_ ?_
 ·exact sO (or_assign rfl) <| steps_nil
 intro o58 a58 w58 d58 z58 hk58 hf58 hE58
 obtain ⟨e58_0, e58_1⟩ := kt2 hk58 ha0 ha1
 have hX58 := es_ hE0 hE58
 refine fl_seq (fun Q59 hn59 hp59 => ?_)
 refine rq_seq 26 o58 [0, 1, 0, 4, 15] [dv [] [0] 6 (sl Ax1 x1 cx1), dv [0] [] 7 (Zi (x1.length : Int)), dv [] [1] 8 (sl Ab2 b2 cb2), dv [2] [] 9 (Zi (b2.length : Int)), dv [1, 3] [] 10 (.bool (!decide ((x1.length : Int) = (b2.length : Int))))] z58 d58 ?_ ?_
 ·exact sM e58_0 <| sF (fun f => or_len tu22 f.1 rfl) <| sM e58_1 <| sF (fun f => or_len tu22 f.1 rfl) <| sF (fun f => or_neq f.1 f.2.1 rfl) <| steps_nil
 intro o60 a60 w60 d60 z60 hk60 hf60 hE60
 obtain ⟨e60_0, e60_1⟩ := kt2 hk60 e58_0 e58_1
 have e60_10 := gv (hf60 [4] rfl) rfl
 have hX60 := es_ hX58 hE60
 refine fl_cond e60_10 hs (fun c61 hs => ?_) (fun c61 hs => ?_)
 ·refine rq_seq 26 o60 (bz 1) [dv [] [] 4 (.bool false)] z60 d60 ?_ ?_
  ·exact sO (or_assign rfl) <| steps_nil
  intro o62 a62 w62 d62 z62 hk62 hf62 hE62
  have e62_4 := gv (hf62 [0] rfl) rfl
  have hX62 := es_ hX60 hE62
  refine fl_ret ?_
  refine hp59 _ _ _ rfl ?_
  obtain rfl := osome hs
  exact hret _ _ _ _ (.inl rfl) d62 (results1_ rfl (RVal.tmp_ e62_4)) ⟨o62, rfl, hX62⟩
 refine fl_skip ?_
 refine hn59 _ _ ?_
 refine fl_seq (fun Q63 hn63 hp63 => ?_)
 refine rq_seq 26 o60 (bz 1) [dv [] [] 5 (Zi 0)] z60 d60 ?_ ?_
 ·exact sO (or_assign rfl) <| steps_nil
 intro o64 a64 w64 d64 z64 hk64 hf64 hE64
 obtain ⟨e64_0, e64_1⟩ := kt2 hk64 e60_0 e60_1
 have e64_5 := gv (hf64 [0] rfl) rfl
 have hX64 := es_ hX60 hE64
 refine fl_block (fun Q65 hn65 hx65 hp65 => ?_)
 refine fl_loop (body := (fun s => ref07_Same_b1 x1 b2 s)) (z := r) (show loopO _ _ = _ from hs) (fun (i78 : Int) a wx => ∃ (ox : Own), a.defers = [] ∧ a.tmps.size = 26 ∧ a.eval (.tmp 0) = sl Ax1 x1 cx1 ∧ a.eval (.tmp 1) = sl Ab2 b2 cb2 ∧ a.eval (.tmp 5) = Zi i78 ∧ Evo [] (fun _ => 0) ox w wx) ?_ ?_
 ·exact ⟨o64, d64, z64, e64_0, e64_1, e64_5, hX64⟩
 ·rintro i78 zz91 a91 w91 ⟨o91, d92, z92, e92_0, e92_1, e92_5, hE92⟩ hs Q91 hn91 hp91 z91
  have hs : ref07_Same_b1 x1 b2 i78 = some zz91 := hs
  refine fl_seq (fun Q93 hn93 hp93 => ?_)
  refine rq_seq 26 o91 [0, 0, 2, 7] [dv [] [5] 11 (Zi i78), dv [] [0] 12 (sl Ax1 x1 cx1), dv [1] [] 13 (Zi (x1.length : Int)), dv [0, 2] [] 14 (.bool (decide (i78 < (x1.length : Int))))] z92 d92 ?_ ?_
  ·exact sM e92_5 <| sM e92_0 <| sF (fun f => or_len tu22 f.1 rfl) <| sF (fun f => or_lss f.1 f.2.1 rfl) <| steps_nil
  intro o94 a94 w94 d94 z94 hk94 hf94 hE94
  obtain ⟨e94_0, e94_1, e94_5⟩ := kt3 hk94 e92_0 e92_1 e92_5
  have e94_14 := gv (hf94 [3] rfl) rfl
  have hX94 := es_ hE92 hE94
  refine fl_cond e94_14 hs (fun c95 hs => ?_) (fun c95 hs => ?_)
  ·refine fl_skip ?_
   refine hn93 _ _ ?_
   refine fl_seq (fun Q96 hn96 hp96 => ?_)
   refine fl_block (fun Q97 hn97 hx97 hp97 => ?_)
   obtain ⟨x98, hx98, hs⟩ := obind hs
   obtain ⟨x99, hx99, hs⟩ := obind hs
   refine rd_seq g_mixed 26 [] o94 [] [0, 0, 3, 7, 0, 0, 48, 112, 255] [dv [] [0] 17 (sl Ax1 x1 cx1), dv [] [5] 18 (Zi i78), dv [0, 1] [] 19 (.pointer (some ((adr Ax1).add ((i78 : Int).toNat * R5.s)))), dv [2] [] 20 (.int .u8 x98), dv [] [1] 21 (sl Ab2 b2 cb2), dv [] [5] 22 (Zi i78), dv [4, 5] [] 23 (.pointer (some ((adr Ab2).add ((i78 : Int).toNat * R5.s)))), dv [6] [] 24 (.int .u8 x99), dv [3, 7] [] 25 (.bool (!decide (x98 = x99)))] z94 d94 nm_ ?_ ?_
   ·exact sM e94_0 <| sM e94_5 <| sF (fun f => or_index (R := R5) (l := x1) tl22 f.1 f.2.1 (RdO.some_ (RdO.evo rfl hX94 hx1) hx98) hx98) <| sFE (fun f hE => or_load1 to5 f.1 (CellsAt.zero (RdO.cells (F := E5) (RdO.evo rfl hE (RdO.evo rfl hX94 hx1)) hx98) rfl)) <| sM e94_1 <| sM e94_5 <| sF (fun f => or_index (R := R5) (l := b2) tl22 f.1 f.2.1 (RdO.some_ (RdO.evo rfl hX94 hb2) hx99) hx99) <| sFE (fun f hE => or_load1 to5 f.1 (CellsAt.zero (RdO.cells (F := E5) (RdO.evo rfl hE (RdO.evo rfl hX94 hb2)) hx99) rfl)) <| sF (fun f => or_neq f.1 f.2.1 rfl) <| steps_nil
   intro o100 a100 w100 d100 z100 hk100 hf100 hE100
   obtain ⟨e100_0, e100_1, e100_5⟩ := kt3 hk100 e94_0 e94_1 e94_5
   have e100_25 := gv (hf100 [8] rfl) rfl
   have hX100 := es_ hX94 hE100
   refine fl_cond e100_25 hs (fun c101 hs => ?_) (fun c101 hs => ?_)
   ·refine rq_seq 26 o100 (bz 1) [dv [] [] 4 (.bool false)] z100 d100 ?_ ?_
    ·exact sO (or_assign rfl) <| steps_nil
    intro o102 a102 w102 d102 z102 hk102 hf102 hE102
    have e102_4 := gv (hf102 [0] rfl) rfl
    have hX102 := es_ hX100 hE102
    refine fl_ret ?_
    refine hp97 _ _ _ rfl ?_
    refine hp96 _ _ _ rfl ?_
    replace hs := z91 _ hs
    refine hp91 _ _ _ rfl ?_
    refine hp65 _ _ _ rfl ?_
    refine hp63 _ _ _ rfl ?_
    obtain rfl := osome hs
    exact hret _ _ _ _ (.inl rfl) d102 (results1_ rfl (RVal.tmp_ e102_4)) ⟨o102, rfl, hX102⟩
   refine fl_skip ?_
   refine hn97 _ _ ?_
   refine hn96 _ _ ?_
   refine rq 26 o100 (bz 3) [dv [] [5] 15 (Zi i78), dv [0] [] 16 (Zi (ad i78 1)), dv [1] [] 5 (Zi (ad i78 1))] z100 d100 ?_ ?_
   ·exact sM e100_5 <| sF (fun f => or_add f.1 rfl rfl) <| sA <| steps_nil
   intro o103 a103 w103 d103 z103 hk103 hf103 hE103
   obtain ⟨e103_0, e103_1⟩ := kt2 hk103 e100_0 e100_1
   have e103_5 := gv (hf103 [2] rfl) rfl
   have hX103 := es_ hX100 hE103
   exact hn91 _ _ _ hs ⟨o103, d103, z103, e103_0, e103_1, e103_5, hX103⟩
  refine fl_exit ?_
  refine hp93 _ _ _ rfl ?_
  replace hs := z91 _ hs
  refine hp91 _ _ _ rfl ?_
  refine hx65 _ _ ?_
  refine hn63 _ _ ?_
  refine rq_seq 26 o94 (bz 1) [dv [] [] 4 (.bool true)] z94 d94 ?_ ?_
  ·exact sO (or_assign rfl) <| steps_nil
  intro o104 a104 w104 d104 z104 hk104 hf104 hE104
  have e104_4 := gv (hf104 [0] rfl) rfl
  have hX104 := es_ hX94 hE104
  refine fl_ret ?_
  obtain rfl := osome hs
  exact hret _ _ _ _ (.inl rfl) d104 (results1_ rfl (RVal.tmp_ e104_4)) ⟨o104, rfl, hX104⟩
theorem internal_stringslite_HasPrefix_w (w : World) (s1 : ByteArray) (prefix2 : ByteArray) (r : Bool) (hs : internal_stringslite_HasPrefix s1 prefix2 = some r) :
  Calls Try.prog 49 #[.string s1, .string prefix2] w fun e w' => ∃ own' : Own, e = .returned (.bool r) ∧ Evo [] (fun _ => 0) own' w w' := by
 refine fl_enter (n := 18) rfl rfl rfl (Nat.le_of_ble_eq_true rfl) ?_
 intro a0 Q d0 z0 harg hret
 have ha0 := harg 0 _ rfl
 have ha1 := harg 1 _ rfl
 clear harg
 have hE0 : Evo [] (fun _ => 0) (fun _ => 0) w w := Evo.refl _ _ _
 refine rq_seq 18 (fun _ => 0) (bz 1) [dv [] [] 4 (.bool false)] z0 d0 ?_ ?_
 ·exact sO (or_assign rfl) <| steps_nil
 intro o15 a15 w15 d15 z15 hk15 hf15 hE15
 obtain ⟨e15_0, e15_1⟩ := kt2 hk15 ha0 ha1
 have hX15 := es_ hE0 hE15
 obtain ⟨x16, hx16, hs⟩ := obind hs
 obtain ⟨x17, hx17, hs⟩ := obind hs
 refine rq_seq 18 o15 [0, 1, 0, 4, 15, 31, 63, 63, 191, 511, 63, 2047, 4095, 8191] [dv [] [0] 5 (.string s1), dv [0] [] 6 (Zi (s1.size : Int)), dv [] [1] 7 (.string prefix2), dv [2] [] 8 (Zi (prefix2.size : Int)), dv [1, 3] [] 9 (.bool (decide ((prefix2.size : Int) ≤ (s1.size : Int)))), dv [4] [] 10 (.bool (decide ((prefix2.size : Int) ≤ (s1.size : Int)))), dc [5] [0] (decide ((prefix2.size : Int) ≤ (s1.size : Int))) 11 (.string s1), dc [5] [1] (decide ((prefix2.size : Int) ≤ (s1.size : Int))) 12 (.string prefix2), dc [5, 7] [] (decide ((prefix2.size : Int) ≤ (s1.size : Int))) 13 (Zi (prefix2.size : Int)), dc [5, 6, 8] [] (decide ((prefix2.size : Int) ≤ (s1.size : Int))) 14 (.string x16), dc [5] [1] (decide ((prefix2.size : Int) ≤ (s1.size : Int))) 15 (.string prefix2), dc [5, 9, 10] [] (decide ((prefix2.size : Int) ≤ (s1.size : Int))) 16 (.bool (eqS x16 prefix2)), dv [5, 11] [] 17 (.bool x17), dv [12] [] 4 (.bool x17)] z15 d15 ?_ ?_
 ·exact sM e15_0 <| sF (fun f => or_lenS tS9 f.1 rfl) <| sM e15_1 <| sF (fun f => or_lenS tS9 f.1 rfl) <| sF (fun f => or_geq f.1 f.2.1 rfl) <| sV <| cT (fun _ s _ _ => or_move (s.1.trans e15_0)) <| cT (fun _ s _ _ => or_move (s.1.trans e15_1)) <| cT (fun f _ _ hg => or_lenS tS9 (f.2.1.1 hg) rfl) <| cT (fun f _ _ hg => or_sliceS tS9 (f.2.1.1 hg) Bnd.none_ (Bnd.some_ (f.2.2.1.1 hg)) (gd_t hx16 hg)) <| cT (fun _ s _ _ => or_move (s.1.trans e15_1)) <| cT (fun f _ _ hg => or_eqlS tS9 (f.2.1.1 hg) (f.2.2.1.1 hg) rfl) <| sF (fun f => or_and f.1 (fun hx => f.2.1.1 hx) rfl (osome hx17).symm) <| sA <| steps_nil
 intro o18 a18 w18 d18 z18 hk18 hf18 hE18
 have e18_4 := gv (hf18 [13] rfl) rfl
 have hX18 := es_ hX15 hE18
 refine fl_ret ?_
 obtain rfl := (osome hs).symm
 exact hret _ _ _ _ (.inl rfl) d18 (results1_ rfl (RVal.tmp_ e18_4)) ⟨o18, rfl, hX18⟩
theorem strings_HasPrefix_w (w : World) (s1 : ByteArray) (prefix2 : ByteArray) (r : Bool) (hs : strings_HasPrefix s1 prefix2 = some r) :
  Calls Try.prog 27 #[.string s1, .string prefix2] w fun e w' => ∃ own' : Own, e = .returned (.bool r) ∧ Evo [] (fun _ => 0) own' w w' := by
 refine fl_enter (n := 8) rfl rfl rfl (Nat.le_of_ble_eq_true rfl) ?_
 intro a0 Q d0 z0 harg hret
 have ha0 := harg 0 _ rfl
 have ha1 := harg 1 _ rfl
 clear harg
 have hE0 : Evo [] (fun _ => 0) (fun _ => 0) w w := Evo.refl _ _ _
 refine rq_seq 8 (fun _ => 0) (bz 1) [dv [] [] 4 (.bool false)] z0 d0 ?_ ?_
 ·exact sO (or_assign rfl) <| steps_nil
 intro o14 a14 w14 d14 z14 hk14 hf14 hE14
 obtain ⟨e14_0, e14_1⟩ := kt2 hk14 ha0 ha1
 have hX14 := es_ hE0 hE14
 obtain ⟨r15, hr15, hs⟩ := obind hs
 refine rq_seq 8 o14 [0, 0, 3, 7] [dv [] [0] 5 (.string s1), dv [] [1] 6 (.string prefix2), dv [0, 1] [] 7 (.bool r15), dv [2] [] 4 (.bool r15)] z14 d14 ?_ ?_
 ·exact sM e14_0 <| sM e14_1 <| sF (fun f => or_call cf49 (args2 f.1 f.2.1) (internal_stringslite_HasPrefix_w _ s1 prefix2  r15 hr15) post_val) <| sA <| steps_nil
 intro o16 a16 w16 d16 z16 hk16 hf16 hE16
 have e16_4 := gv (hf16 [3] rfl) rfl
 have hX16 := es_ hX14 hE16
 refine fl_ret ?_
 obtain rfl := (osome hs).symm
 exact hret _ _ _ _ (.inl rfl) d16 (results1_ rfl (RVal.tmp_ e16_4)) ⟨o16, rfl, hX16⟩
theorem bytes_Clone_w (w : World) (b1 : List Int) (Ab1 : Option Addr) (cb1 : Nat) (hb1 : RdO (fun _ => 0) [0] w R5 Ab1 cb1 b1) (r : List Int) (hs : bytes_Clone b1 = some r) :
  Calls Try.prog 41 #[sl Ab1 b1 cb1] w fun e w' => ∃ (own' : Own) (x : Option Addr × Nat), e = .returned (.slice x.1 r.length x.2) ∧ Evo [] (fun _ => 0) own' w w' ∧ RwO own' 1 [] w' 5 R5 x.1 x.2 r := by
 refine fl_enter (n := 8) rfl rfl rfl (Nat.le_of_ble_eq_true rfl) ?_
 intro a0 Q d0 z0 harg hret
 have ha0 := harg 0 _ rfl
 clear harg
 have hE0 : Evo [] (fun _ => 0) (fun _ => 0) w w := Evo.refl _ _ _
 refine rq_seq 8 (fun _ => 0) (bz 1) [dv [] [] 2 (.slice none 0 0)] z0 d0 ?_ ?_
 ·exact sO (or_assign rfl) <| steps_nil
 intro o22 a22 w22 d22 z22 hk22 hf22 hE22
 have e22_0 := kt hk22 ha0
 have hX22 := es_ hE0 hE22
 refine fl_seq (fun Q23 hn23 hp23 => ?_)
 refine rq_seq 8 o22 (bz 2) [dv [] [0] 3 (sl Ab1 b1 cb1), dv [0] [] 4 (.bool Ab1.isNone)] z22 d22 ?_ ?_
 ·exact sM e22_0 <| sF (fun f => or_eqlNil tu22 f.1 rfl) <| steps_nil
 intro o24 a24 w24 d24 z24 hk24 hf24 hE24
 have e24_0 := kt hk24 e22_0
 have e24_4 := gv (hf24 [1] rfl) rfl
 have hX24 := es_ hX22 hE24
 refine wpIn_cond_split e24_4 (fun hA25 => ?_) (fun hA25 => ?_)
 ·have hl25 : b1 = [] := RdO.nil_of (RdO.evo rfl hX24 hb1) hA25
  have hs0 : ((app ([] : List Int) b1).bind fun x28 => some x28) = some r := hs
  have hs : (some ([] : List Int)) = some r := by simpa [hl25, app, cut, capB] using hs0
  refine rq_seq 8 o24 (bz 1) [dv [] [] 2 (.slice none 0 0)] z24 d24 ?_ ?_
  ·exact sO (or_assign rfl) <| steps_nil
  intro o32 a32 w32 d32 z32 hk32 hf32 hE32
  have e32_2 := gv (hf32 [0] rfl) rfl
  have hX32 := es_ hX24 hE32
  refine fl_ret ?_
  refine hp23 _ _ _ rfl ?_
  obtain rfl := osome hs
  exact hret _ _ _ _ (.inl rfl) d32 (results1_ rfl (RVal.tmp_ e32_2)) ⟨o32, (none, 0), rfl, hX32, RwO.nil_⟩
 refine fl_skip ?_
 refine hn23 _ _ ?_
 obtain ⟨x28, hx28, hs⟩ := obind hs
 refine rp_seq 8 o24 [27] [0, 0, 3, 7] [⟨[], [], [], Fct.row 27 [] 5 5 R5 ([] : List Int)⟩, dv [] [0] 6 (sl Ab1 b1 cb1), ⟨[0, 1], [], [27], Fct.row 29 [] 7 5 R5 x28⟩, ⟨[2], [], [], Fct.rel [2, 7] (fun l => ∀ (A30 : Option Addr) (cA30 : Nat), l.getD 1 undef = sl A30 x28 cA30 → l.getD 0 undef = sl A30 x28 cA30)⟩] z24 d24 ?_ ?_
 ·refine sO (or_lit (lab := 27) (e := 5) (cs := #[]) (F := E5) (nw0) rfl rfl (show 0 ≤ maxLen by decide)) <| sM e24_0 ?_
  refine sc (fun own a wx hf hsl hE => ?_) ?_
  ·obtain ⟨⟨⟨A26, cA26⟩, f_5, b_A26⟩, f_6, -⟩ := hf
   exact px (or_append (R := R5) (lab := 27) (lab2 := 29) (L := []) (L3 := []) tp22 f_5 b_A26 (by decide) f_6 (RdO.evo rfl hE (RdO.evo rfl hX24 hb1)) hx28 (by decide) (by decide) (mem_of rfl) (.inl (Rep.fl_flat _)))
  refine sc (fun own a wx hf hsl hE => ?_) ?_
  ·obtain ⟨⟨⟨A30, cA30⟩, (f_7 : a.eval (.tmp 7) = sl A30 x28 cA30), b_A30⟩, -⟩ := hf
   exact px (or_mono (f := Fct.val 2 (sl A30 x28 cA30)) (or_assign f_7) (fun own' a' w' v' hp h => fun _ _ h0' => by cases (f_7.symm.trans ((hp.2 7 (by decide)).symm.trans h0')); exact h))
  exact steps_nil
 intro o31 a31 w31 d31 z31 hk31 hf31 hE31
 obtain ⟨⟨⟨A30, cA30⟩, (f_7 : a31.eval (.tmp 7) = sl A30 x28 cA30), (b31_A30 : RwO o31 29 [] w31 5 R5 A30 cA30 x28)⟩, (q_2 : ∀ (A30 : Option Addr) (cA30 : Nat), a31.eval (.tmp 7) = sl A30 x28 cA30 → a31.eval (.tmp 2) = sl A30 x28 cA30), -⟩ := hf31 [2, 3] rfl
 have e31_2 := q_2 _ _ f_7
 have hX31 := es_ hX24 hE31
 refine fl_ret ?_
 obtain rfl := (osome hs).symm
 exact hret _ _ _ _ (.inl rfl) d31 (results1_ rfl (RVal.tmp_ e31_2)) ⟨(rl [(29, 1)] o31), (A30, cA30), rfl, (Evo.rl_ hX31 (fun _ => Nat.le_refl 0) rfl), (RwO.rl_ b31_A30)⟩
theorem varint_Read_w (w : World) (b1 : List Int) (Ab1 : Option Addr) (cb1 : Nat) (hb1 : RdO (fun _ => 0) [0] w R5 Ab1 cb1 b1) (r : Int × Int × Int) (hs : varint_Read b1 = some r) :
  Calls Try.prog 61 #[sl Ab1 b1 cb1] w fun e w' => ∃ own' : Own, e = .returned (.tuple #[.int .u64 r.1, Zi r.2.1, Zi r.2.2]) ∧ Evo [] (fun _ => 0) own' w w' := by
 refine fl_enter (n := 56) rfl rfl rfl (Nat.le_of_ble_eq_true rfl) ?_
 intro a0 Q d0 z0 harg hret
 have ha0 := harg 0 _ rfl
 clear harg
 have hE0 : Evo [] (fun _ => 0) (fun _ => 0) w w := Evo.refl _ _ _
 refine rq_seq 56 (fun _ => 0) (bz 3) [dv [] [] 2 (.int .u64 0), dv [] [] 3 (Zi 0), dv [] [] 4 (Zi 0)] z0 d0 ?_ ?_
 ·exact sO (or_assign rfl) <| sO (or_assign rfl) <| sO (or_assign rfl) <| steps_nil
 intro o157 a157 w157 d157 z157 hk157 hf157 hE157
 have e157_0 := kt hk157 ha0
 have hX157 := es_ hE0 hE157
 refine fl_scope (S := (Int × Int)) (body := (fun s => varint_Read_b1_0 b1 s.1 s.2)) (z := r) (fun _ => 0) ?_ (fun s a wx => ((fun (s : Int × Int) => match s with | (n211, i212) => ∃ (ox : Own), a.defers = [] ∧ a.tmps.size = 56 ∧ a.eval (.tmp 0) = sl Ab1 b1 cb1 ∧ a.eval (.tmp 5) = .int .u64 n211 ∧ a.eval (.tmp 6) = Zi i212 ∧ Evo [] (fun _ => 0) ox w wx) : ((Int × Int)) → Prop) s) ?_ ?_
 ·intro s; rfl
 ·intro Q244 hj244 hp244
  refine rq_seq 56 o157 (bz 1) [dv [] [] 5 (.int .u64 0)] z157 d157 ?_ ?_
  ·exact sO (or_assign rfl) <| steps_nil
  intro o277 a277 w277 d277 z277 hk277 hf277 hE277
  have e277_0 := kt hk277 e157_0
  have e277_5 := gv (hf277 [0] rfl) rfl
  have hX277 := es_ hX157 hE277
  refine rq_seq 56 o277 (bz 1) [dv [] [] 6 (Zi 0)] z277 d277 ?_ ?_
  ·exact sO (or_assign rfl) <| steps_nil
  intro o278 a278 w278 d278 z278 hk278 hf278 hE278
  obtain ⟨e278_0, e278_5⟩ := kt2 hk278 e277_0 e277_5
  have e278_6 := gv (hf278 [0] rfl) rfl
  have hX278 := es_ hX277 hE278
  refine fl_seq (fun Q279 hn279 hp279 => ?_)
  refine fl_label ?_
  refine hn279 _ _ ?_
  refine fl_seq (fun Q280 hn280 hp280 => ?_)
  refine rq_seq 56 o278 (bz 2) [dv [] [6] 7 (Zi 0), dv [0] [] 8 (.bool false)] z278 d278 ?_ ?_
  ·exact sM e278_6 <| sF (fun f => or_eql f.1 rfl (by decide)) <| steps_nil
  intro o281 a281 w281 d281 z281 hk281 hf281 hE281
  obtain ⟨e281_0, e281_5, e281_6⟩ := kt3 hk281 e278_0 e278_5 e278_6
  have e281_8 := gv (hf281 [1] rfl) rfl
  have hX281 := es_ hX278 hE281
  refine fl_f e281_8 ?_
  refine fl_skip ?_
  refine hn280 _ _ ?_
  refine fl_seq (fun Q282 hn282 hp282 => ?_)
  refine rq_seq 56 o281 [0, 0, 2, 7] [dv [] [6] 9 (Zi 0), dv [] [0] 10 (sl Ab1 b1 cb1), dv [1] [] 11 (Zi (b1.length : Int)), dv [0, 2] [] 12 (.bool (decide (0 = (b1.length : Int))))] z281 d281 ?_ ?_
  ·exact sM e281_6 <| sM e281_0 <| sF (fun f => or_len tu22 f.1 rfl) <| sF (fun f => or_eql f.1 f.2.1 rfl) <| steps_nil
  intro o283 a283 w283 d283 z283 hk283 hf283 hE283
  obtain ⟨e283_0, e283_5, e283_6⟩ := kt3 hk283 e281_0 e281_5 e281_6
  have e283_12 := gv (hf283 [3] rfl) rfl
  have hX283 := es_ hX281 hE283
  refine fl_cond e283_12 hs (fun c284 hs => ?_) (fun c284 hs => ?_)
  ·refine rq_seq 56 o283 (bz 3) [dv [] [] 2 (.int .u64 0), dv [] [] 3 (Zi 0), dv [] [] 4 (Zi 4)] z283 d283 ?_ ?_
   ·exact sO (or_assign rfl) <| sO (or_assign rfl) <| sO (or_assign rfl) <| steps_nil
   intro o285 a285 w285 d285 z285 hk285 hf285 hE285
   have e285_2 := gv (hf285 [0] rfl) rfl
   have e285_3 := gv (hf285 [1] rfl) rfl
   have e285_4 := gv (hf285 [2] rfl) rfl
   have hX285 := es_ hX283 hE285
   refine fl_ret ?_
   refine hp282 _ _ _ rfl ?_
   refine hp244.leaves _ _ _ rfl ?_
   obtain rfl := osome hs
   exact hret _ _ _ _ (.inl rfl) d285 (results3_ rfl (RVal.tmp_ e285_2) (RVal.tmp_ e285_3) (RVal.tmp_ e285_4)) ⟨o285, rfl, hX285⟩
  refine fl_skip ?_
  refine hn282 _ _ ?_
  obtain ⟨x286, hx286, hs⟩ := obind hs
  obtain ⟨x287, hx287, hs⟩ := obind hs
  refine rq_seq 56 o283 [0, 0, 0, 6, 14, 30, 62, 0, 128, 510, 1023, 2047] [dv [] [5] 13 (.int .u64 0), dv [] [0] 14 (sl Ab1 b1 cb1), dv [] [6] 15 (Zi 0), dv [1, 2] [] 16 (.pointer (some ((adr Ab1).add ((0 : Int).toNat * R5.s)))), dv [3] [] 17 (.int .u8 x286), dv [4] [] 18 (.int .u8 (anK .u8 x286 127)), dv [5] [] 19 (.int .u64 (IntKind.u64.wrap (anK .u8 x286 127))), dv [] [6] 20 (Zi 0), dv [7] [] 21 (Zi 0), dv [6, 8] [] 22 (.int .u64 x287), dv [0, 9] [] 23 (.int .u64 (orK .u64 0 x287)), dv [10] [] 5 (.int .u64 (orK .u64 0 x287))] z283 d283 ?_ ?_
  ·exact sM e283_5 <| sM e283_0 <| sM e283_6 <| sF (fun f => or_index (R := R5) (l := b1) tl22 f.1 f.2.1 (RdO.some_ (RdO.evo rfl hX283 hb1) hx286) hx286) <| sFE (fun f hE => or_load1 to5 f.1 (CellsAt.zero (RdO.cells (F := E5) (RdO.evo rfl hE (RdO.evo rfl hX283 hb1)) hx286) rfl)) <| sF (fun f => or_band f.1 rfl rfl) <| sF (fun f => or_conv f.1 tn5 tn26 rfl) <| sM e283_6 <| sF (fun f => or_mul rfl f.1 (by decide)) <| sF (fun f => or_shl f.1 f.2.1 hx287) <| sF (fun f => or_bor f.1 f.2.1 rfl) <| sA <| steps_nil
  intro o288 a288 w288 d288 z288 hk288 hf288 hE288
  obtain ⟨e288_0, e288_6⟩ := kt2 hk288 e283_0 e283_6
  have e288_5 := gv (hf288 [11] rfl) rfl
  have hX288 := es_ hX283 hE288
  refine rq_seq 56 o288 (bz 3) [dv [] [6] 24 (Zi 0), dv [0] [] 25 (Zi 1), dv [1] [] 6 (Zi 1)] z288 d288 ?_ ?_
  ·exact sM e288_6 <| sF (fun f => or_add f.1 rfl (by decide)) <| sA <| steps_nil
  intro o289 a289 w289 d289 z289 hk289 hf289 hE289
  obtain ⟨e289_0, e289_5⟩ := kt2 hk289 e288_0 e288_5
  have e289_6 := gv (hf289 [2] rfl) rfl
  have hX289 := es_ hX288 hE289
  refine fl_seq (fun Q290 hn290 hp290 => ?_)
  obtain ⟨x291, hx291, hs⟩ := obind hs
  refine rq_seq 56 o289 [0, 0, 2, 7, 15, 31] [dv [] [0] 26 (sl Ab1 b1 cb1), dv [] [6] 27 (Zi 1), dv [1] [] 28 (Zi 0), dv [0, 2] [] 29 (.pointer (some ((adr Ab1).add ((0 : Int).toNat * R5.s)))), dv [3] [] 30 (.int .u8 x291), dv [4] [] 31 (.bool (decide (128 ≤ x291)))] z289 d289 ?_ ?_
  ·exact sM e289_0 <| sM e289_6 <| sF (fun f => or_sub f.1 rfl (by decide)) <| sF (fun f => or_index (R := R5) (l := b1) tl22 f.1 f.2.1 (RdO.some_ (RdO.evo rfl hX289 hb1) hx291) hx291) <| sFE (fun f hE => or_load1 to5 f.1 (CellsAt.zero (RdO.cells (F := E5) (RdO.evo rfl hE (RdO.evo rfl hX289 hb1)) hx291) rfl)) <| sF (fun f => or_geq f.1 rfl rfl) <| steps_nil
  intro o292 a292 w292 d292 z292 hk292 hf292 hE292
  obtain ⟨e292_0, e292_5, e292_6⟩ := kt3 hk292 e289_0 e289_5 e289_6
  have e292_31 := gv (hf292 [5] rfl) rfl
  have hX292 := es_ hX289 hE292
  refine fl_cond e292_31 hs (fun c293 hs => ?_) (fun c293 hs => ?_)
  ·refine fl_goto ?_
   refine hp290 _ _ _ rfl ?_
   exact hj244 (orK .u64 0 x287, 1) _ _ (show loopO _ _ = _ from hs) ⟨o292, d292, z292, e292_0, e292_5, e292_6, hX292⟩
  refine fl_skip ?_
  refine hn290 _ _ ?_
  refine fl_seq (fun Q294 hn294 hp294 => ?_)
  refine fl_block (fun Q295 hn295 hx295 hp295 => ?_)
  refine rq_seq 56 o292 [0, 1, 3, 7, 7, 23, 63, 127, 255, 511, 1023] [dv [] [6] 33 (Zi 1), dv [0] [] 34 (.bool false), dv [1] [] 35 (.bool false), dc [2] [] false 36 (.slice none 0 0), dc [2] [] false 37 (Zi 0), dc [2] [] false 38 (Zi 0), dc [2] [] false 39 (.pointer none), dc [2] [] false 40 (.int .u8 0), dc [2] [] false 41 (.bool false), dv [2, 8] [] 42 (.bool (false && false)), dv [9] [] 32 (.bool (false && false))] z292 d292 ?_ ?_
  ·refine sM e292_6 <| sF (fun f => or_eql f.1 rfl (by decide)) <| sV ?_
   refine sc (fun own a wx hf hsl hE => ?_) ?_
   ·obtain ⟨f_35, -⟩ := hf
    refine sg_t rfl rfl rfl f_35 (fun hg => ?_)
    exact absurd hg (by simp)
   refine sc (fun own a wx hf hsl hE => ?_) ?_
   ·obtain ⟨f_35, -⟩ := hf
    refine sg_t rfl rfl rfl f_35 (fun hg => ?_)
    exact absurd hg (by simp)
   refine sc (fun own a wx hf hsl hE => ?_) ?_
   ·obtain ⟨f_35, -⟩ := hf
    refine sg_t rfl rfl rfl f_35 (fun hg => ?_)
    exact absurd hg (by simp)
   refine sc (fun own a wx hf hsl hE => ?_) ?_
   ·obtain ⟨f_35, -⟩ := hf
    refine sg_t rfl rfl rfl f_35 (fun hg => ?_)
    exact absurd hg (by simp)
   refine sc (fun own a wx hf hsl hE => ?_) ?_
   ·obtain ⟨f_35, -⟩ := hf
    refine sg_t rfl rfl rfl f_35 (fun hg => ?_)
    exact absurd hg (by simp)
   refine sc (fun own a wx hf hsl hE => ?_) ?_
   ·obtain ⟨f_35, -⟩ := hf
    refine sg_t rfl rfl rfl f_35 (fun hg => ?_)
    exact absurd hg (by simp)
   exact sF (fun f => or_and f.1 (fun hx => f.2.1.1 hx) rfl rfl) <| sA <| steps_nil
  intro o296 a296 w296 d296 z296 hk296 hf296 hE296
  obtain ⟨e296_0, e296_5, e296_6⟩ := kt3 hk296 e292_0 e292_5 e292_6
  have e296_32 := gv (hf296 [10] rfl) rfl
  have hX296 := es_ hX292 hE296
  refine fl_cond e296_32 hs (fun c297 hs => ?_) (fun c297 hs => ?_)
  ·refine rq_seq 56 o296 (bz 3) [dv [] [] 2 (.int .u64 0), dv [] [] 3 (Zi 0), dv [] [] 4 (Zi 5)] z296 d296 ?_ ?_
   ·exact sO (or_assign rfl) <| sO (or_assign rfl) <| sO (or_assign rfl) <| steps_nil
   intro o298 a298 w298 d298 z298 hk298 hf298 hE298
   have e298_2 := gv (hf298 [0] rfl) rfl
   have e298_3 := gv (hf298 [1] rfl) rfl
   have e298_4 := gv (hf298 [2] rfl) rfl
   have hX298 := es_ hX296 hE298
   refine fl_ret ?_
   refine hp295 _ _ _ rfl ?_
   refine hp294 _ _ _ rfl ?_
   refine hp244.leaves _ _ _ rfl ?_
   obtain rfl := osome hs
   exact hret _ _ _ _ (.inl rfl) d298 (results3_ rfl (RVal.tmp_ e298_2) (RVal.tmp_ e298_3) (RVal.tmp_ e298_4)) ⟨o298, rfl, hX298⟩
  refine rq_seq 56 o296 [0, 1, 3, 7, 7, 23, 63, 127, 255, 511, 1023] [dv [] [6] 44 (Zi 1), dv [0] [] 45 (.bool false), dv [1] [] 46 (.bool false), dc [2] [] false 47 (.slice none 0 0), dc [2] [] false 48 (Zi 0), dc [2] [] false 49 (Zi 0), dc [2] [] false 50 (.pointer none), dc [2] [] false 51 (.int .u8 0), dc [2] [] false 52 (.bool false), dv [2, 8] [] 53 (.bool (false && false)), dv [9] [] 43 (.bool (false && false))] z296 d296 ?_ ?_
  ·refine sM e296_6 <| sF (fun f => or_gtr f.1 rfl (by decide)) <| sV ?_
   refine sc (fun own a wx hf hsl hE => ?_) ?_
   ·obtain ⟨f_46, -⟩ := hf
    refine sg_t rfl rfl rfl f_46 (fun hg => ?_)
    exact absurd hg (by simp)
   refine sc (fun own a wx hf hsl hE => ?_) ?_
   ·obtain ⟨f_46, -⟩ := hf
    refine sg_t rfl rfl rfl f_46 (fun hg => ?_)
    exact absurd hg (by simp)
   refine sc (fun own a wx hf hsl hE => ?_) ?_
   ·obtain ⟨f_46, -⟩ := hf
    refine sg_t rfl rfl rfl f_46 (fun hg => ?_)
    exact absurd hg (by simp)
   refine sc (fun own a wx hf hsl hE => ?_) ?_
   ·obtain ⟨f_46, -⟩ := hf
    refine sg_t rfl rfl rfl f_46 (fun hg => ?_)
    exact absurd hg (by simp)
   refine sc (fun own a wx hf hsl hE => ?_) ?_
   ·obtain ⟨f_46, -⟩ := hf
    refine sg_t rfl rfl rfl f_46 (fun hg => ?_)
    exact absurd hg (by simp)
   refine sc (fun own a wx hf hsl hE => ?_) ?_
   ·obtain ⟨f_46, -⟩ := hf
    refine sg_t rfl rfl rfl f_46 (fun hg => ?_)
    exact absurd hg (by simp)
   exact sF (fun f => or_and f.1 (fun hx => f.2.1.1 hx) rfl rfl) <| sA <| steps_nil
  intro o299 a299 w299 d299 z299 hk299 hf299 hE299
  obtain ⟨e299_5, e299_6⟩ := kt2 hk299 e296_5 e296_6
  have e299_43 := gv (hf299 [10] rfl) rfl
  have hX299 := es_ hX296 hE299
  refine fl_cond e299_43 hs (fun c300 hs => ?_) (fun c300 hs => ?_)
  ·refine rq_seq 56 o299 (bz 3) [dv [] [] 2 (.int .u64 0), dv [] [] 3 (Zi 0), dv [] [] 4 (Zi 3)] z299 d299 ?_ ?_
   ·exact sO (or_assign rfl) <| sO (or_assign rfl) <| sO (or_assign rfl) <| steps_nil
   intro o301 a301 w301 d301 z301 hk301 hf301 hE301
   have e301_2 := gv (hf301 [0] rfl) rfl
   have e301_3 := gv (hf301 [1] rfl) rfl
   have e301_4 := gv (hf301 [2] rfl) rfl
   have hX301 := es_ hX299 hE301
   refine fl_ret ?_
   refine hp295 _ _ _ rfl ?_
   refine hp294 _ _ _ rfl ?_
   refine hp244.leaves _ _ _ rfl ?_
   obtain rfl := osome hs
   exact hret _ _ _ _ (.inl rfl) d301 (results3_ rfl (RVal.tmp_ e301_2) (RVal.tmp_ e301_3) (RVal.tmp_ e301_4)) ⟨o301, rfl, hX301⟩
  refine fl_skip ?_
  refine hn295 _ _ ?_
  refine hn294 _ _ ?_
  refine rq_seq 56 o299 [0, 0, 1, 7, 15] [dv [] [5] 54 (.int .u64 (orK .u64 0 x287)), dv [] [6] 55 (Zi 1), dv [0] [] 2 (.int .u64 (orK .u64 0 x287)), dv [1] [] 3 (Zi 1), dv [] [] 4 (Zi 0)] z299 d299 ?_ ?_
  ·exact sM e299_5 <| sM e299_6 <| sA <| sA <| sO (or_assign rfl) <| steps_nil
  intro o302 a302 w302 d302 z302 hk302 hf302 hE302
  have e302_2 := gv (hf302 [2] rfl) rfl
  have e302_3 := gv (hf302 [3] rfl) rfl
  have e302_4 := gv (hf302 [4] rfl) rfl
  have hX302 := es_ hX299 hE302
  refine fl_ret ?_
  refine hp244.leaves _ _ _ rfl ?_
  obtain rfl := osome hs
  exact hret _ _ _ _ (.inl rfl) d302 (results3_ rfl (RVal.tmp_ e302_2) (RVal.tmp_ e302_3) (RVal.tmp_ e302_4)) ⟨o302, rfl, hX302⟩
 ·rintro ⟨n211, i212⟩
  rintro zz244 a245 w245 ⟨o245, d246, z246, e246_0, e246_5, e246_6, hE246⟩ hs Q245 hj245 hp245 z245
  have hs : varint_Read_b1_0 b1 n211 i212 = some zz244 := hs
  conv => arg 4; whnf
  refine fl_seq (fun Q247 hn247 hp247 => ?_)
  refine fl_skip ?_
  refine hn247 _ _ ?_
  refine fl_seq (fun Q248 hn248 hp248 => ?_)
  refine rq_seq 56 o245 (bz 2) [dv [] [6] 7 (Zi i212), dv [0] [] 8 (.bool (decide (i212 = 10)))] z246 d246 ?_ ?_
  ·exact sM e246_6 <| sF (fun f => or_eql f.1 rfl rfl) <| steps_nil
  intro o249 a249 w249 d249 z249 hk249 hf249 hE249
  obtain ⟨e249_0, e249_5, e249_6⟩ := kt3 hk249 e246_0 e246_5 e246_6
  have e249_8 := gv (hf249 [1] rfl) rfl
  have hX249 := es_ hE246 hE249
  refine fl_cond e249_8 hs (fun c250 hs => ?_) (fun c250 hs => ?_)
  ·refine rq_seq 56 o249 (bz 3) [dv [] [] 2 (.int .u64 0), dv [] [] 3 (Zi 0), dv [] [] 4 (Zi 5)] z249 d249 ?_ ?_
   ·exact sO (or_assign rfl) <| sO (or_assign rfl) <| sO (or_assign rfl) <| steps_nil
   intro o251 a251 w251 d251 z251 hk251 hf251 hE251
   have e251_2 := gv (hf251 [0] rfl) rfl
   have e251_3 := gv (hf251 [1] rfl) rfl
   have e251_4 := gv (hf251 [2] rfl) rfl
   have hX251 := es_ hX249 hE251
   refine fl_ret ?_
   refine hp248 _ _ _ rfl ?_
   replace hs := z245 _ hs
   refine hp245.leaves _ _ _ rfl ?_
   obtain rfl := osome hs
   exact hret _ _ _ _ (.inl rfl) d251 (results3_ rfl (RVal.tmp_ e251_2) (RVal.tmp_ e251_3) (RVal.tmp_ e251_4)) ⟨o251, rfl, hX251⟩
  refine fl_skip ?_
  refine hn248 _ _ ?_
  refine fl_seq (fun Q252 hn252 hp252 => ?_)
  refine rq_seq 56 o249 [0, 0, 2, 7] [dv [] [6] 9 (Zi i212), dv [] [0] 10 (sl Ab1 b1 cb1), dv [1] [] 11 (Zi (b1.length : Int)), dv [0, 2] [] 12 (.bool (decide (i212 = (b1.length : Int))))] z249 d249 ?_ ?_
  ·exact sM e249_6 <| sM e249_0 <| sF (fun f => or_len tu22 f.1 rfl) <| sF (fun f => or_eql f.1 f.2.1 rfl) <| steps_nil
  intro o253 a253 w253 d253 z253 hk253 hf253 hE253
  obtain ⟨e253_0, e253_5, e253_6⟩ := kt3 hk253 e249_0 e249_5 e249_6
  have e253_12 := gv (hf253 [3] rfl) rfl
  have hX253 := es_ hX249 hE253
  refine fl_cond e253_12 hs (fun c254 hs => ?_) (fun c254 hs => ?_)
  ·refine rq_seq 56 o253 (bz 3) [dv [] [] 2 (.int .u64 0), dv [] [] 3 (Zi 0), dv [] [] 4 (Zi 4)] z253 d253 ?_ ?_
   ·exact sO (or_assign rfl) <| sO (or_assign rfl) <| sO (or_assign rfl) <| steps_nil
   intro o255 a255 w255 d255 z255 hk255 hf255 hE255
   have e255_2 := gv (hf255 [0] rfl) rfl
   have e255_3 := gv (hf255 [1] rfl) rfl
   have e255_4 := gv (hf255 [2] rfl) rfl
   have hX255 := es_ hX253 hE255
   refine fl_ret ?_
   refine hp252 _ _ _ rfl ?_
   replace hs := z245 _ hs
   refine hp245.leaves _ _ _ rfl ?_
   obtain rfl := osome hs
   exact hret _ _ _ _ (.inl rfl) d255 (results3_ rfl (RVal.tmp_ e255_2) (RVal.tmp_ e255_3) (RVal.tmp_ e255_4)) ⟨o255, rfl, hX255⟩
  refine fl_skip ?_
  refine hn252 _ _ ?_
  obtain ⟨x256, hx256, hs⟩ := obind hs
  obtain ⟨x257, hx257, hs⟩ := obind hs
  refine rq_seq 56 o253 [0, 0, 0, 6, 14, 30, 62, 0, 128, 510, 1023, 2047] [dv [] [5] 13 (.int .u64 n211), dv [] [0] 14 (sl Ab1 b1 cb1), dv [] [6] 15 (Zi i212), dv [1, 2] [] 16 (.pointer (some ((adr Ab1).add ((i212 : Int).toNat * R5.s)))), dv [3] [] 17 (.int .u8 x256), dv [4] [] 18 (.int .u8 (anK .u8 x256 127)), dv [5] [] 19 (.int .u64 (IntKind.u64.wrap (anK .u8 x256 127))), dv [] [6] 20 (Zi i212), dv [7] [] 21 (Zi (ml 7 i212)), dv [6, 8] [] 22 (.int .u64 x257), dv [0, 9] [] 23 (.int .u64 (orK .u64 n211 x257)), dv [10] [] 5 (.int .u64 (orK .u64 n211 x257))] z253 d253 ?_ ?_
  ·exact sM e253_5 <| sM e253_0 <| sM e253_6 <| sF (fun f => or_index (R := R5) (l := b1) tl22 f.1 f.2.1 (RdO.some_ (RdO.evo rfl hX253 hb1) hx256) hx256) <| sFE (fun f hE => or_load1 to5 f.1 (CellsAt.zero (RdO.cells (F := E5) (RdO.evo rfl hE (RdO.evo rfl hX253 hb1)) hx256) rfl)) <| sF (fun f => or_band f.1 rfl rfl) <| sF (fun f => or_conv f.1 tn5 tn26 rfl) <| sM e253_6 <| sF (fun f => or_mul rfl f.1 rfl) <| sF (fun f => or_shl f.1 f.2.1 hx257) <| sF (fun f => or_bor f.1 f.2.1 rfl) <| sA <| steps_nil
  intro o258 a258 w258 d258 z258 hk258 hf258 hE258
  obtain ⟨e258_0, e258_6⟩ := kt2 hk258 e253_0 e253_6
  have e258_5 := gv (hf258 [11] rfl) rfl
  have hX258 := es_ hX253 hE258
  refine rq_seq 56 o258 (bz 3) [dv [] [6] 24 (Zi i212), dv [0] [] 25 (Zi (ad i212 1)), dv [1] [] 6 (Zi (ad i212 1))] z258 d258 ?_ ?_
  ·exact sM e258_6 <| sF (fun f => or_add f.1 rfl rfl) <| sA <| steps_nil
  intro o259 a259 w259 d259 z259 hk259 hf259 hE259
  obtain ⟨e259_0, e259_5⟩ := kt2 hk259 e258_0 e258_5
  have e259_6 := gv (hf259 [2] rfl) rfl
  have hX259 := es_ hX258 hE259
  refine fl_seq (fun Q260 hn260 hp260 => ?_)
  obtain ⟨x261, hx261, hs⟩ := obind hs
  refine rq_seq 56 o259 [0, 0, 2, 7, 15, 31] [dv [] [0] 26 (sl Ab1 b1 cb1), dv [] [6] 27 (Zi (ad i212 1)), dv [1] [] 28 (Zi (sb (ad i212 1) 1)), dv [0, 2] [] 29 (.pointer (some ((adr Ab1).add ((sb (ad i212 1) 1 : Int).toNat * R5.s)))), dv [3] [] 30 (.int .u8 x261), dv [4] [] 31 (.bool (decide (128 ≤ x261)))] z259 d259 ?_ ?_
  ·exact sM e259_0 <| sM e259_6 <| sF (fun f => or_sub f.1 rfl rfl) <| sF (fun f => or_index (R := R5) (l := b1) tl22 f.1 f.2.1 (RdO.some_ (RdO.evo rfl hX259 hb1) hx261) hx261) <| sFE (fun f hE => or_load1 to5 f.1 (CellsAt.zero (RdO.cells (F := E5) (RdO.evo rfl hE (RdO.evo rfl hX259 hb1)) hx261) rfl)) <| sF (fun f => or_geq f.1 rfl rfl) <| steps_nil
  intro o262 a262 w262 d262 z262 hk262 hf262 hE262
  obtain ⟨e262_0, e262_5, e262_6⟩ := kt3 hk262 e259_0 e259_5 e259_6
  have e262_31 := gv (hf262 [5] rfl) rfl
  have hX262 := es_ hX259 hE262
  refine fl_cond e262_31 hs (fun c263 hs => ?_) (fun c263 hs => ?_)
  ·refine fl_goto ?_
   refine hp260 _ _ _ rfl ?_
   exact hj245 (orK .u64 n211 x257, ad i212 1) _ _ hs ⟨o262, d262, z262, e262_0, e262_5, e262_6, hX262⟩
  refine fl_skip ?_
  refine hn260 _ _ ?_
  refine fl_seq (fun Q264 hn264 hp264 => ?_)
  refine fl_block (fun Q265 hn265 hx265 hp265 => ?_)
  obtain ⟨x266, hx266, hs⟩ := obind hs
  obtain ⟨x267, hx267, hs⟩ := obind hs
  refine rq_seq 56 o262 [0, 1, 3, 7, 7, 23, 63, 127, 255, 511, 1023] [dv [] [6] 33 (Zi (ad i212 1)), dv [0] [] 34 (.bool (decide ((ad i212 1) = 10))), dv [1] [] 35 (.bool (decide ((ad i212 1) = 10))), dc [2] [0] (decide ((ad i212 1) = 10)) 36 (sl Ab1 b1 cb1), dc [2] [6] (decide ((ad i212 1) = 10)) 37 (Zi (ad i212 1)), dc [2, 4] [] (decide ((ad i212 1) = 10)) 38 (Zi (sb (ad i212 1) 1)), dc [2, 3, 5] [] (decide ((ad i212 1) = 10)) 39 (.pointer (some ((adr Ab1).add ((sb (ad i212 1) 1 : Int).toNat * R5.s)))), dc [2, 6] [] (decide ((ad i212 1) = 10)) 40 (.int .u8 x266), dc [2, 7] [] (decide ((ad i212 1) = 10)) 41 (.bool (decide (1 < x266))), dv [2, 8] [] 42 (.bool x267), dv [9] [] 32 (.bool x267)] z262 d262 ?_ ?_
  ·exact sM e262_6 <| sF (fun f => or_eql f.1 rfl rfl) <| sV <| cT (fun _ s _ _ => or_move (s.1.trans e262_0)) <| cT (fun _ s _ _ => or_move (s.1.trans e262_6)) <| cT (fun f _ _ hg => or_sub (f.2.1.1 hg) rfl rfl) <| cT (fun f _ _ hg => or_index (R := R5) (l := b1) tl22 (f.2.1.1 hg) (f.2.2.1.1 hg) (RdO.some_ (RdO.evo rfl hX262 hb1) (gd_t hx266 hg)) (gd_t hx266 hg)) <| cT (fun f _ hE hg => or_load1 to5 (f.2.1.1 hg) (CellsAt.zero (RdO.cells (F := E5) (RdO.evo rfl hE (RdO.evo rfl hX262 hb1)) (gd_t hx266 hg)) rfl)) <| cT (fun f _ _ hg => or_gtr (f.2.1.1 hg) rfl rfl) <| sF (fun f => or_and f.1 (fun hx => f.2.1.1 hx) rfl (osome hx267).symm) <| sA <| steps_nil
  intro o268 a268 w268 d268 z268 hk268 hf268 hE268
  obtain ⟨e268_0, e268_5, e268_6⟩ := kt3 hk268 e262_0 e262_5 e262_6
  have e268_32 := gv (hf268 [10] rfl) rfl
  have hX268 := es_ hX262 hE268
  refine fl_cond e268_32 hs (fun c269 hs => ?_) (fun c269 hs => ?_)
  ·refine rq_seq 56 o268 (bz 3) [dv [] [] 2 (.int .u64 0), dv [] [] 3 (Zi 0), dv [] [] 4 (Zi 5)] z268 d268 ?_ ?_
   ·exact sO (or_assign rfl) <| sO (or_assign rfl) <| sO (or_assign rfl) <| steps_nil
   intro o270 a270 w270 d270 z270 hk270 hf270 hE270
   have e270_2 := gv (hf270 [0] rfl) rfl
   have e270_3 := gv (hf270 [1] rfl) rfl
   have e270_4 := gv (hf270 [2] rfl) rfl
   have hX270 := es_ hX268 hE270
   refine fl_ret ?_
   refine hp265 _ _ _ rfl ?_
   refine hp264 _ _ _ rfl ?_
   replace hs := z245 _ hs
   refine hp245.leaves _ _ _ rfl ?_
   obtain rfl := osome hs
   exact hret _ _ _ _ (.inl rfl) d270 (results3_ rfl (RVal.tmp_ e270_2) (RVal.tmp_ e270_3) (RVal.tmp_ e270_4)) ⟨o270, rfl, hX270⟩
  obtain ⟨x271, hx271, hs⟩ := obind hs
  obtain ⟨x272, hx272, hs⟩ := obind hs
  refine rq_seq 56 o268 [0, 1, 3, 7, 7, 23, 63, 127, 255, 511, 1023] [dv [] [6] 44 (Zi (ad i212 1)), dv [0] [] 45 (.bool (decide (1 < (ad i212 1)))), dv [1] [] 46 (.bool (decide (1 < (ad i212 1)))), dc [2] [0] (decide (1 < (ad i212 1))) 47 (sl Ab1 b1 cb1), dc [2] [6] (decide (1 < (ad i212 1))) 48 (Zi (ad i212 1)), dc [2, 4] [] (decide (1 < (ad i212 1))) 49 (Zi (sb (ad i212 1) 1)), dc [2, 3, 5] [] (decide (1 < (ad i212 1))) 50 (.pointer (some ((adr Ab1).add ((sb (ad i212 1) 1 : Int).toNat * R5.s)))), dc [2, 6] [] (decide (1 < (ad i212 1))) 51 (.int .u8 x271), dc [2, 7] [] (decide (1 < (ad i212 1))) 52 (.bool (decide (x271 = 0))), dv [2, 8] [] 53 (.bool x272), dv [9] [] 43 (.bool x272)] z268 d268 ?_ ?_
  ·exact sM e268_6 <| sF (fun f => or_gtr f.1 rfl rfl) <| sV <| cT (fun _ s _ _ => or_move (s.1.trans e268_0)) <| cT (fun _ s _ _ => or_move (s.1.trans e268_6)) <| cT (fun f _ _ hg => or_sub (f.2.1.1 hg) rfl rfl) <| cT (fun f _ _ hg => or_index (R := R5) (l := b1) tl22 (f.2.1.1 hg) (f.2.2.1.1 hg) (RdO.some_ (RdO.evo rfl hX268 hb1) (gd_t hx271 hg)) (gd_t hx271 hg)) <| cT (fun f _ hE hg => or_load1 to5 (f.2.1.1 hg) (CellsAt.zero (RdO.cells (F := E5) (RdO.evo rfl hE (RdO.evo rfl hX268 hb1)) (gd_t hx271 hg)) rfl)) <| cT (fun f _ _ hg => or_eql (f.2.1.1 hg) rfl rfl) <| sF (fun f => or_and f.1 (fun hx => f.2.1.1 hx) rfl (osome hx272).symm) <| sA <| steps_nil
  intro o273 a273 w273 d273 z273 hk273 hf273 hE273
  obtain ⟨e273_5, e273_6⟩ := kt2 hk273 e268_5 e268_6
  have e273_43 := gv (hf273 [10] rfl) rfl
  have hX273 := es_ hX268 hE273
  refine fl_cond e273_43 hs (fun c274 hs => ?_) (fun c274 hs => ?_)
  ·refine rq_seq 56 o273 (bz 3) [dv [] [] 2 (.int .u64 0), dv [] [] 3 (Zi 0), dv [] [] 4 (Zi 3)] z273 d273 ?_ ?_
   ·exact sO (or_assign rfl) <| sO (or_assign rfl) <| sO (or_assign rfl) <| steps_nil
   intro o275 a275 w275 d275 z275 hk275 hf275 hE275
   have e275_2 := gv (hf275 [0] rfl) rfl
   have e275_3 := gv (hf275 [1] rfl) rfl
   have e275_4 := gv (hf275 [2] rfl) rfl
   have hX275 := es_ hX273 hE275
   refine fl_ret ?_
   refine hp265 _ _ _ rfl ?_
   refine hp264 _ _ _ rfl ?_
   replace hs := z245 _ hs
   refine hp245.leaves _ _ _ rfl ?_
   obtain rfl := osome hs
   exact hret _ _ _ _ (.inl rfl) d275 (results3_ rfl (RVal.tmp_ e275_2) (RVal.tmp_ e275_3) (RVal.tmp_ e275_4)) ⟨o275, rfl, hX275⟩
  refine fl_skip ?_
  refine hn265 _ _ ?_
  refine hn264 _ _ ?_
  refine rq_seq 56 o273 [0, 0, 1, 7, 15] [dv [] [5] 54 (.int .u64 (orK .u64 n211 x257)), dv [] [6] 55 (Zi (ad i212 1)), dv [0] [] 2 (.int .u64 (orK .u64 n211 x257)), dv [1] [] 3 (Zi (ad i212 1)), dv [] [] 4 (Zi 0)] z273 d273 ?_ ?_
  ·exact sM e273_5 <| sM e273_6 <| sA <| sA <| sO (or_assign rfl) <| steps_nil
  intro o276 a276 w276 d276 z276 hk276 hf276 hE276
  have e276_2 := gv (hf276 [2] rfl) rfl
  have e276_3 := gv (hf276 [3] rfl) rfl
  have e276_4 := gv (hf276 [4] rfl) rfl
  have hX276 := es_ hX273 hE276
  refine fl_ret ?_
  replace hs := z245 _ hs
  refine hp245.leaves _ _ _ rfl ?_
  obtain rfl := osome hs
  exact hret _ _ _ _ (.inl rfl) d276 (results3_ rfl (RVal.tmp_ e276_2) (RVal.tmp_ e276_3) (RVal.tmp_ e276_4)) ⟨o276, rfl, hX276⟩
theorem pack_reader_number_w (w : World) (own : Own) (r1 : (List Int) × Int) (gr1 : Nat) (tr1 : TypeId) (Ar1_0 : Option Addr) (cr1_0 : Nat) (hown : ∀ b, own b ≤ 2) (hgr1 : BlkO own 1 w gr1 tr1 #[sl Ar1_0 r1.1 cr1_0, Zi r1.2]) (hAr1_0 : RdO own [2] w R5 Ar1_0 cr1_0 r1.1) (r : Int × ((List Int) × Int)) (hs : pack_reader_number r1 = some r) :
  Calls Try.prog 50 #[pt gr1 0] w fun e w' => ∃ (own' : Own) (x : Option Addr × Nat), e = .returned (.int .u64 r.1) ∧ Evo [1] own own' w w' ∧ RdO own' [2] w' R5 x.1 x.2 r.2.1 ∧ BlkO own' 1 w' gr1 tr1 #[.slice x.1 r.2.1.length x.2, Zi r.2.2] := by
 refine fl_enter (n := 36) rfl rfl rfl (Nat.le_of_ble_eq_true rfl) ?_
 intro a0 Q d0 z0 harg hret
 have ha0 := harg 0 _ rfl
 clear harg
 have hE0 : Evo [1] own own w w := Evo.refl _ _ _
 refine rq_seq 36 own (bz 1) [dv [] [] 2 (.int .u64 0)] z0 d0 ?_ ?_
 ·exact sO (or_assign rfl) <| steps_nil
 intro o33 a33 w33 d33 z33 hk33 hf33 hE33
 have e33_0 := kt hk33 ha0
 have hX33 := Evo.step hE0 hown hE33 rfl
 have b33_gr1 := be_ hE33 hgr1
 refine fl_seq (fun Q34 hn34 hp34 => ?_)
 refine rq_seq 36 o33 (bz 5) [dv [] [0] 6 (pt gr1 0), dv [0] [] 7 (pt gr1 0), dv [1] [] 8 (pt gr1 1), dv [2] [] 9 (Zi r1.2), dv [3] [] 10 (.bool (!decide (r1.2 = 0)))] z33 d33 ?_ ?_
 ·exact sM e33_0 <| sF (fun f => ok1 f.1) <| sF (fun f => or_field fo70_1 f.1 (by rfl)) <| sG to31 b33_gr1 <| sF (fun f => or_neq f.1 rfl rfl) <| steps_nil
 intro o35 a35 w35 d35 z35 hk35 hf35 hE35
 have e35_0 := kt hk35 e33_0
 have e35_10 := gv (hf35 [4] rfl) rfl
 have hX35 := Evo.step hX33 hown hE35 rfl
 have b35_gr1 := be_ hE35 b33_gr1
 refine fl_cond e35_10 hs (fun c36 hs => ?_) (fun c36 hs => ?_)
 ·refine rq_seq 36 o35 (bz 1) [dv [] [] 2 (.int .u64 0)] z35 d35 ?_ ?_
  ·exact sO (or_assign rfl) <| steps_nil
  intro o37 a37 w37 d37 z37 hk37 hf37 hE37
  have e37_0 := kt hk37 e35_0
  have e37_2 := gv (hf37 [0] rfl) rfl
  have hX37 := Evo.step hX35 hown hE37 rfl
  have b37_gr1 := be_ hE37 b35_gr1
  refine fl_ret ?_
  refine hp34 _ _ _ rfl ?_
  obtain rfl := osome hs
  exact hret _ _ _ _ (.inl rfl) d37 (results1_ rfl (RVal.tmp_ e37_2)) ⟨o37, (Ar1_0, cr1_0), rfl, hX37, (RdO.evo rfl hX37 hAr1_0), b37_gr1⟩
 refine fl_skip ?_
 refine hn34 _ _ ?_
 obtain ⟨r38, hr38, hs⟩ := obind hs
 refine rq_seq 36 o35 [0, 1, 3, 7, 15, 31, 63, 63, 63, 127, 767, 2047] [dv [] [0] 12 (pt gr1 0), dv [0] [] 13 (pt gr1 0), dv [1] [] 14 (pt gr1 0), dv [2] [] 15 (sl Ar1_0 r1.1 cr1_0), dv [3] [] 16 (.tuple #[.int .u64 r38.1, Zi r38.2.1, Zi r38.2.2]), dv [4] [] 11 (.tuple #[.int .u64 r38.1, Zi r38.2.1, Zi r38.2.2]), dv [5] [] 17 (.int .u64 r38.1), dv [5] [] 18 (Zi r38.2.1), dv [5] [] 19 (Zi r38.2.2), dv [6] [] 3 (.int .u64 r38.1), dv [7] [] 4 (Zi r38.2.1), dv [8] [] 5 (Zi r38.2.2)] z35 d35 ?_ ?_
 ·exact sM e35_0 <| sF (fun f => ok1 f.1) <| sF (fun f => or_field fo70_0 f.1 (by rfl)) <| sG to22 b35_gr1 <| sFE (fun f hE => or_call cf61 (args1 f.1) (varint_Read_w _ r1.1 Ar1_0 cr1_0 (RdO.zero (RdO.evo rfl hE (RdO.evo rfl hX35 hAr1_0))) r38 hr38) post_val) <| sV <| sF (fun f => ok1 f.1) <| sF (fun f => ok1 f.1) <| sF (fun f => ok1 f.1) <| sA <| sA <| sA <| steps_nil
 intro o39 a39 w39 d39 z39 hk39 hf39 hE39
 have e39_0 := kt hk39 e35_0
 have e39_3 := gv (hf39 [9] rfl) rfl
 have e39_4 := gv (hf39 [10] rfl) rfl
 have e39_5 := gv (hf39 [11] rfl) rfl
 have hX39 := Evo.step hX35 hown hE39 rfl
 have b39_gr1 := be_ hE39 b35_gr1
 refine fl_seq (fun Q40 hn40 hp40 => ?_)
 refine rq_seq 36 o39 (bz 2) [dv [] [5] 20 (Zi r38.2.2), dv [0] [] 21 (.bool (!decide (r38.2.2 = 0)))] z39 d39 ?_ ?_
 ·exact sM e39_5 <| sF (fun f => or_neq f.1 rfl rfl) <| steps_nil
 intro o41 a41 w41 d41 z41 hk41 hf41 hE41
 obtain ⟨e41_0, e41_3, e41_4, e41_5⟩ := kt4 hk41 e39_0 e39_3 e39_4 e39_5
 have e41_21 := gv (hf41 [1] rfl) rfl
 have hX41 := Evo.step hX39 hown hE41 rfl
 have b41_gr1 := be_ hE41 b39_gr1
 refine fl_cond e41_21 hs (fun c42 hs => ?_) (fun c42 hs => ?_)
 ·refine rr_seq 36 [Fct.at_ 1 gr1 tr1 #[sl Ar1_0 r1.1 cr1_0, Zi r1.2]] o41 [1] [0, 0, 3, 7, 15] [dv [] [0] 22 (pt gr1 0), dv [] [5] 23 (Zi r38.2.2), dv [0] [] 24 (pt gr1 0), dv [2] [] 25 (pt gr1 1), ⟨[3, 1, 5], [], [1], Fct.at_ 43 gr1 tr1 #[sl Ar1_0 r1.1 cr1_0, Zi r38.2.2]⟩] z41 d41 (fm1 b41_gr1) ?_ ?_
  ·refine sM e41_0 <| sM e41_5 <| sF (fun f => ok1 f.1) <| sF (fun f => or_field fo70_1 f.1 (by rfl)) ?_
   refine sc (fun own a wx hf hsl hE => ?_) ?_
   ·obtain ⟨f_25, f_23, b_gr1, -⟩ := hf
    exact px (or_store1 (lab := 1) (lab2 := 43) ts31 f_25 f_23 b_gr1 (by simp) rfl (mem_of rfl) (by decide) rfl (fun own' a' w' ha hb => hb))
   exact steps_nil
  intro o44 a44 w44 d44 z44 hk44 hf44 hE44
  have e44_0 := kt hk44 e41_0
  obtain ⟨(b44_gr1 : BlkO o44 43 w44 gr1 tr1 #[sl Ar1_0 r1.1 cr1_0, Zi r38.2.2]), -⟩ := hf44 [4] rfl
  have hX44 := Evo.step hX41 hown hE44 rfl
  refine rq_seq 36 o44 (bz 1) [dv [] [] 2 (.int .u64 0)] z44 d44 ?_ ?_
  ·exact sO (or_assign rfl) <| steps_nil
  intro o45 a45 w45 d45 z45 hk45 hf45 hE45
  have e45_0 := kt hk45 e44_0
  have e45_2 := gv (hf45 [0] rfl) rfl
  have hX45 := Evo.step hX44 hown hE45 rfl
  have b45_gr1 := be_ hE45 b44_gr1
  refine fl_ret ?_
  refine hp40 _ _ _ rfl ?_
  obtain rfl := osome hs
  exact hret _ _ _ _ (.inl rfl) d45 (results1_ rfl (RVal.tmp_ e45_2)) ⟨(rl [(43, 1)] o45), (Ar1_0, cr1_0), rfl, (Evo.rl_ hX45 hown rfl), (RdO.rl_ (RdO.evo rfl hX45 hAr1_0)), (BlkO.rl_ b45_gr1)⟩
 refine fl_skip ?_
 refine hn40 _ _ ?_
 obtain ⟨x48, hx48, hs⟩ := obind hs
 refine rr_seq 36 [Fct.at_ 1 gr1 tr1 #[sl Ar1_0 r1.1 cr1_0, Zi r1.2]] o41 [1] [0, 0, 2, 6, 14, 0, 62, 127, 255, 511] [dv [] [0] 26 (pt gr1 0), dv [] [0] 27 (pt gr1 0), dv [1] [] 28 (pt gr1 0), dv [2] [] 29 (pt gr1 0), dv [3, 10] [] 30 (sl Ar1_0 r1.1 cr1_0), dv [] [4] 31 (Zi r38.2.1), ⟨[4, 5], [], [], Fct.view [2] 32 R5 x48⟩, dv [0] [] 33 (pt gr1 0), dv [7] [] 34 (pt gr1 0), ⟨[8, 6, 10], [], [1], Fct.by_ [50] [32] (fun l own w => ∀ (A49 : Option Addr) (cA49 : Nat), l.getD 0 undef = sl A49 x48 cA49 → BlkO own 50 w gr1 tr1 #[sl A49 x48 cA49, Zi r1.2]) (fun hk he h _ _ h0' => BlkO.evo (not_hit hk (by decide)) he (h _ _ h0'))⟩] z41 d41 (fm1 b41_gr1) ?_ ?_
 ·refine sM e41_0 <| sM e41_0 <| sF (fun f => ok1 f.1) <| sF (fun f => or_field fo70_0 f.1 (by rfl)) ?_
  refine sc (fun own a wx hf hsl hE => ?_) ?_
  ·obtain ⟨f_29, (b_gr1 : BlkO own 1 wx gr1 tr1 #[sl Ar1_0 r1.1 cr1_0, Zi r1.2]), -⟩ := hf
   exact px (ld1 to22 f_29 b_gr1)
  refine sM e41_4 <| sFE (fun f hE => or_view (R := R5) (l := r1.1) (L := [2]) tu22 ts5 f.1 (Bnd.some_ f.2.1) Bnd.none_ Bnd.none_ (RdO.evo rfl hE (RdO.evo rfl hX41 hAr1_0)) hx48 (.inl rfl) (by simp)) <| sF (fun f => ok1 f.1) <| sF (fun f => or_field fo70_0 f.1 (by rfl)) ?_
  refine sc (fun own a wx hf hsl hE => ?_) ?_
  ·obtain ⟨f_34, ⟨⟨A49, cA49⟩, (f_32 : a.eval (.tmp 32) = sl A49 x48 cA49), b_A49⟩, b_gr1, -⟩ := hf
   exact px (or_store1 (lab := 1) (lab2 := 50) ts22 f_34 f_32 b_gr1 (by simp) rfl (mem_of rfl) (by decide) rfl (fun own' a' w' ha hb => fun _ _ h0' => by cases (f_32.symm.trans ((ha 32).symm.trans h0')); exact hb))
  exact steps_nil
 intro o51 a51 w51 d51 z51 hk51 hf51 hE51
 obtain ⟨e51_0, e51_3⟩ := kt2 hk51 e41_0 e41_3
 obtain ⟨⟨⟨A49, cA49⟩, (f_32 : a51.eval (.tmp 32) = sl A49 x48 cA49), (b51_A49 : RdO o51 [2] w51 R5 A49 cA49 x48)⟩, (bq_gr1 : ∀ (A49 : Option Addr) (cA49 : Nat), a51.eval (.tmp 32) = sl A49 x48 cA49 → BlkO o51 50 w51 gr1 tr1 #[sl A49 x48 cA49, Zi r1.2]), -⟩ := hf51 [6, 9] rfl
 have b51_gr1 := bq_gr1 _ _ f_32
 have hX51 := Evo.step hX41 hown hE51 rfl
 refine rq_seq 36 o51 (bz 2) [dv [] [3] 35 (.int .u64 r38.1), dv [0] [] 2 (.int .u64 r38.1)] z51 d51 ?_ ?_
 ·exact sM e51_3 <| sA <| steps_nil
 intro o52 a52 w52 d52 z52 hk52 hf52 hE52
 have e52_0 := kt hk52 e51_0
 have e52_2 := gv (hf52 [1] rfl) rfl
 have hX52 := Evo.step hX51 hown hE52 rfl
 have b52_gr1 := be_ hE52 b51_gr1
 have b52_A49 := RdO.evo rfl hE52 b51_A49
 refine fl_ret ?_
 obtain rfl := osome hs
 exact hret _ _ _ _ (.inl rfl) d52 (results1_ rfl (RVal.tmp_ e52_2)) ⟨(rl [(50, 1)] o52), (A49, cA49), rfl, (Evo.rl_ hX52 hown rfl), (RdO.rl_ b52_A49), (BlkO.rl_ b52_gr1)⟩
theorem pack_reader_whole_w (w : World) (own : Own) (r1 : (List Int) × Int) (gr1 : Nat) (tr1 : TypeId) (Ar1_0 : Option Addr) (cr1_0 : Nat) (hown : ∀ b, own b ≤ 2) (hgr1 : BlkO own 1 w gr1 tr1 #[sl Ar1_0 r1.1 cr1_0, Zi r1.2]) (hAr1_0 : RdO own [2] w R5 Ar1_0 cr1_0 r1.1) (r : (List Int) × ((List Int) × Int)) (hs : pack_reader_whole r1 = some r) :
  Calls Try.prog 28 #[pt gr1 0] w fun e w' => ∃ (own' : Own) (x : (Option Addr × Nat) × (Option Addr × Nat)), e = .returned (.slice x.1.1 r.1.length x.1.2) ∧ Evo [1] own own' w w' ∧ RwO own' 3 [] w' 5 R5 x.1.1 x.1.2 r.1 ∧ RdO own' [2] w' R5 x.2.1 x.2.2 r.2.1 ∧ BlkO own' 1 w' gr1 tr1 #[.slice x.2.1 r.2.1.length x.2.2, Zi r.2.2] := by
 refine fl_enter (n := 42) rfl rfl rfl (Nat.le_of_ble_eq_true rfl) ?_
 intro a0 Q d0 z0 harg hret
 have ha0 := harg 0 _ rfl
 clear harg
 have hE0 : Evo [1] own own w w := Evo.refl _ _ _
 refine rq_seq 42 own (bz 1) [dv [] [] 2 (.slice none 0 0)] z0 d0 ?_ ?_
 ·exact sO (or_assign rfl) <| steps_nil
 intro o42 a42 w42 d42 z42 hk42 hf42 hE42
 have e42_0 := kt hk42 ha0
 have hX42 := Evo.step hE0 hown hE42 rfl
 have b42_gr1 := be_ hE42 hgr1
 obtain ⟨r43, hr43, hs⟩ := obind hs
 refine rr_seq 42 [Fct.at_ 1 gr1 tr1 #[sl Ar1_0 r1.1 cr1_0, Zi r1.2]] o42 [1] (bz 3) [dv [] [0] 5 (pt gr1 0), ⟨[0, 3], [], [1], Fct.mems [2, 45] 6 (fun (x : Option Addr × Nat) => .int .u64 r43.1) (fun (x : Option Addr × Nat) own w => RdO own [2] w R5 x.1 x.2 r43.2.1 ∧ BlkO own 45 w gr1 tr1 #[.slice x.1 r43.2.1.length x.2, Zi r43.2.2]) (fun hk he h => ⟨RdO.evo (hits_sub hk (by decide)) he h.1, BlkO.evo (not_hit hk (by decide)) he h.2⟩)⟩, dv [1] [] 3 (.int .u64 r43.1)] z42 d42 (fm1 b42_gr1) ?_ ?_
 ·refine sM e42_0 ?_
  refine sc (fun own a wx hf hsl hE => ?_) ?_
  ·obtain ⟨f_5, b_gr1, -⟩ := hf
   exact px (or_call cf50 (args1 f_5) (pack_reader_number_w _ (forth own (look0 [(1, 1), (2, 2)])) r1 gr1 tr1 Ar1_0 cr1_0 (look0_le rfl) (BlkO.forth_ (m := (look0 [(1, 1), (2, 2)])) b_gr1) (RdO.forth_ (m := (look0 [(1, 1), (2, 2)])) (RdO.evo rfl hE (RdO.evo rfl hX42 hAr1_0))) r43 hr43) (post_mems (m := (look0 [(1, 1), (2, 2)])) (m' := (look0 [(1, 45), (2, 2)])) (hm_of2 rfl) (fun own' w' a' x h1 h => ⟨x, h1, ⟨RdO.back_ h.1 (by decide), BlkO.back_ h.2 (by decide)⟩⟩)))
  refine sc (fun own a wx hf hsl hE => ?_) ?_
  ·obtain ⟨⟨⟨A44, cA44⟩, f_6, b_A44, b_gr1⟩, -⟩ := hf
   exact px (or_assign f_6)
  exact steps_nil
 intro o46 a46 w46 d46 z46 hk46 hf46 hE46
 have e46_0 := kt hk46 e42_0
 have e46_3 := gv (hf46 [2] rfl) rfl
 obtain ⟨⟨⟨A44, cA44⟩, (f_6 : a46.eval (.tmp 6) = .int .u64 r43.1), (b46_A44 : RdO o46 [2] w46 R5 A44 cA44 r43.2.1), (b46_gr1 : BlkO o46 45 w46 gr1 tr1 #[sl A44 r43.2.1 cA44, Zi r43.2.2])⟩, -⟩ := hf46 [1] rfl
 have hX46 := Evo.step hX42 hown hE46 rfl
 refine fl_seq (fun Q47 hn47 hp47 => ?_)
 refine fl_block (fun Q48 hn48 hx48 hp48 => ?_)
 refine rq_seq 42 o46 (bz 6) [dv [] [0] 8 (pt gr1 0), dv [0] [] 9 (pt gr1 0), dv [1] [] 10 (pt gr1 1), dv [2] [] 11 (Zi r43.2.2), dv [3] [] 12 (.bool (!decide (r43.2.2 = 0))), dv [4] [] 7 (.bool (!decide (r43.2.2 = 0)))] z46 d46 ?_ ?_
 ·exact sM e46_0 <| sF (fun f => ok1 f.1) <| sF (fun f => or_field fo70_1 f.1 (by rfl)) <| sG to31 b46_gr1 <| sF (fun f => or_neq f.1 rfl rfl) <| sA <| steps_nil
 intro o49 a49 w49 d49 z49 hk49 hf49 hE49
 obtain ⟨e49_0, e49_3⟩ := kt2 hk49 e46_0 e46_3
 have e49_7 := gv (hf49 [5] rfl) rfl
 have hX49 := Evo.step hX46 hown hE49 rfl
 have b49_gr1 := be_ hE49 b46_gr1
 have b49_A44 := RdO.evo rfl hE49 b46_A44
 refine fl_cond e49_7 hs (fun c50 hs => ?_) (fun c50 hs => ?_)
 ·refine rq_seq 42 o49 (bz 1) [dv [] [] 2 (.slice none 0 0)] z49 d49 ?_ ?_
  ·exact sO (or_assign rfl) <| steps_nil
  intro o51 a51 w51 d51 z51 hk51 hf51 hE51
  have e51_0 := kt hk51 e49_0
  have e51_2 := gv (hf51 [0] rfl) rfl
  have hX51 := Evo.step hX49 hown hE51 rfl
  have b51_gr1 := be_ hE51 b49_gr1
  have b51_A44 := RdO.evo rfl hE51 b49_A44
  refine fl_ret ?_
  refine hp48 _ _ _ rfl ?_
  refine hp47 _ _ _ rfl ?_
  obtain rfl := osome hs
  exact hret _ _ _ _ (.inl rfl) d51 (results1_ rfl (RVal.tmp_ e51_2)) ⟨(rl [(45, 1)] o51), ((none, 0), (A44, cA44)), rfl, (Evo.rl_ hX51 hown rfl), RwO.nil_, (RdO.rl_ b51_A44), (BlkO.rl_ b51_gr1)⟩
 obtain ⟨x52, hx52, hs⟩ := obind hs
 refine rq_seq 42 o49 [0, 0, 2, 6, 14, 30, 62, 127, 255] [dv [] [3] 14 (.int .u64 r43.1), dv [] [0] 15 (pt gr1 0), dv [1] [] 16 (pt gr1 0), dv [2] [] 17 (pt gr1 0), dv [3] [] 18 (sl A44 r43.2.1 cA44), dv [4] [] 19 (Zi (r43.2.1.length : Int)), dv [5] [] 20 (.int .u64 x52), dv [0, 6] [] 21 (.bool (decide (x52 < r43.1))), dv [7] [] 13 (.bool (decide (x52 < r43.1)))] z49 d49 ?_ ?_
 ·exact sM e49_3 <| sM e49_0 <| sF (fun f => ok1 f.1) <| sF (fun f => or_field fo70_0 f.1 (by rfl)) <| sG to22 b49_gr1 <| sF (fun f => or_len tu22 f.1 rfl) <| sF (fun f => or_conv f.1 tn3 tn26 (osome hx52).symm) <| sF (fun f => or_gtr f.1 f.2.1 rfl) <| sA <| steps_nil
 intro o53 a53 w53 d53 z53 hk53 hf53 hE53
 obtain ⟨e53_0, e53_3⟩ := kt2 hk53 e49_0 e49_3
 have e53_13 := gv (hf53 [8] rfl) rfl
 have hX53 := Evo.step hX49 hown hE53 rfl
 have b53_gr1 := be_ hE53 b49_gr1
 have b53_A44 := RdO.evo rfl hE53 b49_A44
 refine fl_cond e53_13 hs (fun c54 hs => ?_) (fun c54 hs => ?_)
 ·refine rr_seq 42 [Fct.at_ 45 gr1 tr1 #[sl A44 r43.2.1 cA44, Zi r43.2.2]] o53 [45] (bz 4) [dv [] [0] 22 (pt gr1 0), dv [0] [] 23 (pt gr1 0), dv [1] [] 24 (pt gr1 1), ⟨[2, 4], [], [45], Fct.at_ 55 gr1 tr1 #[sl A44 r43.2.1 cA44, Zi 4]⟩] z53 d53 (fm1 b53_gr1) ?_ ?_
  ·refine sM e53_0 <| sF (fun f => ok1 f.1) <| sF (fun f => or_field fo70_1 f.1 (by rfl)) ?_
   refine sc (fun own a wx hf hsl hE => ?_) ?_
   ·obtain ⟨f_24, b_gr1, -⟩ := hf
    exact px (or_store1 (lab := 45) (lab2 := 55) ts31 f_24 rfl b_gr1 (by simp) rfl (mem_of rfl) (by decide) rfl (fun own' a' w' ha hb => hb))
   exact steps_nil
  intro o56 a56 w56 d56 z56 hk56 hf56 hE56
  have e56_0 := kt hk56 e53_0
  obtain ⟨(b56_gr1 : BlkO o56 55 w56 gr1 tr1 #[sl A44 r43.2.1 cA44, Zi 4]), -⟩ := hf56 [3] rfl
  have hX56 := Evo.step hX53 hown hE56 rfl
  have b56_A44 := RdO.evo rfl hE56 b53_A44
  refine rq_seq 42 o56 (bz 1) [dv [] [] 2 (.slice none 0 0)] z56 d56 ?_ ?_
  ·exact sO (or_assign rfl) <| steps_nil
  intro o57 a57 w57 d57 z57 hk57 hf57 hE57
  have e57_0 := kt hk57 e56_0
  have e57_2 := gv (hf57 [0] rfl) rfl
  have hX57 := Evo.step hX56 hown hE57 rfl
  have b57_gr1 := be_ hE57 b56_gr1
  have b57_A44 := RdO.evo rfl hE57 b56_A44
  refine fl_ret ?_
  refine hp48 _ _ _ rfl ?_
  refine hp47 _ _ _ rfl ?_
  obtain rfl := osome hs
  exact hret _ _ _ _ (.inl rfl) d57 (results1_ rfl (RVal.tmp_ e57_2)) ⟨(rl [(55, 1)] o57), ((none, 0), (A44, cA44)), rfl, (Evo.rl_ hX57 hown rfl), RwO.nil_, (RdO.rl_ b57_A44), (BlkO.rl_ b57_gr1)⟩
 refine fl_skip ?_
 refine hn48 _ _ ?_
 refine hn47 _ _ ?_
 obtain ⟨x58, hx58, hs⟩ := obind hs
 obtain ⟨r60, hr60, hs⟩ := obind hs
 refine rq_seq 42 o53 [0, 1, 3, 7, 0, 31, 63, 127] [dv [] [0] 25 (pt gr1 0), dv [0] [] 26 (pt gr1 0), dv [1] [] 27 (pt gr1 0), dv [2] [] 28 (sl A44 r43.2.1 cA44), dv [] [3] 29 (.int .u64 r43.1), ⟨[3, 4], [], [], Fct.view [2] 30 R5 x58⟩, ⟨[5], [], [], Fct.row 62 [] 31 5 R5 r60⟩, ⟨[6], [], [], Fct.rel [4, 31] (fun l => ∀ (A61 : Option Addr) (cA61 : Nat), l.getD 1 undef = sl A61 r60 cA61 → l.getD 0 undef = sl A61 r60 cA61)⟩] z53 d53 ?_ ?_
 ·refine sM e53_0 <| sF (fun f => ok1 f.1) <| sF (fun f => or_field fo70_0 f.1 (by rfl)) <| sG to22 b53_gr1 <| sM e53_3 <| sFE (fun f hE => or_view (R := R5) (l := r43.2.1) (L := [2]) tu22 ts5 f.1 Bnd.none_ (Bnd.some_ f.2.1) Bnd.none_ (RdO.evo rfl hE b53_A44) hx58 (.inl rfl) (by simp)) ?_
  refine sc (fun own a wx hf hsl hE => ?_) ?_
  ·obtain ⟨⟨⟨A59, cA59⟩, f_30, b_A59⟩, -⟩ := hf
   exact px (or_call cf41 (args1 f_30) (bytes_Clone_w _ x58 A59 cA59 (RdO.zero b_A59) r60 hr60) (post_row (m' := (look0 [(1, 62)])) (.inl (Rep.fl_flat _)) rfl rfl (fun _ => rfl)))
  refine sc (fun own a wx hf hsl hE => ?_) ?_
  ·obtain ⟨⟨⟨A61, cA61⟩, (f_31 : a.eval (.tmp 31) = sl A61 r60 cA61), b_A61⟩, -⟩ := hf
   exact px (or_mono (f := Fct.val 4 (sl A61 r60 cA61)) (or_assign f_31) (fun own' a' w' v' hp h => fun _ _ h0' => by cases (f_31.symm.trans ((hp.2 31 (by decide)).symm.trans h0')); exact h))
  exact steps_nil
 intro o63 a63 w63 d63 z63 hk63 hf63 hE63
 obtain ⟨e63_0, e63_3⟩ := kt2 hk63 e53_0 e53_3
 obtain ⟨⟨⟨A61, cA61⟩, (f_31 : a63.eval (.tmp 31) = sl A61 r60 cA61), (b63_A61 : RwO o63 62 [] w63 5 R5 A61 cA61 r60)⟩, (q_4 : ∀ (A61 : Option Addr) (cA61 : Nat), a63.eval (.tmp 31) = sl A61 r60 cA61 → a63.eval (.tmp 4) = sl A61 r60 cA61), -⟩ := hf63 [6, 7] rfl
 have e63_4 := q_4 _ _ f_31
 have hX63 := Evo.step hX53 hown hE63 rfl
 have b63_gr1 := be_ hE63 b53_gr1
 have b63_A44 := RdO.evo rfl hE63 b53_A44
 obtain ⟨x66, hx66, hs⟩ := obind hs
 refine rr_seq 42 [Fct.at_ 45 gr1 tr1 #[sl A44 r43.2.1 cA44, Zi r43.2.2]] o63 [45] [0, 0, 2, 6, 14, 0, 62, 127, 255, 511] [dv [] [0] 32 (pt gr1 0), dv [] [0] 33 (pt gr1 0), dv [1] [] 34 (pt gr1 0), dv [2] [] 35 (pt gr1 0), dv [3, 10] [] 36 (sl A44 r43.2.1 cA44), dv [] [3] 37 (.int .u64 r43.1), ⟨[4, 5], [], [], Fct.view [2] 38 R5 x66⟩, dv [0] [] 39 (pt gr1 0), dv [7] [] 40 (pt gr1 0), ⟨[8, 6, 10], [], [45], Fct.by_ [68] [38] (fun l own w => ∀ (A67 : Option Addr) (cA67 : Nat), l.getD 0 undef = sl A67 x66 cA67 → BlkO own 68 w gr1 tr1 #[sl A67 x66 cA67, Zi r43.2.2]) (fun hk he h _ _ h0' => BlkO.evo (not_hit hk (by decide)) he (h _ _ h0'))⟩] z63 d63 (fm1 b63_gr1) ?_ ?_
 ·refine sM e63_0 <| sM e63_0 <| sF (fun f => ok1 f.1) <| sF (fun f => or_field fo70_0 f.1 (by rfl)) ?_
  refine sc (fun own a wx hf hsl hE => ?_) ?_
  ·obtain ⟨f_35, (b_gr1 : BlkO own 45 wx gr1 tr1 #[sl A44 r43.2.1 cA44, Zi r43.2.2]), -⟩ := hf
   exact px (ld1 to22 f_35 b_gr1)
  refine sM e63_3 <| sFE (fun f hE => or_view (R := R5) (l := r43.2.1) (L := [2]) tu22 ts5 f.1 (Bnd.some_ f.2.1) Bnd.none_ Bnd.none_ (RdO.evo rfl hE b63_A44) hx66 (.inl rfl) (by simp)) <| sF (fun f => ok1 f.1) <| sF (fun f => or_field fo70_0 f.1 (by rfl)) ?_
  refine sc (fun own a wx hf hsl hE => ?_) ?_
  ·obtain ⟨f_40, ⟨⟨A67, cA67⟩, (f_38 : a.eval (.tmp 38) = sl A67 x66 cA67), b_A67⟩, b_gr1, -⟩ := hf
   exact px (or_store1 (lab := 45) (lab2 := 68) ts22 f_40 f_38 b_gr1 (by simp) rfl (mem_of rfl) (by decide) rfl (fun own' a' w' ha hb => fun _ _ h0' => by cases (f_38.symm.trans ((ha 38).symm.trans h0')); exact hb))
  exact steps_nil
 intro o69 a69 w69 d69 z69 hk69 hf69 hE69
 obtain ⟨e69_0, e69_4⟩ := kt2 hk69 e63_0 e63_4
 obtain ⟨⟨⟨A67, cA67⟩, (f_38 : a69.eval (.tmp 38) = sl A67 x66 cA67), (b69_A67 : RdO o69 [2] w69 R5 A67 cA67 x66)⟩, (bq_gr1 : ∀ (A67 : Option Addr) (cA67 : Nat), a69.eval (.tmp 38) = sl A67 x66 cA67 → BlkO o69 68 w69 gr1 tr1 #[sl A67 x66 cA67, Zi r43.2.2]), -⟩ := hf69 [6, 9] rfl
 have b69_gr1 := bq_gr1 _ _ f_38
 have hX69 := Evo.step hX63 hown hE69 rfl
 have b69_A61 := re_ hE69 b63_A61
 refine rq_seq 42 o69 (bz 2) [dv [] [4] 41 (sl A61 r60 cA61), dv [0] [] 2 (sl A61 r60 cA61)] z69 d69 ?_ ?_
 ·exact sM e69_4 <| sA <| steps_nil
 intro o70 a70 w70 d70 z70 hk70 hf70 hE70
 have e70_0 := kt hk70 e69_0
 have e70_2 := gv (hf70 [1] rfl) rfl
 have hX70 := Evo.step hX69 hown hE70 rfl
 have b70_gr1 := be_ hE70 b69_gr1
 have b70_A61 := re_ hE70 b69_A61
 have b70_A67 := RdO.evo rfl hE70 b69_A67
 refine fl_ret ?_
 obtain rfl := osome hs
 exact hret _ _ _ _ (.inl rfl) d70 (results1_ rfl (RVal.tmp_ e70_2)) ⟨(rl [(62, 3), (68, 1)] o70), ((A61, cA61), (A67, cA67)), rfl, (Evo.rl_ hX70 hown rfl), (RwO.rl_ b70_A61), (RdO.rl_ b70_A67), (BlkO.rl_ b70_gr1)⟩
theorem pack_reader_count_w (w : World) (own : Own) (r1 : (List Int) × Int) (gr1 : Nat) (tr1 : TypeId) (Ar1_0 : Option Addr) (cr1_0 : Nat) (hown : ∀ b, own b ≤ 2) (hgr1 : BlkO own 1 w gr1 tr1 #[sl Ar1_0 r1.1 cr1_0, Zi r1.2]) (hAr1_0 : RdO own [2] w R5 Ar1_0 cr1_0 r1.1) (r : Int × ((List Int) × Int)) (hs : pack_reader_count r1 = some r) :
  Calls Try.prog 29 #[pt gr1 0] w fun e w' => ∃ (own' : Own) (x : Option Addr × Nat), e = .returned (Zi r.1) ∧ Evo [1] own own' w w' ∧ RdO own' [2] w' R5 x.1 x.2 r.2.1 ∧ BlkO own' 1 w' gr1 tr1 #[.slice x.1 r.2.1.length x.2, Zi r.2.2] := by
 refine fl_enter (n := 21) rfl rfl rfl (Nat.le_of_ble_eq_true rfl) ?_
 intro a0 Q d0 z0 harg hret
 have ha0 := harg 0 _ rfl
 clear harg
 have hE0 : Evo [1] own own w w := Evo.refl _ _ _
 refine rq_seq 21 own (bz 1) [dv [] [] 2 (Zi 0)] z0 d0 ?_ ?_
 ·exact sO (or_assign rfl) <| steps_nil
 intro o34 a34 w34 d34 z34 hk34 hf34 hE34
 have e34_0 := kt hk34 ha0
 have hX34 := Evo.step hE0 hown hE34 rfl
 have b34_gr1 := be_ hE34 hgr1
 obtain ⟨r35, hr35, hs⟩ := obind hs
 refine rr_seq 21 [Fct.at_ 1 gr1 tr1 #[sl Ar1_0 r1.1 cr1_0, Zi r1.2]] o34 [1] (bz 3) [dv [] [0] 4 (pt gr1 0), ⟨[0, 3], [], [1], Fct.mems [2, 37] 5 (fun (x : Option Addr × Nat) => .int .u64 r35.1) (fun (x : Option Addr × Nat) own w => RdO own [2] w R5 x.1 x.2 r35.2.1 ∧ BlkO own 37 w gr1 tr1 #[.slice x.1 r35.2.1.length x.2, Zi r35.2.2]) (fun hk he h => ⟨RdO.evo (hits_sub hk (by decide)) he h.1, BlkO.evo (not_hit hk (by decide)) he h.2⟩)⟩, dv [1] [] 3 (.int .u64 r35.1)] z34 d34 (fm1 b34_gr1) ?_ ?_
 ·refine sM e34_0 ?_
  refine sc (fun own a wx hf hsl hE => ?_) ?_
  ·obtain ⟨f_4, b_gr1, -⟩ := hf
   exact px (or_call cf50 (args1 f_4) (pack_reader_number_w _ (forth own (look0 [(1, 1), (2, 2)])) r1 gr1 tr1 Ar1_0 cr1_0 (look0_le rfl) (BlkO.forth_ (m := (look0 [(1, 1), (2, 2)])) b_gr1) (RdO.forth_ (m := (look0 [(1, 1), (2, 2)])) (RdO.evo rfl hE (RdO.evo rfl hX34 hAr1_0))) r35 hr35) (post_mems (m := (look0 [(1, 1), (2, 2)])) (m' := (look0 [(1, 37), (2, 2)])) (hm_of2 rfl) (fun own' w' a' x h1 h => ⟨x, h1, ⟨RdO.back_ h.1 (by decide), BlkO.back_ h.2 (by decide)⟩⟩)))
  refine sc (fun own a wx hf hsl hE => ?_) ?_
  ·obtain ⟨⟨⟨A36, cA36⟩, f_5, b_A36, b_gr1⟩, -⟩ := hf
   exact px (or_assign f_5)
  exact steps_nil
 intro o38 a38 w38 d38 z38 hk38 hf38 hE38
 have e38_0 := kt hk38 e34_0
 have e38_3 := gv (hf38 [2] rfl) rfl
 obtain ⟨⟨⟨A36, cA36⟩, (f_5 : a38.eval (.tmp 5) = .int .u64 r35.1), (b38_A36 : RdO o38 [2] w38 R5 A36 cA36 r35.2.1), (b38_gr1 : BlkO o38 37 w38 gr1 tr1 #[sl A36 r35.2.1 cA36, Zi r35.2.2])⟩, -⟩ := hf38 [1] rfl
 have hX38 := Evo.step hX34 hown hE38 rfl
 refine fl_seq (fun Q39 hn39 hp39 => ?_)
 have K47 : ∀ (a47 : Act) (w47 : World) (o47 : Own) (r46 : Int), a47.defers = [] → a47.tmps.size = 21 → a47.eval (.tmp 0) = pt gr1 0 → a47.eval (.tmp 3) = .int .u64 r35.1 → Evo [1] own o47 w w47 → BlkO o47 45 w47 gr1 tr1 #[sl A36 r35.2.1 cA36, Zi r46] → RdO o47 [2] w47 R5 A36 cA36 r35.2.1 → pack_reader_count_k1 r35 r46 = some r → Q39 .normal a47 w47 := by
  intro a47 w47 o47 r46 d48 z48 e48_0 e48_3 hE48 b48_gr1 b48_A36 hs
  refine hn39 _ _ ?_
  refine rq_seq 21 o47 (bz 4) [dv [] [3] 18 (.int .u64 r35.1), dv [0] [] 19 (.int .u64 (mn r35.1 341)), dv [1] [] 20 (Zi (IntKind.i64.wrap (mn r35.1 341))), dv [2] [] 2 (Zi (IntKind.i64.wrap (mn r35.1 341)))] z48 d48 ?_ ?_
  ·exact sM e48_3 <| sF (fun f => or_min f.1 rfl) <| sF (fun f => or_conv f.1 tn26 tn3 rfl) <| sA <| steps_nil
  intro o49 a49 w49 d49 z49 hk49 hf49 hE49
  have e49_0 := kt hk49 e48_0
  have e49_2 := gv (hf49 [3] rfl) rfl
  have hX49 := Evo.step hE48 hown hE49 rfl
  have b49_gr1 := be_ hE49 b48_gr1
  have b49_A36 := RdO.evo rfl hE49 b48_A36
  refine fl_ret ?_
  obtain rfl := osome hs
  exact hret _ _ _ _ (.inl rfl) d49 (results1_ rfl (RVal.tmp_ e49_2)) ⟨(rl [(45, 1)] o49), (A36, cA36), rfl, (Evo.rl_ hX49 hown rfl), (RdO.rl_ b49_A36), (BlkO.rl_ b49_gr1)⟩
 obtain ⟨x50, hx50, hs⟩ := obind hs
 refine rq_seq 21 o38 (bz 9) [dv [] [0] 6 (pt gr1 0), dv [0] [] 7 (pt gr1 0), dv [1] [] 8 (pt gr1 1), dv [2] [] 9 (Zi r35.2.2), dv [3] [] 10 (.bool (decide (r35.2.2 = 0))), dv [4] [] 11 (.bool (decide (r35.2.2 = 0))), dc [5] [3] (decide (r35.2.2 = 0)) 12 (.int .u64 r35.1), dc [5, 6] [] (decide (r35.2.2 = 0)) 13 (.bool (decide (341 < r35.1))), dv [5, 7] [] 14 (.bool x50)] z38 d38 ?_ ?_
 ·exact sM e38_0 <| sF (fun f => ok1 f.1) <| sF (fun f => or_field fo70_1 f.1 (by rfl)) <| sG to31 b38_gr1 <| sF (fun f => or_eql f.1 rfl rfl) <| sV <| cT (fun _ s _ _ => or_move (s.1.trans e38_3)) <| cT (fun f _ _ hg => or_gtr (f.2.1.1 hg) rfl rfl) <| sF (fun f => or_and f.1 (fun hx => f.2.1.1 hx) rfl (osome hx50).symm) <| steps_nil
 intro o51 a51 w51 d51 z51 hk51 hf51 hE51
 obtain ⟨e51_0, e51_3⟩ := kt2 hk51 e38_0 e38_3
 have e51_14 := gv (hf51 [8] rfl) rfl
 have hX51 := Evo.step hX38 hown hE51 rfl
 have b51_gr1 := be_ hE51 b38_gr1
 have b51_A36 := RdO.evo rfl hE51 b38_A36
 refine fl_cond e51_14 hs (fun c52 hs => ?_) (fun c52 hs => ?_)
 ·refine rr 21 [Fct.at_ 37 gr1 tr1 #[sl A36 r35.2.1 cA36, Zi r35.2.2]] o51 [37] (bz 4) [dv [] [0] 15 (pt gr1 0), dv [0] [] 16 (pt gr1 0), dv [1] [] 17 (pt gr1 1), ⟨[2, 4], [], [37], Fct.at_ 53 gr1 tr1 #[sl A36 r35.2.1 cA36, Zi 6]⟩] z51 d51 (fm1 b51_gr1) ?_ ?_
  ·refine sM e51_0 <| sF (fun f => ok1 f.1) <| sF (fun f => or_field fo70_1 f.1 (by rfl)) ?_
   refine sc (fun own a wx hf hsl hE => ?_) ?_
   ·obtain ⟨f_17, b_gr1, -⟩ := hf
    exact px (or_store1 (lab := 37) (lab2 := 53) ts31 f_17 rfl b_gr1 (by simp) rfl (mem_of rfl) (by decide) rfl (fun own' a' w' ha hb => hb))
   exact steps_nil
  intro o54 a54 w54 d54 z54 hk54 hf54 hE54
  obtain ⟨e54_0, e54_3⟩ := kt2 hk54 e51_0 e51_3
  obtain ⟨(b54_gr1 : BlkO o54 53 w54 gr1 tr1 #[sl A36 r35.2.1 cA36, Zi 6]), -⟩ := hf54 [3] rfl
  have hX54 := Evo.step hX51 hown hE54 rfl
  have b54_A36 := RdO.evo rfl hE54 b51_A36
  exact (K47 _ _ (rl [(53, 45)] o54) _ d54 z54 e54_0 e54_3 (Evo.rl_ hX54 hown rfl) (BlkO.rl_ b54_gr1) (RdO.rl_ b54_A36) hs)
 refine fl_skip ?_
 exact (K47 _ _ (rl [(37, 45)] o51) _ d51 z51 e51_0 e51_3 (Evo.rl_ hX51 hown rfl) (BlkO.rl_ b51_gr1) (RdO.rl_ b51_A36) hs)
theorem pack_reader_tile_w (w : World) (own : Own) (r1 : (List Int) × Int) (gr1 : Nat) (tr1 : TypeId) (Ar1_0 : Option Addr) (cr1_0 : Nat) (last2 : Int × Int × Int) (first3 : Bool) (hown : ∀ b, own b ≤ 2) (hgr1 : BlkO own 1 w gr1 tr1 #[sl Ar1_0 r1.1 cr1_0, Zi r1.2]) (hAr1_0 : RdO own [2] w R5 Ar1_0 cr1_0 r1.1) (r : (Int × Int × Int) × ((List Int) × Int)) (hs : pack_reader_tile r1 last2 first3 = some r) :
  Calls Try.prog 30 #[pt gr1 0, .agg #[Zi last2.1, Zi last2.2.1, Zi last2.2.2], .bool first3] w fun e w' => ∃ (own' : Own) (x : Option Addr × Nat), e = .returned (.agg #[Zi r.1.1, Zi r.1.2.1, Zi r.1.2.2]) ∧ Evo [1] own own' w w' ∧ RdO own' [2] w' R5 x.1 x.2 r.2.1 ∧ BlkO own' 1 w' gr1 tr1 #[.slice x.1 r.2.1.length x.2, Zi r.2.2] := by
 refine fl_enter (n := 53) rfl rfl rfl (Nat.le_of_ble_eq_true rfl) ?_
 intro a0 Q d0 z0 harg hret
 have ha0 := harg 0 _ rfl
 have ha1 := harg 1 _ rfl
 have ha2 := harg 2 _ rfl
 clear harg
 have hE0 : Evo [1] own own w w := Evo.refl _ _ _
 refine rq_seq 53 own [0, 0] [⟨[], [1], [], Fct.blk 94 4 (fun g => pt g 0) 28 #[Zi last2.1, Zi last2.2.1, Zi last2.2.2]⟩, ⟨[], [], [], Fct.blk 96 6 (fun g => pt g 0) 28 #[Zi 0, Zi 0, Zi 0]⟩] z0 d0 ?_ ?_
 ·exact sS (fun s => nw1 (s.1.trans ha1)) <| sO (nw0) <| steps_nil
 intro o97 a97 w97 d97 z97 hk97 hf97 hE97
 obtain ⟨e97_0, e97_2⟩ := kt2 hk97 ha0 ha2
 obtain ⟨⟨g93, (e97_4 : a97.eval (.tmp 4) = pt g93 0), (b97_g93 : BlkO o97 94 w97 g93 28 #[Zi last2.1, Zi last2.2.1, Zi last2.2.2])⟩, ⟨g95, (e97_6 : a97.eval (.tmp 6) = pt g95 0), (b97_g95 : BlkO o97 96 w97 g95 28 #[Zi 0, Zi 0, Zi 0])⟩, -⟩ := hf97 [0, 1] rfl
 have hX97 := Evo.step hE0 hown hE97 rfl
 have b97_gr1 := be_ hE97 hgr1
 obtain ⟨r98, hr98, hs⟩ := obind hs
 obtain ⟨r101, hr101, hs⟩ := obind hs
 obtain ⟨r104, hr104, hs⟩ := obind hs
 refine rr_seq 53 [Fct.at_ 1 gr1 tr1 #[sl Ar1_0 r1.1 cr1_0, Zi r1.2]] o97 [1, 100, 103] [0, 1, 0, 7, 0, 31, 63, 127, 255] [dv [] [0] 11 (pt gr1 0), ⟨[0, 9], [], [1], Fct.mems [2, 100] 12 (fun (x : Option Addr × Nat) => .int .u64 r98.1) (fun (x : Option Addr × Nat) own w => RdO own [2] w R5 x.1 x.2 r98.2.1 ∧ BlkO own 100 w gr1 tr1 #[.slice x.1 r98.2.1.length x.2, Zi r98.2.2]) (fun hk he h => ⟨RdO.evo (hits_sub hk (by decide)) he h.1, BlkO.evo (not_hit hk (by decide)) he h.2⟩)⟩, dv [] [0] 13 (pt gr1 0), ⟨[2, 1], [], [100], Fct.andv (Fct.mems [2, 103] 14 (fun (x : Option Addr × Nat) => .int .u64 r101.1) (fun (x : Option Addr × Nat) own w => RdO own [2] w R5 x.1 x.2 r101.2.1 ∧ BlkO own 103 w gr1 tr1 #[.slice x.1 r101.2.1.length x.2, Zi r101.2.2]) (fun hk he h => ⟨RdO.evo (hits_sub hk (by decide)) he h.1, BlkO.evo (not_hit hk (by decide)) he h.2⟩)) 12 (.int .u64 r98.1)⟩, dv [] [0] 15 (pt gr1 0), ⟨[4, 3], [], [103], Fct.andv (Fct.andv (Fct.mems [2, 106] 16 (fun (x : Option Addr × Nat) => .int .u64 r104.1) (fun (x : Option Addr × Nat) own w => RdO own [2] w R5 x.1 x.2 r104.2.1 ∧ BlkO own 106 w gr1 tr1 #[.slice x.1 r104.2.1.length x.2, Zi r104.2.2]) (fun hk he h => ⟨RdO.evo (hits_sub hk (by decide)) he h.1, BlkO.evo (not_hit hk (by decide)) he h.2⟩)) 12 (.int .u64 r98.1)) 14 (.int .u64 r101.1)⟩, dv [5] [] 7 (.int .u64 r98.1), dv [5] [] 8 (.int .u64 r101.1), dv [5] [] 9 (.int .u64 r104.1)] z97 d97 (fm1 b97_gr1) ?_ ?_
 ·refine sM e97_0 ?_
  refine sc (fun own a wx hf hsl hE => ?_) ?_
  ·obtain ⟨f_11, b_gr1, -⟩ := hf
   exact px (or_call cf50 (args1 f_11) (pack_reader_number_w _ (forth own (look0 [(1, 1), (2, 2)])) r1 gr1 tr1 Ar1_0 cr1_0 (look0_le rfl) (BlkO.forth_ (m := (look0 [(1, 1), (2, 2)])) b_gr1) (RdO.forth_ (m := (look0 [(1, 1), (2, 2)])) (RdO.evo rfl hE (RdO.evo rfl hX97 hAr1_0))) r98 hr98) (post_mems (m := (look0 [(1, 1), (2, 2)])) (m' := (look0 [(1, 100), (2, 2)])) (hm_of2 rfl) (fun own' w' a' x h1 h => ⟨x, h1, ⟨RdO.back_ h.1 (by decide), BlkO.back_ h.2 (by decide)⟩⟩)))
  refine sM e97_0 ?_
  refine sc (fun own a wx hf hsl hE => ?_) ?_
  ·obtain ⟨f_13, ⟨⟨A99, cA99⟩, f_12, b_A99, b_gr1⟩, -⟩ := hf
   exact px (or_andv (by decide) f_12 (or_call cf50 (args1 f_13) (pack_reader_number_w _ (forth own (look0 [(2, 2), (100, 1)])) r98.2 gr1 tr1 A99 cA99 (look0_le rfl) (BlkO.forth_ (m := (look0 [(2, 2), (100, 1)])) b_gr1) (RdO.forth_ (m := (look0 [(2, 2), (100, 1)])) b_A99) r101 hr101) (post_mems (m := (look0 [(2, 2), (100, 1)])) (m' := (look0 [(1, 103), (2, 2)])) (hm_of2 rfl) (fun own' w' a' x h1 h => ⟨x, h1, ⟨RdO.back_ h.1 (by decide), BlkO.back_ h.2 (by decide)⟩⟩))))
  refine sM e97_0 ?_
  refine sc (fun own a wx hf hsl hE => ?_) ?_
  ·obtain ⟨f_15, ⟨f_12, ⟨⟨A102, cA102⟩, f_14, b_A102, b_gr1⟩⟩, -⟩ := hf
   exact px (or_andv (by decide) f_14 (or_andv (by decide) f_12 (or_call cf50 (args1 f_15) (pack_reader_number_w _ (forth own (look0 [(2, 2), (103, 1)])) r101.2 gr1 tr1 A102 cA102 (look0_le rfl) (BlkO.forth_ (m := (look0 [(2, 2), (103, 1)])) b_gr1) (RdO.forth_ (m := (look0 [(2, 2), (103, 1)])) b_A102) r104 hr104) (post_mems (m := (look0 [(2, 2), (103, 1)])) (m' := (look0 [(1, 106), (2, 2)])) (hm_of2 rfl) (fun own' w' a' x h1 h => ⟨x, h1, ⟨RdO.back_ h.1 (by decide), BlkO.back_ h.2 (by decide)⟩⟩)))))
  refine sc (fun own a wx hf hsl hE => ?_) ?_
  ·obtain ⟨⟨f_14, ⟨f_12, ⟨⟨A105, cA105⟩, f_16, b_A105, b_gr1⟩⟩⟩, -⟩ := hf
   exact px (or_assign f_12)
  refine sc (fun own a wx hf hsl hE => ?_) ?_
  ·obtain ⟨⟨f_14, ⟨f_12, ⟨⟨A105, cA105⟩, f_16, b_A105, b_gr1⟩⟩⟩, -⟩ := hf
   exact px (or_assign f_14)
  refine sc (fun own a wx hf hsl hE => ?_) ?_
  ·obtain ⟨⟨f_14, ⟨f_12, ⟨⟨A105, cA105⟩, f_16, b_A105, b_gr1⟩⟩⟩, -⟩ := hf
   exact px (or_assign f_16)
  exact steps_nil
 intro o107 a107 w107 d107 z107 hk107 hf107 hE107
 obtain ⟨e107_0, e107_2, e107_4, e107_6⟩ := kt4 hk107 e97_0 e97_2 e97_4 e97_6
 have e107_7 := gv (hf107 [6] rfl) rfl
 have e107_8 := gv (hf107 [7] rfl) rfl
 have e107_9 := gv (hf107 [8] rfl) rfl
 obtain ⟨⟨(f_14 : a107.eval (.tmp 14) = .int .u64 r101.1), ⟨(f_12 : a107.eval (.tmp 12) = .int .u64 r98.1), ⟨⟨A105, cA105⟩, (f_16 : a107.eval (.tmp 16) = .int .u64 r104.1), (b107_A105 : RdO o107 [2] w107 R5 A105 cA105 r104.2.1), (b107_gr1 : BlkO o107 106 w107 gr1 tr1 #[sl A105 r104.2.1 cA105, Zi r104.2.2])⟩⟩⟩, -⟩ := hf107 [5] rfl
 have hX107 := Evo.step hX97 hown hE107 rfl
 obtain ⟨b107_g93, b107_g95⟩ := be2 hE107 b97_g93 b97_g95
 refine rp_seq 53 o107 [109] [0, 1, 3, 0, 8, 24, 0, 64, 192, 511, 0, 2047] [dv [] [7] 17 (.int .u64 r98.1), dv [0] [] 18 (.int .u64 (mn r98.1 1048576)), dv [1] [] 19 (Zi (IntKind.i64.wrap (mn r98.1 1048576))), dv [] [8] 20 (.int .u64 r101.1), dv [3] [] 21 (.int .u64 (mn r101.1 1048576)), dv [4] [] 22 (Zi (IntKind.i64.wrap (mn r101.1 1048576))), dv [] [9] 23 (.int .u64 r104.1), dv [6] [] 24 (.int .u64 (mn r104.1 1048576)), dv [7] [] 25 (Zi (IntKind.i64.wrap (mn r104.1 1048576))), dv [2, 5, 8] [] 26 (.agg #[Zi (IntKind.i64.wrap (mn r98.1 1048576)), Zi (IntKind.i64.wrap (mn r101.1 1048576)), Zi (IntKind.i64.wrap (mn r104.1 1048576))]), ⟨[], [], [], Fct.blk 109 10 (fun g => pt g 0) 28 #[Zi 0, Zi 0, Zi 0]⟩, ⟨[10, 9], [], [109], Fct.blk 110 10 (fun g => pt g 0) 28 #[Zi (IntKind.i64.wrap (mn r98.1 1048576)), Zi (IntKind.i64.wrap (mn r101.1 1048576)), Zi (IntKind.i64.wrap (mn r104.1 1048576))]⟩] z107 d107 ?_ ?_
 ·refine sM e107_7 <| sF (fun f => or_min f.1 rfl) <| sF (fun f => or_conv f.1 tn26 tn3 rfl) <| sM e107_8 <| sF (fun f => or_min f.1 rfl) <| sF (fun f => or_conv f.1 tn26 tn3 rfl) <| sM e107_9 <| sF (fun f => or_min f.1 rfl) <| sF (fun f => or_conv f.1 tn26 tn3 rfl) <| sF (fun f => ok3 f.1 f.2.1 f.2.2.1) <| sO (nw0) ?_
  refine sc (fun own a wx hf hsl hE => ?_) ?_
  ·obtain ⟨⟨g108, f_10, b_g108⟩, f_26, -⟩ := hf
   exact px (or_store (l := #[Zi (IntKind.i64.wrap (mn r98.1 1048576)), Zi (IntKind.i64.wrap (mn r101.1 1048576)), Zi (IntKind.i64.wrap (mn r104.1 1048576))]) (lab := 109) (lab2 := 110) ts28 f_10 f_26 b_g108 (by simp) (by kernel_rfl) (mem_of rfl) (by decide) (by kernel_rfl) (fun own' a' w' ha hb => ⟨_, (ha 10).trans f_10, hb⟩))
  exact steps_nil
 intro o111 a111 w111 d111 z111 hk111 hf111 hE111
 obtain ⟨e111_0, e111_2, e111_4, e111_6⟩ := kt4 hk111 e107_0 e107_2 e107_4 e107_6
 obtain ⟨⟨g108, (e111_10 : a111.eval (.tmp 10) = pt g108 0), (b111_g108 : BlkO o111 110 w111 g108 28 #[Zi (IntKind.i64.wrap (mn r98.1 1048576)), Zi (IntKind.i64.wrap (mn r101.1 1048576)), Zi (IntKind.i64.wrap (mn r104.1 1048576))])⟩, -⟩ := hf111 [11] rfl
 have hX111 := Evo.step hX107 hown hE111 rfl
 obtain ⟨b111_g93, b111_g95, b111_gr1⟩ := be3 hE111 b107_g93 b107_g95 b107_gr1
 have b111_A105 := RdO.evo rfl hE111 b107_A105
 refine fl_seq (fun Q112 hn112 hp112 => ?_)
 refine fl_block (fun Q142 hn142 hx142 hp142 => ?_)
 have K157 : ∀ (a157 : Act) (w157 : World) (o157 : Own) (r156 : Int), a157.defers = [] → a157.tmps.size = 53 → a157.eval (.tmp 0) = pt gr1 0 → a157.eval (.tmp 6) = pt g95 0 → a157.eval (.tmp 10) = pt g108 0 → Evo [1] own o157 w w157 → BlkO o157 155 w157 gr1 tr1 #[sl A105 r104.2.1 cA105, Zi r156] → RdO o157 [2] w157 R5 A105 cA105 r104.2.1 → BlkO o157 96 w157 g95 28 #[Zi 0, Zi 0, Zi 0] → BlkO o157 110 w157 g108 28 #[Zi (IntKind.i64.wrap (mn r98.1 1048576)), Zi (IntKind.i64.wrap (mn r101.1 1048576)), Zi (IntKind.i64.wrap (mn r104.1 1048576))] → pack_reader_tile_k1 r98 r101 r104 r156 = some r → (Q142 .normal a157 w157 ∧ Q142 (.exit 0) a157 w157) := by
  intro a157 w157 o157 r156 d158 z158 e158_0 e158_6 e158_10 hE158 b158_gr1 b158_A105 b158_g95 b158_g108 hs
  refine and_both (hn142 _ _) (hx142 _ _) ?_
  refine hn112 _ _ ?_
  refine rr_seq 53 [Fct.at_ 96 g95 28 #[Zi 0, Zi 0, Zi 0]] o157 [96] (bz 2) [dv [] [10] 52 (.agg #[Zi (IntKind.i64.wrap (mn r98.1 1048576)), Zi (IntKind.i64.wrap (mn r101.1 1048576)), Zi (IntKind.i64.wrap (mn r104.1 1048576))]), ⟨[0, 2], [6], [96], Fct.at_ 159 g95 28 #[Zi (IntKind.i64.wrap (mn r98.1 1048576)), Zi (IntKind.i64.wrap (mn r101.1 1048576)), Zi (IntKind.i64.wrap (mn r104.1 1048576))]⟩] z158 d158 (fm1 b158_g95) ?_ ?_
  ·refine sL ta28 e158_10 b158_g108 ?_
   refine sc (fun own a wx hf hsl hE => ?_) ?_
   ·obtain ⟨f_52, b_g95, -⟩ := hf
    obtain ⟨s_6, -⟩ := hsl
    exact px (or_store (l := #[Zi (IntKind.i64.wrap (mn r98.1 1048576)), Zi (IntKind.i64.wrap (mn r101.1 1048576)), Zi (IntKind.i64.wrap (mn r104.1 1048576))]) (lab := 96) (lab2 := 159) ts28 (s_6.trans e158_6) f_52 b_g95 (by simp) (by kernel_rfl) (mem_of rfl) (by decide) (by kernel_rfl) (fun own' a' w' ha hb => hb))
   exact steps_nil
  intro o160 a160 w160 d160 z160 hk160 hf160 hE160
  obtain ⟨e160_0, e160_6⟩ := kt2 hk160 e158_0 e158_6
  obtain ⟨(b160_g95 : BlkO o160 159 w160 g95 28 #[Zi (IntKind.i64.wrap (mn r98.1 1048576)), Zi (IntKind.i64.wrap (mn r101.1 1048576)), Zi (IntKind.i64.wrap (mn r104.1 1048576))]), -⟩ := hf160 [1] rfl
  have hX160 := Evo.step hE158 hown hE160 rfl
  have b160_gr1 := be_ hE160 b158_gr1
  have b160_A105 := RdO.evo rfl hE160 b158_A105
  refine fl_ret ?_
  obtain rfl := osome hs
  exact hret _ _ _ _ (.inl rfl) d160 (results1_ rfl (RVal.cell_ e160_6 (run_loadVarAgg (l := [Zi (IntKind.i64.wrap (mn r98.1 1048576)), Zi (IntKind.i64.wrap (mn r101.1 1048576)), Zi (IntKind.i64.wrap (mn r104.1 1048576))]) ta28 (Blk.cellsFrom b160_g95.2 0 rfl) rfl))) ⟨(rl [(155, 1)] o160), (A105, cA105), rfl, (Evo.rl_ hX160 hown rfl), (RdO.rl_ b160_A105), (BlkO.rl_ b160_gr1)⟩
 refine rq_seq 53 o111 (bz 6) [dv [] [0] 28 (pt gr1 0), dv [0] [] 29 (pt gr1 0), dv [1] [] 30 (pt gr1 1), dv [2] [] 31 (Zi r104.2.2), dv [3] [] 32 (.bool (!decide (r104.2.2 = 0))), dv [4] [] 27 (.bool (!decide (r104.2.2 = 0)))] z111 d111 ?_ ?_
 ·exact sM e111_0 <| sF (fun f => ok1 f.1) <| sF (fun f => or_field fo70_1 f.1 (by rfl)) <| sG to31 b111_gr1 <| sF (fun f => or_neq f.1 rfl rfl) <| sA <| steps_nil
 intro o161 a161 w161 d161 z161 hk161 hf161 hE161
 obtain ⟨e161_0, e161_2, e161_4, e161_6, e161_10⟩ := kt5 hk161 e111_0 e111_2 e111_4 e111_6 e111_10
 have e161_27 := gv (hf161 [5] rfl) rfl
 have hX161 := Evo.step hX111 hown hE161 rfl
 obtain ⟨b161_g93, b161_g95, b161_gr1, b161_g108⟩ := be4 hE161 b111_g93 b111_g95 b111_gr1 b111_g108
 have b161_A105 := RdO.evo rfl hE161 b111_A105
 refine fl_cond e161_27 hs (fun c162 hs => ?_) (fun c162 hs => ?_)
 ·refine fl_skip ?_
  exact (K157 _ _ (rl [(106, 155)] o161) _ d161 z161 e161_0 e161_6 e161_10 (Evo.rl_ hX161 hown rfl) (BlkO.rl_ b161_gr1) (RdO.rl_ b161_A105) (BlkO.rl_ b161_g95) (BlkO.rl_ b161_g108) hs).1
 obtain ⟨r163, hr163, hs⟩ := obind hs
 refine rq_seq 53 o161 (bz 4) [dv [] [10] 34 (.agg #[Zi (IntKind.i64.wrap (mn r98.1 1048576)), Zi (IntKind.i64.wrap (mn r101.1 1048576)), Zi (IntKind.i64.wrap (mn r104.1 1048576))]), dv [0] [] 35 (.bool r163), dv [1] [] 36 (.bool (!r163)), dv [2] [] 33 (.bool (!r163))] z161 d161 ?_ ?_
 ·exact sL ta28 e161_10 b161_g108 <| sF (fun f => or_call cf45 (args1 f.1) (window_Right_w _ (IntKind.i64.wrap (mn r98.1 1048576), IntKind.i64.wrap (mn r101.1 1048576), IntKind.i64.wrap (mn r104.1 1048576))  r163 hr163) post_val) <| sF (fun f => or_not f.1 rfl) <| sA <| steps_nil
 intro o164 a164 w164 d164 z164 hk164 hf164 hE164
 obtain ⟨e164_0, e164_2, e164_4, e164_6, e164_10⟩ := kt5 hk164 e161_0 e161_2 e161_4 e161_6 e161_10
 have e164_33 := gv (hf164 [3] rfl) rfl
 have hX164 := Evo.step hX161 hown hE164 rfl
 obtain ⟨b164_g93, b164_g95, b164_gr1, b164_g108⟩ := be4 hE164 b161_g93 b161_g95 b161_gr1 b161_g108
 have b164_A105 := RdO.evo rfl hE164 b161_A105
 refine fl_cond e164_33 hs (fun c165 hs => ?_) (fun c165 hs => ?_)
 ·refine rr 53 [Fct.at_ 106 gr1 tr1 #[sl A105 r104.2.1 cA105, Zi r104.2.2]] o164 [106] (bz 4) [dv [] [0] 37 (pt gr1 0), dv [0] [] 38 (pt gr1 0), dv [1] [] 39 (pt gr1 1), ⟨[2, 4], [], [106], Fct.at_ 166 gr1 tr1 #[sl A105 r104.2.1 cA105, Zi 5]⟩] z164 d164 (fm1 b164_gr1) ?_ ?_
  ·refine sM e164_0 <| sF (fun f => ok1 f.1) <| sF (fun f => or_field fo70_1 f.1 (by rfl)) ?_
   refine sc (fun own a wx hf hsl hE => ?_) ?_
   ·obtain ⟨f_39, b_gr1, -⟩ := hf
    exact px (or_store1 (lab := 106) (lab2 := 166) ts31 f_39 rfl b_gr1 (by simp) rfl (mem_of rfl) (by decide) rfl (fun own' a' w' ha hb => hb))
   exact steps_nil
  intro o167 a167 w167 d167 z167 hk167 hf167 hE167
  obtain ⟨e167_0, e167_6, e167_10⟩ := kt3 hk167 e164_0 e164_6 e164_10
  obtain ⟨(b167_gr1 : BlkO o167 166 w167 gr1 tr1 #[sl A105 r104.2.1 cA105, Zi 5]), -⟩ := hf167 [3] rfl
  have hX167 := Evo.step hX164 hown hE167 rfl
  obtain ⟨b167_g95, b167_g108⟩ := be2 hE167 b164_g95 b164_g108
  have b167_A105 := RdO.evo rfl hE167 b164_A105
  exact (K157 _ _ (rl [(166, 155)] o167) _ d167 z167 e167_0 e167_6 e167_10 (Evo.rl_ hX167 hown rfl) (BlkO.rl_ b167_gr1) (RdO.rl_ b167_A105) (BlkO.rl_ b167_g95) (BlkO.rl_ b167_g108) hs).1
 obtain ⟨r168, hr168, hs⟩ := obind hs
 refine rq_seq 53 o164 [0, 1, 3, 7, 7, 31, 63, 127, 255] [dv [] [2] 41 (.bool first3), dv [0] [] 42 (.bool (!first3)), dv [1] [] 43 (.bool (!first3)), dc [2] [4] (!first3) 44 (.agg #[Zi last2.1, Zi last2.2.1, Zi last2.2.2]), dc [2] [10] (!first3) 45 (.agg #[Zi (IntKind.i64.wrap (mn r98.1 1048576)), Zi (IntKind.i64.wrap (mn r101.1 1048576)), Zi (IntKind.i64.wrap (mn r104.1 1048576))]), dc [2, 3, 4] [] (!first3) 46 (.bool r168), dc [2, 5] [] (!first3) 47 (.bool (!r168)), dv [2, 6] [] 48 (.bool ((!first3) && (!r168))), dv [7] [] 40 (.bool ((!first3) && (!r168)))] z164 d164 ?_ ?_
 ·exact sM e164_2 <| sF (fun f => or_not f.1 rfl) <| sV <| cTL ta28 e164_4 b164_g93 <| cTL ta28 e164_10 b164_g108 <| cT (fun f _ _ hg => or_call cf44 (args2 (f.2.1.1 hg) (f.2.2.1.1 hg)) (window_Less_w _ last2 (IntKind.i64.wrap (mn r98.1 1048576), IntKind.i64.wrap (mn r101.1 1048576), IntKind.i64.wrap (mn r104.1 1048576))  r168 (gd_t hr168 hg)) post_val) <| cT (fun f _ _ hg => or_not (f.2.1.1 hg) rfl) <| sF (fun f => or_and f.1 (fun hx => f.2.1.1 hx) rfl rfl) <| sA <| steps_nil
 intro o169 a169 w169 d169 z169 hk169 hf169 hE169
 obtain ⟨e169_0, e169_6, e169_10⟩ := kt3 hk169 e164_0 e164_6 e164_10
 have e169_40 := gv (hf169 [8] rfl) rfl
 have hX169 := Evo.step hX164 hown hE169 rfl
 obtain ⟨b169_g95, b169_gr1, b169_g108⟩ := be3 hE169 b164_g95 b164_gr1 b164_g108
 have b169_A105 := RdO.evo rfl hE169 b164_A105
 refine fl_cond e169_40 hs (fun c170 hs => ?_) (fun c170 hs => ?_)
 ·refine rr 53 [Fct.at_ 106 gr1 tr1 #[sl A105 r104.2.1 cA105, Zi r104.2.2]] o169 [106] (bz 4) [dv [] [0] 49 (pt gr1 0), dv [0] [] 50 (pt gr1 0), dv [1] [] 51 (pt gr1 1), ⟨[2, 4], [], [106], Fct.at_ 171 gr1 tr1 #[sl A105 r104.2.1 cA105, Zi 18]⟩] z169 d169 (fm1 b169_gr1) ?_ ?_
  ·refine sM e169_0 <| sF (fun f => ok1 f.1) <| sF (fun f => or_field fo70_1 f.1 (by rfl)) ?_
   refine sc (fun own a wx hf hsl hE => ?_) ?_
   ·obtain ⟨f_51, b_gr1, -⟩ := hf
    exact px (or_store1 (lab := 106) (lab2 := 171) ts31 f_51 rfl b_gr1 (by simp) rfl (mem_of rfl) (by decide) rfl (fun own' a' w' ha hb => hb))
   exact steps_nil
  intro o172 a172 w172 d172 z172 hk172 hf172 hE172
  obtain ⟨e172_0, e172_6, e172_10⟩ := kt3 hk172 e169_0 e169_6 e169_10
  obtain ⟨(b172_gr1 : BlkO o172 171 w172 gr1 tr1 #[sl A105 r104.2.1 cA105, Zi 18]), -⟩ := hf172 [3] rfl
  have hX172 := Evo.step hX169 hown hE172 rfl
  obtain ⟨b172_g95, b172_g108⟩ := be2 hE172 b169_g95 b169_g108
  have b172_A105 := RdO.evo rfl hE172 b169_A105
  exact (K157 _ _ (rl [(171, 155)] o172) _ d172 z172 e172_0 e172_6 e172_10 (Evo.rl_ hX172 hown rfl) (BlkO.rl_ b172_gr1) (RdO.rl_ b172_A105) (BlkO.rl_ b172_g95) (BlkO.rl_ b172_g108) hs).1
 refine fl_skip ?_
 exact (K157 _ _ (rl [(106, 155)] o169) _ d169 z169 e169_0 e169_6 e169_10 (Evo.rl_ hX169 hown rfl) (BlkO.rl_ b169_gr1) (RdO.rl_ b169_A105) (BlkO.rl_ b169_g95) (BlkO.rl_ b169_g108) hs).1
theorem pack_reader_blob_w (w : World) (own : Own) (r1 : (List Int) × Int) (gr1 : Nat) (tr1 : TypeId) (Ar1_0 : Option Addr) (cr1_0 : Nat) (all2 : Int) (used3 : Int) (hown : ∀ b, own b ≤ 2) (hgr1 : BlkO own 1 w gr1 tr1 #[sl Ar1_0 r1.1 cr1_0, Zi r1.2]) (hAr1_0 : RdO own [2] w R5 Ar1_0 cr1_0 r1.1) (r : Int × ((List Int) × Int)) (hs : pack_reader_blob r1 all2 used3 = some r) :
  Calls Try.prog 31 #[pt gr1 0, Zi all2, Zi used3] w fun e w' => ∃ (own' : Own) (x : Option Addr × Nat), e = .returned (Zi r.1) ∧ Evo [1] own own' w w' ∧ RdO own' [2] w' R5 x.1 x.2 r.2.1 ∧ BlkO own' 1 w' gr1 tr1 #[.slice x.1 r.2.1.length x.2, Zi r.2.2] := by
 refine fl_enter (n := 34) rfl rfl rfl (Nat.le_of_ble_eq_true rfl) ?_
 intro a0 Q d0 z0 harg hret
 have ha0 := harg 0 _ rfl
 have ha1 := harg 1 _ rfl
 have ha2 := harg 2 _ rfl
 clear harg
 have hE0 : Evo [1] own own w w := Evo.refl _ _ _
 refine rq_seq 34 own (bz 1) [dv [] [] 6 (Zi 0)] z0 d0 ?_ ?_
 ·exact sO (or_assign rfl) <| steps_nil
 intro o78 a78 w78 d78 z78 hk78 hf78 hE78
 obtain ⟨e78_0, e78_1, e78_2⟩ := kt3 hk78 ha0 ha1 ha2
 have hX78 := Evo.step hE0 hown hE78 rfl
 have b78_gr1 := be_ hE78 hgr1
 obtain ⟨r79, hr79, hs⟩ := obind hs
 refine rr_seq 34 [Fct.at_ 1 gr1 tr1 #[sl Ar1_0 r1.1 cr1_0, Zi r1.2]] o78 [1] (bz 3) [dv [] [0] 8 (pt gr1 0), ⟨[0, 3], [], [1], Fct.mems [2, 81] 9 (fun (x : Option Addr × Nat) => .int .u64 r79.1) (fun (x : Option Addr × Nat) own w => RdO own [2] w R5 x.1 x.2 r79.2.1 ∧ BlkO own 81 w gr1 tr1 #[.slice x.1 r79.2.1.length x.2, Zi r79.2.2]) (fun hk he h => ⟨RdO.evo (hits_sub hk (by decide)) he h.1, BlkO.evo (not_hit hk (by decide)) he h.2⟩)⟩, dv [1] [] 7 (.int .u64 r79.1)] z78 d78 (fm1 b78_gr1) ?_ ?_
 ·refine sM e78_0 ?_
  refine sc (fun own a wx hf hsl hE => ?_) ?_
  ·obtain ⟨f_8, b_gr1, -⟩ := hf
   exact px (or_call cf50 (args1 f_8) (pack_reader_number_w _ (forth own (look0 [(1, 1), (2, 2)])) r1 gr1 tr1 Ar1_0 cr1_0 (look0_le rfl) (BlkO.forth_ (m := (look0 [(1, 1), (2, 2)])) b_gr1) (RdO.forth_ (m := (look0 [(1, 1), (2, 2)])) (RdO.evo rfl hE (RdO.evo rfl hX78 hAr1_0))) r79 hr79) (post_mems (m := (look0 [(1, 1), (2, 2)])) (m' := (look0 [(1, 81), (2, 2)])) (hm_of2 rfl) (fun own' w' a' x h1 h => ⟨x, h1, ⟨RdO.back_ h.1 (by decide), BlkO.back_ h.2 (by decide)⟩⟩)))
  refine sc (fun own a wx hf hsl hE => ?_) ?_
  ·obtain ⟨⟨⟨A80, cA80⟩, f_9, b_A80, b_gr1⟩, -⟩ := hf
   exact px (or_assign f_9)
  exact steps_nil
 intro o82 a82 w82 d82 z82 hk82 hf82 hE82
 obtain ⟨e82_0, e82_1, e82_2⟩ := kt3 hk82 e78_0 e78_1 e78_2
 have e82_7 := gv (hf82 [2] rfl) rfl
 obtain ⟨⟨⟨A80, cA80⟩, (f_9 : a82.eval (.tmp 9) = .int .u64 r79.1), (b82_A80 : RdO o82 [2] w82 R5 A80 cA80 r79.2.1), (b82_gr1 : BlkO o82 81 w82 gr1 tr1 #[sl A80 r79.2.1 cA80, Zi r79.2.2])⟩, -⟩ := hf82 [1] rfl
 have hX82 := Evo.step hX78 hown hE82 rfl
 refine fl_seq (fun Q83 hn83 hp83 => ?_)
 refine fl_block (fun Q113 hn113 hx113 hp113 => ?_)
 have K128 : ∀ (a128 : Act) (w128 : World) (o128 : Own) (r127 : Int), a128.defers = [] → a128.tmps.size = 34 → a128.eval (.tmp 0) = pt gr1 0 → a128.eval (.tmp 7) = .int .u64 r79.1 → Evo [1] own o128 w w128 → BlkO o128 126 w128 gr1 tr1 #[sl A80 r79.2.1 cA80, Zi r127] → RdO o128 [2] w128 R5 A80 cA80 r79.2.1 → pack_reader_blob_k1 r79 r127 = some r → (Q113 .normal a128 w128 ∧ Q113 (.exit 0) a128 w128) := by
  intro a128 w128 o128 r127 d129 z129 e129_0 e129_7 hE129 b129_gr1 b129_A80 hs
  refine and_both (hn113 _ _) (hx113 _ _) ?_
  refine hn83 _ _ ?_
  refine rq_seq 34 o128 (bz 3) [dv [] [7] 32 (.int .u64 r79.1), dv [0] [] 33 (Zi (IntKind.i64.wrap r79.1)), dv [1] [] 6 (Zi (IntKind.i64.wrap r79.1))] z129 d129 ?_ ?_
  ·exact sM e129_7 <| sF (fun f => or_conv f.1 tn26 tn3 rfl) <| sA <| steps_nil
  intro o130 a130 w130 d130 z130 hk130 hf130 hE130
  have e130_0 := kt hk130 e129_0
  have e130_6 := gv (hf130 [2] rfl) rfl
  have hX130 := Evo.step hE129 hown hE130 rfl
  have b130_gr1 := be_ hE130 b129_gr1
  have b130_A80 := RdO.evo rfl hE130 b129_A80
  refine fl_ret ?_
  obtain rfl := osome hs
  exact hret _ _ _ _ (.inl rfl) d130 (results1_ rfl (RVal.tmp_ e130_6)) ⟨(rl [(126, 1)] o130), (A80, cA80), rfl, (Evo.rl_ hX130 hown rfl), (RdO.rl_ b130_A80), (BlkO.rl_ b130_gr1)⟩
 refine rq_seq 34 o82 (bz 6) [dv [] [0] 11 (pt gr1 0), dv [0] [] 12 (pt gr1 0), dv [1] [] 13 (pt gr1 1), dv [2] [] 14 (Zi r79.2.2), dv [3] [] 15 (.bool (!decide (r79.2.2 = 0))), dv [4] [] 10 (.bool (!decide (r79.2.2 = 0)))] z82 d82 ?_ ?_
 ·exact sM e82_0 <| sF (fun f => ok1 f.1) <| sF (fun f => or_field fo70_1 f.1 (by rfl)) <| sG to31 b82_gr1 <| sF (fun f => or_neq f.1 rfl rfl) <| sA <| steps_nil
 intro o131 a131 w131 d131 z131 hk131 hf131 hE131
 obtain ⟨e131_0, e131_1, e131_2, e131_7⟩ := kt4 hk131 e82_0 e82_1 e82_2 e82_7
 have e131_10 := gv (hf131 [5] rfl) rfl
 have hX131 := Evo.step hX82 hown hE131 rfl
 have b131_gr1 := be_ hE131 b82_gr1
 have b131_A80 := RdO.evo rfl hE131 b82_A80
 refine fl_cond e131_10 hs (fun c132 hs => ?_) (fun c132 hs => ?_)
 ·refine rq_seq 34 o131 (bz 1) [dv [] [] 6 (Zi 0)] z131 d131 ?_ ?_
  ·exact sO (or_assign rfl) <| steps_nil
  intro o133 a133 w133 d133 z133 hk133 hf133 hE133
  have e133_0 := kt hk133 e131_0
  have e133_6 := gv (hf133 [0] rfl) rfl
  have hX133 := Evo.step hX131 hown hE133 rfl
  have b133_gr1 := be_ hE133 b131_gr1
  have b133_A80 := RdO.evo rfl hE133 b131_A80
  refine fl_ret ?_
  refine hp113 _ _ _ rfl ?_
  refine hp83 _ _ _ rfl ?_
  obtain rfl := osome hs
  exact hret _ _ _ _ (.inl rfl) d133 (results1_ rfl (RVal.tmp_ e133_6)) ⟨(rl [(81, 1)] o133), (A80, cA80), rfl, (Evo.rl_ hX133 hown rfl), (RdO.rl_ b133_A80), (BlkO.rl_ b133_gr1)⟩
 refine rq_seq 34 o131 [0, 0, 2, 7, 15] [dv [] [7] 17 (.int .u64 r79.1), dv [] [1] 18 (Zi all2), dv [1] [] 19 (.int .u64 (IntKind.u64.wrap all2)), dv [0, 2] [] 20 (.bool (decide ((IntKind.u64.wrap all2) ≤ r79.1))), dv [3] [] 16 (.bool (decide ((IntKind.u64.wrap all2) ≤ r79.1)))] z131 d131 ?_ ?_
 ·exact sM e131_7 <| sM e131_1 <| sF (fun f => or_conv f.1 tn3 tn26 rfl) <| sF (fun f => or_geq f.1 f.2.1 rfl) <| sA <| steps_nil
 intro o134 a134 w134 d134 z134 hk134 hf134 hE134
 obtain ⟨e134_0, e134_2, e134_7⟩ := kt3 hk134 e131_0 e131_2 e131_7
 have e134_16 := gv (hf134 [4] rfl) rfl
 have hX134 := Evo.step hX131 hown hE134 rfl
 have b134_gr1 := be_ hE134 b131_gr1
 have b134_A80 := RdO.evo rfl hE134 b131_A80
 refine fl_cond e134_16 hs (fun c135 hs => ?_) (fun c135 hs => ?_)
 ·refine rr_seq 34 [Fct.at_ 81 gr1 tr1 #[sl A80 r79.2.1 cA80, Zi r79.2.2]] o134 [81] (bz 4) [dv [] [0] 21 (pt gr1 0), dv [0] [] 22 (pt gr1 0), dv [1] [] 23 (pt gr1 1), ⟨[2, 4], [], [81], Fct.at_ 136 gr1 tr1 #[sl A80 r79.2.1 cA80, Zi 5]⟩] z134 d134 (fm1 b134_gr1) ?_ ?_
  ·refine sM e134_0 <| sF (fun f => ok1 f.1) <| sF (fun f => or_field fo70_1 f.1 (by rfl)) ?_
   refine sc (fun own a wx hf hsl hE => ?_) ?_
   ·obtain ⟨f_23, b_gr1, -⟩ := hf
    exact px (or_store1 (lab := 81) (lab2 := 136) ts31 f_23 rfl b_gr1 (by simp) rfl (mem_of rfl) (by decide) rfl (fun own' a' w' ha hb => hb))
   exact steps_nil
  intro o137 a137 w137 d137 z137 hk137 hf137 hE137
  have e137_0 := kt hk137 e134_0
  obtain ⟨(b137_gr1 : BlkO o137 136 w137 gr1 tr1 #[sl A80 r79.2.1 cA80, Zi 5]), -⟩ := hf137 [3] rfl
  have hX137 := Evo.step hX134 hown hE137 rfl
  have b137_A80 := RdO.evo rfl hE137 b134_A80
  refine rq_seq 34 o137 (bz 1) [dv [] [] 6 (Zi 0)] z137 d137 ?_ ?_
  ·exact sO (or_assign rfl) <| steps_nil
  intro o138 a138 w138 d138 z138 hk138 hf138 hE138
  have e138_0 := kt hk138 e137_0
  have e138_6 := gv (hf138 [0] rfl) rfl
  have hX138 := Evo.step hX137 hown hE138 rfl
  have b138_gr1 := be_ hE138 b137_gr1
  have b138_A80 := RdO.evo rfl hE138 b137_A80
  refine fl_ret ?_
  refine hp113 _ _ _ rfl ?_
  refine hp83 _ _ _ rfl ?_
  obtain rfl := osome hs
  exact hret _ _ _ _ (.inl rfl) d138 (results1_ rfl (RVal.tmp_ e138_6)) ⟨(rl [(136, 1)] o138), (A80, cA80), rfl, (Evo.rl_ hX138 hown rfl), (RdO.rl_ b138_A80), (BlkO.rl_ b138_gr1)⟩
 refine rq_seq 34 o134 [0, 1, 0, 7, 15] [dv [] [7] 25 (.int .u64 r79.1), dv [0] [] 26 (Zi (IntKind.i64.wrap r79.1)), dv [] [2] 27 (Zi used3), dv [1, 2] [] 28 (.bool (decide (used3 < (IntKind.i64.wrap r79.1)))), dv [3] [] 24 (.bool (decide (used3 < (IntKind.i64.wrap r79.1))))] z134 d134 ?_ ?_
 ·exact sM e134_7 <| sF (fun f => or_conv f.1 tn26 tn3 rfl) <| sM e134_2 <| sF (fun f => or_gtr f.1 f.2.1 rfl) <| sA <| steps_nil
 intro o139 a139 w139 d139 z139 hk139 hf139 hE139
 obtain ⟨e139_0, e139_7⟩ := kt2 hk139 e134_0 e134_7
 have e139_24 := gv (hf139 [4] rfl) rfl
 have hX139 := Evo.step hX134 hown hE139 rfl
 have b139_gr1 := be_ hE139 b134_gr1
 have b139_A80 := RdO.evo rfl hE139 b134_A80
 refine fl_cond e139_24 hs (fun c140 hs => ?_) (fun c140 hs => ?_)
 ·refine rr 34 [Fct.at_ 81 gr1 tr1 #[sl A80 r79.2.1 cA80, Zi r79.2.2]] o139 [81] (bz 4) [dv [] [0] 29 (pt gr1 0), dv [0] [] 30 (pt gr1 0), dv [1] [] 31 (pt gr1 1), ⟨[2, 4], [], [81], Fct.at_ 141 gr1 tr1 #[sl A80 r79.2.1 cA80, Zi 18]⟩] z139 d139 (fm1 b139_gr1) ?_ ?_
  ·refine sM e139_0 <| sF (fun f => ok1 f.1) <| sF (fun f => or_field fo70_1 f.1 (by rfl)) ?_
   refine sc (fun own a wx hf hsl hE => ?_) ?_
   ·obtain ⟨f_31, b_gr1, -⟩ := hf
    exact px (or_store1 (lab := 81) (lab2 := 141) ts31 f_31 rfl b_gr1 (by simp) rfl (mem_of rfl) (by decide) rfl (fun own' a' w' ha hb => hb))
   exact steps_nil
  intro o142 a142 w142 d142 z142 hk142 hf142 hE142
  obtain ⟨e142_0, e142_7⟩ := kt2 hk142 e139_0 e139_7
  obtain ⟨(b142_gr1 : BlkO o142 141 w142 gr1 tr1 #[sl A80 r79.2.1 cA80, Zi 18]), -⟩ := hf142 [3] rfl
  have hX142 := Evo.step hX139 hown hE142 rfl
  have b142_A80 := RdO.evo rfl hE142 b139_A80
  exact (K128 _ _ (rl [(141, 126)] o142) _ d142 z142 e142_0 e142_7 (Evo.rl_ hX142 hown rfl) (BlkO.rl_ b142_gr1) (RdO.rl_ b142_A80) hs).1
 refine fl_skip ?_
 exact (K128 _ _ (rl [(81, 126)] o139) _ d139 z139 e139_0 e139_7 (Evo.rl_ hX139 hown rfl) (BlkO.rl_ b139_gr1) (RdO.rl_ b139_A80) hs).1
end Go.Proofs.Ytnmkonlfnpcoiaa
