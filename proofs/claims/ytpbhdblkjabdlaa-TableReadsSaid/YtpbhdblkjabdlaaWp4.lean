import Derived.Test.YtpbhdblkjabdlaaWp2
import Derived.Test.YtpbhdblkjabdlaaSp4
namespace Go.Proofs.Ytpbhdblkjabdlaa
open Go.RowKit
set_option linter.unusedVariables false
set_option maxRecDepth 10000
theorem slices_Equal_table_Attr_table_Attr_w (w : World) (s1 : List (ByteArray × (Int × ByteArray × Int))) (As1 : Option Addr) (cs1 : Nat) (s2 : List (ByteArray × (Int × ByteArray × Int))) (As2 : Option Addr) (cs2 : Nat) (hs1 : RdO (fun _ => 0) [0] w R64 As1 cs1 s1) (hs2 : RdO (fun _ => 0) [0] w R64 As2 cs2 s2) (r : Bool) (hs : slices_Equal_table_Attr_table_Attr s1 s2 = some r) :
    Calls Try.prog 39 #[.slice As1 s1.length cs1, .slice As2 s2.length cs2] w fun e w' => ∃ own' : Own, e = .returned (.bool r) ∧ Evo [] (fun _ => 0) own' w w' := by
  refine fl_enter (n := 26) rfl rfl rfl (Nat.le_of_ble_eq_true rfl) ?_
  intro a0 Q hd0 hz0 harg hret
  have ha0 := harg 0 _ rfl
  have ha1 := harg 1 _ rfl
  clear harg
  have hE0 : Evo [] (fun _ => 0) (fun _ => 0) w w := Evo.refl _ _ _
  refine rg0_seq 26 (fun _ => 0) (bz 1) [⟨[], [], [], Fct.val 4 (.bool false)⟩] hz0 hd0 (by kernel_rfl) ?_ ?_
  · refine sc (fun _ _ _ _ _ _ => px (or_assign rfl)) ?_
    exact steps_nil
  intro own61 a61 w61 hd61 hz61 hk61 hf61 hE61
  have e61_0 := (hk61 0 rfl).trans ha0
  have e61_1 := (hk61 1 rfl).trans ha1
  have hX61 := es_ hE0 hE61
  have b61_As1 := RdO.evo rfl hE61 hs1
  have b61_As2 := RdO.evo rfl hE61 hs2
  refine fl_seq (fun Q62 hn62 hp62 => ?_)
  refine rg0_seq 26 own61 [0, 1, 0, 4, 15] [⟨[], [0], [], Fct.val 6 (.slice As1 s1.length cs1)⟩, ⟨[0], [], [], Fct.val 7 (.int .i64 (s1.length : Int))⟩, ⟨[], [1], [], Fct.val 8 (.slice As2 s2.length cs2)⟩, ⟨[2], [], [], Fct.val 9 (.int .i64 (s2.length : Int))⟩, ⟨[1, 3], [], [], Fct.val 10 (.bool (!decide ((s1.length : Int) = (s2.length : Int))))⟩] hz61 hd61 (by kernel_rfl) ?_ ?_
  · refine sc (fun _ _ _ _ s _ => px (or_move (s.1.trans e61_0))) ?_
    refine sc (fun _ _ _ f _ _ => px (or_len tu22 f.1 rfl)) ?_
    refine sc (fun _ _ _ _ s _ => px (or_move (s.1.trans e61_1))) ?_
    refine sc (fun _ _ _ f _ _ => px (or_len tu22 f.1 rfl)) ?_
    refine sc (fun _ _ _ f _ _ => px (or_neq f.1 f.2.1 rfl)) ?_
    exact steps_nil
  intro own63 a63 w63 hd63 hz63 hk63 hf63 hE63
  have e63_0 := (hk63 0 rfl).trans e61_0
  have e63_1 := (hk63 1 rfl).trans e61_1
  obtain ⟨(e63_10 : a63.eval (.tmp 10) = .bool (!decide ((s1.length : Int) = (s2.length : Int)))), -⟩ := hf63 [4] rfl
  have hX63 := es_ hX61 hE63
  have b63_As1 := RdO.evo rfl hE63 b61_As1
  have b63_As2 := RdO.evo rfl hE63 b61_As2
  refine fl_cond e63_10 hs (fun c64 hs => ?_) (fun c64 hs => ?_)
  · refine rg0_seq 26 own63 (bz 1) [⟨[], [], [], Fct.val 4 (.bool false)⟩] hz63 hd63 (by kernel_rfl) ?_ ?_
    · refine sc (fun _ _ _ _ _ _ => px (or_assign rfl)) ?_
      exact steps_nil
    intro own65 a65 w65 hd65 hz65 hk65 hf65 hE65
    obtain ⟨(e65_4 : a65.eval (.tmp 4) = .bool false), -⟩ := hf65 [0] rfl
    have hX65 := es_ hX63 hE65
    refine fl_ret ?_
    refine hp62 _ _ _ rfl ?_
    obtain rfl := osome hs
    exact hret _ _ _ _ (.inl rfl) hd65 (results1_ rfl (RVal.tmp_ e65_4)) ⟨own65, rfl, hX65⟩
  refine fl_skip ?_
  refine hn62 _ _ ?_
  refine fl_seq (fun Q66 hn66 hp66 => ?_)
  refine rg0_seq 26 own63 [0, 1, 0] [⟨[], [0], [], Fct.val 11 (.slice As1 s1.length cs1)⟩, ⟨[0], [], [], Fct.val 12 (.int .i64 (s1.length : Int))⟩, ⟨[], [], [], Fct.val 13 (.int .i64 0)⟩] hz63 hd63 (by kernel_rfl) ?_ ?_
  · refine sc (fun _ _ _ _ s _ => px (or_move (s.1.trans e63_0))) ?_
    refine sc (fun _ _ _ f _ _ => px (or_len tu22 f.1 rfl)) ?_
    refine sc (fun _ _ _ _ _ _ => px (or_move rfl)) ?_
    exact steps_nil
  intro own67 a67 w67 hd67 hz67 hk67 hf67 hE67
  have e67_0 := (hk67 0 rfl).trans e63_0
  have e67_1 := (hk67 1 rfl).trans e63_1
  obtain ⟨(e67_12 : a67.eval (.tmp 12) = .int .i64 (s1.length : Int)), (e67_13 : a67.eval (.tmp 13) = .int .i64 0), -⟩ := hf67 [1, 2] rfl
  have hX67 := es_ hX63 hE67
  have b67_As1 := RdO.evo rfl hE67 b63_As1
  have b67_As2 := RdO.evo rfl hE67 b63_As2
  refine fl_block (fun Q68 hn68 hx68 hp68 => ?_)
  refine fl_loop (body := (fun s => slices_Equal_table_Attr_table_Attr_b1 s1 s2 s)) (z := r) (show loopO _ _ = _ from hs) (fun (x82 : Int) a wx => ∃ (ox : Own), a.defers = [] ∧ a.tmps.size = 26 ∧ a.eval (.tmp 0) = .slice As1 s1.length cs1 ∧ a.eval (.tmp 1) = .slice As2 s2.length cs2 ∧ a.eval (.tmp 12) = .int .i64 (s1.length : Int) ∧ a.eval (.tmp 13) = .int .i64 x82 ∧ Evo [] (fun _ => 0) ox w wx ∧ RdO ox [0] wx R64 As1 cs1 s1 ∧ RdO ox [0] wx R64 As2 cs2 s2) ?_ ?_
  · exact ⟨own67, hd67, hz67, e67_0, e67_1, e67_12, e67_13, hX67, b67_As1, b67_As2⟩
  · rintro x82 zz96 a96 w96 ⟨own96, hd97, hz97, e97_0, e97_1, e97_12, e97_13, hE97, b97_As1, b97_As2⟩ hs Q96 hn96 hp96 hz96
    have hs : slices_Equal_table_Attr_table_Attr_b1 s1 s2 x82 = some zz96 := hs
    refine rg0_seq 26 own96 (bz 1) [⟨[], [13, 12], [], Fct.val 14 (.bool (decide (x82 < (s1.length : Int))))⟩] hz97 hd97 (by kernel_rfl) ?_ ?_
    · refine sc (fun _ _ _ _ s _ => px (or_lss (s.1.trans e97_13) (s.2.1.trans e97_12) rfl)) ?_
      exact steps_nil
    intro own98 a98 w98 hd98 hz98 hk98 hf98 hE98
    have e98_0 := (hk98 0 rfl).trans e97_0
    have e98_1 := (hk98 1 rfl).trans e97_1
    have e98_12 := (hk98 12 rfl).trans e97_12
    have e98_13 := (hk98 13 rfl).trans e97_13
    obtain ⟨(e98_14 : a98.eval (.tmp 14) = .bool (decide (x82 < (s1.length : Int)))), -⟩ := hf98 [0] rfl
    have hX98 := es_ hE97 hE98
    have b98_As1 := RdO.evo rfl hE98 b97_As1
    have b98_As2 := RdO.evo rfl hE98 b97_As2
    refine fl_seq (fun Q99 hn99 hp99 => ?_)
    refine fl_cond e98_14 hs (fun c100 hs => ?_) (fun c100 hs => ?_)
    · refine fl_skip ?_
      refine hn99 _ _ ?_
      refine fl_seq (fun Q101 hn101 hp101 => ?_)
      refine fl_block (fun Q102 hn102 hx102 hp102 => ?_)
      refine rg0_seq 26 own98 (bz 2) [⟨[], [13], [], Fct.val 15 (.int .i64 x82)⟩, ⟨[0], [], [], Fct.val 5 (.int .i64 x82)⟩] hz98 hd98 (by kernel_rfl) ?_ ?_
      · refine sc (fun _ _ _ _ s _ => px (or_move (s.1.trans e98_13))) ?_
        refine sc (fun _ _ _ f _ _ => px (or_assign f.1)) ?_
        exact steps_nil
      intro own103 a103 w103 hd103 hz103 hk103 hf103 hE103
      have e103_0 := (hk103 0 rfl).trans e98_0
      have e103_1 := (hk103 1 rfl).trans e98_1
      have e103_12 := (hk103 12 rfl).trans e98_12
      have e103_13 := (hk103 13 rfl).trans e98_13
      obtain ⟨(e103_5 : a103.eval (.tmp 5) = .int .i64 x82), -⟩ := hf103 [1] rfl
      have hX103 := es_ hX98 hE103
      have b103_As1 := RdO.evo rfl hE103 b98_As1
      have b103_As2 := RdO.evo rfl hE103 b98_As2
      obtain ⟨x104, hx104, hs⟩ := obind hs
      obtain ⟨x105, hx105, hs⟩ := obind hs
      refine rg_draw_seq g_mixed (n := 26) (rs := []) (own0 := own103) (K := []) (bs := [0, 0, 3, 7, 0, 0, 48, 112, 255]) (ds := [⟨[], [0], [], Fct.val 16 (.slice As1 s1.length cs1)⟩, ⟨[], [5], [], Fct.val 17 (.int .i64 x82)⟩, ⟨[0, 1], [], [], Fct.val 18 (.pointer (some ((adr As1).add ((x82 : Int).toNat * R64.s))))⟩, ⟨[2], [], [], Fct.val 19 (.agg #[.string x104.1, .int .i64 x104.2.1, .string x104.2.2.1, .int .i64 x104.2.2.2])⟩, ⟨[], [1], [], Fct.val 20 (.slice As2 s2.length cs2)⟩, ⟨[], [5], [], Fct.val 21 (.int .i64 x82)⟩, ⟨[4, 5], [], [], Fct.val 22 (.pointer (some ((adr As2).add ((x82 : Int).toNat * R64.s))))⟩, ⟨[6], [], [], Fct.val 23 (.agg #[.string x105.1, .int .i64 x105.2.1, .string x105.2.2.1, .int .i64 x105.2.2.2])⟩, ⟨[3, 7], [], [], Fct.val 24 (.bool (!decide (x104 = x105)))⟩]) (by kernel_rfl) hz103 hd103 nm_ ?_ ?_
      · refine sc (fun _ _ _ _ s _ => px (or_move (s.1.trans e103_0))) ?_
        refine sc (fun _ _ _ _ s _ => px (or_move (s.1.trans e103_5))) ?_
        refine sc (fun _ _ _ f _ _ => px (or_index (R := R64) (l := s1) tl22 f.1 f.2.1 (RdO.some_ b103_As1 hx104) hx104)) ?_
        refine sc (fun _ _ _ f _ hE => px (or_load (l := E64.f x104) ta64 f.1 (RdO.cells (F := E64) (RdO.evo rfl hE b103_As1) hx104) rfl)) ?_
        refine sc (fun _ _ _ _ s _ => px (or_move (s.1.trans e103_1))) ?_
        refine sc (fun _ _ _ _ s _ => px (or_move (s.1.trans e103_5))) ?_
        refine sc (fun _ _ _ f _ _ => px (or_index (R := R64) (l := s2) tl22 f.1 f.2.1 (RdO.some_ b103_As2 hx105) hx105)) ?_
        refine sc (fun _ _ _ f _ hE => px (or_load (l := E64.f x105) ta64 f.1 (RdO.cells (F := E64) (RdO.evo rfl hE b103_As2) hx105) rfl)) ?_
        refine sc (fun _ _ _ f _ _ => px (or_neqA sg64 f.1 f.2.1 (sn64 x104.1 x104.2.1 x104.2.2.1 x104.2.2.2 x105.1 x105.2.1 x105.2.2.1 x105.2.2.2 _) rfl)) ?_
        exact steps_nil
      intro own106 a106 w106 hd106 hz106 hk106 hf106 hE106
      have e106_0 := (hk106 0 rfl).trans e103_0
      have e106_1 := (hk106 1 rfl).trans e103_1
      have e106_12 := (hk106 12 rfl).trans e103_12
      have e106_13 := (hk106 13 rfl).trans e103_13
      obtain ⟨(e106_24 : a106.eval (.tmp 24) = .bool (!decide (x104 = x105))), -⟩ := hf106 [8] rfl
      have hX106 := es_ hX103 hE106
      have b106_As1 := RdO.evo rfl hE106 b103_As1
      have b106_As2 := RdO.evo rfl hE106 b103_As2
      refine fl_cond e106_24 hs (fun c107 hs => ?_) (fun c107 hs => ?_)
      · refine rg0_seq 26 own106 (bz 1) [⟨[], [], [], Fct.val 4 (.bool false)⟩] hz106 hd106 (by kernel_rfl) ?_ ?_
        · refine sc (fun _ _ _ _ _ _ => px (or_assign rfl)) ?_
          exact steps_nil
        intro own108 a108 w108 hd108 hz108 hk108 hf108 hE108
        obtain ⟨(e108_4 : a108.eval (.tmp 4) = .bool false), -⟩ := hf108 [0] rfl
        have hX108 := es_ hX106 hE108
        refine fl_ret ?_
        refine hp102 _ _ _ rfl ?_
        refine hp101 _ _ _ rfl ?_
        replace hs := hz96 _ hs
        refine hp96 _ _ _ rfl ?_
        refine hp68 _ _ _ rfl ?_
        refine hp66 _ _ _ rfl ?_
        obtain rfl := osome hs
        exact hret _ _ _ _ (.inl rfl) hd108 (results1_ rfl (RVal.tmp_ e108_4)) ⟨own108, rfl, hX108⟩
      refine fl_skip ?_
      refine hn102 _ _ ?_
      refine hn101 _ _ ?_
      refine rg0 26 own106 (bz 2) [⟨[], [13], [], Fct.val 25 (.int .i64 (ad x82 1))⟩, ⟨[0], [], [], Fct.val 13 (.int .i64 (ad x82 1))⟩] hz106 hd106 (by kernel_rfl) ?_ ?_
      · refine sc (fun _ _ _ _ s _ => px (or_add (s.1.trans e106_13) rfl rfl)) ?_
        refine sc (fun _ _ _ f _ _ => px (or_move f.1)) ?_
        exact steps_nil
      intro own109 a109 w109 hd109 hz109 hk109 hf109 hE109
      have e109_0 := (hk109 0 rfl).trans e106_0
      have e109_1 := (hk109 1 rfl).trans e106_1
      have e109_12 := (hk109 12 rfl).trans e106_12
      obtain ⟨(e109_13 : a109.eval (.tmp 13) = .int .i64 (ad x82 1)), -⟩ := hf109 [1] rfl
      have hX109 := es_ hX106 hE109
      have b109_As1 := RdO.evo rfl hE109 b106_As1
      have b109_As2 := RdO.evo rfl hE109 b106_As2
      exact hn96 _ _ _ hs ⟨own109, hd109, hz109, e109_0, e109_1, e109_12, e109_13, hX109, b109_As1, b109_As2⟩
    refine fl_exit ?_
    refine hp99 _ _ _ rfl ?_
    replace hs := hz96 _ hs
    refine hp96 _ _ _ rfl ?_
    refine hx68 _ _ ?_
    refine hn66 _ _ ?_
    refine rg0_seq 26 own98 (bz 1) [⟨[], [], [], Fct.val 4 (.bool true)⟩] hz98 hd98 (by kernel_rfl) ?_ ?_
    · refine sc (fun _ _ _ _ _ _ => px (or_assign rfl)) ?_
      exact steps_nil
    intro own110 a110 w110 hd110 hz110 hk110 hf110 hE110
    obtain ⟨(e110_4 : a110.eval (.tmp 4) = .bool true), -⟩ := hf110 [0] rfl
    have hX110 := es_ hX98 hE110
    refine fl_ret ?_
    obtain rfl := osome hs
    exact hret _ _ _ _ (.inl rfl) hd110 (results1_ rfl (RVal.tmp_ e110_4)) ⟨own110, rfl, hX110⟩
theorem table_Same_w (w : World) (x1 : List (ByteArray × (Int × ByteArray × Int))) (Ax1 : Option Addr) (cx1 : Nat) (b2 : List (ByteArray × (Int × ByteArray × Int))) (Ab2 : Option Addr) (cb2 : Nat) (hx1 : RdO (fun _ => 0) [0] w R64 Ax1 cx1 x1) (hb2 : RdO (fun _ => 0) [0] w R64 Ab2 cb2 b2) (r : Bool) (hs : table_Same x1 b2 = some r) :
    Calls Try.prog 21 #[.slice Ax1 x1.length cx1, .slice Ab2 b2.length cb2] w fun e w' => ∃ own' : Own, e = .returned (.bool r) ∧ Evo [] (fun _ => 0) own' w w' := by
  refine fl_enter (n := 8) rfl rfl rfl (Nat.le_of_ble_eq_true rfl) ?_
  intro a0 Q hd0 hz0 harg hret
  have ha0 := harg 0 _ rfl
  have ha1 := harg 1 _ rfl
  clear harg
  have hE0 : Evo [] (fun _ => 0) (fun _ => 0) w w := Evo.refl _ _ _
  refine rg0_seq 8 (fun _ => 0) (bz 1) [⟨[], [], [], Fct.val 4 (.bool false)⟩] hz0 hd0 (by kernel_rfl) ?_ ?_
  · refine sc (fun _ _ _ _ _ _ => px (or_assign rfl)) ?_
    exact steps_nil
  intro own14 a14 w14 hd14 hz14 hk14 hf14 hE14
  have e14_0 := (hk14 0 rfl).trans ha0
  have e14_1 := (hk14 1 rfl).trans ha1
  have hX14 := es_ hE0 hE14
  have b14_Ax1 := RdO.evo rfl hE14 hx1
  have b14_Ab2 := RdO.evo rfl hE14 hb2
  obtain ⟨r15, hr15, hs⟩ := obind hs
  refine rg0_seq 8 own14 [0, 0, 3, 7] [⟨[], [0], [], Fct.val 5 (.slice Ax1 x1.length cx1)⟩, ⟨[], [1], [], Fct.val 6 (.slice Ab2 b2.length cb2)⟩, ⟨[0, 1], [], [], Fct.val 7 (.bool r15)⟩, ⟨[2], [], [], Fct.val 4 (.bool r15)⟩] hz14 hd14 (by kernel_rfl) ?_ ?_
  · refine sc (fun _ _ _ _ s _ => px (or_move (s.1.trans e14_0))) ?_
    refine sc (fun _ _ _ _ s _ => px (or_move (s.1.trans e14_1))) ?_
    refine sc (fun _ _ _ f _ hE => px (or_call cf39 (args2 f.1 f.2.1) (slices_Equal_table_Attr_table_Attr_w _ x1 Ax1 cx1 b2 Ab2 cb2 (RdO.zero (RdO.evo rfl hE b14_Ax1)) (RdO.zero (RdO.evo rfl hE b14_Ab2)) r15 hr15) post_val)) ?_
    refine sc (fun _ _ _ f _ _ => px (or_assign f.1)) ?_
    exact steps_nil
  intro own16 a16 w16 hd16 hz16 hk16 hf16 hE16
  obtain ⟨(e16_4 : a16.eval (.tmp 4) = .bool r15), -⟩ := hf16 [3] rfl
  have hX16 := es_ hX14 hE16
  refine fl_ret ?_
  obtain rfl := (osome hs).symm
  exact hret _ _ _ _ (.inl rfl) hd16 (results1_ rfl (RVal.tmp_ e16_4)) ⟨own16, rfl, hX16⟩
end Go.Proofs.Ytpbhdblkjabdlaa
