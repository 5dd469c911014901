import Derived.Test.YtpbhdblkjabdlaaWp2
import Derived.Test.YtpbhdblkjabdlaaWp3
import Derived.Test.YtpbhdblkjabdlaaWp5
import Derived.Test.YtpbhdblkjabdlaaSp7
namespace Go.Proofs.Ytpbhdblkjabdlaa
open Go.RowKit
set_option linter.unusedVariables false
set_option maxRecDepth 10000
theorem table_Table_Add_nil_w (w : World) (l2 : List (ByteArray × (Int × ByteArray × Int))) (Al2 : Option Addr) (cl2 : Nat) (hl2 : RdO (fun _ => 0) [0] w R64 Al2 cl2 l2) (r : (List Int) × Int) (hs : table_Table_Add_nil l2 = some r) :
    Calls Try.prog 8 #[.pointer none, .slice Al2 l2.length cl2] w fun e w' => ∃ (own' : Own) (x : Option Addr × Nat), e = .returned (.tuple #[.slice x.1 r.1.length x.2, .int .i64 r.2]) ∧ Evo [] (fun _ => 0) own' w w' ∧ RwO own' 1 [] w' 3 R3 x.1 x.2 r.1 := by
  refine fl_enter (n := 58) rfl rfl rfl (Nat.le_of_ble_eq_true rfl) ?_
  intro a0 Q hd0 hz0 harg hret
  have ha0 := harg 0 _ rfl
  have ha1 := harg 1 _ rfl
  clear harg
  have hE0 : Evo [] (fun _ => 0) (fun _ => 0) w w := Evo.refl _ _ _
  refine rg0_seq 58 (fun _ => 0) (bz 2) [⟨[], [], [], Fct.val 4 (.slice none 0 0)⟩, ⟨[], [], [], Fct.val 5 (.int .i64 0)⟩] hz0 hd0 (by kernel_rfl) ?_ ?_
  · refine sc (fun _ _ _ _ _ _ => px (or_assign rfl)) ?_
    refine sc (fun _ _ _ _ _ _ => px (or_assign rfl)) ?_
    exact steps_nil
  intro own15 a15 w15 hd15 hz15 hk15 hf15 hE15
  have e15_0 := (hk15 0 rfl).trans ha0
  have e15_1 := (hk15 1 rfl).trans ha1
  have hX15 := es_ hE0 hE15
  have b15_Al2 := RdO.evo rfl hE15 hl2
  refine fl_seq (fun Q16 hn16 hp16 => ?_)
  refine rg0_seq 58 own15 (bz 2) [⟨[], [0], [], Fct.val 12 (.pointer none)⟩, ⟨[0], [], [], Fct.val 13 (.bool true)⟩] hz15 hd15 (by kernel_rfl) ?_ ?_
  · refine sc (fun _ _ _ _ s _ => px (or_move (s.1.trans e15_0))) ?_
    refine sc (fun _ _ _ f _ _ => px (or_k [(12, .pointer none)] rfl rfl ⟨f.1, trivial⟩ (by kernel_rfl))) ?_
    exact steps_nil
  intro own17 a17 w17 hd17 hz17 hk17 hf17 hE17
  have e17_0 := (hk17 0 rfl).trans e15_0
  have e17_1 := (hk17 1 rfl).trans e15_1
  obtain ⟨(e17_13 : a17.eval (.tmp 13) = .bool true), -⟩ := hf17 [1] rfl
  have hX17 := es_ hX15 hE17
  have b17_Al2 := RdO.evo rfl hE17 b15_Al2
  refine fl_t e17_13 ?_
  refine rg0_seq 58 own17 (bz 2) [⟨[], [], [], Fct.val 4 (.slice none 0 0)⟩, ⟨[], [], [], Fct.val 5 (.int .i64 1)⟩] hz17 hd17 (by kernel_rfl) ?_ ?_
  · refine sc (fun _ _ _ _ _ _ => px (or_assign rfl)) ?_
    refine sc (fun _ _ _ _ _ _ => px (or_assign rfl)) ?_
    exact steps_nil
  intro own18 a18 w18 hd18 hz18 hk18 hf18 hE18
  obtain ⟨(e18_4 : a18.eval (.tmp 4) = .slice none 0 0), (e18_5 : a18.eval (.tmp 5) = .int .i64 1), -⟩ := hf18 [0, 1] rfl
  have hX18 := es_ hX17 hE18
  refine fl_ret ?_
  refine hp16 _ _ _ rfl ?_
  obtain rfl := osome hs
  exact hret _ _ _ _ (.inl rfl) hd18 (results2_ rfl (RVal.tmp_ e18_4) (RVal.tmp_ e18_5)) ⟨own18, (none, 0), rfl, hX18, RwO.nil_⟩
theorem table_Table_Attrs_nil_w (w : World) (tags2 : List Int) (Atags2 : Option Addr) (ctags2 : Nat) (htags2 : RdO (fun _ => 0) [0] w R3 Atags2 ctags2 tags2) (r : (List (ByteArray × (Int × ByteArray × Int))) × Int) (hs : table_Table_Attrs_nil tags2 = some r) :
    Calls Try.prog 9 #[.pointer none, .slice Atags2 tags2.length ctags2] w fun e w' => ∃ (own' : Own) (x : Option Addr × Nat), e = .returned (.tuple #[.slice x.1 r.1.length x.2, .int .i64 r.2]) ∧ Evo [] (fun _ => 0) own' w w' ∧ RwO own' 1 [] w' 64 R64 x.1 x.2 r.1 := by
  refine fl_enter (n := 101) rfl rfl rfl (Nat.le_of_ble_eq_true rfl) ?_
  intro a0 Q hd0 hz0 harg hret
  have ha0 := harg 0 _ rfl
  have ha1 := harg 1 _ rfl
  clear harg
  have hE0 : Evo [] (fun _ => 0) (fun _ => 0) w w := Evo.refl _ _ _
  refine rg0_seq 101 (fun _ => 0) (bz 2) [⟨[], [], [], Fct.val 4 (.slice none 0 0)⟩, ⟨[], [], [], Fct.val 5 (.int .i64 0)⟩] hz0 hd0 (by kernel_rfl) ?_ ?_
  · refine sc (fun _ _ _ _ _ _ => px (or_assign rfl)) ?_
    refine sc (fun _ _ _ _ _ _ => px (or_assign rfl)) ?_
    exact steps_nil
  intro own100 a100 w100 hd100 hz100 hk100 hf100 hE100
  have e100_0 := (hk100 0 rfl).trans ha0
  have e100_1 := (hk100 1 rfl).trans ha1
  have hX100 := es_ hE0 hE100
  have b100_Atags2 := RdO.evo rfl hE100 htags2
  refine fl_seq (fun Q101 hn101 hp101 => ?_)
  refine fl_block (fun Q125 hn125 hx125 hp125 => ?_)
  obtain ⟨x137, hx137, hs⟩ := obind hs
  refine rg0_seq 101 own100 (bz 5) [⟨[], [1], [], Fct.val 12 (.slice Atags2 tags2.length ctags2)⟩, ⟨[0], [], [], Fct.val 13 (.int .i64 (tags2.length : Int))⟩, ⟨[1], [], [], Fct.val 14 (.int .i64 x137)⟩, ⟨[2], [], [], Fct.val 15 (.bool (!decide (x137 = 0)))⟩, ⟨[3], [], [], Fct.val 11 (.bool (!decide (x137 = 0)))⟩] hz100 hd100 (by kernel_rfl) ?_ ?_
  · refine sc (fun _ _ _ _ s _ => px (or_move (s.1.trans e100_1))) ?_
    refine sc (fun _ _ _ f _ _ => px (or_len tu23 f.1 rfl)) ?_
    refine sc (fun _ _ _ f _ _ => px (or_rem f.1 rfl hx137)) ?_
    refine sc (fun _ _ _ f _ _ => px (or_neq f.1 rfl rfl)) ?_
    refine sc (fun _ _ _ f _ _ => px (or_assign f.1)) ?_
    exact steps_nil
  intro own138 a138 w138 hd138 hz138 hk138 hf138 hE138
  have e138_0 := (hk138 0 rfl).trans e100_0
  have e138_1 := (hk138 1 rfl).trans e100_1
  obtain ⟨(e138_11 : a138.eval (.tmp 11) = .bool (!decide (x137 = 0))), -⟩ := hf138 [4] rfl
  have hX138 := es_ hX100 hE138
  have b138_Atags2 := RdO.evo rfl hE138 b100_Atags2
  refine fl_cond e138_11 hs (fun c139 hs => ?_) (fun c139 hs => ?_)
  · refine rg0_seq 101 own138 (bz 2) [⟨[], [], [], Fct.val 4 (.slice none 0 0)⟩, ⟨[], [], [], Fct.val 5 (.int .i64 3)⟩] hz138 hd138 (by kernel_rfl) ?_ ?_
    · refine sc (fun _ _ _ _ _ _ => px (or_assign rfl)) ?_
      refine sc (fun _ _ _ _ _ _ => px (or_assign rfl)) ?_
      exact steps_nil
    intro own140 a140 w140 hd140 hz140 hk140 hf140 hE140
    obtain ⟨(e140_4 : a140.eval (.tmp 4) = .slice none 0 0), (e140_5 : a140.eval (.tmp 5) = .int .i64 3), -⟩ := hf140 [0, 1] rfl
    have hX140 := es_ hX138 hE140
    refine fl_ret ?_
    refine hp125 _ _ _ rfl ?_
    refine hp101 _ _ _ rfl ?_
    obtain rfl := osome hs
    exact hret _ _ _ _ (.inl rfl) hd140 (results2_ rfl (RVal.tmp_ e140_4) (RVal.tmp_ e140_5)) ⟨own140, (none, 0), rfl, hX140, RwO.nil_⟩
  refine rg0_seq 101 own138 (bz 4) [⟨[], [1], [], Fct.val 17 (.slice Atags2 tags2.length ctags2)⟩, ⟨[0], [], [], Fct.val 18 (.int .i64 (tags2.length : Int))⟩, ⟨[1], [], [], Fct.val 19 (.bool (decide (16 < (tags2.length : Int))))⟩, ⟨[2], [], [], Fct.val 16 (.bool (decide (16 < (tags2.length : Int))))⟩] hz138 hd138 (by kernel_rfl) ?_ ?_
  · refine sc (fun _ _ _ _ s _ => px (or_move (s.1.trans e138_1))) ?_
    refine sc (fun _ _ _ f _ _ => px (or_len tu23 f.1 rfl)) ?_
    refine sc (fun _ _ _ f _ _ => px (or_gtr f.1 rfl rfl)) ?_
    refine sc (fun _ _ _ f _ _ => px (or_assign f.1)) ?_
    exact steps_nil
  intro own141 a141 w141 hd141 hz141 hk141 hf141 hE141
  have e141_0 := (hk141 0 rfl).trans e138_0
  have e141_1 := (hk141 1 rfl).trans e138_1
  obtain ⟨(e141_16 : a141.eval (.tmp 16) = .bool (decide (16 < (tags2.length : Int)))), -⟩ := hf141 [3] rfl
  have hX141 := es_ hX138 hE141
  have b141_Atags2 := RdO.evo rfl hE141 b138_Atags2
  refine fl_cond e141_16 hs (fun c142 hs => ?_) (fun c142 hs => ?_)
  · refine rg0_seq 101 own141 (bz 2) [⟨[], [], [], Fct.val 4 (.slice none 0 0)⟩, ⟨[], [], [], Fct.val 5 (.int .i64 6)⟩] hz141 hd141 (by kernel_rfl) ?_ ?_
    · refine sc (fun _ _ _ _ _ _ => px (or_assign rfl)) ?_
      refine sc (fun _ _ _ _ _ _ => px (or_assign rfl)) ?_
      exact steps_nil
    intro own143 a143 w143 hd143 hz143 hk143 hf143 hE143
    obtain ⟨(e143_4 : a143.eval (.tmp 4) = .slice none 0 0), (e143_5 : a143.eval (.tmp 5) = .int .i64 6), -⟩ := hf143 [0, 1] rfl
    have hX143 := es_ hX141 hE143
    refine fl_ret ?_
    refine hp125 _ _ _ rfl ?_
    refine hp101 _ _ _ rfl ?_
    obtain rfl := osome hs
    exact hret _ _ _ _ (.inl rfl) hd143 (results2_ rfl (RVal.tmp_ e143_4) (RVal.tmp_ e143_5)) ⟨own143, (none, 0), rfl, hX143, RwO.nil_⟩
  refine rg0_seq 101 own141 (bz 3) [⟨[], [0], [], Fct.val 21 (.pointer none)⟩, ⟨[0], [], [], Fct.val 22 (.bool true)⟩, ⟨[1], [], [], Fct.val 20 (.bool true)⟩] hz141 hd141 (by kernel_rfl) ?_ ?_
  · refine sc (fun _ _ _ _ s _ => px (or_move (s.1.trans e141_0))) ?_
    refine sc (fun _ _ _ f _ _ => px (or_k [(21, .pointer none)] rfl rfl ⟨f.1, trivial⟩ (by kernel_rfl))) ?_
    refine sc (fun _ _ _ f _ _ => px (or_assign f.1)) ?_
    exact steps_nil
  intro own144 a144 w144 hd144 hz144 hk144 hf144 hE144
  have e144_0 := (hk144 0 rfl).trans e141_0
  have e144_1 := (hk144 1 rfl).trans e141_1
  obtain ⟨(e144_20 : a144.eval (.tmp 20) = .bool true), -⟩ := hf144 [2] rfl
  have hX144 := es_ hX141 hE144
  have b144_Atags2 := RdO.evo rfl hE144 b141_Atags2
  refine fl_t e144_20 ?_
  refine rg0 101 own144 (bz 3) [⟨[], [], [], Fct.val 23 (.agg #[.slice none 0 0, .slice none 0 0])⟩, ⟨[0], [], [], Fct.blk 146 24 (fun g => .pointer (some ⟨g, 0, none⟩)) 43 #[.slice none 0 0, .slice none 0 0]⟩, ⟨[1], [], [], Fct.rel [0, 24] (fun l => ∀ (g145 : Nat), l.getD 1 undef = .pointer (some ⟨g145, 0, none⟩) → l.getD 0 undef = .pointer (some ⟨g145, 0, none⟩))⟩] hz144 hd144 (by kernel_rfl) ?_ ?_
  · refine sc (fun _ _ _ _ _ _ => px (or_k [] rfl rfl trivial (by kernel_rfl))) ?_
    refine sc (fun _ _ _ f _ _ => px (or_new [(23, .agg #[.slice none 0 0, .slice none 0 0])] rfl rfl ⟨f.1, trivial⟩ (by kernel_rfl))) ?_
    refine sc (fun own a wx hf hsl hE => ?_) ?_
    · obtain ⟨⟨g145, (f_24 : a.eval (.tmp 24) = .pointer (some ⟨g145, 0, none⟩)), b_g145⟩, -⟩ := hf
      exact px (or_mono (f := Fct.val 0 (.pointer (some ⟨g145, 0, none⟩))) (or_assign f_24) (fun own' a' w' v' hp h => fun _ h0' => by cases (f_24.symm.trans ((hp.2 24 (by decide)).symm.trans h0')); exact h))
    exact steps_nil
  intro own147 a147 w147 hd147 hz147 hk147 hf147 hE147
  have e147_1 := (hk147 1 rfl).trans e144_1
  obtain ⟨⟨g145, (f_24 : a147.eval (.tmp 24) = .pointer (some ⟨g145, 0, none⟩)), (b147_g145 : BlkO own147 146 w147 g145 43 #[.slice none 0 0, .slice none 0 0])⟩, (q_0 : ∀ (g145 : Nat), a147.eval (.tmp 24) = .pointer (some ⟨g145, 0, none⟩) → a147.eval (.tmp 0) = .pointer (some ⟨g145, 0, none⟩)), -⟩ := hf147 [1, 2] rfl
  have e147_0 := q_0 _ f_24
  have hX147 := es_ hX144 hE147
  have b147_Atags2 := RdO.evo rfl hE147 b144_Atags2
  refine hn125 _ _ ?_
  refine hn101 _ _ ?_
  refine rg0_seq 101 own147 (bz 2) [⟨[], [], [], Fct.map_ 149 25 vv9 vv4 ([] : List (ByteArray × Bool))⟩, ⟨[0], [], [], Fct.rel [6, 25] (fun l => ∀ (g148 : Nat), l.getD 1 undef = .map (some g148) → l.getD 0 undef = .map (some g148))⟩] hz147 hd147 (by kernel_rfl) ?_ ?_
  · refine sc (fun _ _ _ _ _ _ => px (or_makeMap)) ?_
    refine sc (fun own a wx hf hsl hE => ?_) ?_
    · obtain ⟨⟨g148, (f_25 : a.eval (.tmp 25) = .map (some g148)), b_g148⟩, -⟩ := hf
      exact px (or_mono (f := Fct.val 6 (.map (some g148))) (or_assign f_25) (fun own' a' w' v' hp h => fun _ h0' => by cases (f_25.symm.trans ((hp.2 25 (by decide)).symm.trans h0')); exact h))
    exact steps_nil
  intro own150 a150 w150 hd150 hz150 hk150 hf150 hE150
  have e150_0 := (hk150 0 rfl).trans e147_0
  have e150_1 := (hk150 1 rfl).trans e147_1
  obtain ⟨⟨g148, (f_25 : a150.eval (.tmp 25) = .map (some g148)), (b150_g148 : MpO own150 149 w150 g148 vv9 vv4 ([] : List (ByteArray × Bool)))⟩, (q_6 : ∀ (g148 : Nat), a150.eval (.tmp 25) = .map (some g148) → a150.eval (.tmp 6) = .map (some g148)), -⟩ := hf150 [0, 1] rfl
  have e150_6 := q_6 _ f_25
  have hX150 := es_ hX147 hE150
  have b150_Atags2 := RdO.evo rfl hE150 b147_Atags2
  have b150_g145 := be_ hE150 b147_g145
  refine rg0_seq 101 own150 (bz 1) [⟨[], [], [], Fct.val 7 (.slice none 0 0)⟩] hz150 hd150 (by kernel_rfl) ?_ ?_
  · refine sc (fun _ _ _ _ _ _ => px (or_assign rfl)) ?_
    exact steps_nil
  intro own151 a151 w151 hd151 hz151 hk151 hf151 hE151
  have e151_0 := (hk151 0 rfl).trans e150_0
  have e151_1 := (hk151 1 rfl).trans e150_1
  have e151_6 := (hk151 6 rfl).trans e150_6
  obtain ⟨(e151_7 : a151.eval (.tmp 7) = .slice none 0 0), -⟩ := hf151 [0] rfl
  have hX151 := es_ hX150 hE151
  have b151_Atags2 := RdO.evo rfl hE151 b150_Atags2
  have b151_g145 := be_ hE151 b150_g145
  have b151_g148 := MpO.evo (by decide) hE151 b150_g148
  refine fl_seq (fun Q152 hn152 hp152 => ?_)
  refine rg0_seq 101 own151 (bz 1) [⟨[], [], [], Fct.val 8 (.int .i64 0)⟩] hz151 hd151 (by kernel_rfl) ?_ ?_
  · refine sc (fun _ _ _ _ _ _ => px (or_assign rfl)) ?_
    exact steps_nil
  intro own153 a153 w153 hd153 hz153 hk153 hf153 hE153
  have e153_0 := (hk153 0 rfl).trans e151_0
  have e153_1 := (hk153 1 rfl).trans e151_1
  have e153_6 := (hk153 6 rfl).trans e151_6
  have e153_7 := (hk153 7 rfl).trans e151_7
  obtain ⟨(e153_8 : a153.eval (.tmp 8) = .int .i64 0), -⟩ := hf153 [0] rfl
  have hX153 := es_ hX151 hE153
  have b153_Atags2 := RdO.evo rfl hE153 b151_Atags2
  have b153_g145 := be_ hE153 b151_g145
  have b153_g148 := MpO.evo (by decide) hE153 b151_g148
  refine fl_block (fun Q154 hn154 hx154 hp154 => ?_)
  refine fl_loop (body := (fun _ => table_Table_Attrs_nil_b1 tags2)) (z := r) (show loopO _ _ = _ from hs) (fun (_ : Unit) a wx => ∃ (ox : Own), a.defers = [] ∧ a.tmps.size = 101 ∧ a.eval (.tmp 0) = .pointer (some ⟨g145, 0, none⟩) ∧ a.eval (.tmp 1) = .slice Atags2 tags2.length ctags2 ∧ a.eval (.tmp 6) = .map (some g148) ∧ a.eval (.tmp 7) = .slice none 0 0 ∧ a.eval (.tmp 8) = .int .i64 0 ∧ Evo [] (fun _ => 0) ox w wx ∧ BlkO ox 146 wx g145 43 #[.slice none 0 0, .slice none 0 0] ∧ RdO ox [0] wx R3 Atags2 ctags2 tags2 ∧ MpO ox 149 wx g148 vv9 vv4 ([] : List (ByteArray × Bool))) ?_ ?_
  · exact ⟨own153, hd153, hz153, e153_0, e153_1, e153_6, e153_7, e153_8, hX153, b153_g145, b153_Atags2, b153_g148⟩
  · rintro _ zz171 a171 w171 ⟨own171, hd172, hz172, e172_0, e172_1, e172_6, e172_7, e172_8, hE172, b172_g145, b172_Atags2, b172_g148⟩ hs Q171 hn171 hp171 hz171
    have hs : table_Table_Attrs_nil_b1 tags2 = some zz171 := hs
    refine fl_seq (fun Q173 hn173 hp173 => ?_)
    refine rg0_seq 101 own171 [0, 0, 2, 7] [⟨[], [8], [], Fct.val 26 (.int .i64 0)⟩, ⟨[], [1], [], Fct.val 27 (.slice Atags2 tags2.length ctags2)⟩, ⟨[1], [], [], Fct.val 28 (.int .i64 (tags2.length : Int))⟩, ⟨[0, 2], [], [], Fct.val 29 (.bool (decide (0 < (tags2.length : Int))))⟩] hz172 hd172 (by kernel_rfl) ?_ ?_
    · refine sc (fun _ _ _ _ s _ => px (or_move (s.1.trans e172_8))) ?_
      refine sc (fun _ _ _ _ s _ => px (or_move (s.1.trans e172_1))) ?_
      refine sc (fun _ _ _ f _ _ => px (or_len tu23 f.1 rfl)) ?_
      refine sc (fun _ _ _ f _ _ => px (or_lss f.1 f.2.1 rfl)) ?_
      exact steps_nil
    intro own174 a174 w174 hd174 hz174 hk174 hf174 hE174
    have e174_0 := (hk174 0 rfl).trans e172_0
    have e174_1 := (hk174 1 rfl).trans e172_1
    have e174_6 := (hk174 6 rfl).trans e172_6
    have e174_7 := (hk174 7 rfl).trans e172_7
    have e174_8 := (hk174 8 rfl).trans e172_8
    obtain ⟨(e174_29 : a174.eval (.tmp 29) = .bool (decide (0 < (tags2.length : Int)))), -⟩ := hf174 [3] rfl
    have hX174 := es_ hE172 hE174
    have b174_g145 := be_ hE174 b172_g145
    have b174_Atags2 := RdO.evo rfl hE174 b172_Atags2
    have b174_g148 := MpO.evo (by decide) hE174 b172_g148
    refine fl_cond e174_29 hs (fun c175 hs => ?_) (fun c175 hs => ?_)
    · refine fl_skip ?_
      refine hn173 _ _ ?_
      refine fl_seq (fun Q176 hn176 hp176 => ?_)
      refine fl_block (fun Q177 hn177 hx177 hp177 => ?_)
      obtain ⟨x178, hx178, hs⟩ := obind hs
      obtain ⟨x179, hx179, hs⟩ := obind hs
      refine rg_draw_seq g_mixed (n := 101) (rs := []) (own0 := own174) (K := []) (bs := [0, 0, 3, 7, 0, 0, 32, 112, 240, 15, 1023]) (ds := [⟨[], [1], [], Fct.val 32 (.slice Atags2 tags2.length ctags2)⟩, ⟨[], [8], [], Fct.val 33 (.int .i64 0)⟩, ⟨[0, 1], [], [], Fct.val 34 (.pointer (some ((adr Atags2).add ((0 : Int).toNat * R3.s))))⟩, ⟨[2], [], [], Fct.val 35 (.int .i64 x178)⟩, ⟨[], [1], [], Fct.val 36 (.slice Atags2 tags2.length ctags2)⟩, ⟨[], [8], [], Fct.val 37 (.int .i64 0)⟩, ⟨[5], [], [], Fct.val 38 (.int .i64 1)⟩, ⟨[4, 6], [], [], Fct.val 39 (.pointer (some ((adr Atags2).add ((1 : Int).toNat * R3.s))))⟩, ⟨[7], [], [], Fct.val 40 (.int .i64 x179)⟩, ⟨[3], [], [], Fct.val 9 (.int .i64 x178)⟩, ⟨[8], [], [], Fct.val 10 (.int .i64 x179)⟩]) (by kernel_rfl) hz174 hd174 nm_ ?_ ?_
      · refine sc (fun _ _ _ _ s _ => px (or_move (s.1.trans e174_1))) ?_
        refine sc (fun _ _ _ _ s _ => px (or_move (s.1.trans e174_8))) ?_
        refine sc (fun _ _ _ f _ _ => px (or_index (R := R3) (l := tags2) tl23 f.1 f.2.1 (RdO.some_ b174_Atags2 hx178) hx178)) ?_
        refine sc (fun _ _ _ f _ hE => px (or_load1 to3 f.1 (CellsAt.zero (RdO.cells (F := E3) (RdO.evo rfl hE b174_Atags2) hx178) rfl))) ?_
        refine sc (fun _ _ _ _ s _ => px (or_move (s.1.trans e174_1))) ?_
        refine sc (fun _ _ _ _ s _ => px (or_move (s.1.trans e174_8))) ?_
        refine sc (fun _ _ _ f _ _ => px (or_add f.1 rfl (by decide))) ?_
        refine sc (fun _ _ _ f _ _ => px (or_index (R := R3) (l := tags2) tl23 f.1 f.2.1 (RdO.some_ b174_Atags2 hx179) hx179)) ?_
        refine sc (fun _ _ _ f _ hE => px (or_load1 to3 f.1 (CellsAt.zero (RdO.cells (F := E3) (RdO.evo rfl hE b174_Atags2) hx179) rfl))) ?_
        refine sc (fun _ _ _ f _ _ => px (or_assign f.1)) ?_
        refine sc (fun _ _ _ f _ _ => px (or_assign f.1)) ?_
        exact steps_nil
      intro own180 a180 w180 hd180 hz180 hk180 hf180 hE180
      have e180_0 := (hk180 0 rfl).trans e174_0
      have e180_1 := (hk180 1 rfl).trans e174_1
      have e180_6 := (hk180 6 rfl).trans e174_6
      have e180_7 := (hk180 7 rfl).trans e174_7
      have e180_8 := (hk180 8 rfl).trans e174_8
      obtain ⟨(e180_9 : a180.eval (.tmp 9) = .int .i64 x178), (e180_10 : a180.eval (.tmp 10) = .int .i64 x179), -⟩ := hf180 [9, 10] rfl
      have hX180 := es_ hX174 hE180
      have b180_g145 := be_ hE180 b174_g145
      have b180_Atags2 := RdO.evo rfl hE180 b174_Atags2
      have b180_g148 := MpO.evo (by decide) hE180 b174_g148
      refine fl_seq (fun Q181 hn181 hp181 => ?_)
      obtain ⟨x182, hx182, hs⟩ := obind hs
      obtain ⟨x183, hx183, hs⟩ := obind hs
      refine rg0_seq 101 own180 [0, 1, 3, 7, 7, 23, 55, 119, 247, 511, 1023, 2047, 4095, 8191, 16383, 32767, 65535, 65535, 196607, 458751, 983039, 2031615, 4194303, 8388607] [⟨[], [9], [], Fct.val 41 (.int .i64 x178)⟩, ⟨[0], [], [], Fct.val 42 (.bool (decide (x178 < 0)))⟩, ⟨[1], [], [], Fct.val 43 (.bool (decide (x178 < 0)))⟩, ⟨[2], [9], [], Fct.cond (!(decide (x178 < 0))) (some 44) (Fct.val 44 (.int .i64 x178))⟩, ⟨[2], [0], [], Fct.cond (!(decide (x178 < 0))) (some 45) (Fct.val 45 (.pointer (some ⟨g145, 0, none⟩)))⟩, ⟨[2, 4], [], [], Fct.cond (!(decide (x178 < 0))) (some 46) (Fct.val 46 (.pointer (some ⟨g145, 0, none⟩)))⟩, ⟨[2, 5], [], [], Fct.cond (!(decide (x178 < 0))) (some 47) (Fct.val 47 (.pointer (some ⟨g145, 0, none⟩)))⟩, ⟨[2, 6], [], [], Fct.cond (!(decide (x178 < 0))) (some 48) (Fct.val 48 (.slice none 0 0))⟩, ⟨[2, 7], [], [], Fct.cond (!(decide (x178 < 0))) (some 49) (Fct.val 49 (.int .i64 0))⟩, ⟨[2, 3, 8], [], [], Fct.cond (!(decide (x178 < 0))) (some 50) (Fct.val 50 (.bool (decide (0 ≤ x178))))⟩, ⟨[2, 9], [], [], Fct.val 51 (.bool x182)⟩, ⟨[10], [], [], Fct.val 52 (.bool x182)⟩, ⟨[11], [10], [], Fct.cond (!x182) (some 53) (Fct.val 53 (.int .i64 x179))⟩, ⟨[11, 12], [], [], Fct.cond (!x182) (some 54) (Fct.val 54 (.bool (decide (x179 < 0))))⟩, ⟨[11, 13], [], [], Fct.val 55 (.bool (x182 || (decide (x179 < 0))))⟩, ⟨[14], [], [], Fct.val 56 (.bool (x182 || (decide (x179 < 0))))⟩, ⟨[15], [10], [], Fct.cond (!(x182 || (decide (x179 < 0)))) (some 57) (Fct.val 57 (.int .i64 x179))⟩, ⟨[15], [0], [], Fct.cond (!(x182 || (decide (x179 < 0)))) (some 58) (Fct.val 58 (.pointer (some ⟨g145, 0, none⟩)))⟩, ⟨[15, 17], [], [], Fct.cond (!(x182 || (decide (x179 < 0)))) (some 59) (Fct.val 59 (.pointer (some ⟨g145, 0, none⟩)))⟩, ⟨[15, 18], [], [], Fct.cond (!(x182 || (decide (x179 < 0)))) (some 60) (Fct.val 60 (.pointer (some ⟨g145, 1, none⟩)))⟩, ⟨[15, 19], [], [], Fct.cond (!(x182 || (decide (x179 < 0)))) (some 61) (Fct.val 61 (.slice none 0 0))⟩, ⟨[15, 20], [], [], Fct.cond (!(x182 || (decide (x179 < 0)))) (some 62) (Fct.val 62 (.int .i64 0))⟩, ⟨[15, 16, 21], [], [], Fct.cond (!(x182 || (decide (x179 < 0)))) (some 63) (Fct.val 63 (.bool (decide (0 ≤ x179))))⟩, ⟨[15, 22], [], [], Fct.val 64 (.bool x183)⟩] hz180 hd180 (by kernel_rfl) ?_ ?_
      · refine sc (fun _ _ _ _ s _ => px (or_move (s.1.trans e180_9))) ?_
        refine sc (fun _ _ _ f _ _ => px (or_lss f.1 rfl rfl)) ?_
        refine sc (fun _ _ _ f _ _ => px (or_move f.1)) ?_
        refine sc (fun _ _ _ f s _ => sg_f rfl rfl rfl f.1 (fun hg => or_move (s.1.trans e180_9))) ?_
        refine sc (fun _ _ _ f s _ => sg_f rfl rfl rfl f.1 (fun hg => or_move (s.1.trans e180_0))) ?_
        refine sc (fun _ _ _ f _ _ => sg_f rfl rfl rfl f.1 (fun hg => or_k [(45, .pointer (some ⟨g145, 0, none⟩))] rfl rfl ⟨(f.2.1.1 hg), trivial⟩ (by kernel_rfl))) ?_
        refine sc (fun _ _ _ f _ _ => sg_f rfl rfl rfl f.1 (fun hg => or_field fo43_0 (f.2.1.1 hg) (by rfl))) ?_
        refine sc (fun _ _ _ f _ hE => sg_f rfl rfl rfl f.1 (fun hg => or_load1 to34 (f.2.1.1 hg) (Blk.at_ (be_ hE b180_g145).2 0 rfl))) ?_
        refine sc (fun _ _ _ f _ _ => sg_f rfl rfl rfl f.1 (fun hg => or_len tu34 (f.2.1.1 hg) rfl)) ?_
        refine sc (fun _ _ _ f _ _ => sg_f rfl rfl rfl f.1 (fun hg => or_geq (f.2.1.1 hg) (f.2.2.1.1 hg) rfl)) ?_
        refine sc (fun _ _ _ f _ _ => px (or_or f.1 rfl (fun hx => f.2.1.1 hx) (osome hx182).symm)) ?_
        refine sc (fun _ _ _ f _ _ => px (or_move f.1)) ?_
        refine sc (fun _ _ _ f s _ => sg_f rfl rfl rfl f.1 (fun hg => or_move (s.1.trans e180_10))) ?_
        refine sc (fun _ _ _ f _ _ => sg_f rfl rfl rfl f.1 (fun hg => or_lss (f.2.1.1 hg) rfl rfl)) ?_
        refine sc (fun _ _ _ f _ _ => px (or_or f.1 rfl (fun hx => f.2.1.1 hx) rfl)) ?_
        refine sc (fun _ _ _ f _ _ => px (or_move f.1)) ?_
        refine sc (fun _ _ _ f s _ => sg_f rfl rfl rfl f.1 (fun hg => or_move (s.1.trans e180_10))) ?_
        refine sc (fun _ _ _ f s _ => sg_f rfl rfl rfl f.1 (fun hg => or_move (s.1.trans e180_0))) ?_
        refine sc (fun _ _ _ f _ _ => sg_f rfl rfl rfl f.1 (fun hg => or_k [(58, .pointer (some ⟨g145, 0, none⟩))] rfl rfl ⟨(f.2.1.1 hg), trivial⟩ (by kernel_rfl))) ?_
        refine sc (fun _ _ _ f _ _ => sg_f rfl rfl rfl f.1 (fun hg => or_field fo43_1 (f.2.1.1 hg) (by rfl))) ?_
        refine sc (fun _ _ _ f _ hE => sg_f rfl rfl rfl f.1 (fun hg => or_load1 to41 (f.2.1.1 hg) (Blk.at_ (be_ hE b180_g145).2 1 rfl))) ?_
        refine sc (fun _ _ _ f _ _ => sg_f rfl rfl rfl f.1 (fun hg => or_len tu41 (f.2.1.1 hg) rfl)) ?_
        refine sc (fun _ _ _ f _ _ => sg_f rfl rfl rfl f.1 (fun hg => or_geq (f.2.1.1 hg) (f.2.2.1.1 hg) rfl)) ?_
        refine sc (fun _ _ _ f _ _ => px (or_or f.1 rfl (fun hx => f.2.1.1 hx) (osome hx183).symm)) ?_
        exact steps_nil
      intro own184 a184 w184 hd184 hz184 hk184 hf184 hE184
      have e184_0 := (hk184 0 rfl).trans e180_0
      have e184_1 := (hk184 1 rfl).trans e180_1
      have e184_6 := (hk184 6 rfl).trans e180_6
      have e184_7 := (hk184 7 rfl).trans e180_7
      have e184_8 := (hk184 8 rfl).trans e180_8
      have e184_9 := (hk184 9 rfl).trans e180_9
      have e184_10 := (hk184 10 rfl).trans e180_10
      obtain ⟨(e184_64 : a184.eval (.tmp 64) = .bool x183), -⟩ := hf184 [23] rfl
      have hX184 := es_ hX180 hE184
      have b184_g145 := be_ hE184 b180_g145
      have b184_Atags2 := RdO.evo rfl hE184 b180_Atags2
      have b184_g148 := MpO.evo (by decide) hE184 b180_g148
      refine fl_cond e184_64 hs (fun c185 hs => ?_) (fun c185 hs => ?_)
      · refine rg0_seq 101 own184 (bz 2) [⟨[], [], [], Fct.val 4 (.slice none 0 0)⟩, ⟨[], [], [], Fct.val 5 (.int .i64 5)⟩] hz184 hd184 (by kernel_rfl) ?_ ?_
        · refine sc (fun _ _ _ _ _ _ => px (or_assign rfl)) ?_
          refine sc (fun _ _ _ _ _ _ => px (or_assign rfl)) ?_
          exact steps_nil
        intro own186 a186 w186 hd186 hz186 hk186 hf186 hE186
        obtain ⟨(e186_4 : a186.eval (.tmp 4) = .slice none 0 0), (e186_5 : a186.eval (.tmp 5) = .int .i64 5), -⟩ := hf186 [0, 1] rfl
        have hX186 := es_ hX184 hE186
        refine fl_ret ?_
        refine hp181 _ _ _ rfl ?_
        refine hp177 _ _ _ rfl ?_
        refine hp176 _ _ _ rfl ?_
        replace hs := hz171 _ hs
        refine hp171 _ _ _ rfl ?_
        refine hp154 _ _ _ rfl ?_
        refine hp152 _ _ _ rfl ?_
        obtain rfl := osome hs
        exact hret _ _ _ _ (.inl rfl) hd186 (results2_ rfl (RVal.tmp_ e186_4) (RVal.tmp_ e186_5)) ⟨own186, (none, 0), rfl, hX186, RwO.nil_⟩
      refine fl_skip ?_
      refine hn181 _ _ ?_
      refine fl_seq (fun Q187 hn187 hp187 => ?_)
      exact nomatch hs
    refine fl_exit ?_
    refine hp173 _ _ _ rfl ?_
    replace hs := hz171 _ hs
    refine hp171 _ _ _ rfl ?_
    refine hx154 _ _ ?_
    refine hn152 _ _ ?_
    refine rg0_seq 101 own174 (bz 3) [⟨[], [7], [], Fct.val 100 (.slice none 0 0)⟩, ⟨[0], [], [], Fct.val 4 (.slice none 0 0)⟩, ⟨[], [], [], Fct.val 5 (.int .i64 0)⟩] hz174 hd174 (by kernel_rfl) ?_ ?_
    · refine sc (fun _ _ _ _ s _ => px (or_move (s.1.trans e174_7))) ?_
      refine sc (fun _ _ _ f _ _ => px (or_assign f.1)) ?_
      refine sc (fun _ _ _ _ _ _ => px (or_assign rfl)) ?_
      exact steps_nil
    intro own188 a188 w188 hd188 hz188 hk188 hf188 hE188
    obtain ⟨(e188_4 : a188.eval (.tmp 4) = .slice none 0 0), (e188_5 : a188.eval (.tmp 5) = .int .i64 0), -⟩ := hf188 [1, 2] rfl
    have hX188 := es_ hX174 hE188
    refine fl_ret ?_
    obtain rfl := osome hs
    exact hret _ _ _ _ (.inl rfl) hd188 (results2_ rfl (RVal.tmp_ e188_4) (RVal.tmp_ e188_5)) ⟨own188, (none, 0), rfl, hX188, RwO.nil_⟩
theorem table_Table_Check_nil_w (w : World) (r : Int) (hs : table_Table_Check_nil = some r) :
    Calls Try.prog 12 #[.pointer none] w fun e w' => ∃ own' : Own, e = .returned (.int .i64 r) ∧ Evo [] (fun _ => 0) own' w w' := by
  refine fl_enter (n := 19) rfl rfl rfl (Nat.le_of_ble_eq_true rfl) ?_
  intro a0 Q hd0 hz0 harg hret
  have ha0 := harg 0 _ rfl
  clear harg
  have hE0 : Evo [] (fun _ => 0) (fun _ => 0) w w := Evo.refl _ _ _
  refine rg0_seq 19 (fun _ => 0) (bz 1) [⟨[], [], [], Fct.val 2 (.int .i64 0)⟩] hz0 hd0 (by kernel_rfl) ?_ ?_
  · refine sc (fun _ _ _ _ _ _ => px (or_assign rfl)) ?_
    exact steps_nil
  intro own15 a15 w15 hd15 hz15 hk15 hf15 hE15
  have e15_0 := (hk15 0 rfl).trans ha0
  have hX15 := es_ hE0 hE15
  refine fl_seq (fun Q16 hn16 hp16 => ?_)
  refine rg0_seq 19 own15 (bz 2) [⟨[], [0], [], Fct.val 4 (.pointer none)⟩, ⟨[0], [], [], Fct.val 5 (.bool true)⟩] hz15 hd15 (by kernel_rfl) ?_ ?_
  · refine sc (fun _ _ _ _ s _ => px (or_move (s.1.trans e15_0))) ?_
    refine sc (fun _ _ _ f _ _ => px (or_k [(4, .pointer none)] rfl rfl ⟨f.1, trivial⟩ (by kernel_rfl))) ?_
    exact steps_nil
  intro own17 a17 w17 hd17 hz17 hk17 hf17 hE17
  have e17_0 := (hk17 0 rfl).trans e15_0
  obtain ⟨(e17_5 : a17.eval (.tmp 5) = .bool true), -⟩ := hf17 [1] rfl
  have hX17 := es_ hX15 hE17
  refine fl_t e17_5 ?_
  refine rg0_seq 19 own17 (bz 1) [⟨[], [], [], Fct.val 2 (.int .i64 1)⟩] hz17 hd17 (by kernel_rfl) ?_ ?_
  · refine sc (fun _ _ _ _ _ _ => px (or_assign rfl)) ?_
    exact steps_nil
  intro own18 a18 w18 hd18 hz18 hk18 hf18 hE18
  obtain ⟨(e18_2 : a18.eval (.tmp 2) = .int .i64 1), -⟩ := hf18 [0] rfl
  have hX18 := es_ hX17 hE18
  refine fl_ret ?_
  refine hp16 _ _ _ rfl ?_
  obtain rfl := osome hs
  exact hret _ _ _ _ (.inl rfl) hd18 (results1_ rfl (RVal.tmp_ e18_2)) ⟨own18, rfl, hX18⟩
theorem law11_TableNil_w (w : World) (l1 : List (ByteArray × (Int × ByteArray × Int))) (Al1 : Option Addr) (cl1 : Nat) (tags2 : List Int) (Atags2 : Option Addr) (ctags2 : Nat) (hl1 : RdO (fun _ => 0) [0] w R64 Al1 cl1 l1) (htags2 : RdO (fun _ => 0) [0] w R3 Atags2 ctags2 tags2) (r : Bool) (hs : law11_TableNil l1 tags2 = some r) :
    Calls Try.prog 3 #[.slice Al1 l1.length cl1, .slice Atags2 tags2.length ctags2] w fun e w' => ∃ own' : Own, e = .returned (.bool r) ∧ Evo [] (fun _ => 0) own' w w' := by
  refine fl_enter (n := 62) rfl rfl rfl (Nat.le_of_ble_eq_true rfl) ?_
  intro a0 Q hd0 hz0 harg hret
  have ha0 := harg 0 _ rfl
  have ha1 := harg 1 _ rfl
  clear harg
  have hE0 : Evo [] (fun _ => 0) (fun _ => 0) w w := Evo.refl _ _ _
  refine rg0_seq 62 (fun _ => 0) (bz 1) [⟨[], [], [], Fct.val 4 (.bool false)⟩] hz0 hd0 (by kernel_rfl) ?_ ?_
  · refine sc (fun _ _ _ _ _ _ => px (or_assign rfl)) ?_
    exact steps_nil
  intro own36 a36 w36 hd36 hz36 hk36 hf36 hE36
  have e36_0 := (hk36 0 rfl).trans ha0
  have e36_1 := (hk36 1 rfl).trans ha1
  have hX36 := es_ hE0 hE36
  have b36_Al1 := RdO.evo rfl hE36 hl1
  have b36_Atags2 := RdO.evo rfl hE36 htags2
  refine rg0_seq 62 own36 (bz 1) [⟨[], [], [], Fct.val 5 (.pointer none)⟩] hz36 hd36 (by kernel_rfl) ?_ ?_
  · refine sc (fun _ _ _ _ _ _ => px (or_assign rfl)) ?_
    exact steps_nil
  intro own37 a37 w37 hd37 hz37 hk37 hf37 hE37
  have e37_0 := (hk37 0 rfl).trans e36_0
  have e37_1 := (hk37 1 rfl).trans e36_1
  obtain ⟨(e37_5 : a37.eval (.tmp 5) = .pointer none), -⟩ := hf37 [0] rfl
  have hX37 := es_ hX36 hE37
  have b37_Al1 := RdO.evo rfl hE37 b36_Al1
  have b37_Atags2 := RdO.evo rfl hE37 b36_Atags2
  obtain ⟨r38, hr38, hs⟩ := obind hs
  obtain ⟨x41, hx41, hs⟩ := obind hs
  refine rg_draw_seq g_mixed (n := 62) (rs := []) (own0 := own37) (K := []) (bs := [0, 1, 0, 0, 8, 24, 60, 3, 255]) (ds := [⟨[], [0], [], Fct.val 12 (.slice Al1 l1.length cl1)⟩, ⟨[0], [], [], Fct.row 40 [] 13 64 R64 r38⟩, ⟨[], [1], [], Fct.val 14 (.slice Atags2 tags2.length ctags2)⟩, ⟨[], [1], [], Fct.val 15 (.slice Atags2 tags2.length ctags2)⟩, ⟨[3], [], [], Fct.val 16 (.int .i64 (tags2.length : Int))⟩, ⟨[4], [], [], Fct.val 17 (.int .i64 (mn (tags2.length : Int) 20))⟩, ⟨[2, 5], [], [], Fct.view [0] 18 R3 x41⟩, ⟨[1], [], [], Fct.rel [0, 13] (fun l => ∀ (A39 : Option Addr) (cA39 : Nat), l.getD 1 undef = .slice A39 r38.length cA39 → l.getD 0 undef = .slice A39 r38.length cA39)⟩, ⟨[6], [], [], Fct.rel [1, 18] (fun l => ∀ (A42 : Option Addr) (cA42 : Nat), l.getD 1 undef = .slice A42 x41.length cA42 → l.getD 0 undef = .slice A42 x41.length cA42)⟩]) (by kernel_rfl) hz37 hd37 nm_ ?_ ?_
  · refine sc (fun _ _ _ _ s _ => px (or_move (s.1.trans e37_0))) ?_
    refine sc (fun _ _ _ f _ hE => px (or_call cf7 (args1 f.1) (law11_Cut_w _ l1 Al1 cl1 (RdO.zero (RdO.evo rfl hE b37_Al1)) r38 hr38) (post_row (m' := (look0 [(1, 40)])) (.inl (Rep.fl_flat _)) rfl rfl (fun _ => rfl)))) ?_
    refine sc (fun _ _ _ _ s _ => px (or_move (s.1.trans e37_1))) ?_
    refine sc (fun _ _ _ _ s _ => px (or_move (s.1.trans e37_1))) ?_
    refine sc (fun _ _ _ f _ _ => px (or_len tu23 f.1 rfl)) ?_
    refine sc (fun _ _ _ f _ _ => px (or_min f.1 rfl)) ?_
    refine sc (fun _ _ _ f _ hE => px (or_view (R := R3) (l := tags2) (L := [0]) tu23 ts3 f.1 Bnd.none_ (Bnd.some_ f.2.1) Bnd.none_ (RdO.evo rfl hE b37_Atags2) hx41 (.inl rfl) (by simp))) ?_
    refine sc (fun own a wx hf hsl hE => ?_) ?_
    · obtain ⟨⟨⟨A39, cA39⟩, (f_13 : a.eval (.tmp 13) = .slice A39 r38.length cA39), b_A39⟩, -⟩ := hf
      exact px (or_mono (f := Fct.val 0 (.slice A39 r38.length cA39)) (or_assign f_13) (fun own' a' w' v' hp h => fun _ _ h0' => by cases (f_13.symm.trans ((hp.2 13 (by decide)).symm.trans h0')); exact h))
    refine sc (fun own a wx hf hsl hE => ?_) ?_
    · obtain ⟨⟨⟨A42, cA42⟩, (f_18 : a.eval (.tmp 18) = .slice A42 x41.length cA42), b_A42⟩, -⟩ := hf
      exact px (or_mono (f := Fct.val 1 (.slice A42 x41.length cA42)) (or_assign f_18) (fun own' a' w' v' hp h => fun _ _ h0' => by cases (f_18.symm.trans ((hp.2 18 (by decide)).symm.trans h0')); exact h))
    exact steps_nil
  intro own43 a43 w43 hd43 hz43 hk43 hf43 hE43
  have e43_5 := (hk43 5 rfl).trans e37_5
  obtain ⟨⟨⟨A39, cA39⟩, (f_13 : a43.eval (.tmp 13) = .slice A39 r38.length cA39), (b43_A39 : RwO own43 40 [] w43 64 R64 A39 cA39 r38)⟩, (q_0 : ∀ (A39 : Option Addr) (cA39 : Nat), a43.eval (.tmp 13) = .slice A39 r38.length cA39 → a43.eval (.tmp 0) = .slice A39 r38.length cA39), ⟨⟨A42, cA42⟩, (f_18 : a43.eval (.tmp 18) = .slice A42 x41.length cA42), (b43_A42 : RdO own43 [0] w43 R3 A42 cA42 x41)⟩, (q_1 : ∀ (A42 : Option Addr) (cA42 : Nat), a43.eval (.tmp 18) = .slice A42 x41.length cA42 → a43.eval (.tmp 1) = .slice A42 x41.length cA42), -⟩ := hf43 [1, 7, 6, 8] rfl
  have e43_0 := q_0 _ _ f_13
  have e43_1 := q_1 _ _ f_18
  have hX43 := es_ hX37 hE43
  refine rg0_seq 62 own43 [0, 0, 3, 7, 15, 15, 31, 127] [⟨[], [5], [], Fct.val 20 (.pointer none)⟩, ⟨[], [0], [], Fct.val 21 (.slice A39 r38.length cA39)⟩, ⟨[0, 1], [], [], Fct.mems [45] 22 (fun (x : Option Addr × Nat) => .tuple #[.slice x.1 ((([] : List Int), 1).1).length x.2, .int .i64 ((([] : List Int), 1).2)]) (fun (x : Option Addr × Nat) own w => RwO own 45 [] w 3 R3 x.1 x.2 ((([] : List Int), 1).1)) (fun hk he h => RwO.evo (hits_sub hk (by decide)) he h)⟩, ⟨[2], [], [], Fct.rel [19, 22] (fun l => ∀ (A44 : Option Addr) (cA44 : Nat), l.getD 1 undef = .tuple #[.slice A44 ((([] : List Int), 1).1).length cA44, .int .i64 ((([] : List Int), 1).2)] → l.getD 0 undef = .tuple #[.slice A44 ((([] : List Int), 1).1).length cA44, .int .i64 ((([] : List Int), 1).2)])⟩, ⟨[3, 2], [], [], Fct.rel [23, 22] (fun l => ∀ (A44 : Option Addr) (cA44 : Nat), l.getD 1 undef = .tuple #[.slice A44 ((([] : List Int), 1).1).length cA44, .int .i64 ((([] : List Int), 1).2)] → l.getD 0 undef = .slice A44 ((([] : List Int), 1).1).length cA44)⟩, ⟨[3, 2], [], [], Fct.val 24 (.int .i64 ((([] : List Int), 1).2))⟩, ⟨[4, 2], [], [], Fct.rel [6, 22] (fun l => ∀ (A44 : Option Addr) (cA44 : Nat), l.getD 1 undef = .tuple #[.slice A44 ((([] : List Int), 1).1).length cA44, .int .i64 ((([] : List Int), 1).2)] → l.getD 0 undef = .slice A44 ((([] : List Int), 1).1).length cA44)⟩, ⟨[5], [], [], Fct.val 7 (.int .i64 ((([] : List Int), 1).2))⟩] hz43 hd43 (by kernel_rfl) ?_ ?_
  · refine sc (fun _ _ _ _ s _ => px (or_move (s.1.trans e43_5))) ?_
    refine sc (fun _ _ _ _ s _ => px (or_move (s.1.trans e43_0))) ?_
    refine sc (fun _ _ _ f _ hE => px (or_call cf8 (args2 f.1 f.2.1) (table_Table_Add_nil_w _ r38 A39 cA39 (RdO.zero (RwO.rd (re_ hE b43_A39))) (([] : List Int), 1) rfl) (post_mems (m := (fun _ => 0)) (m' := (look0 [(1, 45)])) (fun _ _ => .inl rfl) (fun own' w' a' x h1 h => ⟨x, h1, RwO.back_ h (by decide) (.inl (Rep.fl_flat _))⟩)))) ?_
    refine sc (fun own a wx hf hsl hE => ?_) ?_
    · obtain ⟨⟨⟨A44, cA44⟩, (f_22 : a.eval (.tmp 22) = .tuple #[.slice A44 ((([] : List Int), 1).1).length cA44, .int .i64 ((([] : List Int), 1).2)]), b_A44⟩, -⟩ := hf
      exact px (or_mono (f := Fct.val 19 (.tuple #[.slice A44 ((([] : List Int), 1).1).length cA44, .int .i64 ((([] : List Int), 1).2)])) (or_move f_22) (fun own' a' w' v' hp h => fun _ _ h0' => by cases (f_22.symm.trans ((hp.2 22 (by decide)).symm.trans h0')); exact h))
    refine sc (fun own a wx hf hsl hE => ?_) ?_
    · obtain ⟨(q_19 : ∀ (A44 : Option Addr) (cA44 : Nat), a.eval (.tmp 22) = .tuple #[.slice A44 ((([] : List Int), 1).1).length cA44, .int .i64 ((([] : List Int), 1).2)] → a.eval (.tmp 19) = .tuple #[.slice A44 ((([] : List Int), 1).1).length cA44, .int .i64 ((([] : List Int), 1).2)]), ⟨⟨A44, cA44⟩, (f_22 : a.eval (.tmp 22) = .tuple #[.slice A44 ((([] : List Int), 1).1).length cA44, .int .i64 ((([] : List Int), 1).2)]), b_A44⟩, -⟩ := hf
      have f_19 := q_19 _ _ f_22
      exact px (or_mono (f := Fct.val 23 (.slice A44 ((([] : List Int), 1).1).length cA44)) (or_k [(19, .tuple #[.slice A44 ((([] : List Int), 1).1).length cA44, .int .i64 ((([] : List Int), 1).2)])] rfl rfl ⟨f_19, trivial⟩ (by kernel_rfl)) (fun own' a' w' v' hp h => fun _ _ h0' => by cases (f_22.symm.trans ((hp.2 22 (by decide)).symm.trans h0')); exact h))
    refine sc (fun own a wx hf hsl hE => ?_) ?_
    · obtain ⟨(q_19 : ∀ (A44 : Option Addr) (cA44 : Nat), a.eval (.tmp 22) = .tuple #[.slice A44 ((([] : List Int), 1).1).length cA44, .int .i64 ((([] : List Int), 1).2)] → a.eval (.tmp 19) = .tuple #[.slice A44 ((([] : List Int), 1).1).length cA44, .int .i64 ((([] : List Int), 1).2)]), ⟨⟨A44, cA44⟩, f_22, b_A44⟩, -⟩ := hf
      have f_19 := q_19 _ _ f_22
      exact px (or_k [(19, .tuple #[.slice A44 ((([] : List Int), 1).1).length cA44, .int .i64 ((([] : List Int), 1).2)])] rfl rfl ⟨f_19, trivial⟩ (by kernel_rfl))
    refine sc (fun own a wx hf hsl hE => ?_) ?_
    · obtain ⟨(q_23 : ∀ (A44 : Option Addr) (cA44 : Nat), a.eval (.tmp 22) = .tuple #[.slice A44 ((([] : List Int), 1).1).length cA44, .int .i64 ((([] : List Int), 1).2)] → a.eval (.tmp 23) = .slice A44 ((([] : List Int), 1).1).length cA44), ⟨⟨A44, cA44⟩, (f_22 : a.eval (.tmp 22) = .tuple #[.slice A44 ((([] : List Int), 1).1).length cA44, .int .i64 ((([] : List Int), 1).2)]), b_A44⟩, -⟩ := hf
      have f_23 := q_23 _ _ f_22
      exact px (or_mono (f := Fct.val 6 (.slice A44 ((([] : List Int), 1).1).length cA44)) (or_assign f_23) (fun own' a' w' v' hp h => fun _ _ h0' => by cases (f_22.symm.trans ((hp.2 22 (by decide)).symm.trans h0')); exact h))
    refine sc (fun _ _ _ f _ _ => px (or_assign f.1)) ?_
    exact steps_nil
  intro own46 a46 w46 hd46 hz46 hk46 hf46 hE46
  have e46_1 := (hk46 1 rfl).trans e43_1
  have e46_5 := (hk46 5 rfl).trans e43_5
  obtain ⟨⟨⟨A44, cA44⟩, (f_22 : a46.eval (.tmp 22) = .tuple #[.slice A44 ((([] : List Int), 1).1).length cA44, .int .i64 ((([] : List Int), 1).2)]), (b46_A44 : RwO own46 45 [] w46 3 R3 A44 cA44 ((([] : List Int), 1).1))⟩, (q_6 : ∀ (A44 : Option Addr) (cA44 : Nat), a46.eval (.tmp 22) = .tuple #[.slice A44 ((([] : List Int), 1).1).length cA44, .int .i64 ((([] : List Int), 1).2)] → a46.eval (.tmp 6) = .slice A44 ((([] : List Int), 1).1).length cA44), (e46_7 : a46.eval (.tmp 7) = .int .i64 ((([] : List Int), 1).2)), -⟩ := hf46 [2, 6, 7] rfl
  have e46_6 := q_6 _ _ f_22
  have hX46 := es_ hX43 hE46
  have b46_A42 := RdO.evo rfl hE46 b43_A42
  obtain ⟨r47, hr47, hs⟩ := obind hs
  refine rg0_seq 62 own46 [0, 0, 3, 7, 15, 15, 31, 127] [⟨[], [5], [], Fct.val 26 (.pointer none)⟩, ⟨[], [1], [], Fct.val 27 (.slice A42 x41.length cA42)⟩, ⟨[0, 1], [], [], Fct.mems [49] 28 (fun (x : Option Addr × Nat) => .tuple #[.slice x.1 r47.1.length x.2, .int .i64 r47.2]) (fun (x : Option Addr × Nat) own w => RwO own 49 [] w 64 R64 x.1 x.2 r47.1) (fun hk he h => RwO.evo (hits_sub hk (by decide)) he h)⟩, ⟨[2], [], [], Fct.rel [25, 28] (fun l => ∀ (A48 : Option Addr) (cA48 : Nat), l.getD 1 undef = .tuple #[.slice A48 r47.1.length cA48, .int .i64 r47.2] → l.getD 0 undef = .tuple #[.slice A48 r47.1.length cA48, .int .i64 r47.2])⟩, ⟨[3, 2], [], [], Fct.rel [29, 28] (fun l => ∀ (A48 : Option Addr) (cA48 : Nat), l.getD 1 undef = .tuple #[.slice A48 r47.1.length cA48, .int .i64 r47.2] → l.getD 0 undef = .slice A48 r47.1.length cA48)⟩, ⟨[3, 2], [], [], Fct.val 30 (.int .i64 r47.2)⟩, ⟨[4, 2], [], [], Fct.rel [8, 28] (fun l => ∀ (A48 : Option Addr) (cA48 : Nat), l.getD 1 undef = .tuple #[.slice A48 r47.1.length cA48, .int .i64 r47.2] → l.getD 0 undef = .slice A48 r47.1.length cA48)⟩, ⟨[5], [], [], Fct.val 9 (.int .i64 r47.2)⟩] hz46 hd46 (by kernel_rfl) ?_ ?_
  · refine sc (fun _ _ _ _ s _ => px (or_move (s.1.trans e46_5))) ?_
    refine sc (fun _ _ _ _ s _ => px (or_move (s.1.trans e46_1))) ?_
    refine sc (fun _ _ _ f _ hE => px (or_call cf9 (args2 f.1 f.2.1) (table_Table_Attrs_nil_w _ x41 A42 cA42 (RdO.zero (RdO.evo rfl hE b46_A42)) r47 hr47) (post_mems (m := (fun _ => 0)) (m' := (look0 [(1, 49)])) (fun _ _ => .inl rfl) (fun own' w' a' x h1 h => ⟨x, h1, RwO.back_ h (by decide) (.inl (Rep.fl_flat _))⟩)))) ?_
    refine sc (fun own a wx hf hsl hE => ?_) ?_
    · obtain ⟨⟨⟨A48, cA48⟩, (f_28 : a.eval (.tmp 28) = .tuple #[.slice A48 r47.1.length cA48, .int .i64 r47.2]), b_A48⟩, -⟩ := hf
      exact px (or_mono (f := Fct.val 25 (.tuple #[.slice A48 r47.1.length cA48, .int .i64 r47.2])) (or_move f_28) (fun own' a' w' v' hp h => fun _ _ h0' => by cases (f_28.symm.trans ((hp.2 28 (by decide)).symm.trans h0')); exact h))
    refine sc (fun own a wx hf hsl hE => ?_) ?_
    · obtain ⟨(q_25 : ∀ (A48 : Option Addr) (cA48 : Nat), a.eval (.tmp 28) = .tuple #[.slice A48 r47.1.length cA48, .int .i64 r47.2] → a.eval (.tmp 25) = .tuple #[.slice A48 r47.1.length cA48, .int .i64 r47.2]), ⟨⟨A48, cA48⟩, (f_28 : a.eval (.tmp 28) = .tuple #[.slice A48 r47.1.length cA48, .int .i64 r47.2]), b_A48⟩, -⟩ := hf
      have f_25 := q_25 _ _ f_28
      exact px (or_mono (f := Fct.val 29 (.slice A48 r47.1.length cA48)) (or_k [(25, .tuple #[.slice A48 r47.1.length cA48, .int .i64 r47.2])] rfl rfl ⟨f_25, trivial⟩ (by kernel_rfl)) (fun own' a' w' v' hp h => fun _ _ h0' => by cases (f_28.symm.trans ((hp.2 28 (by decide)).symm.trans h0')); exact h))
    refine sc (fun own a wx hf hsl hE => ?_) ?_
    · obtain ⟨(q_25 : ∀ (A48 : Option Addr) (cA48 : Nat), a.eval (.tmp 28) = .tuple #[.slice A48 r47.1.length cA48, .int .i64 r47.2] → a.eval (.tmp 25) = .tuple #[.slice A48 r47.1.length cA48, .int .i64 r47.2]), ⟨⟨A48, cA48⟩, f_28, b_A48⟩, -⟩ := hf
      have f_25 := q_25 _ _ f_28
      exact px (or_k [(25, .tuple #[.slice A48 r47.1.length cA48, .int .i64 r47.2])] rfl rfl ⟨f_25, trivial⟩ (by kernel_rfl))
    refine sc (fun own a wx hf hsl hE => ?_) ?_
    · obtain ⟨(q_29 : ∀ (A48 : Option Addr) (cA48 : Nat), a.eval (.tmp 28) = .tuple #[.slice A48 r47.1.length cA48, .int .i64 r47.2] → a.eval (.tmp 29) = .slice A48 r47.1.length cA48), ⟨⟨A48, cA48⟩, (f_28 : a.eval (.tmp 28) = .tuple #[.slice A48 r47.1.length cA48, .int .i64 r47.2]), b_A48⟩, -⟩ := hf
      have f_29 := q_29 _ _ f_28
      exact px (or_mono (f := Fct.val 8 (.slice A48 r47.1.length cA48)) (or_assign f_29) (fun own' a' w' v' hp h => fun _ _ h0' => by cases (f_28.symm.trans ((hp.2 28 (by decide)).symm.trans h0')); exact h))
    refine sc (fun _ _ _ f _ _ => px (or_assign f.1)) ?_
    exact steps_nil
  intro own50 a50 w50 hd50 hz50 hk50 hf50 hE50
  have e50_1 := (hk50 1 rfl).trans e46_1
  have e50_5 := (hk50 5 rfl).trans e46_5
  have e50_6 := (hk50 6 rfl).trans e46_6
  have e50_7 := (hk50 7 rfl).trans e46_7
  obtain ⟨⟨⟨A48, cA48⟩, (f_28 : a50.eval (.tmp 28) = .tuple #[.slice A48 r47.1.length cA48, .int .i64 r47.2]), (b50_A48 : RwO own50 49 [] w50 64 R64 A48 cA48 r47.1)⟩, (q_8 : ∀ (A48 : Option Addr) (cA48 : Nat), a50.eval (.tmp 28) = .tuple #[.slice A48 r47.1.length cA48, .int .i64 r47.2] → a50.eval (.tmp 8) = .slice A48 r47.1.length cA48), (e50_9 : a50.eval (.tmp 9) = .int .i64 r47.2), -⟩ := hf50 [2, 6, 7] rfl
  have e50_8 := q_8 _ _ f_28
  have hX50 := es_ hX46 hE50
  have b50_A42 := RdO.evo rfl hE50 b46_A42
  have b50_A44 := re_ hE50 b46_A44
  obtain ⟨r51, hr51, hs⟩ := obind hs
  refine rg0_seq 62 own50 [0, 0, 3, 7, 15, 15, 31, 127] [⟨[], [], [], Fct.val 32 (.agg #[.slice none 0 0, .slice none 0 0])⟩, ⟨[], [1], [], Fct.val 33 (.slice A42 x41.length cA42)⟩, ⟨[0, 1], [], [], Fct.mems [53] 34 (fun (x : Option Addr × Nat) => .tuple #[.slice x.1 r51.1.length x.2, .int .i64 r51.2]) (fun (x : Option Addr × Nat) own w => RwO own 53 [] w 77 R77 x.1 x.2 r51.1) (fun hk he h => RwO.evo (hits_sub hk (by decide)) he h)⟩, ⟨[2], [], [], Fct.rel [31, 34] (fun l => ∀ (A52 : Option Addr) (cA52 : Nat), l.getD 1 undef = .tuple #[.slice A52 r51.1.length cA52, .int .i64 r51.2] → l.getD 0 undef = .tuple #[.slice A52 r51.1.length cA52, .int .i64 r51.2])⟩, ⟨[3, 2], [], [], Fct.rel [35, 34] (fun l => ∀ (A52 : Option Addr) (cA52 : Nat), l.getD 1 undef = .tuple #[.slice A52 r51.1.length cA52, .int .i64 r51.2] → l.getD 0 undef = .slice A52 r51.1.length cA52)⟩, ⟨[3, 2], [], [], Fct.val 36 (.int .i64 r51.2)⟩, ⟨[4, 2], [], [], Fct.rel [10, 34] (fun l => ∀ (A52 : Option Addr) (cA52 : Nat), l.getD 1 undef = .tuple #[.slice A52 r51.1.length cA52, .int .i64 r51.2] → l.getD 0 undef = .slice A52 r51.1.length cA52)⟩, ⟨[5], [], [], Fct.val 11 (.int .i64 r51.2)⟩] hz50 hd50 (by kernel_rfl) ?_ ?_
  · refine sc (fun _ _ _ _ _ _ => px (or_k [] rfl rfl trivial (by kernel_rfl))) ?_
    refine sc (fun _ _ _ _ s _ => px (or_move (s.1.trans e50_1))) ?_
    refine sc (fun _ _ _ f _ hE => px (or_call cf10 (args2 f.1 f.2.1) (ref11_Attrs_w _ (([] : List ByteArray), ([] : List (Int × ByteArray × Int))) none 0 none 0 x41 A42 cA42 RdO.nil_ RdO.nil_ (RdO.zero (RdO.evo rfl hE b50_A42)) r51 hr51) (post_mems (m := (fun _ => 0)) (m' := (look0 [(1, 53)])) (fun _ _ => .inl rfl) (fun own' w' a' x h1 h => ⟨x, h1, RwO.back_ h (by decide) (.inl (Rep.fl_flat _))⟩)))) ?_
    refine sc (fun own a wx hf hsl hE => ?_) ?_
    · obtain ⟨⟨⟨A52, cA52⟩, (f_34 : a.eval (.tmp 34) = .tuple #[.slice A52 r51.1.length cA52, .int .i64 r51.2]), b_A52⟩, -⟩ := hf
      exact px (or_mono (f := Fct.val 31 (.tuple #[.slice A52 r51.1.length cA52, .int .i64 r51.2])) (or_move f_34) (fun own' a' w' v' hp h => fun _ _ h0' => by cases (f_34.symm.trans ((hp.2 34 (by decide)).symm.trans h0')); exact h))
    refine sc (fun own a wx hf hsl hE => ?_) ?_
    · obtain ⟨(q_31 : ∀ (A52 : Option Addr) (cA52 : Nat), a.eval (.tmp 34) = .tuple #[.slice A52 r51.1.length cA52, .int .i64 r51.2] → a.eval (.tmp 31) = .tuple #[.slice A52 r51.1.length cA52, .int .i64 r51.2]), ⟨⟨A52, cA52⟩, (f_34 : a.eval (.tmp 34) = .tuple #[.slice A52 r51.1.length cA52, .int .i64 r51.2]), b_A52⟩, -⟩ := hf
      have f_31 := q_31 _ _ f_34
      exact px (or_mono (f := Fct.val 35 (.slice A52 r51.1.length cA52)) (or_k [(31, .tuple #[.slice A52 r51.1.length cA52, .int .i64 r51.2])] rfl rfl ⟨f_31, trivial⟩ (by kernel_rfl)) (fun own' a' w' v' hp h => fun _ _ h0' => by cases (f_34.symm.trans ((hp.2 34 (by decide)).symm.trans h0')); exact h))
    refine sc (fun own a wx hf hsl hE => ?_) ?_
    · obtain ⟨(q_31 : ∀ (A52 : Option Addr) (cA52 : Nat), a.eval (.tmp 34) = .tuple #[.slice A52 r51.1.length cA52, .int .i64 r51.2] → a.eval (.tmp 31) = .tuple #[.slice A52 r51.1.length cA52, .int .i64 r51.2]), ⟨⟨A52, cA52⟩, f_34, b_A52⟩, -⟩ := hf
      have f_31 := q_31 _ _ f_34
      exact px (or_k [(31, .tuple #[.slice A52 r51.1.length cA52, .int .i64 r51.2])] rfl rfl ⟨f_31, trivial⟩ (by kernel_rfl))
    refine sc (fun own a wx hf hsl hE => ?_) ?_
    · obtain ⟨(q_35 : ∀ (A52 : Option Addr) (cA52 : Nat), a.eval (.tmp 34) = .tuple #[.slice A52 r51.1.length cA52, .int .i64 r51.2] → a.eval (.tmp 35) = .slice A52 r51.1.length cA52), ⟨⟨A52, cA52⟩, (f_34 : a.eval (.tmp 34) = .tuple #[.slice A52 r51.1.length cA52, .int .i64 r51.2]), b_A52⟩, -⟩ := hf
      have f_35 := q_35 _ _ f_34
      exact px (or_mono (f := Fct.val 10 (.slice A52 r51.1.length cA52)) (or_assign f_35) (fun own' a' w' v' hp h => fun _ _ h0' => by cases (f_34.symm.trans ((hp.2 34 (by decide)).symm.trans h0')); exact h))
    refine sc (fun _ _ _ f _ _ => px (or_assign f.1)) ?_
    exact steps_nil
  intro own54 a54 w54 hd54 hz54 hk54 hf54 hE54
  have e54_5 := (hk54 5 rfl).trans e50_5
  have e54_6 := (hk54 6 rfl).trans e50_6
  have e54_7 := (hk54 7 rfl).trans e50_7
  have e54_8 := (hk54 8 rfl).trans e50_8
  have e54_9 := (hk54 9 rfl).trans e50_9
  obtain ⟨(e54_11 : a54.eval (.tmp 11) = .int .i64 r51.2), -⟩ := hf54 [7] rfl
  have hX54 := es_ hX50 hE54
  have b54_A44 := re_ hE54 b50_A44
  have b54_A48 := re_ hE54 b50_A48
  obtain ⟨r55, hr55, hs⟩ := obind hs
  obtain ⟨x56, hx56, hs⟩ := obind hs
  obtain ⟨x57, hx57, hs⟩ := obind hs
  obtain ⟨x58, hx58, hs⟩ := obind hs
  obtain ⟨x59, hx59, hs⟩ := obind hs
  refine rg0_seq 62 own54 [0, 1, 3, 7, 15, 31, 63, 127, 255, 511, 1023, 2047, 4095, 8191, 16383, 32767, 65535, 65535, 262143, 524287, 1048575, 2097151, 4194303, 8388607, 16777215, 33554431] [⟨[], [], [], Fct.val 37 (.bool r55)⟩, ⟨[0], [], [], Fct.val 38 (.bool r55)⟩, ⟨[1], [6], [], Fct.cond r55 (some 39) (Fct.val 39 (.slice A44 ((([] : List Int), 1).1).length cA44))⟩, ⟨[1, 2], [], [], Fct.cond r55 (some 40) (Fct.val 40 (.int .i64 (((([] : List Int), 1).1).length : Int)))⟩, ⟨[1, 3], [], [], Fct.cond r55 (some 41) (Fct.val 41 (.bool (decide ((((([] : List Int), 1).1).length : Int) = 0))))⟩, ⟨[1, 4], [], [], Fct.val 42 (.bool x56)⟩, ⟨[5], [], [], Fct.val 43 (.bool x56)⟩, ⟨[6], [7], [], Fct.cond x56 (some 44) (Fct.val 44 (.int .i64 ((([] : List Int), 1).2)))⟩, ⟨[6, 7], [], [], Fct.cond x56 (some 45) (Fct.val 45 (.bool (decide (((([] : List Int), 1).2) = 1))))⟩, ⟨[6, 8], [], [], Fct.val 46 (.bool x57)⟩, ⟨[9], [], [], Fct.val 47 (.bool x57)⟩, ⟨[10], [8], [], Fct.cond x57 (some 48) (Fct.val 48 (.slice A48 r47.1.length cA48))⟩, ⟨[10, 11], [], [], Fct.cond x57 (some 49) (Fct.val 49 (.int .i64 (r47.1.length : Int)))⟩, ⟨[10, 12], [], [], Fct.cond x57 (some 50) (Fct.val 50 (.bool (decide ((r47.1.length : Int) = 0))))⟩, ⟨[10, 13], [], [], Fct.val 51 (.bool x58)⟩, ⟨[14], [], [], Fct.val 52 (.bool x58)⟩, ⟨[15], [9], [], Fct.cond x58 (some 53) (Fct.val 53 (.int .i64 r47.2))⟩, ⟨[15], [11], [], Fct.cond x58 (some 54) (Fct.val 54 (.int .i64 r51.2))⟩, ⟨[15, 16, 17], [], [], Fct.cond x58 (some 55) (Fct.val 55 (.bool (decide (r47.2 = r51.2))))⟩, ⟨[15, 18], [], [], Fct.val 56 (.bool (x58 && (decide (r47.2 = r51.2))))⟩, ⟨[19], [], [], Fct.val 57 (.bool (x58 && (decide (r47.2 = r51.2))))⟩, ⟨[20], [5], [], Fct.cond (x58 && (decide (r47.2 = r51.2))) (some 58) (Fct.val 58 (.pointer none))⟩, ⟨[20, 21], [], [], Fct.cond (x58 && (decide (r47.2 = r51.2))) (some 59) (Fct.val 59 (.int .i64 1))⟩, ⟨[20, 22], [], [], Fct.cond (x58 && (decide (r47.2 = r51.2))) (some 60) (Fct.val 60 (.bool true))⟩, ⟨[20, 23], [], [], Fct.val 61 (.bool x59)⟩, ⟨[24], [], [], Fct.val 4 (.bool x59)⟩] hz54 hd54 (by kernel_rfl) ?_ ?_
  · refine sc (fun _ _ _ _ _ _ => px (or_call cf11 (args0) (law11_known_w _   r55 hr55) post_val)) ?_
    refine sc (fun _ _ _ f _ _ => px (or_move f.1)) ?_
    refine sc (fun _ _ _ f s _ => sg_t rfl rfl rfl f.1 (fun hg => or_move (s.1.trans e54_6))) ?_
    refine sc (fun _ _ _ f _ _ => sg_t rfl rfl rfl f.1 (fun hg => or_len tu23 (f.2.1.1 hg) rfl)) ?_
    refine sc (fun _ _ _ f _ _ => sg_t rfl rfl rfl f.1 (fun hg => or_eql (f.2.1.1 hg) rfl rfl)) ?_
    refine sc (fun _ _ _ f _ _ => px (or_and f.1 (fun hx => f.2.1.1 hx) rfl (osome hx56).symm)) ?_
    refine sc (fun _ _ _ f _ _ => px (or_move f.1)) ?_
    refine sc (fun _ _ _ f s _ => sg_t rfl rfl rfl f.1 (fun hg => or_move (s.1.trans e54_7))) ?_
    refine sc (fun _ _ _ f _ _ => sg_t rfl rfl rfl f.1 (fun hg => or_eql (f.2.1.1 hg) rfl rfl)) ?_
    refine sc (fun _ _ _ f _ _ => px (or_and f.1 (fun hx => f.2.1.1 hx) rfl (osome hx57).symm)) ?_
    refine sc (fun _ _ _ f _ _ => px (or_move f.1)) ?_
    refine sc (fun _ _ _ f s _ => sg_t rfl rfl rfl f.1 (fun hg => or_move (s.1.trans e54_8))) ?_
    refine sc (fun _ _ _ f _ _ => sg_t rfl rfl rfl f.1 (fun hg => or_len tu22 (f.2.1.1 hg) rfl)) ?_
    refine sc (fun _ _ _ f _ _ => sg_t rfl rfl rfl f.1 (fun hg => or_eql (f.2.1.1 hg) rfl rfl)) ?_
    refine sc (fun _ _ _ f _ _ => px (or_and f.1 (fun hx => f.2.1.1 hx) rfl (osome hx58).symm)) ?_
    refine sc (fun _ _ _ f _ _ => px (or_move f.1)) ?_
    refine sc (fun _ _ _ f s _ => sg_t rfl rfl rfl f.1 (fun hg => or_move (s.1.trans e54_9))) ?_
    refine sc (fun _ _ _ f s _ => sg_t rfl rfl rfl f.1 (fun hg => or_move (s.1.trans e54_11))) ?_
    refine sc (fun _ _ _ f _ _ => sg_t rfl rfl rfl f.1 (fun hg => or_eql (f.2.1.1 hg) (f.2.2.1.1 hg) rfl)) ?_
    refine sc (fun _ _ _ f _ _ => px (or_and f.1 (fun hx => f.2.1.1 hx) rfl rfl)) ?_
    refine sc (fun _ _ _ f _ _ => px (or_move f.1)) ?_
    refine sc (fun _ _ _ f s _ => sg_t rfl rfl rfl f.1 (fun hg => or_move (s.1.trans e54_5))) ?_
    refine sc (fun _ _ _ f _ _ => sg_t rfl rfl rfl f.1 (fun hg => or_call cf12 (args1 (f.2.1.1 hg)) (table_Table_Check_nil_w _   1 rfl) post_val)) ?_
    refine sc (fun _ _ _ f _ _ => sg_t rfl rfl rfl f.1 (fun hg => or_eql (f.2.1.1 hg) rfl (by decide))) ?_
    refine sc (fun _ _ _ f _ _ => px (or_and f.1 (fun hx => f.2.1.1 hx) rfl (osome hx59).symm)) ?_
    refine sc (fun _ _ _ f _ _ => px (or_assign f.1)) ?_
    exact steps_nil
  intro own60 a60 w60 hd60 hz60 hk60 hf60 hE60
  obtain ⟨(e60_4 : a60.eval (.tmp 4) = .bool x59), -⟩ := hf60 [25] rfl
  have hX60 := es_ hX54 hE60
  refine fl_ret ?_
  obtain rfl := (osome hs).symm
  exact hret _ _ _ _ (.inl rfl) hd60 (results1_ rfl (RVal.tmp_ e60_4)) ⟨own60, rfl, hX60⟩
end Go.Proofs.Ytpbhdblkjabdlaa
