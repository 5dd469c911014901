import Derived.Test.YtpbhdblkjabdlaaWp2
import Derived.Test.YtpbhdblkjabdlaaSp3
namespace Go.Proofs.Ytpbhdblkjabdlaa
open Go.RowKit
set_option linter.unusedVariables false
set_option maxRecDepth 10000
theorem table_Table_Check_1_w (w : World) (k1 : ByteArray) (r : Int) (hs : table_Table_Check_1 k1 = some r) :
    Calls Try.prog 30 #[.string k1] w fun e w' => ∃ own' : Own, e = .returned (.int .i64 r) ∧ Evo [] (fun _ => 0) own' w w' := by
  refine fl_enter (n := 6) rfl rfl rfl (Nat.le_of_ble_eq_true rfl) ?_
  intro a0 Q hd0 hz0 harg hret
  have ha0 := harg 0 _ rfl
  clear harg
  have hE0 : Evo [] (fun _ => 0) (fun _ => 0) w w := Evo.refl _ _ _
  refine rg0_seq 6 (fun _ => 0) (bz 1) [⟨[], [], [], Fct.val 2 (.int .i64 0)⟩] hz0 hd0 (by kernel_rfl) ?_ ?_
  · refine sc (fun _ _ _ _ _ _ => px (or_assign rfl)) ?_
    exact steps_nil
  intro own18 a18 w18 hd18 hz18 hk18 hf18 hE18
  have e18_0 := (hk18 0 rfl).trans ha0
  have hX18 := es_ hE0 hE18
  refine fl_seq (fun Q19 hn19 hp19 => ?_)
  obtain ⟨r20, hr20, hs⟩ := obind hs
  refine rg0_seq 6 own18 (bz 3) [⟨[], [0], [], Fct.val 3 (.string k1)⟩, ⟨[0], [], [], Fct.val 4 (.bool r20)⟩, ⟨[1], [], [], Fct.val 5 (.bool (!r20))⟩] hz18 hd18 (by kernel_rfl) ?_ ?_
  · refine sc (fun _ _ _ _ s _ => px (or_move (s.1.trans e18_0))) ?_
    refine sc (fun _ _ _ f _ _ => px (or_call cf31 (args1 f.1) (text_Name_w _ k1  r20 hr20) post_val)) ?_
    refine sc (fun _ _ _ f _ _ => px (or_not f.1 rfl)) ?_
    exact steps_nil
  intro own21 a21 w21 hd21 hz21 hk21 hf21 hE21
  obtain ⟨(e21_5 : a21.eval (.tmp 5) = .bool (!r20)), -⟩ := hf21 [2] rfl
  have hX21 := es_ hX18 hE21
  refine fl_cond e21_5 hs (fun c22 hs => ?_) (fun c22 hs => ?_)
  · refine rg0_seq 6 own21 (bz 1) [⟨[], [], [], Fct.val 2 (.int .i64 13)⟩] hz21 hd21 (by kernel_rfl) ?_ ?_
    · refine sc (fun _ _ _ _ _ _ => px (or_assign rfl)) ?_
      exact steps_nil
    intro own23 a23 w23 hd23 hz23 hk23 hf23 hE23
    obtain ⟨(e23_2 : a23.eval (.tmp 2) = .int .i64 13), -⟩ := hf23 [0] rfl
    have hX23 := es_ hX21 hE23
    refine fl_ret ?_
    refine hp19 _ _ _ rfl ?_
    obtain rfl := osome hs
    exact hret _ _ _ _ (.inl rfl) hd23 (results1_ rfl (RVal.tmp_ e23_2)) ⟨own23, rfl, hX23⟩
  refine fl_skip ?_
  refine hn19 _ _ ?_
  refine rg0_seq 6 own21 (bz 1) [⟨[], [], [], Fct.val 2 (.int .i64 0)⟩] hz21 hd21 (by kernel_rfl) ?_ ?_
  · refine sc (fun _ _ _ _ _ _ => px (or_assign rfl)) ?_
    exact steps_nil
  intro own24 a24 w24 hd24 hz24 hk24 hf24 hE24
  obtain ⟨(e24_2 : a24.eval (.tmp 2) = .int .i64 0), -⟩ := hf24 [0] rfl
  have hX24 := es_ hX21 hE24
  refine fl_ret ?_
  obtain rfl := osome hs
  exact hret _ _ _ _ (.inl rfl) hd24 (results1_ rfl (RVal.tmp_ e24_2)) ⟨own24, rfl, hX24⟩
theorem table_once_string_Check_1_w (w : World) (l1 : List ByteArray) (Al1 : Option Addr) (cl1 : Nat) (hl1 : RdO (fun _ => 0) [0] w R9 Al1 cl1 l1) (r : Int) (hs : table_once_string_Check_1 l1 = some r) :
    Calls Try.prog 29 #[.slice Al1 l1.length cl1, .func (.func 30) #[] #[]] w fun e w' => ∃ own' : Own, e = .returned (.int .i64 r) ∧ Evo [] (fun _ => 0) own' w w' := by
  refine fl_enter (n := 28) rfl rfl rfl (Nat.le_of_ble_eq_true rfl) ?_
  intro a0 Q hd0 hz0 harg hret
  have ha0 := harg 0 _ rfl
  have ha1 := harg 1 _ rfl
  clear harg
  have hE0 : Evo [] (fun _ => 0) (fun _ => 0) w w := Evo.refl _ _ _
  refine rg0_seq 28 (fun _ => 0) (bz 1) [⟨[], [], [], Fct.val 4 (.int .i64 0)⟩] hz0 hd0 (by kernel_rfl) ?_ ?_
  · refine sc (fun _ _ _ _ _ _ => px (or_assign rfl)) ?_
    exact steps_nil
  intro own90 a90 w90 hd90 hz90 hk90 hf90 hE90
  have e90_0 := (hk90 0 rfl).trans ha0
  have e90_1 := (hk90 1 rfl).trans ha1
  have hX90 := es_ hE0 hE90
  have b90_Al1 := RdO.evo rfl hE90 hl1
  refine rg0_seq 28 own90 (bz 2) [⟨[], [], [], Fct.map_ 92 9 vv9 vv4 ([] : List (ByteArray × Bool))⟩, ⟨[0], [], [], Fct.rel [5, 9] (fun l => ∀ (g91 : Nat), l.getD 1 undef = .map (some g91) → l.getD 0 undef = .map (some g91))⟩] hz90 hd90 (by kernel_rfl) ?_ ?_
  · refine sc (fun _ _ _ _ _ _ => px (or_makeMap)) ?_
    refine sc (fun own a wx hf hsl hE => ?_) ?_
    · obtain ⟨⟨g91, (f_9 : a.eval (.tmp 9) = .map (some g91)), b_g91⟩, -⟩ := hf
      exact px (or_mono (f := Fct.val 5 (.map (some g91))) (or_assign f_9) (fun own' a' w' v' hp h => fun _ h0' => by cases (f_9.symm.trans ((hp.2 9 (by decide)).symm.trans h0')); exact h))
    exact steps_nil
  intro own93 a93 w93 hd93 hz93 hk93 hf93 hE93
  have e93_0 := (hk93 0 rfl).trans e90_0
  have e93_1 := (hk93 1 rfl).trans e90_1
  obtain ⟨⟨g91, (f_9 : a93.eval (.tmp 9) = .map (some g91)), (b93_g91 : MpO own93 92 w93 g91 vv9 vv4 ([] : List (ByteArray × Bool)))⟩, (q_5 : ∀ (g91 : Nat), a93.eval (.tmp 9) = .map (some g91) → a93.eval (.tmp 5) = .map (some g91)), -⟩ := hf93 [0, 1] rfl
  have e93_5 := q_5 _ f_9
  have hX93 := es_ hX90 hE93
  have b93_Al1 := RdO.evo rfl hE93 b90_Al1
  refine fl_seq (fun Q94 hn94 hp94 => ?_)
  refine rg0_seq 28 own93 [0, 1, 0] [⟨[], [0], [], Fct.val 10 (.slice Al1 l1.length cl1)⟩, ⟨[0], [], [], Fct.val 11 (.int .i64 (l1.length : Int))⟩, ⟨[], [], [], Fct.val 12 (.int .i64 0)⟩] hz93 hd93 (by kernel_rfl) ?_ ?_
  · refine sc (fun _ _ _ _ s _ => px (or_move (s.1.trans e93_0))) ?_
    refine sc (fun _ _ _ f _ _ => px (or_len tu34 f.1 rfl)) ?_
    refine sc (fun _ _ _ _ _ _ => px (or_move rfl)) ?_
    exact steps_nil
  intro own95 a95 w95 hd95 hz95 hk95 hf95 hE95
  have e95_1 := (hk95 1 rfl).trans e93_1
  have e95_5 := (hk95 5 rfl).trans e93_5
  obtain ⟨(e95_10 : a95.eval (.tmp 10) = .slice Al1 l1.length cl1), (e95_11 : a95.eval (.tmp 11) = .int .i64 (l1.length : Int)), (e95_12 : a95.eval (.tmp 12) = .int .i64 0), -⟩ := hf95 [0, 1, 2] rfl
  have hX95 := es_ hX93 hE95
  have b95_Al1 := RdO.evo rfl hE95 b93_Al1
  have b95_g91 := MpO.evo (by decide) hE95 b93_g91
  refine fl_block (fun Q96 hn96 hx96 hp96 => ?_)
  refine fl_loop (body := (fun s => table_once_string_Check_1_b1 l1 s.1 s.2)) (z := r) (show loopO _ _ = _ from hs) (fun (s : (List (ByteArray × Bool)) × Int) a wx => match s with | (met121, x122) => ∃ (ox : Own), a.defers = [] ∧ a.tmps.size = 28 ∧ a.eval (.tmp 1) = .func (.func 30) #[] #[] ∧ a.eval (.tmp 5) = .map (some g91) ∧ a.eval (.tmp 10) = .slice Al1 l1.length cl1 ∧ a.eval (.tmp 11) = .int .i64 (l1.length : Int) ∧ a.eval (.tmp 12) = .int .i64 x122 ∧ Evo [] (fun _ => 0) ox w wx ∧ MpO ox 120 wx g91 vv9 vv4 met121 ∧ RdO ox [0] wx R9 Al1 cl1 l1) ?_ ?_
  · exact ⟨(rl [(92, 120)] own95), hd95, hz95, e95_1, e95_5, e95_10, e95_11, e95_12, (Evo.rl_ hX95 (fun _ => Nat.le_refl 0) rfl), (MpO.rl_ (mm := [(92, 120)]) b95_g91), (RdO.rl_ (mm := [(92, 120)]) b95_Al1)⟩
  · rintro ⟨met121, x122⟩ zz145 a145 w145 ⟨own145, hd146, hz146, e146_1, e146_5, e146_10, e146_11, e146_12, hE146, b146_g91, b146_Al1⟩ hs Q145 hn145 hp145 hz145
    have hs : table_once_string_Check_1_b1 l1 met121 x122 = some zz145 := hs
    refine rg0_seq 28 own145 (bz 1) [⟨[], [12, 11], [], Fct.val 13 (.bool (decide (x122 < (l1.length : Int))))⟩] hz146 hd146 (by kernel_rfl) ?_ ?_
    · refine sc (fun _ _ _ _ s _ => px (or_lss (s.1.trans e146_12) (s.2.1.trans e146_11) rfl)) ?_
      exact steps_nil
    intro own147 a147 w147 hd147 hz147 hk147 hf147 hE147
    have e147_1 := (hk147 1 rfl).trans e146_1
    have e147_5 := (hk147 5 rfl).trans e146_5
    have e147_10 := (hk147 10 rfl).trans e146_10
    have e147_11 := (hk147 11 rfl).trans e146_11
    have e147_12 := (hk147 12 rfl).trans e146_12
    obtain ⟨(e147_13 : a147.eval (.tmp 13) = .bool (decide (x122 < (l1.length : Int)))), -⟩ := hf147 [0] rfl
    have hX147 := es_ hE146 hE147
    have b147_g91 := MpO.evo (by decide) hE147 b146_g91
    have b147_Al1 := RdO.evo rfl hE147 b146_Al1
    refine fl_seq (fun Q148 hn148 hp148 => ?_)
    refine fl_cond e147_13 hs (fun c149 hs => ?_) (fun c149 hs => ?_)
    · refine fl_skip ?_
      refine hn148 _ _ ?_
      refine fl_seq (fun Q150 hn150 hp150 => ?_)
      refine fl_block (fun Q151 hn151 hx151 hp151 => ?_)
      obtain ⟨x152, hx152, hs⟩ := obind hs
      refine rg0_seq 28 own147 (bz 3) [⟨[], [10, 12], [], Fct.val 14 (.pointer (some ((adr Al1).add ((x122 : Int).toNat * R9.s))))⟩, ⟨[0], [], [], Fct.val 15 (.string x152)⟩, ⟨[1], [], [], Fct.val 7 (.string x152)⟩] hz147 hd147 (by kernel_rfl) ?_ ?_
      · refine sc (fun _ _ _ _ s _ => px (or_index (R := R9) (l := l1) tl34 (s.1.trans e147_10) (s.2.1.trans e147_12) (RdO.some_ b147_Al1 hx152) hx152)) ?_
        refine sc (fun _ _ _ f _ hE => px (or_load1 to9 f.1 (CellsAt.zero (RdO.cells (F := E9) (RdO.evo rfl hE b147_Al1) hx152) rfl))) ?_
        refine sc (fun _ _ _ f _ _ => px (or_assign f.1)) ?_
        exact steps_nil
      intro own153 a153 w153 hd153 hz153 hk153 hf153 hE153
      have e153_1 := (hk153 1 rfl).trans e147_1
      have e153_5 := (hk153 5 rfl).trans e147_5
      have e153_10 := (hk153 10 rfl).trans e147_10
      have e153_11 := (hk153 11 rfl).trans e147_11
      have e153_12 := (hk153 12 rfl).trans e147_12
      obtain ⟨(e153_7 : a153.eval (.tmp 7) = .string x152), -⟩ := hf153 [2] rfl
      have hX153 := es_ hX147 hE153
      have b153_g91 := MpO.evo (by decide) hE153 b147_g91
      have b153_Al1 := RdO.evo rfl hE153 b147_Al1
      refine fl_seq (fun Q154 hn154 hp154 => ?_)
      obtain ⟨r155, hr155, hs⟩ := obind hs
      refine rg0_seq 28 own153 [0, 0, 3, 7] [⟨[], [1], [], Fct.val 16 (.func (.func 30) #[] #[])⟩, ⟨[], [7], [], Fct.val 17 (.string x152)⟩, ⟨[0, 1], [], [], Fct.val 18 (.int .i64 r155)⟩, ⟨[2], [], [], Fct.val 8 (.int .i64 r155)⟩] hz153 hd153 (by kernel_rfl) ?_ ?_
      · refine sc (fun _ _ _ _ s _ => px (or_move (s.1.trans e153_1))) ?_
        refine sc (fun _ _ _ _ s _ => px (or_move (s.1.trans e153_7))) ?_
        refine sc (fun _ _ _ f _ _ => px (or_callf cf30 f.1 (args1 f.2.1) rfl (table_Table_Check_1_w _ x152  r155 hr155) post_val)) ?_
        refine sc (fun _ _ _ f _ _ => px (or_assign f.1)) ?_
        exact steps_nil
      intro own156 a156 w156 hd156 hz156 hk156 hf156 hE156
      have e156_1 := (hk156 1 rfl).trans e153_1
      have e156_5 := (hk156 5 rfl).trans e153_5
      have e156_7 := (hk156 7 rfl).trans e153_7
      have e156_10 := (hk156 10 rfl).trans e153_10
      have e156_11 := (hk156 11 rfl).trans e153_11
      have e156_12 := (hk156 12 rfl).trans e153_12
      obtain ⟨(e156_8 : a156.eval (.tmp 8) = .int .i64 r155), -⟩ := hf156 [3] rfl
      have hX156 := es_ hX153 hE156
      have b156_g91 := MpO.evo (by decide) hE156 b153_g91
      have b156_Al1 := RdO.evo rfl hE156 b153_Al1
      refine rg0_seq 28 own156 (bz 2) [⟨[], [8], [], Fct.val 19 (.int .i64 r155)⟩, ⟨[0], [], [], Fct.val 20 (.bool (!decide (r155 = 0)))⟩] hz156 hd156 (by kernel_rfl) ?_ ?_
      · refine sc (fun _ _ _ _ s _ => px (or_move (s.1.trans e156_8))) ?_
        refine sc (fun _ _ _ f _ _ => px (or_neq f.1 rfl rfl)) ?_
        exact steps_nil
      intro own157 a157 w157 hd157 hz157 hk157 hf157 hE157
      have e157_1 := (hk157 1 rfl).trans e156_1
      have e157_5 := (hk157 5 rfl).trans e156_5
      have e157_7 := (hk157 7 rfl).trans e156_7
      have e157_8 := (hk157 8 rfl).trans e156_8
      have e157_10 := (hk157 10 rfl).trans e156_10
      have e157_11 := (hk157 11 rfl).trans e156_11
      have e157_12 := (hk157 12 rfl).trans e156_12
      obtain ⟨(e157_20 : a157.eval (.tmp 20) = .bool (!decide (r155 = 0))), -⟩ := hf157 [1] rfl
      have hX157 := es_ hX156 hE157
      have b157_g91 := MpO.evo (by decide) hE157 b156_g91
      have b157_Al1 := RdO.evo rfl hE157 b156_Al1
      refine fl_cond e157_20 hs (fun c158 hs => ?_) (fun c158 hs => ?_)
      · refine rg0_seq 28 own157 (bz 2) [⟨[], [8], [], Fct.val 21 (.int .i64 r155)⟩, ⟨[0], [], [], Fct.val 4 (.int .i64 r155)⟩] hz157 hd157 (by kernel_rfl) ?_ ?_
        · refine sc (fun _ _ _ _ s _ => px (or_move (s.1.trans e157_8))) ?_
          refine sc (fun _ _ _ f _ _ => px (or_assign f.1)) ?_
          exact steps_nil
        intro own159 a159 w159 hd159 hz159 hk159 hf159 hE159
        obtain ⟨(e159_4 : a159.eval (.tmp 4) = .int .i64 r155), -⟩ := hf159 [1] rfl
        have hX159 := es_ hX157 hE159
        refine fl_ret ?_
        refine hp154 _ _ _ rfl ?_
        refine hp151 _ _ _ rfl ?_
        refine hp150 _ _ _ rfl ?_
        replace hs := hz145 _ hs
        refine hp145 _ _ _ rfl ?_
        refine hp96 _ _ _ rfl ?_
        refine hp94 _ _ _ rfl ?_
        obtain rfl := (osome hs).symm
        exact hret _ _ _ _ (.inl rfl) hd159 (results1_ rfl (RVal.tmp_ e159_4)) ⟨own159, rfl, hX159⟩
      refine fl_skip ?_
      refine hn154 _ _ ?_
      refine fl_seq (fun Q160 hn160 hp160 => ?_)
      refine rg0_seq 28 own157 [0, 0, 3] [⟨[], [5], [], Fct.val 22 (.map (some g91))⟩, ⟨[], [7], [], Fct.val 23 (.string x152)⟩, ⟨[0, 1], [], [], Fct.val 24 (.bool ((lkM met121 x152).getD false))⟩] hz157 hd157 (by kernel_rfl) ?_ ?_
      · refine sc (fun _ _ _ _ s _ => px (or_move (s.1.trans e157_5))) ?_
        refine sc (fun _ _ _ _ s _ => px (or_move (s.1.trans e157_7))) ?_
        refine sc (fun _ _ _ f _ hE => px (or_lookupE (kf := vv9) (vf := vv4) (k := x152) (dv := false) ko9 tm74 tzv74 f.1 f.2.1 (MpO.evo (by decide) hE b157_g91) rfl)) ?_
        exact steps_nil
      intro own161 a161 w161 hd161 hz161 hk161 hf161 hE161
      have e161_1 := (hk161 1 rfl).trans e157_1
      have e161_5 := (hk161 5 rfl).trans e157_5
      have e161_7 := (hk161 7 rfl).trans e157_7
      have e161_10 := (hk161 10 rfl).trans e157_10
      have e161_11 := (hk161 11 rfl).trans e157_11
      have e161_12 := (hk161 12 rfl).trans e157_12
      obtain ⟨(e161_24 : a161.eval (.tmp 24) = .bool ((lkM met121 x152).getD false)), -⟩ := hf161 [2] rfl
      have hX161 := es_ hX157 hE161
      have b161_g91 := MpO.evo (by decide) hE161 b157_g91
      have b161_Al1 := RdO.evo rfl hE161 b157_Al1
      refine fl_cond e161_24 hs (fun c162 hs => ?_) (fun c162 hs => ?_)
      · refine rg0_seq 28 own161 (bz 1) [⟨[], [], [], Fct.val 4 (.int .i64 8)⟩] hz161 hd161 (by kernel_rfl) ?_ ?_
        · refine sc (fun _ _ _ _ _ _ => px (or_assign rfl)) ?_
          exact steps_nil
        intro own163 a163 w163 hd163 hz163 hk163 hf163 hE163
        obtain ⟨(e163_4 : a163.eval (.tmp 4) = .int .i64 8), -⟩ := hf163 [0] rfl
        have hX163 := es_ hX161 hE163
        refine fl_ret ?_
        refine hp160 _ _ _ rfl ?_
        refine hp151 _ _ _ rfl ?_
        refine hp150 _ _ _ rfl ?_
        replace hs := hz145 _ hs
        refine hp145 _ _ _ rfl ?_
        refine hp96 _ _ _ rfl ?_
        refine hp94 _ _ _ rfl ?_
        obtain rfl := osome hs
        exact hret _ _ _ _ (.inl rfl) hd163 (results1_ rfl (RVal.tmp_ e163_4)) ⟨own163, rfl, hX163⟩
      refine fl_skip ?_
      refine hn160 _ _ ?_
      obtain ⟨D164, hD164, hs⟩ := obind hs
      refine rg_plain (n := 28) (rs := [Fct.mapAt 120 g91 vv9 vv4 met121]) (own0 := own161) (K := [120]) (bs := [0, 0, 3]) (ds := [⟨[], [5], [], Fct.val 25 (.map (some g91))⟩, ⟨[], [7], [], Fct.val 26 (.string x152)⟩, ⟨[0, 1, 3], [], [120], Fct.mapAt 165 g91 vv9 vv4 D164⟩]) (by kernel_rfl) hz161 hd161 (by simp only [List.forall_mem_cons]; exact ⟨b161_g91, fun _ h => nomatch h⟩) ?_ ?_
      · refine sc (fun _ _ _ _ s _ => px (or_move (s.1.trans e161_5))) ?_
        refine sc (fun _ _ _ _ s _ => px (or_move (s.1.trans e161_7))) ?_
        refine sc (fun own a wx hf hsl hE => ?_) ?_
        · obtain ⟨f_25, f_26, b_g91, -⟩ := hf
          exact px (or_mapUpdate (kf := vv9) (vf := vv4) (k := x152) (v := true) (lab := 120) (lab2 := 165) ko9 tm74 f_25 f_26 rfl b_g91 (osome hD164).symm (mem_of rfl) (by decide) (fun own' a' w' hb => hb))
        exact steps_nil
      intro own166 a166 w166 hd166 hz166 hk166 hf166 hE166
      have e166_1 := (hk166 1 rfl).trans e161_1
      have e166_5 := (hk166 5 rfl).trans e161_5
      have e166_10 := (hk166 10 rfl).trans e161_10
      have e166_11 := (hk166 11 rfl).trans e161_11
      have e166_12 := (hk166 12 rfl).trans e161_12
      obtain ⟨(b166_g91 : MpO own166 165 w166 g91 vv9 vv4 D164), -⟩ := hf166 [2] rfl
      have hX166 := es_ hX161 hE166
      have b166_Al1 := RdO.evo rfl hE166 b161_Al1
      refine hn151 _ _ ?_
      refine hn150 _ _ ?_
      refine rg0 28 own166 (bz 2) [⟨[], [12], [], Fct.val 27 (.int .i64 (ad x122 1))⟩, ⟨[0], [], [], Fct.val 12 (.int .i64 (ad x122 1))⟩] hz166 hd166 (by kernel_rfl) ?_ ?_
      · refine sc (fun _ _ _ _ s _ => px (or_add (s.1.trans e166_12) rfl rfl)) ?_
        refine sc (fun _ _ _ f _ _ => px (or_move f.1)) ?_
        exact steps_nil
      intro own167 a167 w167 hd167 hz167 hk167 hf167 hE167
      have e167_1 := (hk167 1 rfl).trans e166_1
      have e167_5 := (hk167 5 rfl).trans e166_5
      have e167_10 := (hk167 10 rfl).trans e166_10
      have e167_11 := (hk167 11 rfl).trans e166_11
      obtain ⟨(e167_12 : a167.eval (.tmp 12) = .int .i64 (ad x122 1)), -⟩ := hf167 [1] rfl
      have hX167 := es_ hX166 hE167
      have b167_Al1 := RdO.evo rfl hE167 b166_Al1
      have b167_g91 := MpO.evo (by decide) hE167 b166_g91
      exact hn145 _ _ _ hs ⟨(rl [(165, 120)] own167), hd167, hz167, e167_1, e167_5, e167_10, e167_11, e167_12, (Evo.rl_ hX167 (fun _ => Nat.le_refl 0) rfl), (MpO.rl_ (mm := [(165, 120)]) b167_g91), (RdO.rl_ (mm := [(165, 120)]) b167_Al1)⟩
    refine fl_exit ?_
    refine hp148 _ _ _ rfl ?_
    replace hs := hz145 _ hs
    refine hp145 _ _ _ rfl ?_
    refine hx96 _ _ ?_
    refine hn94 _ _ ?_
    refine rg0_seq 28 own147 (bz 1) [⟨[], [], [], Fct.val 4 (.int .i64 0)⟩] hz147 hd147 (by kernel_rfl) ?_ ?_
    · refine sc (fun _ _ _ _ _ _ => px (or_assign rfl)) ?_
      exact steps_nil
    intro own168 a168 w168 hd168 hz168 hk168 hf168 hE168
    obtain ⟨(e168_4 : a168.eval (.tmp 4) = .int .i64 0), -⟩ := hf168 [0] rfl
    have hX168 := es_ hX147 hE168
    refine fl_ret ?_
    obtain rfl := osome hs
    exact hret _ _ _ _ (.inl rfl) hd168 (results1_ rfl (RVal.tmp_ e168_4)) ⟨own168, rfl, hX168⟩
theorem table_once_value_Value_Check_w (w : World) (l1 : List (Int × ByteArray × Int)) (Al1 : Option Addr) (cl1 : Nat) (hl1 : RdO (fun _ => 0) [0] w R60 Al1 cl1 l1) (r : Int) (hs : table_once_value_Value_Check l1 = some r) :
    Calls Try.prog 32 #[.slice Al1 l1.length cl1, .func (.func 33) #[] #[]] w fun e w' => ∃ own' : Own, e = .returned (.int .i64 r) ∧ Evo [] (fun _ => 0) own' w w' := by
  refine fl_enter (n := 28) rfl rfl rfl (Nat.le_of_ble_eq_true rfl) ?_
  intro a0 Q hd0 hz0 harg hret
  have ha0 := harg 0 _ rfl
  have ha1 := harg 1 _ rfl
  clear harg
  have hE0 : Evo [] (fun _ => 0) (fun _ => 0) w w := Evo.refl _ _ _
  refine rg0_seq 28 (fun _ => 0) (bz 1) [⟨[], [], [], Fct.val 4 (.int .i64 0)⟩] hz0 hd0 (by kernel_rfl) ?_ ?_
  · refine sc (fun _ _ _ _ _ _ => px (or_assign rfl)) ?_
    exact steps_nil
  intro own99 a99 w99 hd99 hz99 hk99 hf99 hE99
  have e99_0 := (hk99 0 rfl).trans ha0
  have e99_1 := (hk99 1 rfl).trans ha1
  have hX99 := es_ hE0 hE99
  have b99_Al1 := RdO.evo rfl hE99 hl1
  refine rg0_seq 28 own99 (bz 2) [⟨[], [], [], Fct.map_ 101 9 vv60 vv4 ([] : List ((Int × ByteArray × Int) × Bool))⟩, ⟨[0], [], [], Fct.rel [5, 9] (fun l => ∀ (g100 : Nat), l.getD 1 undef = .map (some g100) → l.getD 0 undef = .map (some g100))⟩] hz99 hd99 (by kernel_rfl) ?_ ?_
  · refine sc (fun _ _ _ _ _ _ => px (or_makeMap)) ?_
    refine sc (fun own a wx hf hsl hE => ?_) ?_
    · obtain ⟨⟨g100, (f_9 : a.eval (.tmp 9) = .map (some g100)), b_g100⟩, -⟩ := hf
      exact px (or_mono (f := Fct.val 5 (.map (some g100))) (or_assign f_9) (fun own' a' w' v' hp h => fun _ h0' => by cases (f_9.symm.trans ((hp.2 9 (by decide)).symm.trans h0')); exact h))
    exact steps_nil
  intro own102 a102 w102 hd102 hz102 hk102 hf102 hE102
  have e102_0 := (hk102 0 rfl).trans e99_0
  have e102_1 := (hk102 1 rfl).trans e99_1
  obtain ⟨⟨g100, (f_9 : a102.eval (.tmp 9) = .map (some g100)), (b102_g100 : MpO own102 101 w102 g100 vv60 vv4 ([] : List ((Int × ByteArray × Int) × Bool)))⟩, (q_5 : ∀ (g100 : Nat), a102.eval (.tmp 9) = .map (some g100) → a102.eval (.tmp 5) = .map (some g100)), -⟩ := hf102 [0, 1] rfl
  have e102_5 := q_5 _ f_9
  have hX102 := es_ hX99 hE102
  have b102_Al1 := RdO.evo rfl hE102 b99_Al1
  refine fl_seq (fun Q103 hn103 hp103 => ?_)
  refine rg0_seq 28 own102 [0, 1, 0] [⟨[], [0], [], Fct.val 10 (.slice Al1 l1.length cl1)⟩, ⟨[0], [], [], Fct.val 11 (.int .i64 (l1.length : Int))⟩, ⟨[], [], [], Fct.val 12 (.int .i64 0)⟩] hz102 hd102 (by kernel_rfl) ?_ ?_
  · refine sc (fun _ _ _ _ s _ => px (or_move (s.1.trans e102_0))) ?_
    refine sc (fun _ _ _ f _ _ => px (or_len tu41 f.1 rfl)) ?_
    refine sc (fun _ _ _ _ _ _ => px (or_move rfl)) ?_
    exact steps_nil
  intro own104 a104 w104 hd104 hz104 hk104 hf104 hE104
  have e104_1 := (hk104 1 rfl).trans e102_1
  have e104_5 := (hk104 5 rfl).trans e102_5
  obtain ⟨(e104_10 : a104.eval (.tmp 10) = .slice Al1 l1.length cl1), (e104_11 : a104.eval (.tmp 11) = .int .i64 (l1.length : Int)), (e104_12 : a104.eval (.tmp 12) = .int .i64 0), -⟩ := hf104 [0, 1, 2] rfl
  have hX104 := es_ hX102 hE104
  have b104_Al1 := RdO.evo rfl hE104 b102_Al1
  have b104_g100 := MpO.evo (by decide) hE104 b102_g100
  refine fl_block (fun Q105 hn105 hx105 hp105 => ?_)
  refine fl_loop (body := (fun s => table_once_value_Value_Check_b1 l1 s.1 s.2)) (z := r) (show loopO _ _ = _ from hs) (fun (s : (List ((Int × ByteArray × Int) × Bool)) × Int) a wx => match s with | (met133, x134) => ∃ (ox : Own), a.defers = [] ∧ a.tmps.size = 28 ∧ a.eval (.tmp 1) = .func (.func 33) #[] #[] ∧ a.eval (.tmp 5) = .map (some g100) ∧ a.eval (.tmp 10) = .slice Al1 l1.length cl1 ∧ a.eval (.tmp 11) = .int .i64 (l1.length : Int) ∧ a.eval (.tmp 12) = .int .i64 x134 ∧ Evo [] (fun _ => 0) ox w wx ∧ MpO ox 132 wx g100 vv60 vv4 met133 ∧ RdO ox [0] wx R60 Al1 cl1 l1) ?_ ?_
  · exact ⟨(rl [(101, 132)] own104), hd104, hz104, e104_1, e104_5, e104_10, e104_11, e104_12, (Evo.rl_ hX104 (fun _ => Nat.le_refl 0) rfl), (MpO.rl_ (mm := [(101, 132)]) b104_g100), (RdO.rl_ (mm := [(101, 132)]) b104_Al1)⟩
  · rintro ⟨met133, x134⟩ zz160 a160 w160 ⟨own160, hd161, hz161, e161_1, e161_5, e161_10, e161_11, e161_12, hE161, b161_g100, b161_Al1⟩ hs Q160 hn160 hp160 hz160
    have hs : table_once_value_Value_Check_b1 l1 met133 x134 = some zz160 := hs
    refine rg0_seq 28 own160 (bz 1) [⟨[], [12, 11], [], Fct.val 13 (.bool (decide (x134 < (l1.length : Int))))⟩] hz161 hd161 (by kernel_rfl) ?_ ?_
    · refine sc (fun _ _ _ _ s _ => px (or_lss (s.1.trans e161_12) (s.2.1.trans e161_11) rfl)) ?_
      exact steps_nil
    intro own162 a162 w162 hd162 hz162 hk162 hf162 hE162
    have e162_1 := (hk162 1 rfl).trans e161_1
    have e162_5 := (hk162 5 rfl).trans e161_5
    have e162_10 := (hk162 10 rfl).trans e161_10
    have e162_11 := (hk162 11 rfl).trans e161_11
    have e162_12 := (hk162 12 rfl).trans e161_12
    obtain ⟨(e162_13 : a162.eval (.tmp 13) = .bool (decide (x134 < (l1.length : Int)))), -⟩ := hf162 [0] rfl
    have hX162 := es_ hE161 hE162
    have b162_g100 := MpO.evo (by decide) hE162 b161_g100
    have b162_Al1 := RdO.evo rfl hE162 b161_Al1
    refine fl_seq (fun Q163 hn163 hp163 => ?_)
    refine fl_cond e162_13 hs (fun c164 hs => ?_) (fun c164 hs => ?_)
    · refine fl_skip ?_
      refine hn163 _ _ ?_
      refine fl_seq (fun Q165 hn165 hp165 => ?_)
      refine fl_block (fun Q166 hn166 hx166 hp166 => ?_)
      obtain ⟨x167, hx167, hs⟩ := obind hs
      refine rg_plain_seq (n := 28) (rs := []) (own0 := own162) (K := [169]) (bs := [0, 1, 0, 7]) (ds := [⟨[], [10, 12], [], Fct.val 14 (.pointer (some ((adr Al1).add ((x134 : Int).toNat * R60.s))))⟩, ⟨[0], [], [], Fct.val 15 (.agg #[.int .i64 x167.1, .string x167.2.1, .int .i64 x167.2.2])⟩, ⟨[], [], [], Fct.blk 169 7 (fun g => .pointer (some ⟨g, 0, none⟩)) 60 #[.int .i64 0, .string ByteArray.empty, .int .i64 0]⟩, ⟨[2, 1], [], [169], Fct.blk 170 7 (fun g => .pointer (some ⟨g, 0, none⟩)) 60 #[.int .i64 x167.1, .string x167.2.1, .int .i64 x167.2.2]⟩]) (by kernel_rfl) hz162 hd162 nm_ ?_ ?_
      · refine sc (fun _ _ _ _ s _ => px (or_index (R := R60) (l := l1) tl41 (s.1.trans e162_10) (s.2.1.trans e162_12) (RdO.some_ b162_Al1 hx167) hx167)) ?_
        refine sc (fun _ _ _ f _ hE => px (or_load (l := E60.f x167) ta60 f.1 (RdO.cells (F := E60) (RdO.evo rfl hE b162_Al1) hx167) rfl)) ?_
        refine sc (fun _ _ _ _ _ _ => px (or_new [] rfl rfl trivial (by kernel_rfl))) ?_
        refine sc (fun own a wx hf hsl hE => ?_) ?_
        · obtain ⟨⟨g168, f_7, b_g168⟩, f_15, -⟩ := hf
          exact px (or_store (l := #[.int .i64 x167.1, .string x167.2.1, .int .i64 x167.2.2]) (lab := 169) (lab2 := 170) ts60 f_7 f_15 b_g168 (by simp) (by kernel_rfl) (mem_of rfl) (by decide) (by kernel_rfl) (fun own' a' w' ha hb => ⟨_, (ha 7).trans f_7, hb⟩))
        exact steps_nil
      intro own171 a171 w171 hd171 hz171 hk171 hf171 hE171
      have e171_1 := (hk171 1 rfl).trans e162_1
      have e171_5 := (hk171 5 rfl).trans e162_5
      have e171_10 := (hk171 10 rfl).trans e162_10
      have e171_11 := (hk171 11 rfl).trans e162_11
      have e171_12 := (hk171 12 rfl).trans e162_12
      obtain ⟨⟨g168, (e171_7 : a171.eval (.tmp 7) = .pointer (some ⟨g168, 0, none⟩)), (b171_g168 : BlkO own171 170 w171 g168 60 #[.int .i64 x167.1, .string x167.2.1, .int .i64 x167.2.2])⟩, -⟩ := hf171 [3] rfl
      have hX171 := es_ hX162 hE171
      have b171_g100 := MpO.evo (by decide) hE171 b162_g100
      have b171_Al1 := RdO.evo rfl hE171 b162_Al1
      refine fl_seq (fun Q172 hn172 hp172 => ?_)
      obtain ⟨r173, hr173, hs⟩ := obind hs
      refine rg0_seq 28 own171 [0, 0, 3, 7] [⟨[], [1], [], Fct.val 16 (.func (.func 33) #[] #[])⟩, ⟨[], [7], [], Fct.val 17 (.agg #[.int .i64 x167.1, .string x167.2.1, .int .i64 x167.2.2])⟩, ⟨[0, 1], [], [], Fct.val 18 (.int .i64 r173)⟩, ⟨[2], [], [], Fct.val 8 (.int .i64 r173)⟩] hz171 hd171 (by kernel_rfl) ?_ ?_
      · refine sc (fun _ _ _ _ s _ => px (or_move (s.1.trans e171_1))) ?_
        refine sc (fun _ _ _ _ s hE => px (or_load (l := [.int .i64 x167.1, .string x167.2.1, .int .i64 x167.2.2]) ta60 (s.1.trans e171_7) (Blk.cellsFrom (be_ hE b171_g168).2 0 rfl) rfl)) ?_
        refine sc (fun _ _ _ f _ _ => px (or_callf cf33 f.1 (args1 f.2.1) rfl (value_Check_w _ x167  r173 hr173) post_val)) ?_
        refine sc (fun _ _ _ f _ _ => px (or_assign f.1)) ?_
        exact steps_nil
      intro own174 a174 w174 hd174 hz174 hk174 hf174 hE174
      have e174_1 := (hk174 1 rfl).trans e171_1
      have e174_5 := (hk174 5 rfl).trans e171_5
      have e174_7 := (hk174 7 rfl).trans e171_7
      have e174_10 := (hk174 10 rfl).trans e171_10
      have e174_11 := (hk174 11 rfl).trans e171_11
      have e174_12 := (hk174 12 rfl).trans e171_12
      obtain ⟨(e174_8 : a174.eval (.tmp 8) = .int .i64 r173), -⟩ := hf174 [3] rfl
      have hX174 := es_ hX171 hE174
      have b174_g100 := MpO.evo (by decide) hE174 b171_g100
      have b174_Al1 := RdO.evo rfl hE174 b171_Al1
      have b174_g168 := be_ hE174 b171_g168
      refine rg0_seq 28 own174 (bz 2) [⟨[], [8], [], Fct.val 19 (.int .i64 r173)⟩, ⟨[0], [], [], Fct.val 20 (.bool (!decide (r173 = 0)))⟩] hz174 hd174 (by kernel_rfl) ?_ ?_
      · refine sc (fun _ _ _ _ s _ => px (or_move (s.1.trans e174_8))) ?_
        refine sc (fun _ _ _ f _ _ => px (or_neq f.1 rfl rfl)) ?_
        exact steps_nil
      intro own175 a175 w175 hd175 hz175 hk175 hf175 hE175
      have e175_1 := (hk175 1 rfl).trans e174_1
      have e175_5 := (hk175 5 rfl).trans e174_5
      have e175_7 := (hk175 7 rfl).trans e174_7
      have e175_8 := (hk175 8 rfl).trans e174_8
      have e175_10 := (hk175 10 rfl).trans e174_10
      have e175_11 := (hk175 11 rfl).trans e174_11
      have e175_12 := (hk175 12 rfl).trans e174_12
      obtain ⟨(e175_20 : a175.eval (.tmp 20) = .bool (!decide (r173 = 0))), -⟩ := hf175 [1] rfl
      have hX175 := es_ hX174 hE175
      have b175_g100 := MpO.evo (by decide) hE175 b174_g100
      have b175_Al1 := RdO.evo rfl hE175 b174_Al1
      have b175_g168 := be_ hE175 b174_g168
      refine fl_cond e175_20 hs (fun c176 hs => ?_) (fun c176 hs => ?_)
      · refine rg0_seq 28 own175 (bz 2) [⟨[], [8], [], Fct.val 21 (.int .i64 r173)⟩, ⟨[0], [], [], Fct.val 4 (.int .i64 r173)⟩] hz175 hd175 (by kernel_rfl) ?_ ?_
        · refine sc (fun _ _ _ _ s _ => px (or_move (s.1.trans e175_8))) ?_
          refine sc (fun _ _ _ f _ _ => px (or_assign f.1)) ?_
          exact steps_nil
        intro own177 a177 w177 hd177 hz177 hk177 hf177 hE177
        obtain ⟨(e177_4 : a177.eval (.tmp 4) = .int .i64 r173), -⟩ := hf177 [1] rfl
        have hX177 := es_ hX175 hE177
        refine fl_ret ?_
        refine hp172 _ _ _ rfl ?_
        refine hp166 _ _ _ rfl ?_
        refine hp165 _ _ _ rfl ?_
        replace hs := hz160 _ hs
        refine hp160 _ _ _ rfl ?_
        refine hp105 _ _ _ rfl ?_
        refine hp103 _ _ _ rfl ?_
        obtain rfl := (osome hs).symm
        exact hret _ _ _ _ (.inl rfl) hd177 (results1_ rfl (RVal.tmp_ e177_4)) ⟨own177, rfl, hX177⟩
      refine fl_skip ?_
      refine hn172 _ _ ?_
      refine fl_seq (fun Q178 hn178 hp178 => ?_)
      refine rg0_seq 28 own175 [0, 0, 3] [⟨[], [5], [], Fct.val 22 (.map (some g100))⟩, ⟨[], [7], [], Fct.val 23 (.agg #[.int .i64 x167.1, .string x167.2.1, .int .i64 x167.2.2])⟩, ⟨[0, 1], [], [], Fct.val 24 (.bool ((lkM met133 x167).getD false))⟩] hz175 hd175 (by kernel_rfl) ?_ ?_
      · refine sc (fun _ _ _ _ s _ => px (or_move (s.1.trans e175_5))) ?_
        refine sc (fun _ _ _ _ s hE => px (or_load (l := [.int .i64 x167.1, .string x167.2.1, .int .i64 x167.2.2]) ta60 (s.1.trans e175_7) (Blk.cellsFrom (be_ hE b175_g168).2 0 rfl) rfl)) ?_
        refine sc (fun _ _ _ f _ hE => px (or_lookupE (kf := vv60) (vf := vv4) (k := x167) (dv := false) ko60 tm96 tzv96 f.1 f.2.1 (MpO.evo (by decide) hE b175_g100) rfl)) ?_
        exact steps_nil
      intro own179 a179 w179 hd179 hz179 hk179 hf179 hE179
      have e179_1 := (hk179 1 rfl).trans e175_1
      have e179_5 := (hk179 5 rfl).trans e175_5
      have e179_7 := (hk179 7 rfl).trans e175_7
      have e179_10 := (hk179 10 rfl).trans e175_10
      have e179_11 := (hk179 11 rfl).trans e175_11
      have e179_12 := (hk179 12 rfl).trans e175_12
      obtain ⟨(e179_24 : a179.eval (.tmp 24) = .bool ((lkM met133 x167).getD false)), -⟩ := hf179 [2] rfl
      have hX179 := es_ hX175 hE179
      have b179_g100 := MpO.evo (by decide) hE179 b175_g100
      have b179_Al1 := RdO.evo rfl hE179 b175_Al1
      have b179_g168 := be_ hE179 b175_g168
      refine fl_cond e179_24 hs (fun c180 hs => ?_) (fun c180 hs => ?_)
      · refine rg0_seq 28 own179 (bz 1) [⟨[], [], [], Fct.val 4 (.int .i64 8)⟩] hz179 hd179 (by kernel_rfl) ?_ ?_
        · refine sc (fun _ _ _ _ _ _ => px (or_assign rfl)) ?_
          exact steps_nil
        intro own181 a181 w181 hd181 hz181 hk181 hf181 hE181
        obtain ⟨(e181_4 : a181.eval (.tmp 4) = .int .i64 8), -⟩ := hf181 [0] rfl
        have hX181 := es_ hX179 hE181
        refine fl_ret ?_
        refine hp178 _ _ _ rfl ?_
        refine hp166 _ _ _ rfl ?_
        refine hp165 _ _ _ rfl ?_
        replace hs := hz160 _ hs
        refine hp160 _ _ _ rfl ?_
        refine hp105 _ _ _ rfl ?_
        refine hp103 _ _ _ rfl ?_
        obtain rfl := osome hs
        exact hret _ _ _ _ (.inl rfl) hd181 (results1_ rfl (RVal.tmp_ e181_4)) ⟨own181, rfl, hX181⟩
      refine fl_skip ?_
      refine hn178 _ _ ?_
      obtain ⟨D182, hD182, hs⟩ := obind hs
      refine rg_plain (n := 28) (rs := [Fct.mapAt 132 g100 vv60 vv4 met133]) (own0 := own179) (K := [132]) (bs := [0, 0, 3]) (ds := [⟨[], [5], [], Fct.val 25 (.map (some g100))⟩, ⟨[], [7], [], Fct.val 26 (.agg #[.int .i64 x167.1, .string x167.2.1, .int .i64 x167.2.2])⟩, ⟨[0, 1, 3], [], [132], Fct.mapAt 183 g100 vv60 vv4 D182⟩]) (by kernel_rfl) hz179 hd179 (by simp only [List.forall_mem_cons]; exact ⟨b179_g100, fun _ h => nomatch h⟩) ?_ ?_
      · refine sc (fun _ _ _ _ s _ => px (or_move (s.1.trans e179_5))) ?_
        refine sc (fun _ _ _ _ s hE => px (or_load (l := [.int .i64 x167.1, .string x167.2.1, .int .i64 x167.2.2]) ta60 (s.1.trans e179_7) (Blk.cellsFrom (be_ hE b179_g168).2 0 rfl) rfl)) ?_
        refine sc (fun own a wx hf hsl hE => ?_) ?_
        · obtain ⟨f_25, f_26, b_g100, -⟩ := hf
          exact px (or_mapUpdate (kf := vv60) (vf := vv4) (k := x167) (v := true) (lab := 132) (lab2 := 183) ko60 tm96 f_25 f_26 rfl b_g100 (osome hD182).symm (mem_of rfl) (by decide) (fun own' a' w' hb => hb))
        exact steps_nil
      intro own184 a184 w184 hd184 hz184 hk184 hf184 hE184
      have e184_1 := (hk184 1 rfl).trans e179_1
      have e184_5 := (hk184 5 rfl).trans e179_5
      have e184_10 := (hk184 10 rfl).trans e179_10
      have e184_11 := (hk184 11 rfl).trans e179_11
      have e184_12 := (hk184 12 rfl).trans e179_12
      obtain ⟨(b184_g100 : MpO own184 183 w184 g100 vv60 vv4 D182), -⟩ := hf184 [2] rfl
      have hX184 := es_ hX179 hE184
      have b184_Al1 := RdO.evo rfl hE184 b179_Al1
      refine hn166 _ _ ?_
      refine hn165 _ _ ?_
      refine rg0 28 own184 (bz 2) [⟨[], [12], [], Fct.val 27 (.int .i64 (ad x134 1))⟩, ⟨[0], [], [], Fct.val 12 (.int .i64 (ad x134 1))⟩] hz184 hd184 (by kernel_rfl) ?_ ?_
      · refine sc (fun _ _ _ _ s _ => px (or_add (s.1.trans e184_12) rfl rfl)) ?_
        refine sc (fun _ _ _ f _ _ => px (or_move f.1)) ?_
        exact steps_nil
      intro own185 a185 w185 hd185 hz185 hk185 hf185 hE185
      have e185_1 := (hk185 1 rfl).trans e184_1
      have e185_5 := (hk185 5 rfl).trans e184_5
      have e185_10 := (hk185 10 rfl).trans e184_10
      have e185_11 := (hk185 11 rfl).trans e184_11
      obtain ⟨(e185_12 : a185.eval (.tmp 12) = .int .i64 (ad x134 1)), -⟩ := hf185 [1] rfl
      have hX185 := es_ hX184 hE185
      have b185_Al1 := RdO.evo rfl hE185 b184_Al1
      have b185_g100 := MpO.evo (by decide) hE185 b184_g100
      exact hn160 _ _ _ hs ⟨(rl [(183, 132)] own185), hd185, hz185, e185_1, e185_5, e185_10, e185_11, e185_12, (Evo.rl_ hX185 (fun _ => Nat.le_refl 0) rfl), (MpO.rl_ (mm := [(183, 132)]) b185_g100), (RdO.rl_ (mm := [(183, 132)]) b185_Al1)⟩
    refine fl_exit ?_
    refine hp163 _ _ _ rfl ?_
    replace hs := hz160 _ hs
    refine hp160 _ _ _ rfl ?_
    refine hx105 _ _ ?_
    refine hn103 _ _ ?_
    refine rg0_seq 28 own162 (bz 1) [⟨[], [], [], Fct.val 4 (.int .i64 0)⟩] hz162 hd162 (by kernel_rfl) ?_ ?_
    · refine sc (fun _ _ _ _ _ _ => px (or_assign rfl)) ?_
      exact steps_nil
    intro own186 a186 w186 hd186 hz186 hk186 hf186 hE186
    obtain ⟨(e186_4 : a186.eval (.tmp 4) = .int .i64 0), -⟩ := hf186 [0] rfl
    have hX186 := es_ hX162 hE186
    refine fl_ret ?_
    obtain rfl := osome hs
    exact hret _ _ _ _ (.inl rfl) hd186 (results1_ rfl (RVal.tmp_ e186_4)) ⟨own186, rfl, hX186⟩
theorem table_Table_Check_w (w : World) (t1 : (List ByteArray) × (List (Int × ByteArray × Int))) (gt1 : Nat) (tt1 : TypeId) (At1_0 : Option Addr) (ct1_0 : Nat) (At1_1 : Option Addr) (ct1_1 : Nat) (hgt1 : BlkO (fun _ => 0) 0 w gt1 tt1 #[.slice At1_0 t1.1.length ct1_0, .slice At1_1 t1.2.length ct1_1]) (hAt1_0 : RdO (fun _ => 0) [0] w R9 At1_0 ct1_0 t1.1) (hAt1_1 : RdO (fun _ => 0) [0] w R60 At1_1 ct1_1 t1.2) (r : Int) (hs : table_Table_Check t1 = some r) :
    Calls Try.prog 12 #[.pointer (some ⟨gt1, 0, none⟩)] w fun e w' => ∃ own' : Own, e = .returned (.int .i64 r) ∧ Evo [] (fun _ => 0) own' w w' := by
  refine fl_enter (n := 19) rfl rfl rfl (Nat.le_of_ble_eq_true rfl) ?_
  intro a0 Q hd0 hz0 harg hret
  have ha0 := harg 0 _ rfl
  clear harg
  have hE0 : Evo [] (fun _ => 0) (fun _ => 0) w w := Evo.refl _ _ _
  refine rg0_seq 19 (fun _ => 0) (bz 1) [⟨[], [], [], Fct.val 2 (.int .i64 0)⟩] hz0 hd0 (by kernel_rfl) ?_ ?_
  · refine sc (fun _ _ _ _ _ _ => px (or_assign rfl)) ?_
    exact steps_nil
  intro own22 a22 w22 hd22 hz22 hk22 hf22 hE22
  have e22_0 := (hk22 0 rfl).trans ha0
  have hX22 := es_ hE0 hE22
  have b22_At1_0 := RdO.evo rfl hE22 hAt1_0
  have b22_At1_1 := RdO.evo rfl hE22 hAt1_1
  have b22_gt1 := be_ hE22 hgt1
  refine fl_seq (fun Q23 hn23 hp23 => ?_)
  refine rg0_seq 19 own22 (bz 2) [⟨[], [0], [], Fct.val 4 (.pointer (some ⟨gt1, 0, none⟩))⟩, ⟨[0], [], [], Fct.val 5 (.bool false)⟩] hz22 hd22 (by kernel_rfl) ?_ ?_
  · refine sc (fun _ _ _ _ s _ => px (or_move (s.1.trans e22_0))) ?_
    refine sc (fun _ _ _ f _ _ => px (or_k [(4, .pointer (some ⟨gt1, 0, none⟩))] rfl rfl ⟨f.1, trivial⟩ (by kernel_rfl))) ?_
    exact steps_nil
  intro own24 a24 w24 hd24 hz24 hk24 hf24 hE24
  have e24_0 := (hk24 0 rfl).trans e22_0
  obtain ⟨(e24_5 : a24.eval (.tmp 5) = .bool false), -⟩ := hf24 [1] rfl
  have hX24 := es_ hX22 hE24
  have b24_At1_0 := RdO.evo rfl hE24 b22_At1_0
  have b24_At1_1 := RdO.evo rfl hE24 b22_At1_1
  have b24_gt1 := be_ hE24 b22_gt1
  refine fl_f e24_5 ?_
  refine fl_skip ?_
  refine hn23 _ _ ?_
  obtain ⟨r25, hr25, hs⟩ := obind hs
  refine rg0_seq 19 own24 (bz 6) [⟨[], [0], [], Fct.val 6 (.pointer (some ⟨gt1, 0, none⟩))⟩, ⟨[0], [], [], Fct.val 7 (.pointer (some ⟨gt1, 0, none⟩))⟩, ⟨[1], [], [], Fct.val 8 (.pointer (some ⟨gt1, 0, none⟩))⟩, ⟨[2], [], [], Fct.val 9 (.slice At1_0 t1.1.length ct1_0)⟩, ⟨[3], [], [], Fct.val 10 (.int .i64 r25)⟩, ⟨[4], [], [], Fct.val 3 (.int .i64 r25)⟩] hz24 hd24 (by kernel_rfl) ?_ ?_
  · refine sc (fun _ _ _ _ s _ => px (or_move (s.1.trans e24_0))) ?_
    refine sc (fun _ _ _ f _ _ => px (or_k [(6, .pointer (some ⟨gt1, 0, none⟩))] rfl rfl ⟨f.1, trivial⟩ (by kernel_rfl))) ?_
    refine sc (fun _ _ _ f _ _ => px (or_field fo43_0 f.1 (by rfl))) ?_
    refine sc (fun _ _ _ f _ hE => px (or_load1 to34 f.1 (Blk.at_ (be_ hE b24_gt1).2 0 rfl))) ?_
    refine sc (fun _ _ _ f _ hE => px (or_call cf29 (args2 f.1 rfl) (table_once_string_Check_1_w _ t1.1 At1_0 ct1_0 (RdO.zero (RdO.evo rfl hE b24_At1_0)) r25 hr25) post_val)) ?_
    refine sc (fun _ _ _ f _ _ => px (or_assign f.1)) ?_
    exact steps_nil
  intro own26 a26 w26 hd26 hz26 hk26 hf26 hE26
  have e26_0 := (hk26 0 rfl).trans e24_0
  obtain ⟨(e26_3 : a26.eval (.tmp 3) = .int .i64 r25), -⟩ := hf26 [5] rfl
  have hX26 := es_ hX24 hE26
  have b26_At1_0 := RdO.evo rfl hE26 b24_At1_0
  have b26_At1_1 := RdO.evo rfl hE26 b24_At1_1
  have b26_gt1 := be_ hE26 b24_gt1
  refine fl_seq (fun Q27 hn27 hp27 => ?_)
  refine rg0_seq 19 own26 (bz 2) [⟨[], [3], [], Fct.val 11 (.int .i64 r25)⟩, ⟨[0], [], [], Fct.val 12 (.bool (!decide (r25 = 0)))⟩] hz26 hd26 (by kernel_rfl) ?_ ?_
  · refine sc (fun _ _ _ _ s _ => px (or_move (s.1.trans e26_3))) ?_
    refine sc (fun _ _ _ f _ _ => px (or_neq f.1 rfl rfl)) ?_
    exact steps_nil
  intro own28 a28 w28 hd28 hz28 hk28 hf28 hE28
  have e28_0 := (hk28 0 rfl).trans e26_0
  have e28_3 := (hk28 3 rfl).trans e26_3
  obtain ⟨(e28_12 : a28.eval (.tmp 12) = .bool (!decide (r25 = 0))), -⟩ := hf28 [1] rfl
  have hX28 := es_ hX26 hE28
  have b28_At1_0 := RdO.evo rfl hE28 b26_At1_0
  have b28_At1_1 := RdO.evo rfl hE28 b26_At1_1
  have b28_gt1 := be_ hE28 b26_gt1
  refine fl_cond e28_12 hs (fun c29 hs => ?_) (fun c29 hs => ?_)
  · refine rg0_seq 19 own28 (bz 2) [⟨[], [3], [], Fct.val 13 (.int .i64 r25)⟩, ⟨[0], [], [], Fct.val 2 (.int .i64 r25)⟩] hz28 hd28 (by kernel_rfl) ?_ ?_
    · refine sc (fun _ _ _ _ s _ => px (or_move (s.1.trans e28_3))) ?_
      refine sc (fun _ _ _ f _ _ => px (or_assign f.1)) ?_
      exact steps_nil
    intro own30 a30 w30 hd30 hz30 hk30 hf30 hE30
    obtain ⟨(e30_2 : a30.eval (.tmp 2) = .int .i64 r25), -⟩ := hf30 [1] rfl
    have hX30 := es_ hX28 hE30
    refine fl_ret ?_
    refine hp27 _ _ _ rfl ?_
    obtain rfl := (osome hs).symm
    exact hret _ _ _ _ (.inl rfl) hd30 (results1_ rfl (RVal.tmp_ e30_2)) ⟨own30, rfl, hX30⟩
  refine fl_skip ?_
  refine hn27 _ _ ?_
  obtain ⟨r31, hr31, hs⟩ := obind hs
  refine rg0_seq 19 own28 (bz 6) [⟨[], [0], [], Fct.val 14 (.pointer (some ⟨gt1, 0, none⟩))⟩, ⟨[0], [], [], Fct.val 15 (.pointer (some ⟨gt1, 0, none⟩))⟩, ⟨[1], [], [], Fct.val 16 (.pointer (some ⟨gt1, 1, none⟩))⟩, ⟨[2], [], [], Fct.val 17 (.slice At1_1 t1.2.length ct1_1)⟩, ⟨[3], [], [], Fct.val 18 (.int .i64 r31)⟩, ⟨[4], [], [], Fct.val 2 (.int .i64 r31)⟩] hz28 hd28 (by kernel_rfl) ?_ ?_
  · refine sc (fun _ _ _ _ s _ => px (or_move (s.1.trans e28_0))) ?_
    refine sc (fun _ _ _ f _ _ => px (or_k [(14, .pointer (some ⟨gt1, 0, none⟩))] rfl rfl ⟨f.1, trivial⟩ (by kernel_rfl))) ?_
    refine sc (fun _ _ _ f _ _ => px (or_field fo43_1 f.1 (by rfl))) ?_
    refine sc (fun _ _ _ f _ hE => px (or_load1 to41 f.1 (Blk.at_ (be_ hE b28_gt1).2 1 rfl))) ?_
    refine sc (fun _ _ _ f _ hE => px (or_call cf32 (args2 f.1 rfl) (table_once_value_Value_Check_w _ t1.2 At1_1 ct1_1 (RdO.zero (RdO.evo rfl hE b28_At1_1)) r31 hr31) post_val)) ?_
    refine sc (fun _ _ _ f _ _ => px (or_assign f.1)) ?_
    exact steps_nil
  intro own32 a32 w32 hd32 hz32 hk32 hf32 hE32
  obtain ⟨(e32_2 : a32.eval (.tmp 2) = .int .i64 r31), -⟩ := hf32 [5] rfl
  have hX32 := es_ hX28 hE32
  refine fl_ret ?_
  obtain rfl := (osome hs).symm
  exact hret _ _ _ _ (.inl rfl) hd32 (results1_ rfl (RVal.tmp_ e32_2)) ⟨own32, rfl, hX32⟩
end Go.Proofs.Ytpbhdblkjabdlaa
