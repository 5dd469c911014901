import Derived.Test.YtpbhdblkjabdlaaWp2
import Derived.Test.YtpbhdblkjabdlaaWp3
import Derived.Test.YtpbhdblkjabdlaaWp4
import Derived.Test.YtpbhdblkjabdlaaWp6
import Derived.Test.YtpbhdblkjabdlaaSp8
namespace Go.Proofs.Ytpbhdblkjabdlaa
open Go.RowKit
set_option linter.unusedVariables false
set_option maxRecDepth 10000
theorem ref09_First_w (w : World) (s1 : ByteArray) (r : Int × Int) (hs : ref09_First s1 = some r) :
    Calls Try.prog 56 #[.string s1] w fun e w' => ∃ own' : Own, e = .returned (.tuple #[.int .i64 r.1, .int .i64 r.2]) ∧ Evo [] (fun _ => 0) own' w w' := by
  refine fl_enter (n := 90) rfl rfl rfl (Nat.le_of_ble_eq_true rfl) ?_
  intro a0 Q hd0 hz0 harg hret
  have ha0 := harg 0 _ rfl
  clear harg
  have hE0 : Evo [] (fun _ => 0) (fun _ => 0) w w := Evo.refl _ _ _
  refine rg0_seq 90 (fun _ => 0) (bz 2) [⟨[], [], [], Fct.val 2 (.int .i64 0)⟩, ⟨[], [], [], Fct.val 3 (.int .i64 0)⟩] hz0 hd0 (by kernel_rfl) ?_ ?_
  · refine sc (fun _ _ _ _ _ _ => px (or_assign rfl)) ?_
    refine sc (fun _ _ _ _ _ _ => px (or_assign rfl)) ?_
    exact steps_nil
  intro own134 a134 w134 hd134 hz134 hk134 hf134 hE134
  have e134_0 := (hk134 0 rfl).trans ha0
  have hX134 := es_ hE0 hE134
  refine fl_seq (fun Q135 hn135 hp135 => ?_)
  refine rg0_seq 90 own134 (bz 3) [⟨[], [0], [], Fct.val 9 (.string s1)⟩, ⟨[0], [], [], Fct.val 10 (.int .i64 (s1.size : Int))⟩, ⟨[1], [], [], Fct.val 11 (.bool (decide ((s1.size : Int) = 0)))⟩] hz134 hd134 (by kernel_rfl) ?_ ?_
  · refine sc (fun _ _ _ _ s _ => px (or_move (s.1.trans e134_0))) ?_
    refine sc (fun _ _ _ f _ _ => px (or_lenS tS9 f.1 rfl)) ?_
    refine sc (fun _ _ _ f _ _ => px (or_eql f.1 rfl rfl)) ?_
    exact steps_nil
  intro own136 a136 w136 hd136 hz136 hk136 hf136 hE136
  have e136_0 := (hk136 0 rfl).trans e134_0
  obtain ⟨(e136_11 : a136.eval (.tmp 11) = .bool (decide ((s1.size : Int) = 0))), -⟩ := hf136 [2] rfl
  have hX136 := es_ hX134 hE136
  refine fl_cond e136_11 hs (fun c137 hs => ?_) (fun c137 hs => ?_)
  · refine rg0_seq 90 own136 (bz 2) [⟨[], [], [], Fct.val 2 (.int .i64 0)⟩, ⟨[], [], [], Fct.val 3 (.int .i64 0)⟩] hz136 hd136 (by kernel_rfl) ?_ ?_
    · refine sc (fun _ _ _ _ _ _ => px (or_assign rfl)) ?_
      refine sc (fun _ _ _ _ _ _ => px (or_assign rfl)) ?_
      exact steps_nil
    intro own138 a138 w138 hd138 hz138 hk138 hf138 hE138
    obtain ⟨(e138_2 : a138.eval (.tmp 2) = .int .i64 0), (e138_3 : a138.eval (.tmp 3) = .int .i64 0), -⟩ := hf138 [0, 1] rfl
    have hX138 := es_ hX136 hE138
    refine fl_ret ?_
    refine hp135 _ _ _ rfl ?_
    obtain rfl := osome hs
    exact hret _ _ _ _ (.inl rfl) hd138 (results2_ rfl (RVal.tmp_ e138_2) (RVal.tmp_ e138_3)) ⟨own138, rfl, hX138⟩
  refine fl_skip ?_
  refine hn135 _ _ ?_
  obtain ⟨x139, hx139, hs⟩ := obind hs
  refine rg0_seq 90 own136 (bz 4) [⟨[], [0], [], Fct.val 12 (.string s1)⟩, ⟨[0], [], [], Fct.val 13 (.int .u8 x139)⟩, ⟨[1], [], [], Fct.val 14 (.int .i64 (IntKind.i64.wrap x139))⟩, ⟨[2], [], [], Fct.val 4 (.int .i64 (IntKind.i64.wrap x139))⟩] hz136 hd136 (by kernel_rfl) ?_ ?_
  · refine sc (fun _ _ _ _ s _ => px (or_move (s.1.trans e136_0))) ?_
    refine sc (fun _ _ _ f _ _ => px (or_indexS tS9 f.1 rfl hx139)) ?_
    refine sc (fun _ _ _ f _ _ => px (or_conv f.1 tn5 tn3 rfl)) ?_
    refine sc (fun _ _ _ f _ _ => px (or_assign f.1)) ?_
    exact steps_nil
  intro own140 a140 w140 hd140 hz140 hk140 hf140 hE140
  have e140_0 := (hk140 0 rfl).trans e136_0
  obtain ⟨(e140_4 : a140.eval (.tmp 4) = .int .i64 (IntKind.i64.wrap x139)), -⟩ := hf140 [3] rfl
  have hX140 := es_ hX136 hE140
  refine fl_seq (fun Q141 hn141 hp141 => ?_)
  refine rg0_seq 90 own140 (bz 2) [⟨[], [4], [], Fct.val 15 (.int .i64 (IntKind.i64.wrap x139))⟩, ⟨[0], [], [], Fct.val 16 (.bool (decide ((IntKind.i64.wrap x139) < 128)))⟩] hz140 hd140 (by kernel_rfl) ?_ ?_
  · refine sc (fun _ _ _ _ s _ => px (or_move (s.1.trans e140_4))) ?_
    refine sc (fun _ _ _ f _ _ => px (or_lss f.1 rfl rfl)) ?_
    exact steps_nil
  intro own142 a142 w142 hd142 hz142 hk142 hf142 hE142
  have e142_0 := (hk142 0 rfl).trans e140_0
  have e142_4 := (hk142 4 rfl).trans e140_4
  obtain ⟨(e142_16 : a142.eval (.tmp 16) = .bool (decide ((IntKind.i64.wrap x139) < 128))), -⟩ := hf142 [1] rfl
  have hX142 := es_ hX140 hE142
  refine fl_cond e142_16 hs (fun c143 hs => ?_) (fun c143 hs => ?_)
  · refine rg0_seq 90 own142 (bz 3) [⟨[], [4], [], Fct.val 17 (.int .i64 (IntKind.i64.wrap x139))⟩, ⟨[0], [], [], Fct.val 2 (.int .i64 (IntKind.i64.wrap x139))⟩, ⟨[], [], [], Fct.val 3 (.int .i64 1)⟩] hz142 hd142 (by kernel_rfl) ?_ ?_
    · refine sc (fun _ _ _ _ s _ => px (or_move (s.1.trans e142_4))) ?_
      refine sc (fun _ _ _ f _ _ => px (or_assign f.1)) ?_
      refine sc (fun _ _ _ _ _ _ => px (or_assign rfl)) ?_
      exact steps_nil
    intro own144 a144 w144 hd144 hz144 hk144 hf144 hE144
    obtain ⟨(e144_2 : a144.eval (.tmp 2) = .int .i64 (IntKind.i64.wrap x139)), (e144_3 : a144.eval (.tmp 3) = .int .i64 1), -⟩ := hf144 [1, 2] rfl
    have hX144 := es_ hX142 hE144
    refine fl_ret ?_
    refine hp141 _ _ _ rfl ?_
    obtain rfl := osome hs
    exact hret _ _ _ _ (.inl rfl) hd144 (results2_ rfl (RVal.tmp_ e144_2) (RVal.tmp_ e144_3)) ⟨own144, rfl, hX144⟩
  refine fl_skip ?_
  refine hn141 _ _ ?_
  refine rg0_seq 90 own142 (bz 3) [⟨[], [], [], Fct.val 5 (.int .i64 0)⟩, ⟨[], [], [], Fct.val 6 (.int .i64 0)⟩, ⟨[], [], [], Fct.val 7 (.int .i64 0)⟩] hz142 hd142 (by kernel_rfl) ?_ ?_
  · refine sc (fun _ _ _ _ _ _ => px (or_assign rfl)) ?_
    refine sc (fun _ _ _ _ _ _ => px (or_assign rfl)) ?_
    refine sc (fun _ _ _ _ _ _ => px (or_assign rfl)) ?_
    exact steps_nil
  intro own145 a145 w145 hd145 hz145 hk145 hf145 hE145
  have e145_0 := (hk145 0 rfl).trans e142_0
  have e145_4 := (hk145 4 rfl).trans e142_4
  obtain ⟨(e145_5 : a145.eval (.tmp 5) = .int .i64 0), (e145_6 : a145.eval (.tmp 6) = .int .i64 0), (e145_7 : a145.eval (.tmp 7) = .int .i64 0), -⟩ := hf145 [0, 1, 2] rfl
  have hX145 := es_ hX142 hE145
  refine fl_seq (fun Q146 hn146 hp146 => ?_)
  have K154 : ∀ (a154 : Act) (w154 : World) (own154 : Own) (size151 : Int) (r152 : Int) (least153 : Int), a154.defers = [] → a154.tmps.size = 90 → a154.eval (.tmp 0) = .string s1 → a154.eval (.tmp 4) = .int .i64 (IntKind.i64.wrap x139) → a154.eval (.tmp 5) = .int .i64 size151 → a154.eval (.tmp 6) = .int .i64 r152 → a154.eval (.tmp 7) = .int .i64 least153 → Evo [] (fun _ => 0) own154 w w154 → ref09_First_k1 s1 x139 size151 r152 least153 = some r → Q146 .normal a154 w154 := by
    intro a154 w154 own154 size151 r152 least153 hd155 hz155 e155_0 e155_4 e155_5 e155_6 e155_7 hE155 hs
    refine hn146 _ _ ?_
    refine fl_seq (fun Q156 hn156 hp156 => ?_)
    have K164 : ∀ (a164 : Act) (w164 : World) (own164 : Own) (size161 : Int) (r162 : Int) (least163 : Int), a164.defers = [] → a164.tmps.size = 90 → a164.eval (.tmp 0) = .string s1 → a164.eval (.tmp 4) = .int .i64 (IntKind.i64.wrap x139) → a164.eval (.tmp 5) = .int .i64 size161 → a164.eval (.tmp 6) = .int .i64 r162 → a164.eval (.tmp 7) = .int .i64 least163 → Evo [] (fun _ => 0) own164 w w164 → ref09_First_k2 s1 x139 size161 r162 least163 = some r → Q156 .normal a164 w164 := by
      intro a164 w164 own164 size161 r162 least163 hd165 hz165 e165_0 e165_4 e165_5 e165_6 e165_7 hE165 hs
      refine hn156 _ _ ?_
      refine fl_seq (fun Q166 hn166 hp166 => ?_)
      have K174 : ∀ (a174 : Act) (w174 : World) (own174 : Own) (size171 : Int) (r172 : Int) (least173 : Int), a174.defers = [] → a174.tmps.size = 90 → a174.eval (.tmp 0) = .string s1 → a174.eval (.tmp 5) = .int .i64 size171 → a174.eval (.tmp 6) = .int .i64 r172 → a174.eval (.tmp 7) = .int .i64 least173 → Evo [] (fun _ => 0) own174 w w174 → ref09_First_k3 s1 size171 r172 least173 = some r → Q166 .normal a174 w174 := by
        intro a174 w174 own174 size171 r172 least173 hd175 hz175 e175_0 e175_5 e175_6 e175_7 hE175 hs
        refine hn166 _ _ ?_
        refine fl_seq (fun Q176 hn176 hp176 => ?_)
        obtain ⟨x177, hx177, hs⟩ := obind hs
        refine rg0_seq 90 own174 [0, 1, 3, 7, 15, 7, 63, 127] [⟨[], [5], [], Fct.val 42 (.int .i64 size171)⟩, ⟨[0], [], [], Fct.val 43 (.bool (decide (size171 = 0)))⟩, ⟨[1], [], [], Fct.val 44 (.bool (decide (size171 = 0)))⟩, ⟨[2], [0], [], Fct.cond (!(decide (size171 = 0))) (some 45) (Fct.val 45 (.string s1))⟩, ⟨[2, 3], [], [], Fct.cond (!(decide (size171 = 0))) (some 46) (Fct.val 46 (.int .i64 (s1.size : Int)))⟩, ⟨[2], [5], [], Fct.cond (!(decide (size171 = 0))) (some 47) (Fct.val 47 (.int .i64 size171))⟩, ⟨[2, 4, 5], [], [], Fct.cond (!(decide (size171 = 0))) (some 48) (Fct.val 48 (.bool (decide ((s1.size : Int) < size171))))⟩, ⟨[2, 6], [], [], Fct.val 49 (.bool x177)⟩] hz175 hd175 (by kernel_rfl) ?_ ?_
        · refine sc (fun _ _ _ _ s _ => px (or_move (s.1.trans e175_5))) ?_
          refine sc (fun _ _ _ f _ _ => px (or_eql f.1 rfl rfl)) ?_
          refine sc (fun _ _ _ f _ _ => px (or_move f.1)) ?_
          refine sc (fun _ _ _ f s _ => sg_f rfl rfl rfl f.1 (fun hg => or_move (s.1.trans e175_0))) ?_
          refine sc (fun _ _ _ f _ _ => sg_f rfl rfl rfl f.1 (fun hg => or_lenS tS9 (f.2.1.1 hg) rfl)) ?_
          refine sc (fun _ _ _ f s _ => sg_f rfl rfl rfl f.1 (fun hg => or_move (s.1.trans e175_5))) ?_
          refine sc (fun _ _ _ f _ _ => sg_f rfl rfl rfl f.1 (fun hg => or_lss (f.2.1.1 hg) (f.2.2.1.1 hg) rfl)) ?_
          refine sc (fun _ _ _ f _ _ => px (or_or f.1 rfl (fun hx => f.2.1.1 hx) (osome hx177).symm)) ?_
          exact steps_nil
        intro own178 a178 w178 hd178 hz178 hk178 hf178 hE178
        have e178_0 := (hk178 0 rfl).trans e175_0
        have e178_5 := (hk178 5 rfl).trans e175_5
        have e178_6 := (hk178 6 rfl).trans e175_6
        have e178_7 := (hk178 7 rfl).trans e175_7
        obtain ⟨(e178_49 : a178.eval (.tmp 49) = .bool x177), -⟩ := hf178 [7] rfl
        have hX178 := es_ hE175 hE178
        refine fl_cond e178_49 hs (fun c179 hs => ?_) (fun c179 hs => ?_)
        · refine rg0_seq 90 own178 (bz 2) [⟨[], [], [], Fct.val 2 (.int .i64 0)⟩, ⟨[], [], [], Fct.val 3 (.int .i64 0)⟩] hz178 hd178 (by kernel_rfl) ?_ ?_
          · refine sc (fun _ _ _ _ _ _ => px (or_assign rfl)) ?_
            refine sc (fun _ _ _ _ _ _ => px (or_assign rfl)) ?_
            exact steps_nil
          intro own180 a180 w180 hd180 hz180 hk180 hf180 hE180
          obtain ⟨(e180_2 : a180.eval (.tmp 2) = .int .i64 0), (e180_3 : a180.eval (.tmp 3) = .int .i64 0), -⟩ := hf180 [0, 1] rfl
          have hX180 := es_ hX178 hE180
          refine fl_ret ?_
          refine hp176 _ _ _ rfl ?_
          obtain rfl := osome hs
          exact hret _ _ _ _ (.inl rfl) hd180 (results2_ rfl (RVal.tmp_ e180_2) (RVal.tmp_ e180_3)) ⟨own180, rfl, hX180⟩
        refine fl_skip ?_
        refine hn176 _ _ ?_
        refine fl_seq (fun Q181 hn181 hp181 => ?_)
        refine rg0_seq 90 own178 (bz 1) [⟨[], [], [], Fct.val 8 (.int .i64 1)⟩] hz178 hd178 (by kernel_rfl) ?_ ?_
        · refine sc (fun _ _ _ _ _ _ => px (or_assign rfl)) ?_
          exact steps_nil
        intro own182 a182 w182 hd182 hz182 hk182 hf182 hE182
        have e182_0 := (hk182 0 rfl).trans e178_0
        have e182_5 := (hk182 5 rfl).trans e178_5
        have e182_6 := (hk182 6 rfl).trans e178_6
        have e182_7 := (hk182 7 rfl).trans e178_7
        obtain ⟨(e182_8 : a182.eval (.tmp 8) = .int .i64 1), -⟩ := hf182 [0] rfl
        have hX182 := es_ hX178 hE182
        refine fl_block (fun Q183 hn183 hx183 hp183 => ?_)
        refine fl_loop (body := (fun s => ref09_First_b4 s1 size171 least173 s.1 s.2)) (z := r) (show loopO _ _ = _ from hs) (fun (s : Int × Int) a wx => match s with | (r201, i202) => ∃ (ox : Own), a.defers = [] ∧ a.tmps.size = 90 ∧ a.eval (.tmp 0) = .string s1 ∧ a.eval (.tmp 5) = .int .i64 size171 ∧ a.eval (.tmp 6) = .int .i64 r201 ∧ a.eval (.tmp 7) = .int .i64 least173 ∧ a.eval (.tmp 8) = .int .i64 i202 ∧ Evo [] (fun _ => 0) ox w wx) ?_ ?_
        · exact ⟨own182, hd182, hz182, e182_0, e182_5, e182_6, e182_7, e182_8, hX182⟩
        · rintro ⟨r201, i202⟩ zz220 a220 w220 ⟨own220, hd221, hz221, e221_0, e221_5, e221_6, e221_7, e221_8, hE221⟩ hs Q220 hn220 hp220 hz220
          have hs : ref09_First_b4 s1 size171 least173 r201 i202 = some zz220 := hs
          refine fl_seq (fun Q222 hn222 hp222 => ?_)
          refine rg0_seq 90 own220 [0, 0, 3] [⟨[], [8], [], Fct.val 50 (.int .i64 i202)⟩, ⟨[], [5], [], Fct.val 51 (.int .i64 size171)⟩, ⟨[0, 1], [], [], Fct.val 52 (.bool (decide (i202 < size171)))⟩] hz221 hd221 (by kernel_rfl) ?_ ?_
          · refine sc (fun _ _ _ _ s _ => px (or_move (s.1.trans e221_8))) ?_
            refine sc (fun _ _ _ _ s _ => px (or_move (s.1.trans e221_5))) ?_
            refine sc (fun _ _ _ f _ _ => px (or_lss f.1 f.2.1 rfl)) ?_
            exact steps_nil
          intro own223 a223 w223 hd223 hz223 hk223 hf223 hE223
          have e223_0 := (hk223 0 rfl).trans e221_0
          have e223_5 := (hk223 5 rfl).trans e221_5
          have e223_6 := (hk223 6 rfl).trans e221_6
          have e223_7 := (hk223 7 rfl).trans e221_7
          have e223_8 := (hk223 8 rfl).trans e221_8
          obtain ⟨(e223_52 : a223.eval (.tmp 52) = .bool (decide (i202 < size171))), -⟩ := hf223 [2] rfl
          have hX223 := es_ hE221 hE223
          refine fl_cond e223_52 hs (fun c224 hs => ?_) (fun c224 hs => ?_)
          · refine fl_skip ?_
            refine hn222 _ _ ?_
            refine fl_seq (fun Q225 hn225 hp225 => ?_)
            refine fl_block (fun Q226 hn226 hx226 hp226 => ?_)
            refine fl_seq (fun Q227 hn227 hp227 => ?_)
            obtain ⟨x228, hx228, hs⟩ := obind hs
            obtain ⟨x229, hx229, hs⟩ := obind hs
            obtain ⟨x230, hx230, hs⟩ := obind hs
            refine rg0_seq 90 own223 [0, 0, 3, 7, 15, 31, 31, 127, 255, 511] [⟨[], [0], [], Fct.val 55 (.string s1)⟩, ⟨[], [8], [], Fct.val 56 (.int .i64 i202)⟩, ⟨[0, 1], [], [], Fct.val 57 (.int .u8 x228)⟩, ⟨[2], [], [], Fct.val 58 (.bool (decide (x228 < 128)))⟩, ⟨[3], [], [], Fct.val 59 (.bool (decide (x228 < 128)))⟩, ⟨[4], [0], [], Fct.cond (!(decide (x228 < 128))) (some 60) (Fct.val 60 (.string s1))⟩, ⟨[4], [8], [], Fct.cond (!(decide (x228 < 128))) (some 61) (Fct.val 61 (.int .i64 i202))⟩, ⟨[4, 5, 6], [], [], Fct.cond (!(decide (x228 < 128))) (some 62) (Fct.val 62 (.int .u8 x229))⟩, ⟨[4, 7], [], [], Fct.cond (!(decide (x228 < 128))) (some 63) (Fct.val 63 (.bool (decide (192 ≤ x229))))⟩, ⟨[4, 8], [], [], Fct.val 64 (.bool x230)⟩] hz223 hd223 (by kernel_rfl) ?_ ?_
            · refine sc (fun _ _ _ _ s _ => px (or_move (s.1.trans e223_0))) ?_
              refine sc (fun _ _ _ _ s _ => px (or_move (s.1.trans e223_8))) ?_
              refine sc (fun _ _ _ f _ _ => px (or_indexS tS9 f.1 f.2.1 hx228)) ?_
              refine sc (fun _ _ _ f _ _ => px (or_lss f.1 rfl rfl)) ?_
              refine sc (fun _ _ _ f _ _ => px (or_move f.1)) ?_
              refine sc (fun _ _ _ f s _ => sg_f rfl rfl rfl f.1 (fun hg => or_move (s.1.trans e223_0))) ?_
              refine sc (fun _ _ _ f s _ => sg_f rfl rfl rfl f.1 (fun hg => or_move (s.1.trans e223_8))) ?_
              refine sc (fun _ _ _ f _ _ => sg_f rfl rfl rfl f.1 (fun hg => or_indexS tS9 (f.2.1.1 hg) (f.2.2.1.1 hg) (gd_t hx229 hg))) ?_
              refine sc (fun _ _ _ f _ _ => sg_f rfl rfl rfl f.1 (fun hg => or_geq (f.2.1.1 hg) rfl rfl)) ?_
              refine sc (fun _ _ _ f _ _ => px (or_or f.1 rfl (fun hx => f.2.1.1 hx) (osome hx230).symm)) ?_
              exact steps_nil
            intro own231 a231 w231 hd231 hz231 hk231 hf231 hE231
            have e231_0 := (hk231 0 rfl).trans e223_0
            have e231_5 := (hk231 5 rfl).trans e223_5
            have e231_6 := (hk231 6 rfl).trans e223_6
            have e231_7 := (hk231 7 rfl).trans e223_7
            have e231_8 := (hk231 8 rfl).trans e223_8
            obtain ⟨(e231_64 : a231.eval (.tmp 64) = .bool x230), -⟩ := hf231 [9] rfl
            have hX231 := es_ hX223 hE231
            refine fl_cond e231_64 hs (fun c232 hs => ?_) (fun c232 hs => ?_)
            · refine rg0_seq 90 own231 (bz 2) [⟨[], [], [], Fct.val 2 (.int .i64 0)⟩, ⟨[], [], [], Fct.val 3 (.int .i64 0)⟩] hz231 hd231 (by kernel_rfl) ?_ ?_
              · refine sc (fun _ _ _ _ _ _ => px (or_assign rfl)) ?_
                refine sc (fun _ _ _ _ _ _ => px (or_assign rfl)) ?_
                exact steps_nil
              intro own233 a233 w233 hd233 hz233 hk233 hf233 hE233
              obtain ⟨(e233_2 : a233.eval (.tmp 2) = .int .i64 0), (e233_3 : a233.eval (.tmp 3) = .int .i64 0), -⟩ := hf233 [0, 1] rfl
              have hX233 := es_ hX231 hE233
              refine fl_ret ?_
              refine hp227 _ _ _ rfl ?_
              refine hp226 _ _ _ rfl ?_
              refine hp225 _ _ _ rfl ?_
              replace hs := hz220 _ hs
              refine hp220 _ _ _ rfl ?_
              refine hp183 _ _ _ rfl ?_
              refine hp181 _ _ _ rfl ?_
              obtain rfl := osome hs
              exact hret _ _ _ _ (.inl rfl) hd233 (results2_ rfl (RVal.tmp_ e233_2) (RVal.tmp_ e233_3)) ⟨own233, rfl, hX233⟩
            refine fl_skip ?_
            refine hn227 _ _ ?_
            obtain ⟨x234, hx234, hs⟩ := obind hs
            obtain ⟨x235, hx235, hs⟩ := obind hs
            refine rg0 90 own231 [0, 1, 0, 0, 12, 28, 63, 127, 255] [⟨[], [6], [], Fct.val 65 (.int .i64 r201)⟩, ⟨[0], [], [], Fct.val 66 (.int .i64 (ml 64 r201))⟩, ⟨[], [0], [], Fct.val 67 (.string s1)⟩, ⟨[], [8], [], Fct.val 68 (.int .i64 i202)⟩, ⟨[2, 3], [], [], Fct.val 69 (.int .u8 x234)⟩, ⟨[4], [], [], Fct.val 70 (.int .i64 (IntKind.i64.wrap x234))⟩, ⟨[1, 5], [], [], Fct.val 71 (.int .i64 x235)⟩, ⟨[6], [], [], Fct.val 72 (.int .i64 (sb x235 128))⟩, ⟨[7], [], [], Fct.val 6 (.int .i64 (sb x235 128))⟩] hz231 hd231 (by kernel_rfl) ?_ ?_
            · refine sc (fun _ _ _ _ s _ => px (or_move (s.1.trans e231_6))) ?_
              refine sc (fun _ _ _ f _ _ => px (or_mul rfl f.1 rfl)) ?_
              refine sc (fun _ _ _ _ s _ => px (or_move (s.1.trans e231_0))) ?_
              refine sc (fun _ _ _ _ s _ => px (or_move (s.1.trans e231_8))) ?_
              refine sc (fun _ _ _ f _ _ => px (or_indexS tS9 f.1 f.2.1 hx234)) ?_
              refine sc (fun _ _ _ f _ _ => px (or_conv f.1 tn5 tn3 rfl)) ?_
              refine sc (fun _ _ _ f _ _ => px (or_add f.1 f.2.1 (osome hx235).symm)) ?_
              refine sc (fun _ _ _ f _ _ => px (or_sub f.1 rfl rfl)) ?_
              refine sc (fun _ _ _ f _ _ => px (or_assign f.1)) ?_
              exact steps_nil
            intro own236 a236 w236 hd236 hz236 hk236 hf236 hE236
            have e236_0 := (hk236 0 rfl).trans e231_0
            have e236_5 := (hk236 5 rfl).trans e231_5
            have e236_7 := (hk236 7 rfl).trans e231_7
            have e236_8 := (hk236 8 rfl).trans e231_8
            obtain ⟨(e236_6 : a236.eval (.tmp 6) = .int .i64 (sb x235 128)), -⟩ := hf236 [8] rfl
            have hX236 := es_ hX231 hE236
            refine hn226 _ _ ?_
            refine hn225 _ _ ?_
            refine rg0 90 own236 (bz 3) [⟨[], [8], [], Fct.val 53 (.int .i64 i202)⟩, ⟨[0], [], [], Fct.val 54 (.int .i64 (ad i202 1))⟩, ⟨[1], [], [], Fct.val 8 (.int .i64 (ad i202 1))⟩] hz236 hd236 (by kernel_rfl) ?_ ?_
            · refine sc (fun _ _ _ _ s _ => px (or_move (s.1.trans e236_8))) ?_
              refine sc (fun _ _ _ f _ _ => px (or_add f.1 rfl rfl)) ?_
              refine sc (fun _ _ _ f _ _ => px (or_assign f.1)) ?_
              exact steps_nil
            intro own237 a237 w237 hd237 hz237 hk237 hf237 hE237
            have e237_0 := (hk237 0 rfl).trans e236_0
            have e237_5 := (hk237 5 rfl).trans e236_5
            have e237_6 := (hk237 6 rfl).trans e236_6
            have e237_7 := (hk237 7 rfl).trans e236_7
            obtain ⟨(e237_8 : a237.eval (.tmp 8) = .int .i64 (ad i202 1)), -⟩ := hf237 [2] rfl
            have hX237 := es_ hX236 hE237
            exact hn220 _ _ _ hs ⟨own237, hd237, hz237, e237_0, e237_5, e237_6, e237_7, e237_8, hX237⟩
          refine fl_exit ?_
          refine hp222 _ _ _ rfl ?_
          replace hs := hz220 _ hs
          refine hp220 _ _ _ rfl ?_
          refine hx183 _ _ ?_
          refine hn181 _ _ ?_
          refine fl_seq (fun Q238 hn238 hp238 => ?_)
          obtain ⟨x239, hx239, hs⟩ := obind hs
          obtain ⟨x240, hx240, hs⟩ := obind hs
          refine rg0_seq 90 own223 [0, 0, 3, 7, 15, 31, 63, 127, 255, 511, 1023, 2047, 4095, 8191, 16383] [⟨[], [6], [], Fct.val 73 (.int .i64 r201)⟩, ⟨[], [7], [], Fct.val 74 (.int .i64 least173)⟩, ⟨[0, 1], [], [], Fct.val 75 (.bool (decide (r201 < least173)))⟩, ⟨[2], [], [], Fct.val 76 (.bool (decide (r201 < least173)))⟩, ⟨[3], [6], [], Fct.cond (!(decide (r201 < least173))) (some 77) (Fct.val 77 (.int .i64 r201))⟩, ⟨[3, 4], [], [], Fct.cond (!(decide (r201 < least173))) (some 78) (Fct.val 78 (.bool (decide (1114111 < r201))))⟩, ⟨[3, 5], [], [], Fct.val 79 (.bool x239)⟩, ⟨[6], [], [], Fct.val 80 (.bool x239)⟩, ⟨[7], [6], [], Fct.cond (!x239) (some 81) (Fct.val 81 (.int .i64 r201))⟩, ⟨[7, 8], [], [], Fct.cond (!x239) (some 82) (Fct.val 82 (.bool (decide (55296 ≤ r201))))⟩, ⟨[7, 9], [], [], Fct.cond (!x239) (some 83) (Fct.val 83 (.bool (decide (55296 ≤ r201))))⟩, ⟨[10], [6], [], Fct.cond ((!x239) && (decide (55296 ≤ r201))) (some 84) (Fct.val 84 (.int .i64 r201))⟩, ⟨[10, 11], [], [], Fct.cond ((!x239) && (decide (55296 ≤ r201))) (some 85) (Fct.val 85 (.bool (decide (r201 ≤ 57343))))⟩, ⟨[7, 10, 12], [], [], Fct.cond (!x239) (some 86) (Fct.val 86 (.bool x240))⟩, ⟨[7, 13], [], [], Fct.val 87 (.bool (x239 || x240))⟩] hz223 hd223 (by kernel_rfl) ?_ ?_
          · refine sc (fun _ _ _ _ s _ => px (or_move (s.1.trans e223_6))) ?_
            refine sc (fun _ _ _ _ s _ => px (or_move (s.1.trans e223_7))) ?_
            refine sc (fun _ _ _ f _ _ => px (or_lss f.1 f.2.1 rfl)) ?_
            refine sc (fun _ _ _ f _ _ => px (or_move f.1)) ?_
            refine sc (fun _ _ _ f s _ => sg_f rfl rfl rfl f.1 (fun hg => or_move (s.1.trans e223_6))) ?_
            refine sc (fun _ _ _ f _ _ => sg_f rfl rfl rfl f.1 (fun hg => or_gtr (f.2.1.1 hg) rfl rfl)) ?_
            refine sc (fun _ _ _ f _ _ => px (or_or f.1 rfl (fun hx => f.2.1.1 hx) (osome hx239).symm)) ?_
            refine sc (fun _ _ _ f _ _ => px (or_move f.1)) ?_
            refine sc (fun _ _ _ f s _ => sg_f rfl rfl rfl f.1 (fun hg => or_move (s.1.trans e223_6))) ?_
            refine sc (fun _ _ _ f _ _ => sg_f rfl rfl rfl f.1 (fun hg => or_geq (f.2.1.1 hg) rfl rfl)) ?_
            refine sc (fun _ _ _ f _ _ => sg_f rfl rfl rfl f.1 (fun hg => or_move (f.2.1.1 hg))) ?_
            refine sc (fun _ _ _ f s _ => sg_tc rfl rfl rfl f.1 (fun hg => or_move (s.1.trans e223_6))) ?_
            refine sc (fun _ _ _ f _ _ => sg_tc rfl rfl rfl f.1 (fun hg => or_leq (f.2.1.1 hg) rfl rfl)) ?_
            refine sc (fun _ _ _ f _ _ => sg_f rfl rfl rfl f.1 (fun hg => or_and (f.2.1.1 hg) (fun hx => f.2.2.1.1 (gI hg hx)) rfl (osome hx240).symm)) ?_
            refine sc (fun _ _ _ f _ _ => px (or_or f.1 rfl (fun hx => f.2.1.1 hx) rfl)) ?_
            exact steps_nil
          intro own241 a241 w241 hd241 hz241 hk241 hf241 hE241
          have e241_5 := (hk241 5 rfl).trans e223_5
          have e241_6 := (hk241 6 rfl).trans e223_6
          obtain ⟨(e241_87 : a241.eval (.tmp 87) = .bool (x239 || x240)), -⟩ := hf241 [14] rfl
          have hX241 := es_ hX223 hE241
          refine fl_cond e241_87 hs (fun c242 hs => ?_) (fun c242 hs => ?_)
          · refine rg0_seq 90 own241 (bz 2) [⟨[], [], [], Fct.val 2 (.int .i64 0)⟩, ⟨[], [], [], Fct.val 3 (.int .i64 0)⟩] hz241 hd241 (by kernel_rfl) ?_ ?_
            · refine sc (fun _ _ _ _ _ _ => px (or_assign rfl)) ?_
              refine sc (fun _ _ _ _ _ _ => px (or_assign rfl)) ?_
              exact steps_nil
            intro own243 a243 w243 hd243 hz243 hk243 hf243 hE243
            obtain ⟨(e243_2 : a243.eval (.tmp 2) = .int .i64 0), (e243_3 : a243.eval (.tmp 3) = .int .i64 0), -⟩ := hf243 [0, 1] rfl
            have hX243 := es_ hX241 hE243
            refine fl_ret ?_
            refine hp238 _ _ _ rfl ?_
            obtain rfl := osome hs
            exact hret _ _ _ _ (.inl rfl) hd243 (results2_ rfl (RVal.tmp_ e243_2) (RVal.tmp_ e243_3)) ⟨own243, rfl, hX243⟩
          refine fl_skip ?_
          refine hn238 _ _ ?_
          refine rg0_seq 90 own241 [0, 0, 1, 7] [⟨[], [6], [], Fct.val 88 (.int .i64 r201)⟩, ⟨[], [5], [], Fct.val 89 (.int .i64 size171)⟩, ⟨[0], [], [], Fct.val 2 (.int .i64 r201)⟩, ⟨[1], [], [], Fct.val 3 (.int .i64 size171)⟩] hz241 hd241 (by kernel_rfl) ?_ ?_
          · refine sc (fun _ _ _ _ s _ => px (or_move (s.1.trans e241_6))) ?_
            refine sc (fun _ _ _ _ s _ => px (or_move (s.1.trans e241_5))) ?_
            refine sc (fun _ _ _ f _ _ => px (or_assign f.1)) ?_
            refine sc (fun _ _ _ f _ _ => px (or_assign f.1)) ?_
            exact steps_nil
          intro own244 a244 w244 hd244 hz244 hk244 hf244 hE244
          obtain ⟨(e244_2 : a244.eval (.tmp 2) = .int .i64 r201), (e244_3 : a244.eval (.tmp 3) = .int .i64 size171), -⟩ := hf244 [2, 3] rfl
          have hX244 := es_ hX241 hE244
          refine fl_ret ?_
          obtain rfl := osome hs
          exact hret _ _ _ _ (.inl rfl) hd244 (results2_ rfl (RVal.tmp_ e244_2) (RVal.tmp_ e244_3)) ⟨own244, rfl, hX244⟩
      obtain ⟨x245, hx245, hs⟩ := obind hs
      refine rg0_seq 90 own164 (bz 6) [⟨[], [4], [], Fct.val 34 (.int .i64 (IntKind.i64.wrap x139))⟩, ⟨[0], [], [], Fct.val 35 (.bool (decide (240 ≤ (IntKind.i64.wrap x139))))⟩, ⟨[1], [], [], Fct.val 36 (.bool (decide (240 ≤ (IntKind.i64.wrap x139))))⟩, ⟨[2], [4], [], Fct.cond (decide (240 ≤ (IntKind.i64.wrap x139))) (some 37) (Fct.val 37 (.int .i64 (IntKind.i64.wrap x139)))⟩, ⟨[2, 3], [], [], Fct.cond (decide (240 ≤ (IntKind.i64.wrap x139))) (some 38) (Fct.val 38 (.bool (decide ((IntKind.i64.wrap x139) < 248))))⟩, ⟨[2, 4], [], [], Fct.val 39 (.bool x245)⟩] hz165 hd165 (by kernel_rfl) ?_ ?_
      · refine sc (fun _ _ _ _ s _ => px (or_move (s.1.trans e165_4))) ?_
        refine sc (fun _ _ _ f _ _ => px (or_geq f.1 rfl rfl)) ?_
        refine sc (fun _ _ _ f _ _ => px (or_move f.1)) ?_
        refine sc (fun _ _ _ f s _ => sg_t rfl rfl rfl f.1 (fun hg => or_move (s.1.trans e165_4))) ?_
        refine sc (fun _ _ _ f _ _ => sg_t rfl rfl rfl f.1 (fun hg => or_lss (f.2.1.1 hg) rfl rfl)) ?_
        refine sc (fun _ _ _ f _ _ => px (or_and f.1 (fun hx => f.2.1.1 hx) rfl (osome hx245).symm)) ?_
        exact steps_nil
      intro own246 a246 w246 hd246 hz246 hk246 hf246 hE246
      have e246_0 := (hk246 0 rfl).trans e165_0
      have e246_4 := (hk246 4 rfl).trans e165_4
      have e246_5 := (hk246 5 rfl).trans e165_5
      have e246_6 := (hk246 6 rfl).trans e165_6
      have e246_7 := (hk246 7 rfl).trans e165_7
      obtain ⟨(e246_39 : a246.eval (.tmp 39) = .bool x245), -⟩ := hf246 [5] rfl
      have hX246 := es_ hE165 hE246
      refine fl_cond e246_39 hs (fun c247 hs => ?_) (fun c247 hs => ?_)
      · refine rg0 90 own246 [0, 1, 0, 7, 15] [⟨[], [4], [], Fct.val 40 (.int .i64 (IntKind.i64.wrap x139))⟩, ⟨[0], [], [], Fct.val 41 (.int .i64 (sb (IntKind.i64.wrap x139) 240))⟩, ⟨[], [], [], Fct.val 5 (.int .i64 4)⟩, ⟨[1], [], [], Fct.val 6 (.int .i64 (sb (IntKind.i64.wrap x139) 240))⟩, ⟨[], [], [], Fct.val 7 (.int .i64 65536)⟩] hz246 hd246 (by kernel_rfl) ?_ ?_
        · refine sc (fun _ _ _ _ s _ => px (or_move (s.1.trans e246_4))) ?_
          refine sc (fun _ _ _ f _ _ => px (or_sub f.1 rfl rfl)) ?_
          refine sc (fun _ _ _ _ _ _ => px (or_assign rfl)) ?_
          refine sc (fun _ _ _ f _ _ => px (or_assign f.1)) ?_
          refine sc (fun _ _ _ _ _ _ => px (or_assign rfl)) ?_
          exact steps_nil
        intro own248 a248 w248 hd248 hz248 hk248 hf248 hE248
        have e248_0 := (hk248 0 rfl).trans e246_0
        obtain ⟨(e248_5 : a248.eval (.tmp 5) = .int .i64 4), (e248_6 : a248.eval (.tmp 6) = .int .i64 (sb (IntKind.i64.wrap x139) 240)), (e248_7 : a248.eval (.tmp 7) = .int .i64 65536), -⟩ := hf248 [2, 3, 4] rfl
        have hX248 := es_ hX246 hE248
        exact (K174 _ _ own248 _ _ _ hd248 hz248 e248_0 e248_5 e248_6 e248_7 hX248 hs)
      refine fl_skip ?_
      exact (K174 _ _ own246 _ _ _ hd246 hz246 e246_0 e246_5 e246_6 e246_7 hX246 hs)
    obtain ⟨x249, hx249, hs⟩ := obind hs
    refine rg0_seq 90 own154 (bz 6) [⟨[], [4], [], Fct.val 26 (.int .i64 (IntKind.i64.wrap x139))⟩, ⟨[0], [], [], Fct.val 27 (.bool (decide (224 ≤ (IntKind.i64.wrap x139))))⟩, ⟨[1], [], [], Fct.val 28 (.bool (decide (224 ≤ (IntKind.i64.wrap x139))))⟩, ⟨[2], [4], [], Fct.cond (decide (224 ≤ (IntKind.i64.wrap x139))) (some 29) (Fct.val 29 (.int .i64 (IntKind.i64.wrap x139)))⟩, ⟨[2, 3], [], [], Fct.cond (decide (224 ≤ (IntKind.i64.wrap x139))) (some 30) (Fct.val 30 (.bool (decide ((IntKind.i64.wrap x139) < 240))))⟩, ⟨[2, 4], [], [], Fct.val 31 (.bool x249)⟩] hz155 hd155 (by kernel_rfl) ?_ ?_
    · refine sc (fun _ _ _ _ s _ => px (or_move (s.1.trans e155_4))) ?_
      refine sc (fun _ _ _ f _ _ => px (or_geq f.1 rfl rfl)) ?_
      refine sc (fun _ _ _ f _ _ => px (or_move f.1)) ?_
      refine sc (fun _ _ _ f s _ => sg_t rfl rfl rfl f.1 (fun hg => or_move (s.1.trans e155_4))) ?_
      refine sc (fun _ _ _ f _ _ => sg_t rfl rfl rfl f.1 (fun hg => or_lss (f.2.1.1 hg) rfl rfl)) ?_
      refine sc (fun _ _ _ f _ _ => px (or_and f.1 (fun hx => f.2.1.1 hx) rfl (osome hx249).symm)) ?_
      exact steps_nil
    intro own250 a250 w250 hd250 hz250 hk250 hf250 hE250
    have e250_0 := (hk250 0 rfl).trans e155_0
    have e250_4 := (hk250 4 rfl).trans e155_4
    have e250_5 := (hk250 5 rfl).trans e155_5
    have e250_6 := (hk250 6 rfl).trans e155_6
    have e250_7 := (hk250 7 rfl).trans e155_7
    obtain ⟨(e250_31 : a250.eval (.tmp 31) = .bool x249), -⟩ := hf250 [5] rfl
    have hX250 := es_ hE155 hE250
    refine fl_cond e250_31 hs (fun c251 hs => ?_) (fun c251 hs => ?_)
    · refine rg0 90 own250 [0, 1, 0, 7, 15] [⟨[], [4], [], Fct.val 32 (.int .i64 (IntKind.i64.wrap x139))⟩, ⟨[0], [], [], Fct.val 33 (.int .i64 (sb (IntKind.i64.wrap x139) 224))⟩, ⟨[], [], [], Fct.val 5 (.int .i64 3)⟩, ⟨[1], [], [], Fct.val 6 (.int .i64 (sb (IntKind.i64.wrap x139) 224))⟩, ⟨[], [], [], Fct.val 7 (.int .i64 2048)⟩] hz250 hd250 (by kernel_rfl) ?_ ?_
      · refine sc (fun _ _ _ _ s _ => px (or_move (s.1.trans e250_4))) ?_
        refine sc (fun _ _ _ f _ _ => px (or_sub f.1 rfl rfl)) ?_
        refine sc (fun _ _ _ _ _ _ => px (or_assign rfl)) ?_
        refine sc (fun _ _ _ f _ _ => px (or_assign f.1)) ?_
        refine sc (fun _ _ _ _ _ _ => px (or_assign rfl)) ?_
        exact steps_nil
      intro own252 a252 w252 hd252 hz252 hk252 hf252 hE252
      have e252_0 := (hk252 0 rfl).trans e250_0
      have e252_4 := (hk252 4 rfl).trans e250_4
      obtain ⟨(e252_5 : a252.eval (.tmp 5) = .int .i64 3), (e252_6 : a252.eval (.tmp 6) = .int .i64 (sb (IntKind.i64.wrap x139) 224)), (e252_7 : a252.eval (.tmp 7) = .int .i64 2048), -⟩ := hf252 [2, 3, 4] rfl
      have hX252 := es_ hX250 hE252
      exact (K164 _ _ own252 _ _ _ hd252 hz252 e252_0 e252_4 e252_5 e252_6 e252_7 hX252 hs)
    refine fl_skip ?_
    exact (K164 _ _ own250 _ _ _ hd250 hz250 e250_0 e250_4 e250_5 e250_6 e250_7 hX250 hs)
  obtain ⟨x253, hx253, hs⟩ := obind hs
  refine rg0_seq 90 own145 (bz 6) [⟨[], [4], [], Fct.val 18 (.int .i64 (IntKind.i64.wrap x139))⟩, ⟨[0], [], [], Fct.val 19 (.bool (decide (192 ≤ (IntKind.i64.wrap x139))))⟩, ⟨[1], [], [], Fct.val 20 (.bool (decide (192 ≤ (IntKind.i64.wrap x139))))⟩, ⟨[2], [4], [], Fct.cond (decide (192 ≤ (IntKind.i64.wrap x139))) (some 21) (Fct.val 21 (.int .i64 (IntKind.i64.wrap x139)))⟩, ⟨[2, 3], [], [], Fct.cond (decide (192 ≤ (IntKind.i64.wrap x139))) (some 22) (Fct.val 22 (.bool (decide ((IntKind.i64.wrap x139) < 224))))⟩, ⟨[2, 4], [], [], Fct.val 23 (.bool x253)⟩] hz145 hd145 (by kernel_rfl) ?_ ?_
  · refine sc (fun _ _ _ _ s _ => px (or_move (s.1.trans e145_4))) ?_
    refine sc (fun _ _ _ f _ _ => px (or_geq f.1 rfl rfl)) ?_
    refine sc (fun _ _ _ f _ _ => px (or_move f.1)) ?_
    refine sc (fun _ _ _ f s _ => sg_t rfl rfl rfl f.1 (fun hg => or_move (s.1.trans e145_4))) ?_
    refine sc (fun _ _ _ f _ _ => sg_t rfl rfl rfl f.1 (fun hg => or_lss (f.2.1.1 hg) rfl rfl)) ?_
    refine sc (fun _ _ _ f _ _ => px (or_and f.1 (fun hx => f.2.1.1 hx) rfl (osome hx253).symm)) ?_
    exact steps_nil
  intro own254 a254 w254 hd254 hz254 hk254 hf254 hE254
  have e254_0 := (hk254 0 rfl).trans e145_0
  have e254_4 := (hk254 4 rfl).trans e145_4
  have e254_5 := (hk254 5 rfl).trans e145_5
  have e254_6 := (hk254 6 rfl).trans e145_6
  have e254_7 := (hk254 7 rfl).trans e145_7
  obtain ⟨(e254_23 : a254.eval (.tmp 23) = .bool x253), -⟩ := hf254 [5] rfl
  have hX254 := es_ hX145 hE254
  refine fl_cond e254_23 hs (fun c255 hs => ?_) (fun c255 hs => ?_)
  · refine rg0 90 own254 [0, 1, 0, 7, 15] [⟨[], [4], [], Fct.val 24 (.int .i64 (IntKind.i64.wrap x139))⟩, ⟨[0], [], [], Fct.val 25 (.int .i64 (sb (IntKind.i64.wrap x139) 192))⟩, ⟨[], [], [], Fct.val 5 (.int .i64 2)⟩, ⟨[1], [], [], Fct.val 6 (.int .i64 (sb (IntKind.i64.wrap x139) 192))⟩, ⟨[], [], [], Fct.val 7 (.int .i64 128)⟩] hz254 hd254 (by kernel_rfl) ?_ ?_
    · refine sc (fun _ _ _ _ s _ => px (or_move (s.1.trans e254_4))) ?_
      refine sc (fun _ _ _ f _ _ => px (or_sub f.1 rfl rfl)) ?_
      refine sc (fun _ _ _ _ _ _ => px (or_assign rfl)) ?_
      refine sc (fun _ _ _ f _ _ => px (or_assign f.1)) ?_
      refine sc (fun _ _ _ _ _ _ => px (or_assign rfl)) ?_
      exact steps_nil
    intro own256 a256 w256 hd256 hz256 hk256 hf256 hE256
    have e256_0 := (hk256 0 rfl).trans e254_0
    have e256_4 := (hk256 4 rfl).trans e254_4
    obtain ⟨(e256_5 : a256.eval (.tmp 5) = .int .i64 2), (e256_6 : a256.eval (.tmp 6) = .int .i64 (sb (IntKind.i64.wrap x139) 192)), (e256_7 : a256.eval (.tmp 7) = .int .i64 128), -⟩ := hf256 [2, 3, 4] rfl
    have hX256 := es_ hX254 hE256
    exact (K154 _ _ own256 _ _ _ hd256 hz256 e256_0 e256_4 e256_5 e256_6 e256_7 hX256 hs)
  refine fl_skip ?_
  exact (K154 _ _ own254 _ _ _ hd254 hz254 e254_0 e254_4 e254_5 e254_6 e254_7 hX254 hs)
theorem ref09_Runes_w (w : World) (s1 : ByteArray) (r : (List Int) × (List Int) × Bool) (hs : ref09_Runes s1 = some r) :
    Calls Try.prog 51 #[.string s1] w fun e w' => ∃ (own' : Own) (x : (Option Addr × Nat) × (Option Addr × Nat)), e = .returned (.tuple #[.slice x.1.1 r.1.length x.1.2, .slice x.2.1 r.2.1.length x.2.2, .bool r.2.2]) ∧ Evo [] (fun _ => 0) own' w w' ∧ RwO own' 1 [] w' 3 R3 x.1.1 x.1.2 r.1 ∧ RwO own' 2 [] w' 3 R3 x.2.1 x.2.2 r.2.1 := by
  refine fl_enter (n := 36) rfl rfl rfl (Nat.le_of_ble_eq_true rfl) ?_
  intro a0 Q hd0 hz0 harg hret
  have ha0 := harg 0 _ rfl
  clear harg
  have hE0 : Evo [] (fun _ => 0) (fun _ => 0) w w := Evo.refl _ _ _
  refine rg0_seq 36 (fun _ => 0) (bz 3) [⟨[], [], [], Fct.val 2 (.slice none 0 0)⟩, ⟨[], [], [], Fct.val 3 (.slice none 0 0)⟩, ⟨[], [], [], Fct.val 4 (.bool false)⟩] hz0 hd0 (by kernel_rfl) ?_ ?_
  · refine sc (fun _ _ _ _ _ _ => px (or_assign rfl)) ?_
    refine sc (fun _ _ _ _ _ _ => px (or_assign rfl)) ?_
    refine sc (fun _ _ _ _ _ _ => px (or_assign rfl)) ?_
    exact steps_nil
  intro own119 a119 w119 hd119 hz119 hk119 hf119 hE119
  have e119_0 := (hk119 0 rfl).trans ha0
  have hX119 := es_ hE0 hE119
  refine rg0_seq 36 own119 (bz 2) [⟨[], [], [], Fct.val 5 (.slice none 0 0)⟩, ⟨[], [], [], Fct.val 6 (.slice none 0 0)⟩] hz119 hd119 (by kernel_rfl) ?_ ?_
  · refine sc (fun _ _ _ _ _ _ => px (or_assign rfl)) ?_
    refine sc (fun _ _ _ _ _ _ => px (or_assign rfl)) ?_
    exact steps_nil
  intro own120 a120 w120 hd120 hz120 hk120 hf120 hE120
  have e120_0 := (hk120 0 rfl).trans e119_0
  obtain ⟨(e120_5 : a120.eval (.tmp 5) = .slice none 0 0), (e120_6 : a120.eval (.tmp 6) = .slice none 0 0), -⟩ := hf120 [0, 1] rfl
  have hX120 := es_ hX119 hE120
  refine fl_seq (fun Q121 hn121 hp121 => ?_)
  refine rg0_seq 36 own120 (bz 1) [⟨[], [], [], Fct.val 7 (.int .i64 0)⟩] hz120 hd120 (by kernel_rfl) ?_ ?_
  · refine sc (fun _ _ _ _ _ _ => px (or_assign rfl)) ?_
    exact steps_nil
  intro own122 a122 w122 hd122 hz122 hk122 hf122 hE122
  have e122_0 := (hk122 0 rfl).trans e120_0
  have e122_5 := (hk122 5 rfl).trans e120_5
  have e122_6 := (hk122 6 rfl).trans e120_6
  obtain ⟨(e122_7 : a122.eval (.tmp 7) = .int .i64 0), -⟩ := hf122 [0] rfl
  have hX122 := es_ hX120 hE122
  refine fl_block (fun Q123 hn123 hx123 hp123 => ?_)
  refine fl_loop (body := (fun s => ref09_Runes_b1 s1 s.1 s.2.1 s.2.2)) (z := r) (show loopO _ _ = _ from hs) (fun (s : (List Int) × (List Int) × Int) a wx => match s with | (out152, x156, i158) => ∃ (ox : Own) (A150 : Option Addr) (c151 : Nat) (A154 : Option Addr) (c155 : Nat), a.defers = [] ∧ a.tmps.size = 36 ∧ a.eval (.tmp 0) = .string s1 ∧ a.eval (.tmp 5) = .slice A150 out152.length c151 ∧ a.eval (.tmp 6) = .slice A154 x156.length c155 ∧ a.eval (.tmp 7) = .int .i64 i158 ∧ Evo [] (fun _ => 0) ox w wx ∧ RwO ox 153 [] wx 3 R3 A150 c151 out152 ∧ RwO ox 157 [] wx 3 R3 A154 c155 x156) ?_ ?_
  · exact ⟨own122, none, 0, none, 0, hd122, hz122, e122_0, e122_5, e122_6, e122_7, hX122, RwO.nil_, RwO.nil_⟩
  · rintro ⟨out152, x156, i158⟩ zz192 a192 w192 ⟨own192, A150, c151, A154, c155, hd193, hz193, e193_0, e193_5, e193_6, e193_7, hE193, b193_A150, b193_A154⟩ hs Q192 hn192 hp192 hz192
    have hs : ref09_Runes_b1 s1 out152 x156 i158 = some zz192 := hs
    refine fl_seq (fun Q194 hn194 hp194 => ?_)
    refine rg0_seq 36 own192 [0, 0, 2, 7] [⟨[], [7], [], Fct.val 10 (.int .i64 i158)⟩, ⟨[], [0], [], Fct.val 11 (.string s1)⟩, ⟨[1], [], [], Fct.val 12 (.int .i64 (s1.size : Int))⟩, ⟨[0, 2], [], [], Fct.val 13 (.bool (decide (i158 < (s1.size : Int))))⟩] hz193 hd193 (by kernel_rfl) ?_ ?_
    · refine sc (fun _ _ _ _ s _ => px (or_move (s.1.trans e193_7))) ?_
      refine sc (fun _ _ _ _ s _ => px (or_move (s.1.trans e193_0))) ?_
      refine sc (fun _ _ _ f _ _ => px (or_lenS tS9 f.1 rfl)) ?_
      refine sc (fun _ _ _ f _ _ => px (or_lss f.1 f.2.1 rfl)) ?_
      exact steps_nil
    intro own195 a195 w195 hd195 hz195 hk195 hf195 hE195
    have e195_0 := (hk195 0 rfl).trans e193_0
    have e195_5 := (hk195 5 rfl).trans e193_5
    have e195_6 := (hk195 6 rfl).trans e193_6
    have e195_7 := (hk195 7 rfl).trans e193_7
    obtain ⟨(e195_13 : a195.eval (.tmp 13) = .bool (decide (i158 < (s1.size : Int)))), -⟩ := hf195 [3] rfl
    have hX195 := es_ hE193 hE195
    have b195_A150 := re_ hE195 b193_A150
    have b195_A154 := re_ hE195 b193_A154
    refine fl_cond e195_13 hs (fun c196 hs => ?_) (fun c196 hs => ?_)
    · refine fl_skip ?_
      refine hn194 _ _ ?_
      refine fl_block (fun Q197 hn197 hx197 hp197 => ?_)
      obtain ⟨x198, hx198, hs⟩ := obind hs
      obtain ⟨r199, hr199, hs⟩ := obind hs
      refine rg0_seq 36 own195 [0, 0, 3, 7, 15, 31, 31, 63, 255] [⟨[], [0], [], Fct.val 15 (.string s1)⟩, ⟨[], [7], [], Fct.val 16 (.int .i64 i158)⟩, ⟨[0, 1], [], [], Fct.val 17 (.string x198)⟩, ⟨[2], [], [], Fct.val 18 (.tuple #[.int .i64 r199.1, .int .i64 r199.2])⟩, ⟨[3], [], [], Fct.val 14 (.tuple #[.int .i64 r199.1, .int .i64 r199.2])⟩, ⟨[4], [], [], Fct.val 19 (.int .i64 r199.1)⟩, ⟨[4], [], [], Fct.val 20 (.int .i64 r199.2)⟩, ⟨[5], [], [], Fct.val 8 (.int .i64 r199.1)⟩, ⟨[6], [], [], Fct.val 9 (.int .i64 r199.2)⟩] hz195 hd195 (by kernel_rfl) ?_ ?_
      · refine sc (fun _ _ _ _ s _ => px (or_move (s.1.trans e195_0))) ?_
        refine sc (fun _ _ _ _ s _ => px (or_move (s.1.trans e195_7))) ?_
        refine sc (fun _ _ _ f _ _ => px (or_sliceS tS9 f.1 (Bnd.some_ f.2.1) Bnd.none_ hx198)) ?_
        refine sc (fun _ _ _ f _ _ => px (or_call cf56 (args1 f.1) (ref09_First_w _ x198  r199 hr199) post_val)) ?_
        refine sc (fun _ _ _ f _ _ => px (or_move f.1)) ?_
        refine sc (fun _ _ _ f _ _ => px (or_k [(14, .tuple #[.int .i64 r199.1, .int .i64 r199.2])] rfl rfl ⟨f.1, trivial⟩ (by kernel_rfl))) ?_
        refine sc (fun _ _ _ f _ _ => px (or_k [(14, .tuple #[.int .i64 r199.1, .int .i64 r199.2])] rfl rfl ⟨f.1, trivial⟩ (by kernel_rfl))) ?_
        refine sc (fun _ _ _ f _ _ => px (or_assign f.1)) ?_
        refine sc (fun _ _ _ f _ _ => px (or_assign f.1)) ?_
        exact steps_nil
      intro own200 a200 w200 hd200 hz200 hk200 hf200 hE200
      have e200_0 := (hk200 0 rfl).trans e195_0
      have e200_5 := (hk200 5 rfl).trans e195_5
      have e200_6 := (hk200 6 rfl).trans e195_6
      have e200_7 := (hk200 7 rfl).trans e195_7
      obtain ⟨(e200_8 : a200.eval (.tmp 8) = .int .i64 r199.1), (e200_9 : a200.eval (.tmp 9) = .int .i64 r199.2), -⟩ := hf200 [7, 8] rfl
      have hX200 := es_ hX195 hE200
      have b200_A150 := re_ hE200 b195_A150
      have b200_A154 := re_ hE200 b195_A154
      refine fl_seq (fun Q201 hn201 hp201 => ?_)
      refine rg0_seq 36 own200 (bz 2) [⟨[], [9], [], Fct.val 21 (.int .i64 r199.2)⟩, ⟨[0], [], [], Fct.val 22 (.bool (decide (r199.2 = 0)))⟩] hz200 hd200 (by kernel_rfl) ?_ ?_
      · refine sc (fun _ _ _ _ s _ => px (or_move (s.1.trans e200_9))) ?_
        refine sc (fun _ _ _ f _ _ => px (or_eql f.1 rfl rfl)) ?_
        exact steps_nil
      intro own202 a202 w202 hd202 hz202 hk202 hf202 hE202
      have e202_0 := (hk202 0 rfl).trans e200_0
      have e202_5 := (hk202 5 rfl).trans e200_5
      have e202_6 := (hk202 6 rfl).trans e200_6
      have e202_7 := (hk202 7 rfl).trans e200_7
      have e202_8 := (hk202 8 rfl).trans e200_8
      have e202_9 := (hk202 9 rfl).trans e200_9
      obtain ⟨(e202_22 : a202.eval (.tmp 22) = .bool (decide (r199.2 = 0))), -⟩ := hf202 [1] rfl
      have hX202 := es_ hX200 hE202
      have b202_A150 := re_ hE202 b200_A150
      have b202_A154 := re_ hE202 b200_A154
      refine fl_cond e202_22 hs (fun c203 hs => ?_) (fun c203 hs => ?_)
      · refine rg0_seq 36 own202 (bz 3) [⟨[], [], [], Fct.val 2 (.slice none 0 0)⟩, ⟨[], [], [], Fct.val 3 (.slice none 0 0)⟩, ⟨[], [], [], Fct.val 4 (.bool false)⟩] hz202 hd202 (by kernel_rfl) ?_ ?_
        · refine sc (fun _ _ _ _ _ _ => px (or_assign rfl)) ?_
          refine sc (fun _ _ _ _ _ _ => px (or_assign rfl)) ?_
          refine sc (fun _ _ _ _ _ _ => px (or_assign rfl)) ?_
          exact steps_nil
        intro own204 a204 w204 hd204 hz204 hk204 hf204 hE204
        obtain ⟨(e204_2 : a204.eval (.tmp 2) = .slice none 0 0), (e204_3 : a204.eval (.tmp 3) = .slice none 0 0), (e204_4 : a204.eval (.tmp 4) = .bool false), -⟩ := hf204 [0, 1, 2] rfl
        have hX204 := es_ hX202 hE204
        refine fl_ret ?_
        refine hp201 _ _ _ rfl ?_
        refine hp197 _ _ _ rfl ?_
        replace hs := hz192 _ hs
        refine hp192 _ _ _ rfl ?_
        refine hp123 _ _ _ rfl ?_
        refine hp121 _ _ _ rfl ?_
        obtain rfl := osome hs
        exact hret _ _ _ _ (.inl rfl) hd204 (results3_ rfl (RVal.tmp_ e204_2) (RVal.tmp_ e204_3) (RVal.tmp_ e204_4)) ⟨own204, ((none, 0), (none, 0)), rfl, hX204, RwO.nil_, RwO.nil_⟩
      refine fl_skip ?_
      refine hn201 _ _ ?_
      obtain ⟨x216, hx216, hs⟩ := obind hs
      obtain ⟨x221, hx221, hs⟩ := obind hs
      refine rg_plain_seq (n := 36) (rs := [Fct.rowAt 153 [] 3 R3 A150 c151 out152, Fct.rowAt 157 [] 3 R3 A154 c155 x156]) (own0 := own202) (K := [153, 157]) (bs := [0, 0, 2, 7, 0, 0, 32, 127, 255, 511]) (ds := [⟨[], [5], [], Fct.val 23 (.slice A150 out152.length c151)⟩, ⟨[], [8], [], Fct.val 24 (.int .i64 r199.1)⟩, ⟨[1], [], [], Fct.row 215 [] 25 3 R3 [r199.1]⟩, ⟨[0, 2, 10], [], [153], Fct.row 217 [] 26 3 R3 x216⟩, ⟨[], [6], [], Fct.val 27 (.slice A154 x156.length c155)⟩, ⟨[], [7], [], Fct.val 28 (.int .i64 i158)⟩, ⟨[5], [], [], Fct.row 220 [] 29 3 R3 [i158]⟩, ⟨[4, 6, 11], [], [157], Fct.row 222 [] 30 3 R3 x221⟩, ⟨[3], [], [], Fct.rel [5, 26] (fun l => ∀ (A218 : Option Addr) (cA218 : Nat), l.getD 1 undef = .slice A218 x216.length cA218 → l.getD 0 undef = .slice A218 x216.length cA218)⟩, ⟨[7], [], [], Fct.rel [6, 30] (fun l => ∀ (A223 : Option Addr) (cA223 : Nat), l.getD 1 undef = .slice A223 x221.length cA223 → l.getD 0 undef = .slice A223 x221.length cA223)⟩]) (by kernel_rfl) hz202 hd202 (by simp only [List.forall_mem_cons]; exact ⟨b202_A150, b202_A154, fun _ h => nomatch h⟩) ?_ ?_
      · refine sc (fun _ _ _ _ s _ => px (or_move (s.1.trans e202_5))) ?_
        refine sc (fun _ _ _ _ s _ => px (or_move (s.1.trans e202_8))) ?_
        refine sc (fun _ _ _ f _ _ => px (or_lit (lab := 215) (e := 3) (cs := #[.int .i64 r199.1]) (F := E3) (or_new [(24, .int .i64 r199.1)] rfl rfl ⟨f.1, trivial⟩ (by kernel_rfl)) rfl rfl (show 1 ≤ maxLen by decide))) ?_
        refine sc (fun own a wx hf hsl hE => ?_) ?_
        · obtain ⟨f_23, ⟨⟨A214, cA214⟩, f_25, b_A214⟩, b_A150, -⟩ := hf
          exact px (or_append (R := R3) (lab := 153) (lab2 := 217) (L := []) (L3 := []) tp23 f_23 b_A150 (by decide) f_25 (RwO.rd b_A214) hx216 (by decide) (by decide) (mem_of rfl) (.inl (Rep.fl_flat _)))
        refine sc (fun _ _ _ _ s _ => px (or_move (s.1.trans e202_6))) ?_
        refine sc (fun _ _ _ _ s _ => px (or_move (s.1.trans e202_7))) ?_
        refine sc (fun _ _ _ f _ _ => px (or_lit (lab := 220) (e := 3) (cs := #[.int .i64 i158]) (F := E3) (or_new [(28, .int .i64 i158)] rfl rfl ⟨f.1, trivial⟩ (by kernel_rfl)) rfl rfl (show 1 ≤ maxLen by decide))) ?_
        refine sc (fun own a wx hf hsl hE => ?_) ?_
        · obtain ⟨f_27, ⟨⟨A219, cA219⟩, f_29, b_A219⟩, b_A154, -⟩ := hf
          exact px (or_append (R := R3) (lab := 157) (lab2 := 222) (L := []) (L3 := []) tp23 f_27 b_A154 (by decide) f_29 (RwO.rd b_A219) hx221 (by decide) (by decide) (mem_of rfl) (.inl (Rep.fl_flat _)))
        refine sc (fun own a wx hf hsl hE => ?_) ?_
        · obtain ⟨⟨⟨A218, cA218⟩, (f_26 : a.eval (.tmp 26) = .slice A218 x216.length cA218), b_A218⟩, -⟩ := hf
          exact px (or_mono (f := Fct.val 5 (.slice A218 x216.length cA218)) (or_assign f_26) (fun own' a' w' v' hp h => fun _ _ h0' => by cases (f_26.symm.trans ((hp.2 26 (by decide)).symm.trans h0')); exact h))
        refine sc (fun own a wx hf hsl hE => ?_) ?_
        · obtain ⟨⟨⟨A223, cA223⟩, (f_30 : a.eval (.tmp 30) = .slice A223 x221.length cA223), b_A223⟩, -⟩ := hf
          exact px (or_mono (f := Fct.val 6 (.slice A223 x221.length cA223)) (or_assign f_30) (fun own' a' w' v' hp h => fun _ _ h0' => by cases (f_30.symm.trans ((hp.2 30 (by decide)).symm.trans h0')); exact h))
        exact steps_nil
      intro own224 a224 w224 hd224 hz224 hk224 hf224 hE224
      have e224_0 := (hk224 0 rfl).trans e202_0
      have e224_7 := (hk224 7 rfl).trans e202_7
      have e224_9 := (hk224 9 rfl).trans e202_9
      obtain ⟨⟨⟨A218, cA218⟩, (f_26 : a224.eval (.tmp 26) = .slice A218 x216.length cA218), (b224_A218 : RwO own224 217 [] w224 3 R3 A218 cA218 x216)⟩, (q_5 : ∀ (A218 : Option Addr) (cA218 : Nat), a224.eval (.tmp 26) = .slice A218 x216.length cA218 → a224.eval (.tmp 5) = .slice A218 x216.length cA218), ⟨⟨A223, cA223⟩, (f_30 : a224.eval (.tmp 30) = .slice A223 x221.length cA223), (b224_A223 : RwO own224 222 [] w224 3 R3 A223 cA223 x221)⟩, (q_6 : ∀ (A223 : Option Addr) (cA223 : Nat), a224.eval (.tmp 30) = .slice A223 x221.length cA223 → a224.eval (.tmp 6) = .slice A223 x221.length cA223), -⟩ := hf224 [3, 8, 7, 9] rfl
      have e224_5 := q_5 _ _ f_26
      have e224_6 := q_6 _ _ f_30
      have hX224 := es_ hX202 hE224
      refine rg0 36 own224 [0, 0, 3, 7] [⟨[], [7], [], Fct.val 31 (.int .i64 i158)⟩, ⟨[], [9], [], Fct.val 32 (.int .i64 r199.2)⟩, ⟨[0, 1], [], [], Fct.val 33 (.int .i64 (ad i158 r199.2))⟩, ⟨[2], [], [], Fct.val 7 (.int .i64 (ad i158 r199.2))⟩] hz224 hd224 (by kernel_rfl) ?_ ?_
      · refine sc (fun _ _ _ _ s _ => px (or_move (s.1.trans e224_7))) ?_
        refine sc (fun _ _ _ _ s _ => px (or_move (s.1.trans e224_9))) ?_
        refine sc (fun _ _ _ f _ _ => px (or_add f.1 f.2.1 rfl)) ?_
        refine sc (fun _ _ _ f _ _ => px (or_assign f.1)) ?_
        exact steps_nil
      intro own225 a225 w225 hd225 hz225 hk225 hf225 hE225
      have e225_0 := (hk225 0 rfl).trans e224_0
      have e225_5 := (hk225 5 rfl).trans e224_5
      have e225_6 := (hk225 6 rfl).trans e224_6
      obtain ⟨(e225_7 : a225.eval (.tmp 7) = .int .i64 (ad i158 r199.2)), -⟩ := hf225 [3] rfl
      have hX225 := es_ hX224 hE225
      have b225_A218 := re_ hE225 b224_A218
      have b225_A223 := re_ hE225 b224_A223
      refine hn197 _ _ ?_
      exact hn192 _ _ _ hs ⟨(rl [(217, 153), (222, 157)] own225), A218, cA218, A223, cA223, hd225, hz225, e225_0, e225_5, e225_6, e225_7, (Evo.rl_ hX225 (fun _ => Nat.le_refl 0) rfl), (RwO.rl_ (mm := [(217, 153), (222, 157)]) b225_A218), (RwO.rl_ (mm := [(217, 153), (222, 157)]) b225_A223)⟩
    refine fl_exit ?_
    refine hp194 _ _ _ rfl ?_
    replace hs := hz192 _ hs
    refine hp192 _ _ _ rfl ?_
    refine hx123 _ _ ?_
    refine hn121 _ _ ?_
    refine rg0_seq 36 own195 [0, 0, 1, 7, 15] [⟨[], [5], [], Fct.val 34 (.slice A150 out152.length c151)⟩, ⟨[], [6], [], Fct.val 35 (.slice A154 x156.length c155)⟩, ⟨[0], [], [], Fct.val 2 (.slice A150 out152.length c151)⟩, ⟨[1], [], [], Fct.val 3 (.slice A154 x156.length c155)⟩, ⟨[], [], [], Fct.val 4 (.bool true)⟩] hz195 hd195 (by kernel_rfl) ?_ ?_
    · refine sc (fun _ _ _ _ s _ => px (or_move (s.1.trans e195_5))) ?_
      refine sc (fun _ _ _ _ s _ => px (or_move (s.1.trans e195_6))) ?_
      refine sc (fun _ _ _ f _ _ => px (or_assign f.1)) ?_
      refine sc (fun _ _ _ f _ _ => px (or_assign f.1)) ?_
      refine sc (fun _ _ _ _ _ _ => px (or_assign rfl)) ?_
      exact steps_nil
    intro own226 a226 w226 hd226 hz226 hk226 hf226 hE226
    obtain ⟨(e226_2 : a226.eval (.tmp 2) = .slice A150 out152.length c151), (e226_3 : a226.eval (.tmp 3) = .slice A154 x156.length c155), (e226_4 : a226.eval (.tmp 4) = .bool true), -⟩ := hf226 [2, 3, 4] rfl
    have hX226 := es_ hX195 hE226
    have b226_A150 := re_ hE226 b195_A150
    have b226_A154 := re_ hE226 b195_A154
    refine fl_ret ?_
    obtain rfl := osome hs
    exact hret _ _ _ _ (.inl rfl) hd226 (results3_ rfl (RVal.tmp_ e226_2) (RVal.tmp_ e226_3) (RVal.tmp_ e226_4)) ⟨(rl [(153, 1), (157, 2)] own226), ((A150, c151), (A154, c155)), rfl, (Evo.rl_ hX226 (fun _ => Nat.le_refl 0) rfl), (RwO.rl_ (mm := [(153, 1), (157, 2)]) b226_A150), (RwO.rl_ (mm := [(153, 1), (157, 2)]) b226_A154)⟩
theorem ref09_Name_w (w : World) (s1 : ByteArray) (r : Bool) (hs : ref09_Name s1 = some r) :
    Calls Try.prog 34 #[.string s1] w fun e w' => ∃ own' : Own, e = .returned (.bool r) ∧ Evo [] (fun _ => 0) own' w w' := by
  refine fl_enter (n := 84) rfl rfl rfl (Nat.le_of_ble_eq_true rfl) ?_
  intro a0 Q hd0 hz0 harg hret
  have ha0 := harg 0 _ rfl
  clear harg
  have hE0 : Evo [] (fun _ => 0) (fun _ => 0) w w := Evo.refl _ _ _
  refine rg0_seq 84 (fun _ => 0) (bz 1) [⟨[], [], [], Fct.val 2 (.bool false)⟩] hz0 hd0 (by kernel_rfl) ?_ ?_
  · refine sc (fun _ _ _ _ _ _ => px (or_assign rfl)) ?_
    exact steps_nil
  intro own92 a92 w92 hd92 hz92 hk92 hf92 hE92
  have e92_0 := (hk92 0 rfl).trans ha0
  have hX92 := es_ hE0 hE92
  obtain ⟨r93, hr93, hs⟩ := obind hs
  refine rg0_seq 84 own92 [0, 1, 3, 7, 7, 7, 15, 95, 255] [⟨[], [0], [], Fct.val 11 (.string s1)⟩, ⟨[0], [], [], Fct.mems [96, 97] 12 (fun (x : (Option Addr × Nat) × (Option Addr × Nat)) => .tuple #[.slice x.1.1 r93.1.length x.1.2, .slice x.2.1 r93.2.1.length x.2.2, .bool r93.2.2]) (fun (x : (Option Addr × Nat) × (Option Addr × Nat)) own w => RwO own 96 [] w 3 R3 x.1.1 x.1.2 r93.1 ∧ RwO own 97 [] w 3 R3 x.2.1 x.2.2 r93.2.1) (fun hk he h => ⟨RwO.evo (hits_sub hk (by decide)) he h.1, RwO.evo (hits_sub hk (by decide)) he h.2⟩)⟩, ⟨[1], [], [], Fct.rel [10, 12] (fun l => ∀ (A94 : Option Addr) (cA94 : Nat) (A95 : Option Addr) (cA95 : Nat), l.getD 1 undef = .tuple #[.slice A94 r93.1.length cA94, .slice A95 r93.2.1.length cA95, .bool r93.2.2] → l.getD 0 undef = .tuple #[.slice A94 r93.1.length cA94, .slice A95 r93.2.1.length cA95, .bool r93.2.2])⟩, ⟨[2, 1], [], [], Fct.rel [13, 12] (fun l => ∀ (A94 : Option Addr) (cA94 : Nat) (A95 : Option Addr) (cA95 : Nat), l.getD 1 undef = .tuple #[.slice A94 r93.1.length cA94, .slice A95 r93.2.1.length cA95, .bool r93.2.2] → l.getD 0 undef = .slice A94 r93.1.length cA94)⟩, ⟨[2, 1], [], [], Fct.rel [14, 12] (fun l => ∀ (A94 : Option Addr) (cA94 : Nat) (A95 : Option Addr) (cA95 : Nat), l.getD 1 undef = .tuple #[.slice A94 r93.1.length cA94, .slice A95 r93.2.1.length cA95, .bool r93.2.2] → l.getD 0 undef = .slice A95 r93.2.1.length cA95)⟩, ⟨[2, 1], [], [], Fct.val 15 (.bool r93.2.2)⟩, ⟨[3, 1], [], [], Fct.rel [3, 12] (fun l => ∀ (A94 : Option Addr) (cA94 : Nat) (A95 : Option Addr) (cA95 : Nat), l.getD 1 undef = .tuple #[.slice A94 r93.1.length cA94, .slice A95 r93.2.1.length cA95, .bool r93.2.2] → l.getD 0 undef = .slice A94 r93.1.length cA94)⟩, ⟨[4, 1], [], [], Fct.rel [4, 12] (fun l => ∀ (A94 : Option Addr) (cA94 : Nat) (A95 : Option Addr) (cA95 : Nat), l.getD 1 undef = .tuple #[.slice A94 r93.1.length cA94, .slice A95 r93.2.1.length cA95, .bool r93.2.2] → l.getD 0 undef = .slice A95 r93.2.1.length cA95)⟩, ⟨[5], [], [], Fct.val 5 (.bool r93.2.2)⟩] hz92 hd92 (by kernel_rfl) ?_ ?_
  · refine sc (fun _ _ _ _ s _ => px (or_move (s.1.trans e92_0))) ?_
    refine sc (fun _ _ _ f _ _ => px (or_call cf51 (args1 f.1) (ref09_Runes_w _ s1  r93 hr93) (post_mems (m := (fun _ => 0)) (m' := (look0 [(1, 96), (2, 97)])) (fun _ _ => .inl rfl) (fun own' w' a' x h1 h => ⟨x, h1, ⟨RwO.back_ h.1 (by decide) (.inl (Rep.fl_flat _)), RwO.back_ h.2 (by decide) (.inl (Rep.fl_flat _))⟩⟩)))) ?_
    refine sc (fun own a wx hf hsl hE => ?_) ?_
    · obtain ⟨⟨⟨⟨A94, cA94⟩, ⟨A95, cA95⟩⟩, (f_12 : a.eval (.tmp 12) = .tuple #[.slice A94 r93.1.length cA94, .slice A95 r93.2.1.length cA95, .bool r93.2.2]), b_A94, b_A95⟩, -⟩ := hf
      exact px (or_mono (f := Fct.val 10 (.tuple #[.slice A94 r93.1.length cA94, .slice A95 r93.2.1.length cA95, .bool r93.2.2])) (or_move f_12) (fun own' a' w' v' hp h => fun _ _ _ _ h0' => by cases (f_12.symm.trans ((hp.2 12 (by decide)).symm.trans h0')); exact h))
    refine sc (fun own a wx hf hsl hE => ?_) ?_
    · obtain ⟨(q_10 : ∀ (A94 : Option Addr) (cA94 : Nat) (A95 : Option Addr) (cA95 : Nat), a.eval (.tmp 12) = .tuple #[.slice A94 r93.1.length cA94, .slice A95 r93.2.1.length cA95, .bool r93.2.2] → a.eval (.tmp 10) = .tuple #[.slice A94 r93.1.length cA94, .slice A95 r93.2.1.length cA95, .bool r93.2.2]), ⟨⟨⟨A94, cA94⟩, ⟨A95, cA95⟩⟩, (f_12 : a.eval (.tmp 12) = .tuple #[.slice A94 r93.1.length cA94, .slice A95 r93.2.1.length cA95, .bool r93.2.2]), b_A94, b_A95⟩, -⟩ := hf
      have f_10 := q_10 _ _ _ _ f_12
      exact px (or_mono (f := Fct.val 13 (.slice A94 r93.1.length cA94)) (or_k [(10, .tuple #[.slice A94 r93.1.length cA94, .slice A95 r93.2.1.length cA95, .bool r93.2.2])] rfl rfl ⟨f_10, trivial⟩ (by kernel_rfl)) (fun own' a' w' v' hp h => fun _ _ _ _ h0' => by cases (f_12.symm.trans ((hp.2 12 (by decide)).symm.trans h0')); exact h))
    refine sc (fun own a wx hf hsl hE => ?_) ?_
    · obtain ⟨(q_10 : ∀ (A94 : Option Addr) (cA94 : Nat) (A95 : Option Addr) (cA95 : Nat), a.eval (.tmp 12) = .tuple #[.slice A94 r93.1.length cA94, .slice A95 r93.2.1.length cA95, .bool r93.2.2] → a.eval (.tmp 10) = .tuple #[.slice A94 r93.1.length cA94, .slice A95 r93.2.1.length cA95, .bool r93.2.2]), ⟨⟨⟨A94, cA94⟩, ⟨A95, cA95⟩⟩, (f_12 : a.eval (.tmp 12) = .tuple #[.slice A94 r93.1.length cA94, .slice A95 r93.2.1.length cA95, .bool r93.2.2]), b_A94, b_A95⟩, -⟩ := hf
      have f_10 := q_10 _ _ _ _ f_12
      exact px (or_mono (f := Fct.val 14 (.slice A95 r93.2.1.length cA95)) (or_k [(10, .tuple #[.slice A94 r93.1.length cA94, .slice A95 r93.2.1.length cA95, .bool r93.2.2])] rfl rfl ⟨f_10, trivial⟩ (by kernel_rfl)) (fun own' a' w' v' hp h => fun _ _ _ _ h0' => by cases (f_12.symm.trans ((hp.2 12 (by decide)).symm.trans h0')); exact h))
    refine sc (fun own a wx hf hsl hE => ?_) ?_
    · obtain ⟨(q_10 : ∀ (A94 : Option Addr) (cA94 : Nat) (A95 : Option Addr) (cA95 : Nat), a.eval (.tmp 12) = .tuple #[.slice A94 r93.1.length cA94, .slice A95 r93.2.1.length cA95, .bool r93.2.2] → a.eval (.tmp 10) = .tuple #[.slice A94 r93.1.length cA94, .slice A95 r93.2.1.length cA95, .bool r93.2.2]), ⟨⟨⟨A94, cA94⟩, ⟨A95, cA95⟩⟩, f_12, b_A94, b_A95⟩, -⟩ := hf
      have f_10 := q_10 _ _ _ _ f_12
      exact px (or_k [(10, .tuple #[.slice A94 r93.1.length cA94, .slice A95 r93.2.1.length cA95, .bool r93.2.2])] rfl rfl ⟨f_10, trivial⟩ (by kernel_rfl))
    refine sc (fun own a wx hf hsl hE => ?_) ?_
    · obtain ⟨(q_13 : ∀ (A94 : Option Addr) (cA94 : Nat) (A95 : Option Addr) (cA95 : Nat), a.eval (.tmp 12) = .tuple #[.slice A94 r93.1.length cA94, .slice A95 r93.2.1.length cA95, .bool r93.2.2] → a.eval (.tmp 13) = .slice A94 r93.1.length cA94), ⟨⟨⟨A94, cA94⟩, ⟨A95, cA95⟩⟩, (f_12 : a.eval (.tmp 12) = .tuple #[.slice A94 r93.1.length cA94, .slice A95 r93.2.1.length cA95, .bool r93.2.2]), b_A94, b_A95⟩, -⟩ := hf
      have f_13 := q_13 _ _ _ _ f_12
      exact px (or_mono (f := Fct.val 3 (.slice A94 r93.1.length cA94)) (or_assign f_13) (fun own' a' w' v' hp h => fun _ _ _ _ h0' => by cases (f_12.symm.trans ((hp.2 12 (by decide)).symm.trans h0')); exact h))
    refine sc (fun own a wx hf hsl hE => ?_) ?_
    · obtain ⟨(q_14 : ∀ (A94 : Option Addr) (cA94 : Nat) (A95 : Option Addr) (cA95 : Nat), a.eval (.tmp 12) = .tuple #[.slice A94 r93.1.length cA94, .slice A95 r93.2.1.length cA95, .bool r93.2.2] → a.eval (.tmp 14) = .slice A95 r93.2.1.length cA95), ⟨⟨⟨A94, cA94⟩, ⟨A95, cA95⟩⟩, (f_12 : a.eval (.tmp 12) = .tuple #[.slice A94 r93.1.length cA94, .slice A95 r93.2.1.length cA95, .bool r93.2.2]), b_A94, b_A95⟩, -⟩ := hf
      have f_14 := q_14 _ _ _ _ f_12
      exact px (or_mono (f := Fct.val 4 (.slice A95 r93.2.1.length cA95)) (or_assign f_14) (fun own' a' w' v' hp h => fun _ _ _ _ h0' => by cases (f_12.symm.trans ((hp.2 12 (by decide)).symm.trans h0')); exact h))
    refine sc (fun _ _ _ f _ _ => px (or_assign f.1)) ?_
    exact steps_nil
  intro own98 a98 w98 hd98 hz98 hk98 hf98 hE98
  obtain ⟨⟨⟨⟨A94, cA94⟩, ⟨A95, cA95⟩⟩, (f_12 : a98.eval (.tmp 12) = .tuple #[.slice A94 r93.1.length cA94, .slice A95 r93.2.1.length cA95, .bool r93.2.2]), (b98_A94 : RwO own98 96 [] w98 3 R3 A94 cA94 r93.1), (b_A95 : RwO own98 97 [] w98 3 R3 A95 cA95 r93.2.1)⟩, (q_3 : ∀ (A94 : Option Addr) (cA94 : Nat) (A95 : Option Addr) (cA95 : Nat), a98.eval (.tmp 12) = .tuple #[.slice A94 r93.1.length cA94, .slice A95 r93.2.1.length cA95, .bool r93.2.2] → a98.eval (.tmp 3) = .slice A94 r93.1.length cA94), (e98_5 : a98.eval (.tmp 5) = .bool r93.2.2), -⟩ := hf98 [1, 6, 8] rfl
  have e98_3 := q_3 _ _ _ _ f_12
  have hX98 := es_ hX92 hE98
  refine fl_seq (fun Q99 hn99 hp99 => ?_)
  obtain ⟨x100, hx100, hs⟩ := obind hs
  obtain ⟨x101, hx101, hs⟩ := obind hs
  refine rg0_seq 84 own98 (bz 12) [⟨[], [5], [], Fct.val 16 (.bool r93.2.2)⟩, ⟨[0], [], [], Fct.val 17 (.bool (!r93.2.2))⟩, ⟨[1], [], [], Fct.val 18 (.bool (!r93.2.2))⟩, ⟨[2], [3], [], Fct.cond (!(!r93.2.2)) (some 19) (Fct.val 19 (.slice A94 r93.1.length cA94))⟩, ⟨[2, 3], [], [], Fct.cond (!(!r93.2.2)) (some 20) (Fct.val 20 (.int .i64 (r93.1.length : Int)))⟩, ⟨[2, 4], [], [], Fct.cond (!(!r93.2.2)) (some 21) (Fct.val 21 (.bool (decide ((r93.1.length : Int) < 1))))⟩, ⟨[2, 5], [], [], Fct.val 22 (.bool x100)⟩, ⟨[6], [], [], Fct.val 23 (.bool x100)⟩, ⟨[7], [3], [], Fct.cond (!x100) (some 24) (Fct.val 24 (.slice A94 r93.1.length cA94))⟩, ⟨[7, 8], [], [], Fct.cond (!x100) (some 25) (Fct.val 25 (.int .i64 (r93.1.length : Int)))⟩, ⟨[7, 9], [], [], Fct.cond (!x100) (some 26) (Fct.val 26 (.bool (decide (32 < (r93.1.length : Int)))))⟩, ⟨[7, 10], [], [], Fct.val 27 (.bool x101)⟩] hz98 hd98 (by kernel_rfl) ?_ ?_
  · refine sc (fun _ _ _ _ s _ => px (or_move (s.1.trans e98_5))) ?_
    refine sc (fun _ _ _ f _ _ => px (or_not f.1 rfl)) ?_
    refine sc (fun _ _ _ f _ _ => px (or_move f.1)) ?_
    refine sc (fun _ _ _ f s _ => sg_f rfl rfl rfl f.1 (fun hg => or_move (s.1.trans e98_3))) ?_
    refine sc (fun _ _ _ f _ _ => sg_f rfl rfl rfl f.1 (fun hg => or_len tu23 (f.2.1.1 hg) rfl)) ?_
    refine sc (fun _ _ _ f _ _ => sg_f rfl rfl rfl f.1 (fun hg => or_lss (f.2.1.1 hg) rfl rfl)) ?_
    refine sc (fun _ _ _ f _ _ => px (or_or f.1 rfl (fun hx => f.2.1.1 hx) (osome hx100).symm)) ?_
    refine sc (fun _ _ _ f _ _ => px (or_move f.1)) ?_
    refine sc (fun _ _ _ f s _ => sg_f rfl rfl rfl f.1 (fun hg => or_move (s.1.trans e98_3))) ?_
    refine sc (fun _ _ _ f _ _ => sg_f rfl rfl rfl f.1 (fun hg => or_len tu23 (f.2.1.1 hg) rfl)) ?_
    refine sc (fun _ _ _ f _ _ => sg_f rfl rfl rfl f.1 (fun hg => or_gtr (f.2.1.1 hg) rfl rfl)) ?_
    refine sc (fun _ _ _ f _ _ => px (or_or f.1 rfl (fun hx => f.2.1.1 hx) (osome hx101).symm)) ?_
    exact steps_nil
  intro own102 a102 w102 hd102 hz102 hk102 hf102 hE102
  have e102_3 := (hk102 3 rfl).trans e98_3
  obtain ⟨(e102_27 : a102.eval (.tmp 27) = .bool x101), -⟩ := hf102 [11] rfl
  have hX102 := es_ hX98 hE102
  have b102_A94 := re_ hE102 b98_A94
  refine fl_cond e102_27 hs (fun c103 hs => ?_) (fun c103 hs => ?_)
  · refine rg0_seq 84 own102 (bz 1) [⟨[], [], [], Fct.val 2 (.bool false)⟩] hz102 hd102 (by kernel_rfl) ?_ ?_
    · refine sc (fun _ _ _ _ _ _ => px (or_assign rfl)) ?_
      exact steps_nil
    intro own104 a104 w104 hd104 hz104 hk104 hf104 hE104
    obtain ⟨(e104_2 : a104.eval (.tmp 2) = .bool false), -⟩ := hf104 [0] rfl
    have hX104 := es_ hX102 hE104
    refine fl_ret ?_
    refine hp99 _ _ _ rfl ?_
    obtain rfl := osome hs
    exact hret _ _ _ _ (.inl rfl) hd104 (results1_ rfl (RVal.tmp_ e104_2)) ⟨own104, rfl, hX104⟩
  refine fl_skip ?_
  refine hn99 _ _ ?_
  refine fl_seq (fun Q105 hn105 hp105 => ?_)
  refine rg0_seq 84 own102 (bz 1) [⟨[], [], [], Fct.val 6 (.int .i64 0)⟩] hz102 hd102 (by kernel_rfl) ?_ ?_
  · refine sc (fun _ _ _ _ _ _ => px (or_assign rfl)) ?_
    exact steps_nil
  intro own106 a106 w106 hd106 hz106 hk106 hf106 hE106
  have e106_3 := (hk106 3 rfl).trans e102_3
  obtain ⟨(e106_6 : a106.eval (.tmp 6) = .int .i64 0), -⟩ := hf106 [0] rfl
  have hX106 := es_ hX102 hE106
  have b106_A94 := re_ hE106 b102_A94
  refine fl_block (fun Q107 hn107 hx107 hp107 => ?_)
  refine fl_loop (body := (fun s => ref09_Name_b1 r93 s)) (z := r) (show loopO _ _ = _ from hs) (fun (i128 : Int) a wx => ∃ (ox : Own), a.defers = [] ∧ a.tmps.size = 84 ∧ a.eval (.tmp 3) = .slice A94 r93.1.length cA94 ∧ a.eval (.tmp 6) = .int .i64 i128 ∧ Evo [] (fun _ => 0) ox w wx ∧ RwO ox 96 [] wx 3 R3 A94 cA94 r93.1) ?_ ?_
  · exact ⟨own106, hd106, hz106, e106_3, e106_6, hX106, b106_A94⟩
  · rintro i128 zz150 a150 w150 ⟨own150, hd151, hz151, e151_3, e151_6, hE151, b151_A94⟩ hs Q150 hn150 hp150 hz150
    have hs : ref09_Name_b1 r93 i128 = some zz150 := hs
    refine fl_seq (fun Q152 hn152 hp152 => ?_)
    refine rg0_seq 84 own150 [0, 0, 2, 7] [⟨[], [6], [], Fct.val 28 (.int .i64 i128)⟩, ⟨[], [3], [], Fct.val 29 (.slice A94 r93.1.length cA94)⟩, ⟨[1], [], [], Fct.val 30 (.int .i64 (r93.1.length : Int))⟩, ⟨[0, 2], [], [], Fct.val 31 (.bool (decide (i128 < (r93.1.length : Int))))⟩] hz151 hd151 (by kernel_rfl) ?_ ?_
    · refine sc (fun _ _ _ _ s _ => px (or_move (s.1.trans e151_6))) ?_
      refine sc (fun _ _ _ _ s _ => px (or_move (s.1.trans e151_3))) ?_
      refine sc (fun _ _ _ f _ _ => px (or_len tu23 f.1 rfl)) ?_
      refine sc (fun _ _ _ f _ _ => px (or_lss f.1 f.2.1 rfl)) ?_
      exact steps_nil
    intro own153 a153 w153 hd153 hz153 hk153 hf153 hE153
    have e153_3 := (hk153 3 rfl).trans e151_3
    have e153_6 := (hk153 6 rfl).trans e151_6
    obtain ⟨(e153_31 : a153.eval (.tmp 31) = .bool (decide (i128 < (r93.1.length : Int)))), -⟩ := hf153 [3] rfl
    have hX153 := es_ hE151 hE153
    have b153_A94 := re_ hE153 b151_A94
    refine fl_cond e153_31 hs (fun c154 hs => ?_) (fun c154 hs => ?_)
    · refine fl_skip ?_
      refine hn152 _ _ ?_
      refine fl_seq (fun Q155 hn155 hp155 => ?_)
      refine fl_block (fun Q156 hn156 hx156 hp156 => ?_)
      obtain ⟨x157, hx157, hs⟩ := obind hs
      refine rg0_seq 84 own153 [0, 0, 3, 7, 15] [⟨[], [3], [], Fct.val 34 (.slice A94 r93.1.length cA94)⟩, ⟨[], [6], [], Fct.val 35 (.int .i64 i128)⟩, ⟨[0, 1], [], [], Fct.val 36 (.pointer (some ((adr A94).add ((i128 : Int).toNat * R3.s))))⟩, ⟨[2], [], [], Fct.val 37 (.int .i64 x157)⟩, ⟨[3], [], [], Fct.val 7 (.int .i64 x157)⟩] hz153 hd153 (by kernel_rfl) ?_ ?_
      · refine sc (fun _ _ _ _ s _ => px (or_move (s.1.trans e153_3))) ?_
        refine sc (fun _ _ _ _ s _ => px (or_move (s.1.trans e153_6))) ?_
        refine sc (fun _ _ _ f _ _ => px (or_index (R := R3) (l := r93.1) tl23 f.1 f.2.1 (RdO.some_ (RwO.rd b153_A94) hx157) hx157)) ?_
        refine sc (fun _ _ _ f _ hE => px (or_load1 to3 f.1 (CellsAt.zero (RdO.cells (F := E3) (RwO.rd (re_ hE b153_A94)) hx157) rfl))) ?_
        refine sc (fun _ _ _ f _ _ => px (or_assign f.1)) ?_
        exact steps_nil
      intro own158 a158 w158 hd158 hz158 hk158 hf158 hE158
      have e158_3 := (hk158 3 rfl).trans e153_3
      have e158_6 := (hk158 6 rfl).trans e153_6
      obtain ⟨(e158_7 : a158.eval (.tmp 7) = .int .i64 x157), -⟩ := hf158 [4] rfl
      have hX158 := es_ hX153 hE158
      have b158_A94 := re_ hE158 b153_A94
      obtain ⟨x159, hx159, hs⟩ := obind hs
      obtain ⟨x160, hx160, hs⟩ := obind hs
      obtain ⟨x161, hx161, hs⟩ := obind hs
      refine rg0_seq 84 own158 (bz 23) [⟨[], [7], [], Fct.val 38 (.int .i64 x157)⟩, ⟨[0], [], [], Fct.val 39 (.bool (decide (96 < x157)))⟩, ⟨[1], [], [], Fct.val 40 (.bool (decide (96 < x157)))⟩, ⟨[2], [7], [], Fct.cond (decide (96 < x157)) (some 41) (Fct.val 41 (.int .i64 x157))⟩, ⟨[2, 3], [], [], Fct.cond (decide (96 < x157)) (some 42) (Fct.val 42 (.bool (decide (x157 < 123))))⟩, ⟨[2, 4], [], [], Fct.val 43 (.bool x159)⟩, ⟨[5], [], [], Fct.val 44 (.bool x159)⟩, ⟨[6], [7], [], Fct.cond (!x159) (some 45) (Fct.val 45 (.int .i64 x157))⟩, ⟨[6, 7], [], [], Fct.cond (!x159) (some 46) (Fct.val 46 (.bool (decide (64 < x157))))⟩, ⟨[6, 8], [], [], Fct.cond (!x159) (some 47) (Fct.val 47 (.bool (decide (64 < x157))))⟩, ⟨[9], [7], [], Fct.cond ((!x159) && (decide (64 < x157))) (some 48) (Fct.val 48 (.int .i64 x157))⟩, ⟨[9, 10], [], [], Fct.cond ((!x159) && (decide (64 < x157))) (some 49) (Fct.val 49 (.bool (decide (x157 < 91))))⟩, ⟨[6, 9, 11], [], [], Fct.cond (!x159) (some 50) (Fct.val 50 (.bool x160))⟩, ⟨[6, 12], [], [], Fct.val 51 (.bool (x159 || x160))⟩, ⟨[13], [], [], Fct.val 52 (.bool (x159 || x160))⟩, ⟨[14], [7], [], Fct.cond (!(x159 || x160)) (some 53) (Fct.val 53 (.int .i64 x157))⟩, ⟨[14, 15], [], [], Fct.cond (!(x159 || x160)) (some 54) (Fct.val 54 (.bool (decide (x157 = 95))))⟩, ⟨[14, 16], [], [], Fct.val 55 (.bool x161)⟩, ⟨[17], [], [], Fct.val 56 (.bool x161)⟩, ⟨[18], [7], [], Fct.cond (!x161) (some 57) (Fct.val 57 (.int .i64 x157))⟩, ⟨[18, 19], [], [], Fct.cond (!x161) (some 58) (Fct.val 58 (.bool (decide (127 < x157))))⟩, ⟨[18, 20], [], [], Fct.val 59 (.bool (x161 || (decide (127 < x157))))⟩, ⟨[21], [], [], Fct.val 8 (.bool (x161 || (decide (127 < x157))))⟩] hz158 hd158 (by kernel_rfl) ?_ ?_
      · refine sc (fun _ _ _ _ s _ => px (or_move (s.1.trans e158_7))) ?_
        refine sc (fun _ _ _ f _ _ => px (or_gtr f.1 rfl rfl)) ?_
        refine sc (fun _ _ _ f _ _ => px (or_move f.1)) ?_
        refine sc (fun _ _ _ f s _ => sg_t rfl rfl rfl f.1 (fun hg => or_move (s.1.trans e158_7))) ?_
        refine sc (fun _ _ _ f _ _ => sg_t rfl rfl rfl f.1 (fun hg => or_lss (f.2.1.1 hg) rfl rfl)) ?_
        refine sc (fun _ _ _ f _ _ => px (or_and f.1 (fun hx => f.2.1.1 hx) rfl (osome hx159).symm)) ?_
        refine sc (fun _ _ _ f _ _ => px (or_move f.1)) ?_
        refine sc (fun _ _ _ f s _ => sg_f rfl rfl rfl f.1 (fun hg => or_move (s.1.trans e158_7))) ?_
        refine sc (fun _ _ _ f _ _ => sg_f rfl rfl rfl f.1 (fun hg => or_gtr (f.2.1.1 hg) rfl rfl)) ?_
        refine sc (fun _ _ _ f _ _ => sg_f rfl rfl rfl f.1 (fun hg => or_move (f.2.1.1 hg))) ?_
        refine sc (fun _ _ _ f s _ => sg_tc rfl rfl rfl f.1 (fun hg => or_move (s.1.trans e158_7))) ?_
        refine sc (fun _ _ _ f _ _ => sg_tc rfl rfl rfl f.1 (fun hg => or_lss (f.2.1.1 hg) rfl rfl)) ?_
        refine sc (fun _ _ _ f _ _ => sg_f rfl rfl rfl f.1 (fun hg => or_and (f.2.1.1 hg) (fun hx => f.2.2.1.1 (gI hg hx)) rfl (osome hx160).symm)) ?_
        refine sc (fun _ _ _ f _ _ => px (or_or f.1 rfl (fun hx => f.2.1.1 hx) rfl)) ?_
        refine sc (fun _ _ _ f _ _ => px (or_move f.1)) ?_
        refine sc (fun _ _ _ f s _ => sg_f rfl rfl rfl f.1 (fun hg => or_move (s.1.trans e158_7))) ?_
        refine sc (fun _ _ _ f _ _ => sg_f rfl rfl rfl f.1 (fun hg => or_eql (f.2.1.1 hg) rfl rfl)) ?_
        refine sc (fun _ _ _ f _ _ => px (or_or f.1 rfl (fun hx => f.2.1.1 hx) (osome hx161).symm)) ?_
        refine sc (fun _ _ _ f _ _ => px (or_move f.1)) ?_
        refine sc (fun _ _ _ f s _ => sg_f rfl rfl rfl f.1 (fun hg => or_move (s.1.trans e158_7))) ?_
        refine sc (fun _ _ _ f _ _ => sg_f rfl rfl rfl f.1 (fun hg => or_gtr (f.2.1.1 hg) rfl rfl)) ?_
        refine sc (fun _ _ _ f _ _ => px (or_or f.1 rfl (fun hx => f.2.1.1 hx) rfl)) ?_
        refine sc (fun _ _ _ f _ _ => px (or_assign f.1)) ?_
        exact steps_nil
      intro own162 a162 w162 hd162 hz162 hk162 hf162 hE162
      have e162_3 := (hk162 3 rfl).trans e158_3
      have e162_6 := (hk162 6 rfl).trans e158_6
      have e162_7 := (hk162 7 rfl).trans e158_7
      obtain ⟨(e162_8 : a162.eval (.tmp 8) = .bool (x161 || (decide (127 < x157)))), -⟩ := hf162 [22] rfl
      have hX162 := es_ hX158 hE162
      have b162_A94 := re_ hE162 b158_A94
      obtain ⟨x163, hx163, hs⟩ := obind hs
      obtain ⟨x164, hx164, hs⟩ := obind hs
      refine rg0_seq 84 own162 (bz 15) [⟨[], [7], [], Fct.val 60 (.int .i64 x157)⟩, ⟨[0], [], [], Fct.val 61 (.bool (decide (x157 = 45)))⟩, ⟨[1], [], [], Fct.val 62 (.bool (decide (x157 = 45)))⟩, ⟨[2], [7], [], Fct.cond (!(decide (x157 = 45))) (some 63) (Fct.val 63 (.int .i64 x157))⟩, ⟨[2, 3], [], [], Fct.cond (!(decide (x157 = 45))) (some 64) (Fct.val 64 (.bool (decide (x157 = 46))))⟩, ⟨[2, 4], [], [], Fct.val 65 (.bool x163)⟩, ⟨[5], [], [], Fct.val 66 (.bool x163)⟩, ⟨[6], [7], [], Fct.cond (!x163) (some 67) (Fct.val 67 (.int .i64 x157))⟩, ⟨[6, 7], [], [], Fct.cond (!x163) (some 68) (Fct.val 68 (.bool (decide (47 < x157))))⟩, ⟨[6, 8], [], [], Fct.cond (!x163) (some 69) (Fct.val 69 (.bool (decide (47 < x157))))⟩, ⟨[9], [7], [], Fct.cond ((!x163) && (decide (47 < x157))) (some 70) (Fct.val 70 (.int .i64 x157))⟩, ⟨[9, 10], [], [], Fct.cond ((!x163) && (decide (47 < x157))) (some 71) (Fct.val 71 (.bool (decide (x157 < 58))))⟩, ⟨[6, 9, 11], [], [], Fct.cond (!x163) (some 72) (Fct.val 72 (.bool x164))⟩, ⟨[6, 12], [], [], Fct.val 73 (.bool (x163 || x164))⟩, ⟨[13], [], [], Fct.val 9 (.bool (x163 || x164))⟩] hz162 hd162 (by kernel_rfl) ?_ ?_
      · refine sc (fun _ _ _ _ s _ => px (or_move (s.1.trans e162_7))) ?_
        refine sc (fun _ _ _ f _ _ => px (or_eql f.1 rfl rfl)) ?_
        refine sc (fun _ _ _ f _ _ => px (or_move f.1)) ?_
        refine sc (fun _ _ _ f s _ => sg_f rfl rfl rfl f.1 (fun hg => or_move (s.1.trans e162_7))) ?_
        refine sc (fun _ _ _ f _ _ => sg_f rfl rfl rfl f.1 (fun hg => or_eql (f.2.1.1 hg) rfl rfl)) ?_
        refine sc (fun _ _ _ f _ _ => px (or_or f.1 rfl (fun hx => f.2.1.1 hx) (osome hx163).symm)) ?_
        refine sc (fun _ _ _ f _ _ => px (or_move f.1)) ?_
        refine sc (fun _ _ _ f s _ => sg_f rfl rfl rfl f.1 (fun hg => or_move (s.1.trans e162_7))) ?_
        refine sc (fun _ _ _ f _ _ => sg_f rfl rfl rfl f.1 (fun hg => or_gtr (f.2.1.1 hg) rfl rfl)) ?_
        refine sc (fun _ _ _ f _ _ => sg_f rfl rfl rfl f.1 (fun hg => or_move (f.2.1.1 hg))) ?_
        refine sc (fun _ _ _ f s _ => sg_tc rfl rfl rfl f.1 (fun hg => or_move (s.1.trans e162_7))) ?_
        refine sc (fun _ _ _ f _ _ => sg_tc rfl rfl rfl f.1 (fun hg => or_lss (f.2.1.1 hg) rfl rfl)) ?_
        refine sc (fun _ _ _ f _ _ => sg_f rfl rfl rfl f.1 (fun hg => or_and (f.2.1.1 hg) (fun hx => f.2.2.1.1 (gI hg hx)) rfl (osome hx164).symm)) ?_
        refine sc (fun _ _ _ f _ _ => px (or_or f.1 rfl (fun hx => f.2.1.1 hx) rfl)) ?_
        refine sc (fun _ _ _ f _ _ => px (or_assign f.1)) ?_
        exact steps_nil
      intro own165 a165 w165 hd165 hz165 hk165 hf165 hE165
      have e165_3 := (hk165 3 rfl).trans e162_3
      have e165_6 := (hk165 6 rfl).trans e162_6
      have e165_8 := (hk165 8 rfl).trans e162_8
      obtain ⟨(e165_9 : a165.eval (.tmp 9) = .bool (x163 || x164)), -⟩ := hf165 [14] rfl
      have hX165 := es_ hX162 hE165
      have b165_A94 := re_ hE165 b162_A94
      obtain ⟨x166, hx166, hs⟩ := obind hs
      obtain ⟨x167, hx167, hs⟩ := obind hs
      refine rg0_seq 84 own165 (bz 10) [⟨[], [8], [], Fct.val 74 (.bool (x161 || (decide (127 < x157))))⟩, ⟨[0], [], [], Fct.val 75 (.bool (!(x161 || (decide (127 < x157)))))⟩, ⟨[1], [], [], Fct.val 76 (.bool (!(x161 || (decide (127 < x157)))))⟩, ⟨[2], [6], [], Fct.cond (!(x161 || (decide (127 < x157)))) (some 77) (Fct.val 77 (.int .i64 i128))⟩, ⟨[2, 3], [], [], Fct.cond (!(x161 || (decide (127 < x157)))) (some 78) (Fct.val 78 (.bool (decide (i128 = 0))))⟩, ⟨[2, 4], [], [], Fct.cond (!(x161 || (decide (127 < x157)))) (some 79) (Fct.val 79 (.bool (decide (i128 = 0))))⟩, ⟨[5], [9], [], Fct.cond ((!(x161 || (decide (127 < x157)))) && (!(decide (i128 = 0)))) (some 80) (Fct.val 80 (.bool (x163 || x164)))⟩, ⟨[5, 6], [], [], Fct.cond ((!(x161 || (decide (127 < x157)))) && (!(decide (i128 = 0)))) (some 81) (Fct.val 81 (.bool (!(x163 || x164))))⟩, ⟨[2, 5, 7], [], [], Fct.cond (!(x161 || (decide (127 < x157)))) (some 82) (Fct.val 82 (.bool x166))⟩, ⟨[2, 8], [], [], Fct.val 83 (.bool x167)⟩] hz165 hd165 (by kernel_rfl) ?_ ?_
      · refine sc (fun _ _ _ _ s _ => px (or_move (s.1.trans e165_8))) ?_
        refine sc (fun _ _ _ f _ _ => px (or_not f.1 rfl)) ?_
        refine sc (fun _ _ _ f _ _ => px (or_move f.1)) ?_
        refine sc (fun _ _ _ f s _ => sg_t rfl rfl rfl f.1 (fun hg => or_move (s.1.trans e165_6))) ?_
        refine sc (fun _ _ _ f _ _ => sg_t rfl rfl rfl f.1 (fun hg => or_eql (f.2.1.1 hg) rfl rfl)) ?_
        refine sc (fun _ _ _ f _ _ => sg_t rfl rfl rfl f.1 (fun hg => or_move (f.2.1.1 hg))) ?_
        refine sc (fun _ _ _ f s _ => sg_fc rfl rfl rfl f.1 (fun hg => or_move (s.1.trans e165_9))) ?_
        refine sc (fun _ _ _ f _ _ => sg_fc rfl rfl rfl f.1 (fun hg => or_not (f.2.1.1 hg) rfl)) ?_
        refine sc (fun _ _ _ f _ _ => sg_t rfl rfl rfl f.1 (fun hg => or_or (f.2.1.1 hg) rfl (fun hx => f.2.2.1.1 (gI hg hx)) (osome hx166).symm)) ?_
        refine sc (fun _ _ _ f _ _ => px (or_and f.1 (fun hx => f.2.1.1 hx) rfl (osome hx167).symm)) ?_
        exact steps_nil
      intro own168 a168 w168 hd168 hz168 hk168 hf168 hE168
      have e168_3 := (hk168 3 rfl).trans e165_3
      have e168_6 := (hk168 6 rfl).trans e165_6
      obtain ⟨(e168_83 : a168.eval (.tmp 83) = .bool x167), -⟩ := hf168 [9] rfl
      have hX168 := es_ hX165 hE168
      have b168_A94 := re_ hE168 b165_A94
      refine fl_cond e168_83 hs (fun c169 hs => ?_) (fun c169 hs => ?_)
      · refine rg0_seq 84 own168 (bz 1) [⟨[], [], [], Fct.val 2 (.bool false)⟩] hz168 hd168 (by kernel_rfl) ?_ ?_
        · refine sc (fun _ _ _ _ _ _ => px (or_assign rfl)) ?_
          exact steps_nil
        intro own170 a170 w170 hd170 hz170 hk170 hf170 hE170
        obtain ⟨(e170_2 : a170.eval (.tmp 2) = .bool false), -⟩ := hf170 [0] rfl
        have hX170 := es_ hX168 hE170
        refine fl_ret ?_
        refine hp156 _ _ _ rfl ?_
        refine hp155 _ _ _ rfl ?_
        replace hs := hz150 _ hs
        refine hp150 _ _ _ rfl ?_
        refine hp107 _ _ _ rfl ?_
        refine hp105 _ _ _ rfl ?_
        obtain rfl := osome hs
        exact hret _ _ _ _ (.inl rfl) hd170 (results1_ rfl (RVal.tmp_ e170_2)) ⟨own170, rfl, hX170⟩
      refine fl_skip ?_
      refine hn156 _ _ ?_
      refine hn155 _ _ ?_
      refine rg0 84 own168 (bz 3) [⟨[], [6], [], Fct.val 32 (.int .i64 i128)⟩, ⟨[0], [], [], Fct.val 33 (.int .i64 (ad i128 1))⟩, ⟨[1], [], [], Fct.val 6 (.int .i64 (ad i128 1))⟩] hz168 hd168 (by kernel_rfl) ?_ ?_
      · refine sc (fun _ _ _ _ s _ => px (or_move (s.1.trans e168_6))) ?_
        refine sc (fun _ _ _ f _ _ => px (or_add f.1 rfl rfl)) ?_
        refine sc (fun _ _ _ f _ _ => px (or_assign f.1)) ?_
        exact steps_nil
      intro own171 a171 w171 hd171 hz171 hk171 hf171 hE171
      have e171_3 := (hk171 3 rfl).trans e168_3
      obtain ⟨(e171_6 : a171.eval (.tmp 6) = .int .i64 (ad i128 1)), -⟩ := hf171 [2] rfl
      have hX171 := es_ hX168 hE171
      have b171_A94 := re_ hE171 b168_A94
      exact hn150 _ _ _ hs ⟨own171, hd171, hz171, e171_3, e171_6, hX171, b171_A94⟩
    refine fl_exit ?_
    refine hp152 _ _ _ rfl ?_
    replace hs := hz150 _ hs
    refine hp150 _ _ _ rfl ?_
    refine hx107 _ _ ?_
    refine hn105 _ _ ?_
    refine rg0_seq 84 own153 (bz 1) [⟨[], [], [], Fct.val 2 (.bool true)⟩] hz153 hd153 (by kernel_rfl) ?_ ?_
    · refine sc (fun _ _ _ _ _ _ => px (or_assign rfl)) ?_
      exact steps_nil
    intro own172 a172 w172 hd172 hz172 hk172 hf172 hE172
    obtain ⟨(e172_2 : a172.eval (.tmp 2) = .bool true), -⟩ := hf172 [0] rfl
    have hX172 := es_ hX153 hE172
    refine fl_ret ?_
    obtain rfl := osome hs
    exact hret _ _ _ _ (.inl rfl) hd172 (results1_ rfl (RVal.tmp_ e172_2)) ⟨own172, rfl, hX172⟩
theorem ref11_Key_w (w : World) (l1 : List ByteArray) (Al1 : Option Addr) (cl1 : Nat) (s2 : ByteArray) (hl1 : RdO (fun _ => 0) [0] w R9 Al1 cl1 l1) (r : Int) (hs : ref11_Key l1 s2 = some r) :
    Calls Try.prog 35 #[.slice Al1 l1.length cl1, .string s2] w fun e w' => ∃ own' : Own, e = .returned (.int .i64 r) ∧ Evo [] (fun _ => 0) own' w w' := by
  refine fl_enter (n := 21) rfl rfl rfl (Nat.le_of_ble_eq_true rfl) ?_
  intro a0 Q hd0 hz0 harg hret
  have ha0 := harg 0 _ rfl
  have ha1 := harg 1 _ rfl
  clear harg
  have hE0 : Evo [] (fun _ => 0) (fun _ => 0) w w := Evo.refl _ _ _
  refine rg0_seq 21 (fun _ => 0) (bz 1) [⟨[], [], [], Fct.val 4 (.int .i64 0)⟩] hz0 hd0 (by kernel_rfl) ?_ ?_
  · refine sc (fun _ _ _ _ _ _ => px (or_assign rfl)) ?_
    exact steps_nil
  intro own42 a42 w42 hd42 hz42 hk42 hf42 hE42
  have e42_0 := (hk42 0 rfl).trans ha0
  have e42_1 := (hk42 1 rfl).trans ha1
  have hX42 := es_ hE0 hE42
  have b42_Al1 := RdO.evo rfl hE42 hl1
  refine rg0_seq 21 own42 (bz 1) [⟨[], [], [], Fct.val 5 (.int .i64 0)⟩] hz42 hd42 (by kernel_rfl) ?_ ?_
  · refine sc (fun _ _ _ _ _ _ => px (or_assign rfl)) ?_
    exact steps_nil
  intro own43 a43 w43 hd43 hz43 hk43 hf43 hE43
  have e43_0 := (hk43 0 rfl).trans e42_0
  have e43_1 := (hk43 1 rfl).trans e42_1
  obtain ⟨(e43_5 : a43.eval (.tmp 5) = .int .i64 0), -⟩ := hf43 [0] rfl
  have hX43 := es_ hX42 hE43
  have b43_Al1 := RdO.evo rfl hE43 b42_Al1
  refine fl_seq (fun Q44 hn44 hp44 => ?_)
  refine fl_block (fun Q45 hn45 hx45 hp45 => ?_)
  refine fl_loop (body := (fun s => ref11_Key_b1 l1 s2 s)) (z := r) (show loopO _ _ = _ from hs) (fun (n54 : Int) a wx => ∃ (ox : Own), a.defers = [] ∧ a.tmps.size = 21 ∧ a.eval (.tmp 0) = .slice Al1 l1.length cl1 ∧ a.eval (.tmp 1) = .string s2 ∧ a.eval (.tmp 5) = .int .i64 n54 ∧ Evo [] (fun _ => 0) ox w wx ∧ RdO ox [0] wx R9 Al1 cl1 l1) ?_ ?_
  · exact ⟨own43, hd43, hz43, e43_0, e43_1, e43_5, hX43, b43_Al1⟩
  · rintro n54 zz63 a63 w63 ⟨own63, hd64, hz64, e64_0, e64_1, e64_5, hE64, b64_Al1⟩ hs Q63 hn63 hp63 hz63
    have hs : ref11_Key_b1 l1 s2 n54 = some zz63 := hs
    refine fl_seq (fun Q65 hn65 hp65 => ?_)
    obtain ⟨x66, hx66, hs⟩ := obind hs
    obtain ⟨x67, hx67, hs⟩ := obind hs
    refine rg0_seq 21 own63 [0, 0, 2, 7, 15, 31, 31, 127, 255, 31, 1023, 2047] [⟨[], [5], [], Fct.val 6 (.int .i64 n54)⟩, ⟨[], [0], [], Fct.val 7 (.slice Al1 l1.length cl1)⟩, ⟨[1], [], [], Fct.val 8 (.int .i64 (l1.length : Int))⟩, ⟨[0, 2], [], [], Fct.val 9 (.bool (decide (n54 < (l1.length : Int))))⟩, ⟨[3], [], [], Fct.val 10 (.bool (decide (n54 < (l1.length : Int))))⟩, ⟨[4], [0], [], Fct.cond (decide (n54 < (l1.length : Int))) (some 11) (Fct.val 11 (.slice Al1 l1.length cl1))⟩, ⟨[4], [5], [], Fct.cond (decide (n54 < (l1.length : Int))) (some 12) (Fct.val 12 (.int .i64 n54))⟩, ⟨[4, 5, 6], [], [], Fct.cond (decide (n54 < (l1.length : Int))) (some 13) (Fct.val 13 (.pointer (some ((adr Al1).add ((n54 : Int).toNat * R9.s)))))⟩, ⟨[4, 7], [], [], Fct.cond (decide (n54 < (l1.length : Int))) (some 14) (Fct.val 14 (.string x66))⟩, ⟨[4], [1], [], Fct.cond (decide (n54 < (l1.length : Int))) (some 15) (Fct.val 15 (.string s2))⟩, ⟨[4, 8, 9], [], [], Fct.cond (decide (n54 < (l1.length : Int))) (some 16) (Fct.val 16 (.bool (!eqS x66 s2)))⟩, ⟨[4, 10], [], [], Fct.val 17 (.bool x67)⟩] hz64 hd64 (by kernel_rfl) ?_ ?_
    · refine sc (fun _ _ _ _ s _ => px (or_move (s.1.trans e64_5))) ?_
      refine sc (fun _ _ _ _ s _ => px (or_move (s.1.trans e64_0))) ?_
      refine sc (fun _ _ _ f _ _ => px (or_len tu34 f.1 rfl)) ?_
      refine sc (fun _ _ _ f _ _ => px (or_lss f.1 f.2.1 rfl)) ?_
      refine sc (fun _ _ _ f _ _ => px (or_move f.1)) ?_
      refine sc (fun _ _ _ f s _ => sg_t rfl rfl rfl f.1 (fun hg => or_move (s.1.trans e64_0))) ?_
      refine sc (fun _ _ _ f s _ => sg_t rfl rfl rfl f.1 (fun hg => or_move (s.1.trans e64_5))) ?_
      refine sc (fun _ _ _ f _ _ => sg_t rfl rfl rfl f.1 (fun hg => or_index (R := R9) (l := l1) tl34 (f.2.1.1 hg) (f.2.2.1.1 hg) (RdO.some_ b64_Al1 (gd_t hx66 hg)) (gd_t hx66 hg))) ?_
      refine sc (fun _ _ _ f _ hE => sg_t rfl rfl rfl f.1 (fun hg => or_load1 to9 (f.2.1.1 hg) (CellsAt.zero (RdO.cells (F := E9) (RdO.evo rfl hE b64_Al1) (gd_t hx66 hg)) rfl))) ?_
      refine sc (fun _ _ _ f s _ => sg_t rfl rfl rfl f.1 (fun hg => or_move (s.1.trans e64_1))) ?_
      refine sc (fun _ _ _ f _ _ => sg_t rfl rfl rfl f.1 (fun hg => or_neqS tS9 (f.2.1.1 hg) (f.2.2.1.1 hg) rfl)) ?_
      refine sc (fun _ _ _ f _ _ => px (or_and f.1 (fun hx => f.2.1.1 hx) rfl (osome hx67).symm)) ?_
      exact steps_nil
    intro own68 a68 w68 hd68 hz68 hk68 hf68 hE68
    have e68_0 := (hk68 0 rfl).trans e64_0
    have e68_1 := (hk68 1 rfl).trans e64_1
    have e68_5 := (hk68 5 rfl).trans e64_5
    obtain ⟨(e68_17 : a68.eval (.tmp 17) = .bool x67), -⟩ := hf68 [11] rfl
    have hX68 := es_ hE64 hE68
    have b68_Al1 := RdO.evo rfl hE68 b64_Al1
    refine fl_cond e68_17 hs (fun c69 hs => ?_) (fun c69 hs => ?_)
    · refine fl_skip ?_
      refine hn65 _ _ ?_
      refine fl_block (fun Q70 hn70 hx70 hp70 => ?_)
      refine rg0 21 own68 (bz 3) [⟨[], [5], [], Fct.val 18 (.int .i64 n54)⟩, ⟨[0], [], [], Fct.val 19 (.int .i64 (ad n54 1))⟩, ⟨[1], [], [], Fct.val 5 (.int .i64 (ad n54 1))⟩] hz68 hd68 (by kernel_rfl) ?_ ?_
      · refine sc (fun _ _ _ _ s _ => px (or_move (s.1.trans e68_5))) ?_
        refine sc (fun _ _ _ f _ _ => px (or_add f.1 rfl rfl)) ?_
        refine sc (fun _ _ _ f _ _ => px (or_assign f.1)) ?_
        exact steps_nil
      intro own71 a71 w71 hd71 hz71 hk71 hf71 hE71
      have e71_0 := (hk71 0 rfl).trans e68_0
      have e71_1 := (hk71 1 rfl).trans e68_1
      obtain ⟨(e71_5 : a71.eval (.tmp 5) = .int .i64 (ad n54 1)), -⟩ := hf71 [2] rfl
      have hX71 := es_ hX68 hE71
      have b71_Al1 := RdO.evo rfl hE71 b68_Al1
      refine hn70 _ _ ?_
      exact hn63 _ _ _ hs ⟨own71, hd71, hz71, e71_0, e71_1, e71_5, hX71, b71_Al1⟩
    refine fl_exit ?_
    refine hp65 _ _ _ rfl ?_
    replace hs := hz63 _ hs
    refine hp63 _ _ _ rfl ?_
    refine hx45 _ _ ?_
    refine hn44 _ _ ?_
    refine rg0_seq 21 own68 (bz 2) [⟨[], [5], [], Fct.val 20 (.int .i64 n54)⟩, ⟨[0], [], [], Fct.val 4 (.int .i64 n54)⟩] hz68 hd68 (by kernel_rfl) ?_ ?_
    · refine sc (fun _ _ _ _ s _ => px (or_move (s.1.trans e68_5))) ?_
      refine sc (fun _ _ _ f _ _ => px (or_assign f.1)) ?_
      exact steps_nil
    intro own72 a72 w72 hd72 hz72 hk72 hf72 hE72
    obtain ⟨(e72_4 : a72.eval (.tmp 4) = .int .i64 n54), -⟩ := hf72 [1] rfl
    have hX72 := es_ hX68 hE72
    refine fl_ret ?_
    obtain rfl := (osome hs).symm
    exact hret _ _ _ _ (.inl rfl) hd72 (results1_ rfl (RVal.tmp_ e72_4)) ⟨own72, rfl, hX72⟩
theorem ref10_Check_w (w : World) (v1 : Int × ByteArray × Int) (r : Int) (hs : ref10_Check v1 = some r) :
    Calls Try.prog 36 #[.agg #[.int .i64 v1.1, .string v1.2.1, .int .i64 v1.2.2]] w fun e w' => ∃ own' : Own, e = .returned (.int .i64 r) ∧ Evo [] (fun _ => 0) own' w w' := by
  refine fl_enter (n := 73) rfl rfl rfl (Nat.le_of_ble_eq_true rfl) ?_
  intro a0 Q hd0 hz0 harg hret
  have ha0 := harg 0 _ rfl
  clear harg
  have hE0 : Evo [] (fun _ => 0) (fun _ => 0) w w := Evo.refl _ _ _
  refine rg0_seq 73 (fun _ => 0) [0, 0] [⟨[], [0], [], Fct.blk 48 1 (fun g => .pointer (some ⟨g, 0, none⟩)) 75 #[.int .i64 v1.1, .string v1.2.1, .int .i64 v1.2.2]⟩, ⟨[], [], [], Fct.val 2 (.int .i64 0)⟩] hz0 hd0 (by kernel_rfl) ?_ ?_
  · refine sc (fun _ _ _ _ s _ => px (or_new [(0, .agg #[.int .i64 v1.1, .string v1.2.1, .int .i64 v1.2.2])] rfl rfl ⟨(s.1.trans ha0), trivial⟩ (by kernel_rfl))) ?_
    refine sc (fun _ _ _ _ _ _ => px (or_assign rfl)) ?_
    exact steps_nil
  intro own49 a49 w49 hd49 hz49 hk49 hf49 hE49
  obtain ⟨⟨g47, (e49_1 : a49.eval (.tmp 1) = .pointer (some ⟨g47, 0, none⟩)), (b49_g47 : BlkO own49 48 w49 g47 75 #[.int .i64 v1.1, .string v1.2.1, .int .i64 v1.2.2])⟩, -⟩ := hf49 [0] rfl
  have hX49 := es_ hE0 hE49
  refine fl_seq (fun Q50 hn50 hp50 => ?_)
  obtain ⟨x51, hx51, hs⟩ := obind hs
  refine rg0_seq 73 own49 (bz 8) [⟨[], [1], [], Fct.val 6 (.pointer (some ⟨g47, 0, none⟩))⟩, ⟨[0], [], [], Fct.val 7 (.int .i64 v1.1)⟩, ⟨[1], [], [], Fct.val 8 (.bool (decide (v1.1 < 1)))⟩, ⟨[2], [], [], Fct.val 9 (.bool (decide (v1.1 < 1)))⟩, ⟨[3], [1], [], Fct.cond (!(decide (v1.1 < 1))) (some 10) (Fct.val 10 (.pointer (some ⟨g47, 0, none⟩)))⟩, ⟨[3, 4], [], [], Fct.cond (!(decide (v1.1 < 1))) (some 11) (Fct.val 11 (.int .i64 v1.1))⟩, ⟨[3, 5], [], [], Fct.cond (!(decide (v1.1 < 1))) (some 12) (Fct.val 12 (.bool (decide (4 < v1.1))))⟩, ⟨[3, 6], [], [], Fct.val 13 (.bool x51)⟩] hz49 hd49 (by kernel_rfl) ?_ ?_
  · refine sc (fun _ _ _ _ s _ => px (or_field fo75_0 (s.1.trans e49_1) (by rfl))) ?_
    refine sc (fun _ _ _ f _ hE => px (or_load1 to3 f.1 (Blk.at_ (be_ hE b49_g47).2 0 rfl))) ?_
    refine sc (fun _ _ _ f _ _ => px (or_lss f.1 rfl rfl)) ?_
    refine sc (fun _ _ _ f _ _ => px (or_move f.1)) ?_
    refine sc (fun _ _ _ f s _ => sg_f rfl rfl rfl f.1 (fun hg => or_field fo75_0 (s.1.trans e49_1) (by rfl))) ?_
    refine sc (fun _ _ _ f _ hE => sg_f rfl rfl rfl f.1 (fun hg => or_load1 to3 (f.2.1.1 hg) (Blk.at_ (be_ hE b49_g47).2 0 rfl))) ?_
    refine sc (fun _ _ _ f _ _ => sg_f rfl rfl rfl f.1 (fun hg => or_gtr (f.2.1.1 hg) rfl rfl)) ?_
    refine sc (fun _ _ _ f _ _ => px (or_or f.1 rfl (fun hx => f.2.1.1 hx) (osome hx51).symm)) ?_
    exact steps_nil
  intro own52 a52 w52 hd52 hz52 hk52 hf52 hE52
  have e52_1 := (hk52 1 rfl).trans e49_1
  obtain ⟨(e52_13 : a52.eval (.tmp 13) = .bool x51), -⟩ := hf52 [7] rfl
  have hX52 := es_ hX49 hE52
  have b52_g47 := be_ hE52 b49_g47
  refine fl_cond e52_13 hs (fun c53 hs => ?_) (fun c53 hs => ?_)
  · refine rg0_seq 73 own52 (bz 1) [⟨[], [], [], Fct.val 2 (.int .i64 14)⟩] hz52 hd52 (by kernel_rfl) ?_ ?_
    · refine sc (fun _ _ _ _ _ _ => px (or_assign rfl)) ?_
      exact steps_nil
    intro own54 a54 w54 hd54 hz54 hk54 hf54 hE54
    obtain ⟨(e54_2 : a54.eval (.tmp 2) = .int .i64 14), -⟩ := hf54 [0] rfl
    have hX54 := es_ hX52 hE54
    refine fl_ret ?_
    refine hp50 _ _ _ rfl ?_
    obtain rfl := osome hs
    exact hret _ _ _ _ (.inl rfl) hd54 (results1_ rfl (RVal.tmp_ e54_2)) ⟨own54, rfl, hX54⟩
  refine fl_skip ?_
  refine hn50 _ _ ?_
  refine fl_seq (fun Q55 hn55 hp55 => ?_)
  obtain ⟨x56, hx56, hs⟩ := obind hs
  obtain ⟨x57, hx57, hs⟩ := obind hs
  refine rg0_seq 73 own52 (bz 18) [⟨[], [1], [], Fct.val 14 (.pointer (some ⟨g47, 0, none⟩))⟩, ⟨[0], [], [], Fct.val 15 (.int .i64 v1.1)⟩, ⟨[1], [], [], Fct.val 16 (.bool (decide (v1.1 = 1)))⟩, ⟨[2], [], [], Fct.val 17 (.bool (decide (v1.1 = 1)))⟩, ⟨[3], [1], [], Fct.cond (decide (v1.1 = 1)) (some 18) (Fct.val 18 (.pointer (some ⟨g47, 2, none⟩)))⟩, ⟨[3, 4], [], [], Fct.cond (decide (v1.1 = 1)) (some 19) (Fct.val 19 (.int .i64 v1.2.2))⟩, ⟨[3, 5], [], [], Fct.cond (decide (v1.1 = 1)) (some 20) (Fct.val 20 (.bool (!decide (v1.2.2 = 0))))⟩, ⟨[3, 6], [], [], Fct.val 21 (.bool x56)⟩, ⟨[7], [], [], Fct.val 22 (.bool x56)⟩, ⟨[8], [1], [], Fct.cond (!x56) (some 23) (Fct.val 23 (.pointer (some ⟨g47, 0, none⟩)))⟩, ⟨[8, 9], [], [], Fct.cond (!x56) (some 24) (Fct.val 24 (.int .i64 v1.1))⟩, ⟨[8, 10], [], [], Fct.cond (!x56) (some 25) (Fct.val 25 (.bool (decide (1 < v1.1))))⟩, ⟨[8, 11], [], [], Fct.cond (!x56) (some 26) (Fct.val 26 (.bool (decide (1 < v1.1))))⟩, ⟨[12], [1], [], Fct.cond ((!x56) && (decide (1 < v1.1))) (some 27) (Fct.val 27 (.pointer (some ⟨g47, 1, none⟩)))⟩, ⟨[12, 13], [], [], Fct.cond ((!x56) && (decide (1 < v1.1))) (some 28) (Fct.val 28 (.string v1.2.1))⟩, ⟨[12, 14], [], [], Fct.cond ((!x56) && (decide (1 < v1.1))) (some 29) (Fct.val 29 (.bool (!eqS v1.2.1 ByteArray.empty)))⟩, ⟨[8, 12, 15], [], [], Fct.cond (!x56) (some 30) (Fct.val 30 (.bool x57))⟩, ⟨[8, 16], [], [], Fct.val 31 (.bool (x56 || x57))⟩] hz52 hd52 (by kernel_rfl) ?_ ?_
  · refine sc (fun _ _ _ _ s _ => px (or_field fo75_0 (s.1.trans e52_1) (by rfl))) ?_
    refine sc (fun _ _ _ f _ hE => px (or_load1 to3 f.1 (Blk.at_ (be_ hE b52_g47).2 0 rfl))) ?_
    refine sc (fun _ _ _ f _ _ => px (or_eql f.1 rfl rfl)) ?_
    refine sc (fun _ _ _ f _ _ => px (or_move f.1)) ?_
    refine sc (fun _ _ _ f s _ => sg_t rfl rfl rfl f.1 (fun hg => or_field fo75_2 (s.1.trans e52_1) (by rfl))) ?_
    refine sc (fun _ _ _ f _ hE => sg_t rfl rfl rfl f.1 (fun hg => or_load1 to3 (f.2.1.1 hg) (Blk.at_ (be_ hE b52_g47).2 2 rfl))) ?_
    refine sc (fun _ _ _ f _ _ => sg_t rfl rfl rfl f.1 (fun hg => or_neq (f.2.1.1 hg) rfl rfl)) ?_
    refine sc (fun _ _ _ f _ _ => px (or_and f.1 (fun hx => f.2.1.1 hx) rfl (osome hx56).symm)) ?_
    refine sc (fun _ _ _ f _ _ => px (or_move f.1)) ?_
    refine sc (fun _ _ _ f s _ => sg_f rfl rfl rfl f.1 (fun hg => or_field fo75_0 (s.1.trans e52_1) (by rfl))) ?_
    refine sc (fun _ _ _ f _ hE => sg_f rfl rfl rfl f.1 (fun hg => or_load1 to3 (f.2.1.1 hg) (Blk.at_ (be_ hE b52_g47).2 0 rfl))) ?_
    refine sc (fun _ _ _ f _ _ => sg_f rfl rfl rfl f.1 (fun hg => or_gtr (f.2.1.1 hg) rfl rfl)) ?_
    refine sc (fun _ _ _ f _ _ => sg_f rfl rfl rfl f.1 (fun hg => or_move (f.2.1.1 hg))) ?_
    refine sc (fun _ _ _ f s _ => sg_tc rfl rfl rfl f.1 (fun hg => or_field fo75_1 (s.1.trans e52_1) (by rfl))) ?_
    refine sc (fun _ _ _ f _ hE => sg_tc rfl rfl rfl f.1 (fun hg => or_load1 to9 (f.2.1.1 hg) (Blk.at_ (be_ hE b52_g47).2 1 rfl))) ?_
    refine sc (fun _ _ _ f _ _ => sg_tc rfl rfl rfl f.1 (fun hg => or_neqS tS9 (f.2.1.1 hg) rfl rfl)) ?_
    refine sc (fun _ _ _ f _ _ => sg_f rfl rfl rfl f.1 (fun hg => or_and (f.2.1.1 hg) (fun hx => f.2.2.1.1 (gI hg hx)) rfl (osome hx57).symm)) ?_
    refine sc (fun _ _ _ f _ _ => px (or_or f.1 rfl (fun hx => f.2.1.1 hx) rfl)) ?_
    exact steps_nil
  intro own58 a58 w58 hd58 hz58 hk58 hf58 hE58
  have e58_1 := (hk58 1 rfl).trans e52_1
  obtain ⟨(e58_31 : a58.eval (.tmp 31) = .bool (x56 || x57)), -⟩ := hf58 [17] rfl
  have hX58 := es_ hX52 hE58
  have b58_g47 := be_ hE58 b52_g47
  refine fl_cond e58_31 hs (fun c59 hs => ?_) (fun c59 hs => ?_)
  · refine rg0_seq 73 own58 (bz 1) [⟨[], [], [], Fct.val 2 (.int .i64 3)⟩] hz58 hd58 (by kernel_rfl) ?_ ?_
    · refine sc (fun _ _ _ _ _ _ => px (or_assign rfl)) ?_
      exact steps_nil
    intro own60 a60 w60 hd60 hz60 hk60 hf60 hE60
    obtain ⟨(e60_2 : a60.eval (.tmp 2) = .int .i64 3), -⟩ := hf60 [0] rfl
    have hX60 := es_ hX58 hE60
    refine fl_ret ?_
    refine hp55 _ _ _ rfl ?_
    obtain rfl := osome hs
    exact hret _ _ _ _ (.inl rfl) hd60 (results1_ rfl (RVal.tmp_ e60_2)) ⟨own60, rfl, hX60⟩
  refine fl_skip ?_
  refine hn55 _ _ ?_
  obtain ⟨r61, hr61, hs⟩ := obind hs
  refine rg0_seq 73 own58 [0, 1, 3, 7, 15, 15, 15, 31, 191, 511] [⟨[], [1], [], Fct.val 33 (.pointer (some ⟨g47, 1, none⟩))⟩, ⟨[0], [], [], Fct.val 34 (.string v1.2.1)⟩, ⟨[1], [], [], Fct.mems [64, 65] 35 (fun (x : (Option Addr × Nat) × (Option Addr × Nat)) => .tuple #[.slice x.1.1 r61.1.length x.1.2, .slice x.2.1 r61.2.1.length x.2.2, .bool r61.2.2]) (fun (x : (Option Addr × Nat) × (Option Addr × Nat)) own w => RwO own 64 [] w 3 R3 x.1.1 x.1.2 r61.1 ∧ RwO own 65 [] w 3 R3 x.2.1 x.2.2 r61.2.1) (fun hk he h => ⟨RwO.evo (hits_sub hk (by decide)) he h.1, RwO.evo (hits_sub hk (by decide)) he h.2⟩)⟩, ⟨[2], [], [], Fct.rel [32, 35] (fun l => ∀ (A62 : Option Addr) (cA62 : Nat) (A63 : Option Addr) (cA63 : Nat), l.getD 1 undef = .tuple #[.slice A62 r61.1.length cA62, .slice A63 r61.2.1.length cA63, .bool r61.2.2] → l.getD 0 undef = .tuple #[.slice A62 r61.1.length cA62, .slice A63 r61.2.1.length cA63, .bool r61.2.2])⟩, ⟨[3, 2], [], [], Fct.rel [36, 35] (fun l => ∀ (A62 : Option Addr) (cA62 : Nat) (A63 : Option Addr) (cA63 : Nat), l.getD 1 undef = .tuple #[.slice A62 r61.1.length cA62, .slice A63 r61.2.1.length cA63, .bool r61.2.2] → l.getD 0 undef = .slice A62 r61.1.length cA62)⟩, ⟨[3, 2], [], [], Fct.rel [37, 35] (fun l => ∀ (A62 : Option Addr) (cA62 : Nat) (A63 : Option Addr) (cA63 : Nat), l.getD 1 undef = .tuple #[.slice A62 r61.1.length cA62, .slice A63 r61.2.1.length cA63, .bool r61.2.2] → l.getD 0 undef = .slice A63 r61.2.1.length cA63)⟩, ⟨[3, 2], [], [], Fct.val 38 (.bool r61.2.2)⟩, ⟨[4, 2], [], [], Fct.rel [3, 35] (fun l => ∀ (A62 : Option Addr) (cA62 : Nat) (A63 : Option Addr) (cA63 : Nat), l.getD 1 undef = .tuple #[.slice A62 r61.1.length cA62, .slice A63 r61.2.1.length cA63, .bool r61.2.2] → l.getD 0 undef = .slice A62 r61.1.length cA62)⟩, ⟨[5, 2], [], [], Fct.rel [4, 35] (fun l => ∀ (A62 : Option Addr) (cA62 : Nat) (A63 : Option Addr) (cA63 : Nat), l.getD 1 undef = .tuple #[.slice A62 r61.1.length cA62, .slice A63 r61.2.1.length cA63, .bool r61.2.2] → l.getD 0 undef = .slice A63 r61.2.1.length cA63)⟩, ⟨[6], [], [], Fct.val 5 (.bool r61.2.2)⟩] hz58 hd58 (by kernel_rfl) ?_ ?_
  · refine sc (fun _ _ _ _ s _ => px (or_field fo75_1 (s.1.trans e58_1) (by rfl))) ?_
    refine sc (fun _ _ _ f _ hE => px (or_load1 to9 f.1 (Blk.at_ (be_ hE b58_g47).2 1 rfl))) ?_
    refine sc (fun _ _ _ f _ _ => px (or_call cf51 (args1 f.1) (ref09_Runes_w _ v1.2.1  r61 hr61) (post_mems (m := (fun _ => 0)) (m' := (look0 [(1, 64), (2, 65)])) (fun _ _ => .inl rfl) (fun own' w' a' x h1 h => ⟨x, h1, ⟨RwO.back_ h.1 (by decide) (.inl (Rep.fl_flat _)), RwO.back_ h.2 (by decide) (.inl (Rep.fl_flat _))⟩⟩)))) ?_
    refine sc (fun own a wx hf hsl hE => ?_) ?_
    · obtain ⟨⟨⟨⟨A62, cA62⟩, ⟨A63, cA63⟩⟩, (f_35 : a.eval (.tmp 35) = .tuple #[.slice A62 r61.1.length cA62, .slice A63 r61.2.1.length cA63, .bool r61.2.2]), b_A62, b_A63⟩, -⟩ := hf
      exact px (or_mono (f := Fct.val 32 (.tuple #[.slice A62 r61.1.length cA62, .slice A63 r61.2.1.length cA63, .bool r61.2.2])) (or_move f_35) (fun own' a' w' v' hp h => fun _ _ _ _ h0' => by cases (f_35.symm.trans ((hp.2 35 (by decide)).symm.trans h0')); exact h))
    refine sc (fun own a wx hf hsl hE => ?_) ?_
    · obtain ⟨(q_32 : ∀ (A62 : Option Addr) (cA62 : Nat) (A63 : Option Addr) (cA63 : Nat), a.eval (.tmp 35) = .tuple #[.slice A62 r61.1.length cA62, .slice A63 r61.2.1.length cA63, .bool r61.2.2] → a.eval (.tmp 32) = .tuple #[.slice A62 r61.1.length cA62, .slice A63 r61.2.1.length cA63, .bool r61.2.2]), ⟨⟨⟨A62, cA62⟩, ⟨A63, cA63⟩⟩, (f_35 : a.eval (.tmp 35) = .tuple #[.slice A62 r61.1.length cA62, .slice A63 r61.2.1.length cA63, .bool r61.2.2]), b_A62, b_A63⟩, -⟩ := hf
      have f_32 := q_32 _ _ _ _ f_35
      exact px (or_mono (f := Fct.val 36 (.slice A62 r61.1.length cA62)) (or_k [(32, .tuple #[.slice A62 r61.1.length cA62, .slice A63 r61.2.1.length cA63, .bool r61.2.2])] rfl rfl ⟨f_32, trivial⟩ (by kernel_rfl)) (fun own' a' w' v' hp h => fun _ _ _ _ h0' => by cases (f_35.symm.trans ((hp.2 35 (by decide)).symm.trans h0')); exact h))
    refine sc (fun own a wx hf hsl hE => ?_) ?_
    · obtain ⟨(q_32 : ∀ (A62 : Option Addr) (cA62 : Nat) (A63 : Option Addr) (cA63 : Nat), a.eval (.tmp 35) = .tuple #[.slice A62 r61.1.length cA62, .slice A63 r61.2.1.length cA63, .bool r61.2.2] → a.eval (.tmp 32) = .tuple #[.slice A62 r61.1.length cA62, .slice A63 r61.2.1.length cA63, .bool r61.2.2]), ⟨⟨⟨A62, cA62⟩, ⟨A63, cA63⟩⟩, (f_35 : a.eval (.tmp 35) = .tuple #[.slice A62 r61.1.length cA62, .slice A63 r61.2.1.length cA63, .bool r61.2.2]), b_A62, b_A63⟩, -⟩ := hf
      have f_32 := q_32 _ _ _ _ f_35
      exact px (or_mono (f := Fct.val 37 (.slice A63 r61.2.1.length cA63)) (or_k [(32, .tuple #[.slice A62 r61.1.length cA62, .slice A63 r61.2.1.length cA63, .bool r61.2.2])] rfl rfl ⟨f_32, trivial⟩ (by kernel_rfl)) (fun own' a' w' v' hp h => fun _ _ _ _ h0' => by cases (f_35.symm.trans ((hp.2 35 (by decide)).symm.trans h0')); exact h))
    refine sc (fun own a wx hf hsl hE => ?_) ?_
    · obtain ⟨(q_32 : ∀ (A62 : Option Addr) (cA62 : Nat) (A63 : Option Addr) (cA63 : Nat), a.eval (.tmp 35) = .tuple #[.slice A62 r61.1.length cA62, .slice A63 r61.2.1.length cA63, .bool r61.2.2] → a.eval (.tmp 32) = .tuple #[.slice A62 r61.1.length cA62, .slice A63 r61.2.1.length cA63, .bool r61.2.2]), ⟨⟨⟨A62, cA62⟩, ⟨A63, cA63⟩⟩, f_35, b_A62, b_A63⟩, -⟩ := hf
      have f_32 := q_32 _ _ _ _ f_35
      exact px (or_k [(32, .tuple #[.slice A62 r61.1.length cA62, .slice A63 r61.2.1.length cA63, .bool r61.2.2])] rfl rfl ⟨f_32, trivial⟩ (by kernel_rfl))
    refine sc (fun own a wx hf hsl hE => ?_) ?_
    · obtain ⟨(q_36 : ∀ (A62 : Option Addr) (cA62 : Nat) (A63 : Option Addr) (cA63 : Nat), a.eval (.tmp 35) = .tuple #[.slice A62 r61.1.length cA62, .slice A63 r61.2.1.length cA63, .bool r61.2.2] → a.eval (.tmp 36) = .slice A62 r61.1.length cA62), ⟨⟨⟨A62, cA62⟩, ⟨A63, cA63⟩⟩, (f_35 : a.eval (.tmp 35) = .tuple #[.slice A62 r61.1.length cA62, .slice A63 r61.2.1.length cA63, .bool r61.2.2]), b_A62, b_A63⟩, -⟩ := hf
      have f_36 := q_36 _ _ _ _ f_35
      exact px (or_mono (f := Fct.val 3 (.slice A62 r61.1.length cA62)) (or_assign f_36) (fun own' a' w' v' hp h => fun _ _ _ _ h0' => by cases (f_35.symm.trans ((hp.2 35 (by decide)).symm.trans h0')); exact h))
    refine sc (fun own a wx hf hsl hE => ?_) ?_
    · obtain ⟨(q_37 : ∀ (A62 : Option Addr) (cA62 : Nat) (A63 : Option Addr) (cA63 : Nat), a.eval (.tmp 35) = .tuple #[.slice A62 r61.1.length cA62, .slice A63 r61.2.1.length cA63, .bool r61.2.2] → a.eval (.tmp 37) = .slice A63 r61.2.1.length cA63), ⟨⟨⟨A62, cA62⟩, ⟨A63, cA63⟩⟩, (f_35 : a.eval (.tmp 35) = .tuple #[.slice A62 r61.1.length cA62, .slice A63 r61.2.1.length cA63, .bool r61.2.2]), b_A62, b_A63⟩, -⟩ := hf
      have f_37 := q_37 _ _ _ _ f_35
      exact px (or_mono (f := Fct.val 4 (.slice A63 r61.2.1.length cA63)) (or_assign f_37) (fun own' a' w' v' hp h => fun _ _ _ _ h0' => by cases (f_35.symm.trans ((hp.2 35 (by decide)).symm.trans h0')); exact h))
    refine sc (fun _ _ _ f _ _ => px (or_assign f.1)) ?_
    exact steps_nil
  intro own66 a66 w66 hd66 hz66 hk66 hf66 hE66
  have e66_1 := (hk66 1 rfl).trans e58_1
  obtain ⟨(e66_5 : a66.eval (.tmp 5) = .bool r61.2.2), -⟩ := hf66 [9] rfl
  have hX66 := es_ hX58 hE66
  have b66_g47 := be_ hE66 b58_g47
  refine fl_seq (fun Q67 hn67 hp67 => ?_)
  refine rg0_seq 73 own66 (bz 2) [⟨[], [5], [], Fct.val 39 (.bool r61.2.2)⟩, ⟨[0], [], [], Fct.val 40 (.bool (!r61.2.2))⟩] hz66 hd66 (by kernel_rfl) ?_ ?_
  · refine sc (fun _ _ _ _ s _ => px (or_move (s.1.trans e66_5))) ?_
    refine sc (fun _ _ _ f _ _ => px (or_not f.1 rfl)) ?_
    exact steps_nil
  intro own68 a68 w68 hd68 hz68 hk68 hf68 hE68
  have e68_1 := (hk68 1 rfl).trans e66_1
  obtain ⟨(e68_40 : a68.eval (.tmp 40) = .bool (!r61.2.2)), -⟩ := hf68 [1] rfl
  have hX68 := es_ hX66 hE68
  have b68_g47 := be_ hE68 b66_g47
  refine fl_cond e68_40 hs (fun c69 hs => ?_) (fun c69 hs => ?_)
  · refine rg0_seq 73 own68 (bz 1) [⟨[], [], [], Fct.val 2 (.int .i64 13)⟩] hz68 hd68 (by kernel_rfl) ?_ ?_
    · refine sc (fun _ _ _ _ _ _ => px (or_assign rfl)) ?_
      exact steps_nil
    intro own70 a70 w70 hd70 hz70 hk70 hf70 hE70
    obtain ⟨(e70_2 : a70.eval (.tmp 2) = .int .i64 13), -⟩ := hf70 [0] rfl
    have hX70 := es_ hX68 hE70
    refine fl_ret ?_
    refine hp67 _ _ _ rfl ?_
    obtain rfl := osome hs
    exact hret _ _ _ _ (.inl rfl) hd70 (results1_ rfl (RVal.tmp_ e70_2)) ⟨own70, rfl, hX70⟩
  refine fl_skip ?_
  refine hn67 _ _ ?_
  refine fl_seq (fun Q71 hn71 hp71 => ?_)
  refine rg0_seq 73 own68 (bz 4) [⟨[], [1], [], Fct.val 41 (.pointer (some ⟨g47, 1, none⟩))⟩, ⟨[0], [], [], Fct.val 42 (.string v1.2.1)⟩, ⟨[1], [], [], Fct.val 43 (.int .i64 (v1.2.1.size : Int))⟩, ⟨[2], [], [], Fct.val 44 (.bool (decide (64 < (v1.2.1.size : Int))))⟩] hz68 hd68 (by kernel_rfl) ?_ ?_
  · refine sc (fun _ _ _ _ s _ => px (or_field fo75_1 (s.1.trans e68_1) (by rfl))) ?_
    refine sc (fun _ _ _ f _ hE => px (or_load1 to9 f.1 (Blk.at_ (be_ hE b68_g47).2 1 rfl))) ?_
    refine sc (fun _ _ _ f _ _ => px (or_lenS tS9 f.1 rfl)) ?_
    refine sc (fun _ _ _ f _ _ => px (or_gtr f.1 rfl rfl)) ?_
    exact steps_nil
  intro own72 a72 w72 hd72 hz72 hk72 hf72 hE72
  have e72_1 := (hk72 1 rfl).trans e68_1
  obtain ⟨(e72_44 : a72.eval (.tmp 44) = .bool (decide (64 < (v1.2.1.size : Int)))), -⟩ := hf72 [3] rfl
  have hX72 := es_ hX68 hE72
  have b72_g47 := be_ hE72 b68_g47
  refine fl_cond e72_44 hs (fun c73 hs => ?_) (fun c73 hs => ?_)
  · refine rg0_seq 73 own72 (bz 1) [⟨[], [], [], Fct.val 2 (.int .i64 2)⟩] hz72 hd72 (by kernel_rfl) ?_ ?_
    · refine sc (fun _ _ _ _ _ _ => px (or_assign rfl)) ?_
      exact steps_nil
    intro own74 a74 w74 hd74 hz74 hk74 hf74 hE74
    obtain ⟨(e74_2 : a74.eval (.tmp 2) = .int .i64 2), -⟩ := hf74 [0] rfl
    have hX74 := es_ hX72 hE74
    refine fl_ret ?_
    refine hp71 _ _ _ rfl ?_
    obtain rfl := osome hs
    exact hret _ _ _ _ (.inl rfl) hd74 (results1_ rfl (RVal.tmp_ e74_2)) ⟨own74, rfl, hX74⟩
  refine fl_skip ?_
  refine hn71 _ _ ?_
  refine fl_seq (fun Q75 hn75 hp75 => ?_)
  obtain ⟨x76, hx76, hs⟩ := obind hs
  obtain ⟨x77, hx77, hs⟩ := obind hs
  obtain ⟨x78, hx78, hs⟩ := obind hs
  refine rg0_seq 73 own72 (bz 28) [⟨[], [1], [], Fct.val 45 (.pointer (some ⟨g47, 2, none⟩))⟩, ⟨[0], [], [], Fct.val 46 (.int .i64 v1.2.2)⟩, ⟨[1], [], [], Fct.val 47 (.bool (decide (1152921504606846976 < v1.2.2)))⟩, ⟨[2], [], [], Fct.val 48 (.bool (decide (1152921504606846976 < v1.2.2)))⟩, ⟨[3], [1], [], Fct.cond (!(decide (1152921504606846976 < v1.2.2))) (some 49) (Fct.val 49 (.pointer (some ⟨g47, 2, none⟩)))⟩, ⟨[3, 4], [], [], Fct.cond (!(decide (1152921504606846976 < v1.2.2))) (some 50) (Fct.val 50 (.int .i64 v1.2.2))⟩, ⟨[3, 5], [], [], Fct.cond (!(decide (1152921504606846976 < v1.2.2))) (some 51) (Fct.val 51 (.bool (decide (v1.2.2 < (-1152921504606846976)))))⟩, ⟨[3, 6], [], [], Fct.val 52 (.bool x76)⟩, ⟨[7], [], [], Fct.val 53 (.bool x76)⟩, ⟨[8], [1], [], Fct.cond (!x76) (some 54) (Fct.val 54 (.pointer (some ⟨g47, 2, none⟩)))⟩, ⟨[8, 9], [], [], Fct.cond (!x76) (some 55) (Fct.val 55 (.int .i64 v1.2.2))⟩, ⟨[8, 10], [], [], Fct.cond (!x76) (some 56) (Fct.val 56 (.bool (decide (v1.2.2 < 0))))⟩, ⟨[8, 11], [], [], Fct.cond (!x76) (some 57) (Fct.val 57 (.bool (decide (v1.2.2 < 0))))⟩, ⟨[12], [1], [], Fct.cond ((!x76) && (decide (v1.2.2 < 0))) (some 58) (Fct.val 58 (.pointer (some ⟨g47, 0, none⟩)))⟩, ⟨[12, 13], [], [], Fct.cond ((!x76) && (decide (v1.2.2 < 0))) (some 59) (Fct.val 59 (.int .i64 v1.1))⟩, ⟨[12, 14], [], [], Fct.cond ((!x76) && (decide (v1.2.2 < 0))) (some 60) (Fct.val 60 (.bool (!decide (v1.1 = 3))))⟩, ⟨[8, 12, 15], [], [], Fct.cond (!x76) (some 61) (Fct.val 61 (.bool x77))⟩, ⟨[8, 16], [], [], Fct.val 62 (.bool (x76 || x77))⟩, ⟨[17], [], [], Fct.val 63 (.bool (x76 || x77))⟩, ⟨[18], [1], [], Fct.cond (!(x76 || x77)) (some 64) (Fct.val 64 (.pointer (some ⟨g47, 2, none⟩)))⟩, ⟨[18, 19], [], [], Fct.cond (!(x76 || x77)) (some 65) (Fct.val 65 (.int .i64 v1.2.2))⟩, ⟨[18, 20], [], [], Fct.cond (!(x76 || x77)) (some 66) (Fct.val 66 (.bool (decide (1 < v1.2.2))))⟩, ⟨[18, 21], [], [], Fct.cond (!(x76 || x77)) (some 67) (Fct.val 67 (.bool (decide (1 < v1.2.2))))⟩, ⟨[22], [1], [], Fct.cond ((!(x76 || x77)) && (decide (1 < v1.2.2))) (some 68) (Fct.val 68 (.pointer (some ⟨g47, 0, none⟩)))⟩, ⟨[22, 23], [], [], Fct.cond ((!(x76 || x77)) && (decide (1 < v1.2.2))) (some 69) (Fct.val 69 (.int .i64 v1.1))⟩, ⟨[22, 24], [], [], Fct.cond ((!(x76 || x77)) && (decide (1 < v1.2.2))) (some 70) (Fct.val 70 (.bool (decide (v1.1 = 4))))⟩, ⟨[18, 22, 25], [], [], Fct.cond (!(x76 || x77)) (some 71) (Fct.val 71 (.bool x78))⟩, ⟨[18, 26], [], [], Fct.val 72 (.bool ((x76 || x77) || x78))⟩] hz72 hd72 (by kernel_rfl) ?_ ?_
  · refine sc (fun _ _ _ _ s _ => px (or_field fo75_2 (s.1.trans e72_1) (by rfl))) ?_
    refine sc (fun _ _ _ f _ hE => px (or_load1 to3 f.1 (Blk.at_ (be_ hE b72_g47).2 2 rfl))) ?_
    refine sc (fun _ _ _ f _ _ => px (or_gtr f.1 rfl rfl)) ?_
    refine sc (fun _ _ _ f _ _ => px (or_move f.1)) ?_
    refine sc (fun _ _ _ f s _ => sg_f rfl rfl rfl f.1 (fun hg => or_field fo75_2 (s.1.trans e72_1) (by rfl))) ?_
    refine sc (fun _ _ _ f _ hE => sg_f rfl rfl rfl f.1 (fun hg => or_load1 to3 (f.2.1.1 hg) (Blk.at_ (be_ hE b72_g47).2 2 rfl))) ?_
    refine sc (fun _ _ _ f _ _ => sg_f rfl rfl rfl f.1 (fun hg => or_lss (f.2.1.1 hg) rfl rfl)) ?_
    refine sc (fun _ _ _ f _ _ => px (or_or f.1 rfl (fun hx => f.2.1.1 hx) (osome hx76).symm)) ?_
    refine sc (fun _ _ _ f _ _ => px (or_move f.1)) ?_
    refine sc (fun _ _ _ f s _ => sg_f rfl rfl rfl f.1 (fun hg => or_field fo75_2 (s.1.trans e72_1) (by rfl))) ?_
    refine sc (fun _ _ _ f _ hE => sg_f rfl rfl rfl f.1 (fun hg => or_load1 to3 (f.2.1.1 hg) (Blk.at_ (be_ hE b72_g47).2 2 rfl))) ?_
    refine sc (fun _ _ _ f _ _ => sg_f rfl rfl rfl f.1 (fun hg => or_lss (f.2.1.1 hg) rfl rfl)) ?_
    refine sc (fun _ _ _ f _ _ => sg_f rfl rfl rfl f.1 (fun hg => or_move (f.2.1.1 hg))) ?_
    refine sc (fun _ _ _ f s _ => sg_tc rfl rfl rfl f.1 (fun hg => or_field fo75_0 (s.1.trans e72_1) (by rfl))) ?_
    refine sc (fun _ _ _ f _ hE => sg_tc rfl rfl rfl f.1 (fun hg => or_load1 to3 (f.2.1.1 hg) (Blk.at_ (be_ hE b72_g47).2 0 rfl))) ?_
    refine sc (fun _ _ _ f _ _ => sg_tc rfl rfl rfl f.1 (fun hg => or_neq (f.2.1.1 hg) rfl rfl)) ?_
    refine sc (fun _ _ _ f _ _ => sg_f rfl rfl rfl f.1 (fun hg => or_and (f.2.1.1 hg) (fun hx => f.2.2.1.1 (gI hg hx)) rfl (osome hx77).symm)) ?_
    refine sc (fun _ _ _ f _ _ => px (or_or f.1 rfl (fun hx => f.2.1.1 hx) rfl)) ?_
    refine sc (fun _ _ _ f _ _ => px (or_move f.1)) ?_
    refine sc (fun _ _ _ f s _ => sg_f rfl rfl rfl f.1 (fun hg => or_field fo75_2 (s.1.trans e72_1) (by rfl))) ?_
    refine sc (fun _ _ _ f _ hE => sg_f rfl rfl rfl f.1 (fun hg => or_load1 to3 (f.2.1.1 hg) (Blk.at_ (be_ hE b72_g47).2 2 rfl))) ?_
    refine sc (fun _ _ _ f _ _ => sg_f rfl rfl rfl f.1 (fun hg => or_gtr (f.2.1.1 hg) rfl rfl)) ?_
    refine sc (fun _ _ _ f _ _ => sg_f rfl rfl rfl f.1 (fun hg => or_move (f.2.1.1 hg))) ?_
    refine sc (fun _ _ _ f s _ => sg_tc rfl rfl rfl f.1 (fun hg => or_field fo75_0 (s.1.trans e72_1) (by rfl))) ?_
    refine sc (fun _ _ _ f _ hE => sg_tc rfl rfl rfl f.1 (fun hg => or_load1 to3 (f.2.1.1 hg) (Blk.at_ (be_ hE b72_g47).2 0 rfl))) ?_
    refine sc (fun _ _ _ f _ _ => sg_tc rfl rfl rfl f.1 (fun hg => or_eql (f.2.1.1 hg) rfl rfl)) ?_
    refine sc (fun _ _ _ f _ _ => sg_f rfl rfl rfl f.1 (fun hg => or_and (f.2.1.1 hg) (fun hx => f.2.2.1.1 (gI hg hx)) rfl (osome hx78).symm)) ?_
    refine sc (fun _ _ _ f _ _ => px (or_or f.1 rfl (fun hx => f.2.1.1 hx) rfl)) ?_
    exact steps_nil
  intro own79 a79 w79 hd79 hz79 hk79 hf79 hE79
  obtain ⟨(e79_72 : a79.eval (.tmp 72) = .bool ((x76 || x77) || x78)), -⟩ := hf79 [27] rfl
  have hX79 := es_ hX72 hE79
  refine fl_cond e79_72 hs (fun c80 hs => ?_) (fun c80 hs => ?_)
  · refine rg0_seq 73 own79 (bz 1) [⟨[], [], [], Fct.val 2 (.int .i64 5)⟩] hz79 hd79 (by kernel_rfl) ?_ ?_
    · refine sc (fun _ _ _ _ _ _ => px (or_assign rfl)) ?_
      exact steps_nil
    intro own81 a81 w81 hd81 hz81 hk81 hf81 hE81
    obtain ⟨(e81_2 : a81.eval (.tmp 2) = .int .i64 5), -⟩ := hf81 [0] rfl
    have hX81 := es_ hX79 hE81
    refine fl_ret ?_
    refine hp75 _ _ _ rfl ?_
    obtain rfl := osome hs
    exact hret _ _ _ _ (.inl rfl) hd81 (results1_ rfl (RVal.tmp_ e81_2)) ⟨own81, rfl, hX81⟩
  refine fl_skip ?_
  refine hn75 _ _ ?_
  refine rg0_seq 73 own79 (bz 1) [⟨[], [], [], Fct.val 2 (.int .i64 0)⟩] hz79 hd79 (by kernel_rfl) ?_ ?_
  · refine sc (fun _ _ _ _ _ _ => px (or_assign rfl)) ?_
    exact steps_nil
  intro own82 a82 w82 hd82 hz82 hk82 hf82 hE82
  obtain ⟨(e82_2 : a82.eval (.tmp 2) = .int .i64 0), -⟩ := hf82 [0] rfl
  have hX82 := es_ hX79 hE82
  refine fl_ret ?_
  obtain rfl := osome hs
  exact hret _ _ _ _ (.inl rfl) hd82 (results1_ rfl (RVal.tmp_ e82_2)) ⟨own82, rfl, hX82⟩
theorem ref11_Value_w (w : World) (l1 : List (Int × ByteArray × Int)) (Al1 : Option Addr) (cl1 : Nat) (v2 : Int × ByteArray × Int) (hl1 : RdO (fun _ => 0) [0] w R75 Al1 cl1 l1) (r : Int) (hs : ref11_Value l1 v2 = some r) :
    Calls Try.prog 37 #[.slice Al1 l1.length cl1, .agg #[.int .i64 v2.1, .string v2.2.1, .int .i64 v2.2.2]] w fun e w' => ∃ own' : Own, e = .returned (.int .i64 r) ∧ Evo [] (fun _ => 0) own' w w' := by
  refine fl_enter (n := 21) rfl rfl rfl (Nat.le_of_ble_eq_true rfl) ?_
  intro a0 Q hd0 hz0 harg hret
  have ha0 := harg 0 _ rfl
  have ha1 := harg 1 _ rfl
  clear harg
  have hE0 : Evo [] (fun _ => 0) (fun _ => 0) w w := Evo.refl _ _ _
  refine rg0_seq 21 (fun _ => 0) [0, 0] [⟨[], [1], [], Fct.blk 45 3 (fun g => .pointer (some ⟨g, 0, none⟩)) 75 #[.int .i64 v2.1, .string v2.2.1, .int .i64 v2.2.2]⟩, ⟨[], [], [], Fct.val 4 (.int .i64 0)⟩] hz0 hd0 (by kernel_rfl) ?_ ?_
  · refine sc (fun _ _ _ _ s _ => px (or_new [(1, .agg #[.int .i64 v2.1, .string v2.2.1, .int .i64 v2.2.2])] rfl rfl ⟨(s.1.trans ha1), trivial⟩ (by kernel_rfl))) ?_
    refine sc (fun _ _ _ _ _ _ => px (or_assign rfl)) ?_
    exact steps_nil
  intro own46 a46 w46 hd46 hz46 hk46 hf46 hE46
  have e46_0 := (hk46 0 rfl).trans ha0
  obtain ⟨⟨g44, (e46_3 : a46.eval (.tmp 3) = .pointer (some ⟨g44, 0, none⟩)), (b46_g44 : BlkO own46 45 w46 g44 75 #[.int .i64 v2.1, .string v2.2.1, .int .i64 v2.2.2])⟩, -⟩ := hf46 [0] rfl
  have hX46 := es_ hE0 hE46
  have b46_Al1 := RdO.evo rfl hE46 hl1
  refine rg0_seq 21 own46 (bz 1) [⟨[], [], [], Fct.val 5 (.int .i64 0)⟩] hz46 hd46 (by kernel_rfl) ?_ ?_
  · refine sc (fun _ _ _ _ _ _ => px (or_assign rfl)) ?_
    exact steps_nil
  intro own47 a47 w47 hd47 hz47 hk47 hf47 hE47
  have e47_0 := (hk47 0 rfl).trans e46_0
  have e47_3 := (hk47 3 rfl).trans e46_3
  obtain ⟨(e47_5 : a47.eval (.tmp 5) = .int .i64 0), -⟩ := hf47 [0] rfl
  have hX47 := es_ hX46 hE47
  have b47_Al1 := RdO.evo rfl hE47 b46_Al1
  have b47_g44 := be_ hE47 b46_g44
  refine fl_seq (fun Q48 hn48 hp48 => ?_)
  refine fl_block (fun Q49 hn49 hx49 hp49 => ?_)
  refine fl_loop (body := (fun s => ref11_Value_b1 l1 v2 s)) (z := r) (show loopO _ _ = _ from hs) (fun (n58 : Int) a wx => ∃ (ox : Own), a.defers = [] ∧ a.tmps.size = 21 ∧ a.eval (.tmp 0) = .slice Al1 l1.length cl1 ∧ a.eval (.tmp 3) = .pointer (some ⟨g44, 0, none⟩) ∧ a.eval (.tmp 5) = .int .i64 n58 ∧ Evo [] (fun _ => 0) ox w wx ∧ RdO ox [0] wx R75 Al1 cl1 l1 ∧ BlkO ox 45 wx g44 75 #[.int .i64 v2.1, .string v2.2.1, .int .i64 v2.2.2]) ?_ ?_
  · exact ⟨own47, hd47, hz47, e47_0, e47_3, e47_5, hX47, b47_Al1, b47_g44⟩
  · rintro n58 zz67 a67 w67 ⟨own67, hd68, hz68, e68_0, e68_3, e68_5, hE68, b68_Al1, b68_g44⟩ hs Q67 hn67 hp67 hz67
    have hs : ref11_Value_b1 l1 v2 n58 = some zz67 := hs
    refine fl_seq (fun Q69 hn69 hp69 => ?_)
    obtain ⟨x70, hx70, hs⟩ := obind hs
    obtain ⟨x71, hx71, hs⟩ := obind hs
    refine rg_draw_seq g_mixed (n := 21) (rs := []) (own0 := own67) (K := []) (bs := [0, 0, 2, 7, 15, 31, 31, 127, 255, 31, 1023, 2047]) (ds := [⟨[], [5], [], Fct.val 6 (.int .i64 n58)⟩, ⟨[], [0], [], Fct.val 7 (.slice Al1 l1.length cl1)⟩, ⟨[1], [], [], Fct.val 8 (.int .i64 (l1.length : Int))⟩, ⟨[0, 2], [], [], Fct.val 9 (.bool (decide (n58 < (l1.length : Int))))⟩, ⟨[3], [], [], Fct.val 10 (.bool (decide (n58 < (l1.length : Int))))⟩, ⟨[4], [0], [], Fct.cond (decide (n58 < (l1.length : Int))) (some 11) (Fct.val 11 (.slice Al1 l1.length cl1))⟩, ⟨[4], [5], [], Fct.cond (decide (n58 < (l1.length : Int))) (some 12) (Fct.val 12 (.int .i64 n58))⟩, ⟨[4, 5, 6], [], [], Fct.cond (decide (n58 < (l1.length : Int))) (some 13) (Fct.val 13 (.pointer (some ((adr Al1).add ((n58 : Int).toNat * R75.s)))))⟩, ⟨[4, 7], [], [], Fct.cond (decide (n58 < (l1.length : Int))) (some 14) (Fct.val 14 (.agg #[.int .i64 x70.1, .string x70.2.1, .int .i64 x70.2.2]))⟩, ⟨[4], [3], [], Fct.cond (decide (n58 < (l1.length : Int))) (some 15) (Fct.val 15 (.agg #[.int .i64 v2.1, .string v2.2.1, .int .i64 v2.2.2]))⟩, ⟨[4, 8, 9], [], [], Fct.cond (decide (n58 < (l1.length : Int))) (some 16) (Fct.val 16 (.bool (!decide (x70 = v2))))⟩, ⟨[4, 10], [], [], Fct.val 17 (.bool x71)⟩]) (by kernel_rfl) hz68 hd68 nm_ ?_ ?_
    · refine sc (fun _ _ _ _ s _ => px (or_move (s.1.trans e68_5))) ?_
      refine sc (fun _ _ _ _ s _ => px (or_move (s.1.trans e68_0))) ?_
      refine sc (fun _ _ _ f _ _ => px (or_len tu35 f.1 rfl)) ?_
      refine sc (fun _ _ _ f _ _ => px (or_lss f.1 f.2.1 rfl)) ?_
      refine sc (fun _ _ _ f _ _ => px (or_move f.1)) ?_
      refine sc (fun _ _ _ f s _ => sg_t rfl rfl rfl f.1 (fun hg => or_move (s.1.trans e68_0))) ?_
      refine sc (fun _ _ _ f s _ => sg_t rfl rfl rfl f.1 (fun hg => or_move (s.1.trans e68_5))) ?_
      refine sc (fun _ _ _ f _ _ => sg_t rfl rfl rfl f.1 (fun hg => or_index (R := R75) (l := l1) tl35 (f.2.1.1 hg) (f.2.2.1.1 hg) (RdO.some_ b68_Al1 (gd_t hx70 hg)) (gd_t hx70 hg))) ?_
      refine sc (fun _ _ _ f _ hE => sg_t rfl rfl rfl f.1 (fun hg => or_load (l := E75.f x70) ta75 (f.2.1.1 hg) (RdO.cells (F := E75) (RdO.evo rfl hE b68_Al1) (gd_t hx70 hg)) rfl)) ?_
      refine sc (fun _ _ _ f s hE => sg_t rfl rfl rfl f.1 (fun hg => or_load (l := [.int .i64 v2.1, .string v2.2.1, .int .i64 v2.2.2]) ta75 (s.1.trans e68_3) (Blk.cellsFrom (be_ hE b68_g44).2 0 rfl) rfl)) ?_
      refine sc (fun _ _ _ f _ _ => sg_t rfl rfl rfl f.1 (fun hg => or_neqA sg75 (f.2.1.1 hg) (f.2.2.1.1 hg) (sn75 x70.1 x70.2.1 x70.2.2 v2.1 v2.2.1 v2.2.2 _) rfl)) ?_
      refine sc (fun _ _ _ f _ _ => px (or_and f.1 (fun hx => f.2.1.1 hx) rfl (osome hx71).symm)) ?_
      exact steps_nil
    intro own72 a72 w72 hd72 hz72 hk72 hf72 hE72
    have e72_0 := (hk72 0 rfl).trans e68_0
    have e72_3 := (hk72 3 rfl).trans e68_3
    have e72_5 := (hk72 5 rfl).trans e68_5
    obtain ⟨(e72_17 : a72.eval (.tmp 17) = .bool x71), -⟩ := hf72 [11] rfl
    have hX72 := es_ hE68 hE72
    have b72_Al1 := RdO.evo rfl hE72 b68_Al1
    have b72_g44 := be_ hE72 b68_g44
    refine fl_cond e72_17 hs (fun c73 hs => ?_) (fun c73 hs => ?_)
    · refine fl_skip ?_
      refine hn69 _ _ ?_
      refine fl_block (fun Q74 hn74 hx74 hp74 => ?_)
      refine rg0 21 own72 (bz 3) [⟨[], [5], [], Fct.val 18 (.int .i64 n58)⟩, ⟨[0], [], [], Fct.val 19 (.int .i64 (ad n58 1))⟩, ⟨[1], [], [], Fct.val 5 (.int .i64 (ad n58 1))⟩] hz72 hd72 (by kernel_rfl) ?_ ?_
      · refine sc (fun _ _ _ _ s _ => px (or_move (s.1.trans e72_5))) ?_
        refine sc (fun _ _ _ f _ _ => px (or_add f.1 rfl rfl)) ?_
        refine sc (fun _ _ _ f _ _ => px (or_assign f.1)) ?_
        exact steps_nil
      intro own75 a75 w75 hd75 hz75 hk75 hf75 hE75
      have e75_0 := (hk75 0 rfl).trans e72_0
      have e75_3 := (hk75 3 rfl).trans e72_3
      obtain ⟨(e75_5 : a75.eval (.tmp 5) = .int .i64 (ad n58 1)), -⟩ := hf75 [2] rfl
      have hX75 := es_ hX72 hE75
      have b75_Al1 := RdO.evo rfl hE75 b72_Al1
      have b75_g44 := be_ hE75 b72_g44
      refine hn74 _ _ ?_
      exact hn67 _ _ _ hs ⟨own75, hd75, hz75, e75_0, e75_3, e75_5, hX75, b75_Al1, b75_g44⟩
    refine fl_exit ?_
    refine hp69 _ _ _ rfl ?_
    replace hs := hz67 _ hs
    refine hp67 _ _ _ rfl ?_
    refine hx49 _ _ ?_
    refine hn48 _ _ ?_
    refine rg0_seq 21 own72 (bz 2) [⟨[], [5], [], Fct.val 20 (.int .i64 n58)⟩, ⟨[0], [], [], Fct.val 4 (.int .i64 n58)⟩] hz72 hd72 (by kernel_rfl) ?_ ?_
    · refine sc (fun _ _ _ _ s _ => px (or_move (s.1.trans e72_5))) ?_
      refine sc (fun _ _ _ f _ _ => px (or_assign f.1)) ?_
      exact steps_nil
    intro own76 a76 w76 hd76 hz76 hk76 hf76 hE76
    obtain ⟨(e76_4 : a76.eval (.tmp 4) = .int .i64 n58), -⟩ := hf76 [1] rfl
    have hX76 := es_ hX72 hE76
    refine fl_ret ?_
    obtain rfl := (osome hs).symm
    exact hret _ _ _ _ (.inl rfl) hd76 (results1_ rfl (RVal.tmp_ e76_4)) ⟨own76, rfl, hX76⟩
theorem ref11_Wrong_w (w : World) (t1 : (List ByteArray) × (List (Int × ByteArray × Int))) (At1_0 : Option Addr) (ct1_0 : Nat) (At1_1 : Option Addr) (ct1_1 : Nat) (hAt1_0 : RdO (fun _ => 0) [0] w R9 At1_0 ct1_0 t1.1) (hAt1_1 : RdO (fun _ => 0) [0] w R75 At1_1 ct1_1 t1.2) (r : Int) (hs : ref11_Wrong t1 = some r) :
    Calls Try.prog 14 #[.agg #[.slice At1_0 t1.1.length ct1_0, .slice At1_1 t1.2.length ct1_1]] w fun e w' => ∃ own' : Own, e = .returned (.int .i64 r) ∧ Evo [] (fun _ => 0) own' w w' := by
  refine fl_enter (n := 56) rfl rfl rfl (Nat.le_of_ble_eq_true rfl) ?_
  intro a0 Q hd0 hz0 harg hret
  have ha0 := harg 0 _ rfl
  clear harg
  have hE0 : Evo [] (fun _ => 0) (fun _ => 0) w w := Evo.refl _ _ _
  refine rg0_seq 56 (fun _ => 0) [0, 0] [⟨[], [0], [], Fct.blk 137 1 (fun g => .pointer (some ⟨g, 0, none⟩)) 37 #[.slice At1_0 t1.1.length ct1_0, .slice At1_1 t1.2.length ct1_1]⟩, ⟨[], [], [], Fct.val 2 (.int .i64 0)⟩] hz0 hd0 (by kernel_rfl) ?_ ?_
  · refine sc (fun _ _ _ _ s _ => px (or_new [(0, .agg #[.slice At1_0 t1.1.length ct1_0, .slice At1_1 t1.2.length ct1_1])] rfl rfl ⟨(s.1.trans ha0), trivial⟩ (by kernel_rfl))) ?_
    refine sc (fun _ _ _ _ _ _ => px (or_assign rfl)) ?_
    exact steps_nil
  intro own138 a138 w138 hd138 hz138 hk138 hf138 hE138
  obtain ⟨⟨g136, (e138_1 : a138.eval (.tmp 1) = .pointer (some ⟨g136, 0, none⟩)), (b138_g136 : BlkO own138 137 w138 g136 37 #[.slice At1_0 t1.1.length ct1_0, .slice At1_1 t1.2.length ct1_1])⟩, -⟩ := hf138 [0] rfl
  have hX138 := es_ hE0 hE138
  have b138_At1_0 := RdO.evo rfl hE138 hAt1_0
  have b138_At1_1 := RdO.evo rfl hE138 hAt1_1
  refine fl_seq (fun Q139 hn139 hp139 => ?_)
  refine rg0_seq 56 own138 (bz 1) [⟨[], [], [], Fct.val 3 (.int .i64 0)⟩] hz138 hd138 (by kernel_rfl) ?_ ?_
  · refine sc (fun _ _ _ _ _ _ => px (or_assign rfl)) ?_
    exact steps_nil
  intro own140 a140 w140 hd140 hz140 hk140 hf140 hE140
  have e140_1 := (hk140 1 rfl).trans e138_1
  obtain ⟨(e140_3 : a140.eval (.tmp 3) = .int .i64 0), -⟩ := hf140 [0] rfl
  have hX140 := es_ hX138 hE140
  have b140_At1_0 := RdO.evo rfl hE140 b138_At1_0
  have b140_At1_1 := RdO.evo rfl hE140 b138_At1_1
  have b140_g136 := be_ hE140 b138_g136
  refine fl_block (fun Q141 hn141 hx141 hp141 => ?_)
  refine fl_loop (body := (fun s => ref11_Wrong_b1 t1 s)) (z := r) (show loopO _ _ = _ from hs) (fun (i160 : Int) a wx => ∃ (ox : Own), a.defers = [] ∧ a.tmps.size = 56 ∧ a.eval (.tmp 1) = .pointer (some ⟨g136, 0, none⟩) ∧ a.eval (.tmp 3) = .int .i64 i160 ∧ Evo [] (fun _ => 0) ox w wx ∧ BlkO ox 137 wx g136 37 #[.slice At1_0 t1.1.length ct1_0, .slice At1_1 t1.2.length ct1_1] ∧ RdO ox [0] wx R9 At1_0 ct1_0 t1.1 ∧ RdO ox [0] wx R75 At1_1 ct1_1 t1.2) ?_ ?_
  · exact ⟨own140, hd140, hz140, e140_1, e140_3, hX140, b140_g136, b140_At1_0, b140_At1_1⟩
  · rintro i160 zz179 a179 w179 ⟨own179, hd180, hz180, e180_1, e180_3, hE180, b180_g136, b180_At1_0, b180_At1_1⟩ hs Q179 hn179 hp179 hz179
    have hs : ref11_Wrong_b1 t1 i160 = some zz179 := hs
    refine fl_seq (fun Q181 hn181 hp181 => ?_)
    refine rg0_seq 56 own179 [0, 0, 2, 6, 15] [⟨[], [3], [], Fct.val 6 (.int .i64 i160)⟩, ⟨[], [1], [], Fct.val 7 (.pointer (some ⟨g136, 0, none⟩))⟩, ⟨[1], [], [], Fct.val 8 (.slice At1_0 t1.1.length ct1_0)⟩, ⟨[2], [], [], Fct.val 9 (.int .i64 (t1.1.length : Int))⟩, ⟨[0, 3], [], [], Fct.val 10 (.bool (decide (i160 < (t1.1.length : Int))))⟩] hz180 hd180 (by kernel_rfl) ?_ ?_
    · refine sc (fun _ _ _ _ s _ => px (or_move (s.1.trans e180_3))) ?_
      refine sc (fun _ _ _ _ s _ => px (or_field fo37_0 (s.1.trans e180_1) (by rfl))) ?_
      refine sc (fun _ _ _ f _ hE => px (or_load1 to34 f.1 (Blk.at_ (be_ hE b180_g136).2 0 rfl))) ?_
      refine sc (fun _ _ _ f _ _ => px (or_len tu34 f.1 rfl)) ?_
      refine sc (fun _ _ _ f _ _ => px (or_lss f.1 f.2.1 rfl)) ?_
      exact steps_nil
    intro own182 a182 w182 hd182 hz182 hk182 hf182 hE182
    have e182_1 := (hk182 1 rfl).trans e180_1
    have e182_3 := (hk182 3 rfl).trans e180_3
    obtain ⟨(e182_10 : a182.eval (.tmp 10) = .bool (decide (i160 < (t1.1.length : Int)))), -⟩ := hf182 [4] rfl
    have hX182 := es_ hE180 hE182
    have b182_g136 := be_ hE182 b180_g136
    have b182_At1_0 := RdO.evo rfl hE182 b180_At1_0
    have b182_At1_1 := RdO.evo rfl hE182 b180_At1_1
    refine fl_cond e182_10 hs (fun c183 hs => ?_) (fun c183 hs => ?_)
    · refine fl_skip ?_
      refine hn181 _ _ ?_
      refine fl_seq (fun Q184 hn184 hp184 => ?_)
      refine fl_block (fun Q185 hn185 hx185 hp185 => ?_)
      refine fl_seq (fun Q186 hn186 hp186 => ?_)
      obtain ⟨x187, hx187, hs⟩ := obind hs
      obtain ⟨r188, hr188, hs⟩ := obind hs
      refine rg0_seq 56 own182 [0, 1, 0, 7, 15, 31, 63] [⟨[], [1], [], Fct.val 13 (.pointer (some ⟨g136, 0, none⟩))⟩, ⟨[0], [], [], Fct.val 14 (.slice At1_0 t1.1.length ct1_0)⟩, ⟨[], [3], [], Fct.val 15 (.int .i64 i160)⟩, ⟨[1, 2], [], [], Fct.val 16 (.pointer (some ((adr At1_0).add ((i160 : Int).toNat * R9.s))))⟩, ⟨[3], [], [], Fct.val 17 (.string x187)⟩, ⟨[4], [], [], Fct.val 18 (.bool r188)⟩, ⟨[5], [], [], Fct.val 19 (.bool (!r188))⟩] hz182 hd182 (by kernel_rfl) ?_ ?_
      · refine sc (fun _ _ _ _ s _ => px (or_field fo37_0 (s.1.trans e182_1) (by rfl))) ?_
        refine sc (fun _ _ _ f _ hE => px (or_load1 to34 f.1 (Blk.at_ (be_ hE b182_g136).2 0 rfl))) ?_
        refine sc (fun _ _ _ _ s _ => px (or_move (s.1.trans e182_3))) ?_
        refine sc (fun _ _ _ f _ _ => px (or_index (R := R9) (l := t1.1) tl34 f.1 f.2.1 (RdO.some_ b182_At1_0 hx187) hx187)) ?_
        refine sc (fun _ _ _ f _ hE => px (or_load1 to9 f.1 (CellsAt.zero (RdO.cells (F := E9) (RdO.evo rfl hE b182_At1_0) hx187) rfl))) ?_
        refine sc (fun _ _ _ f _ _ => px (or_call cf34 (args1 f.1) (ref09_Name_w _ x187  r188 hr188) post_val)) ?_
        refine sc (fun _ _ _ f _ _ => px (or_not f.1 rfl)) ?_
        exact steps_nil
      intro own189 a189 w189 hd189 hz189 hk189 hf189 hE189
      have e189_1 := (hk189 1 rfl).trans e182_1
      have e189_3 := (hk189 3 rfl).trans e182_3
      obtain ⟨(e189_19 : a189.eval (.tmp 19) = .bool (!r188)), -⟩ := hf189 [6] rfl
      have hX189 := es_ hX182 hE189
      have b189_g136 := be_ hE189 b182_g136
      have b189_At1_0 := RdO.evo rfl hE189 b182_At1_0
      have b189_At1_1 := RdO.evo rfl hE189 b182_At1_1
      refine fl_cond e189_19 hs (fun c190 hs => ?_) (fun c190 hs => ?_)
      · refine rg0_seq 56 own189 (bz 1) [⟨[], [], [], Fct.val 2 (.int .i64 13)⟩] hz189 hd189 (by kernel_rfl) ?_ ?_
        · refine sc (fun _ _ _ _ _ _ => px (or_assign rfl)) ?_
          exact steps_nil
        intro own191 a191 w191 hd191 hz191 hk191 hf191 hE191
        obtain ⟨(e191_2 : a191.eval (.tmp 2) = .int .i64 13), -⟩ := hf191 [0] rfl
        have hX191 := es_ hX189 hE191
        refine fl_ret ?_
        refine hp186 _ _ _ rfl ?_
        refine hp185 _ _ _ rfl ?_
        refine hp184 _ _ _ rfl ?_
        replace hs := hz179 _ hs
        refine hp179 _ _ _ rfl ?_
        refine hp141 _ _ _ rfl ?_
        refine hp139 _ _ _ rfl ?_
        obtain rfl := osome hs
        exact hret _ _ _ _ (.inl rfl) hd191 (results1_ rfl (RVal.tmp_ e191_2)) ⟨own191, rfl, hX191⟩
      refine fl_skip ?_
      refine hn186 _ _ ?_
      obtain ⟨x192, hx192, hs⟩ := obind hs
      obtain ⟨r193, hr193, hs⟩ := obind hs
      refine rg_draw_seq g_mixed (n := 56) (rs := []) (own0 := own189) (K := []) (bs := [0, 1, 0, 4, 0, 28, 60, 127, 0, 511]) (ds := [⟨[], [1], [], Fct.val 20 (.pointer (some ⟨g136, 0, none⟩))⟩, ⟨[0], [], [], Fct.val 21 (.slice At1_0 t1.1.length ct1_0)⟩, ⟨[], [1], [], Fct.val 22 (.pointer (some ⟨g136, 0, none⟩))⟩, ⟨[2], [], [], Fct.val 23 (.slice At1_0 t1.1.length ct1_0)⟩, ⟨[], [3], [], Fct.val 24 (.int .i64 i160)⟩, ⟨[3, 4], [], [], Fct.val 25 (.pointer (some ((adr At1_0).add ((i160 : Int).toNat * R9.s))))⟩, ⟨[5], [], [], Fct.val 26 (.string x192)⟩, ⟨[1, 6], [], [], Fct.val 27 (.int .i64 r193)⟩, ⟨[], [3], [], Fct.val 28 (.int .i64 i160)⟩, ⟨[7, 8], [], [], Fct.val 29 (.bool (decide (r193 < i160)))⟩]) (by kernel_rfl) hz189 hd189 nm_ ?_ ?_
      · refine sc (fun _ _ _ _ s _ => px (or_field fo37_0 (s.1.trans e189_1) (by rfl))) ?_
        refine sc (fun _ _ _ f _ hE => px (or_load1 to34 f.1 (Blk.at_ (be_ hE b189_g136).2 0 rfl))) ?_
        refine sc (fun _ _ _ _ s _ => px (or_field fo37_0 (s.1.trans e189_1) (by rfl))) ?_
        refine sc (fun _ _ _ f _ hE => px (or_load1 to34 f.1 (Blk.at_ (be_ hE b189_g136).2 0 rfl))) ?_
        refine sc (fun _ _ _ _ s _ => px (or_move (s.1.trans e189_3))) ?_
        refine sc (fun _ _ _ f _ _ => px (or_index (R := R9) (l := t1.1) tl34 f.1 f.2.1 (RdO.some_ b189_At1_0 hx192) hx192)) ?_
        refine sc (fun _ _ _ f _ hE => px (or_load1 to9 f.1 (CellsAt.zero (RdO.cells (F := E9) (RdO.evo rfl hE b189_At1_0) hx192) rfl))) ?_
        refine sc (fun _ _ _ f _ hE => px (or_call cf35 (args2 f.1 f.2.1) (ref11_Key_w _ t1.1 At1_0 ct1_0 x192 (RdO.zero (RdO.evo rfl hE b189_At1_0)) r193 hr193) post_val)) ?_
        refine sc (fun _ _ _ _ s _ => px (or_move (s.1.trans e189_3))) ?_
        refine sc (fun _ _ _ f _ _ => px (or_lss f.1 f.2.1 rfl)) ?_
        exact steps_nil
      intro own194 a194 w194 hd194 hz194 hk194 hf194 hE194
      have e194_1 := (hk194 1 rfl).trans e189_1
      have e194_3 := (hk194 3 rfl).trans e189_3
      obtain ⟨(e194_29 : a194.eval (.tmp 29) = .bool (decide (r193 < i160))), -⟩ := hf194 [9] rfl
      have hX194 := es_ hX189 hE194
      have b194_g136 := be_ hE194 b189_g136
      have b194_At1_0 := RdO.evo rfl hE194 b189_At1_0
      have b194_At1_1 := RdO.evo rfl hE194 b189_At1_1
      refine fl_cond e194_29 hs (fun c195 hs => ?_) (fun c195 hs => ?_)
      · refine rg0_seq 56 own194 (bz 1) [⟨[], [], [], Fct.val 2 (.int .i64 8)⟩] hz194 hd194 (by kernel_rfl) ?_ ?_
        · refine sc (fun _ _ _ _ _ _ => px (or_assign rfl)) ?_
          exact steps_nil
        intro own196 a196 w196 hd196 hz196 hk196 hf196 hE196
        obtain ⟨(e196_2 : a196.eval (.tmp 2) = .int .i64 8), -⟩ := hf196 [0] rfl
        have hX196 := es_ hX194 hE196
        refine fl_ret ?_
        refine hp185 _ _ _ rfl ?_
        refine hp184 _ _ _ rfl ?_
        replace hs := hz179 _ hs
        refine hp179 _ _ _ rfl ?_
        refine hp141 _ _ _ rfl ?_
        refine hp139 _ _ _ rfl ?_
        obtain rfl := osome hs
        exact hret _ _ _ _ (.inl rfl) hd196 (results1_ rfl (RVal.tmp_ e196_2)) ⟨own196, rfl, hX196⟩
      refine fl_skip ?_
      refine hn185 _ _ ?_
      refine hn184 _ _ ?_
      refine rg0 56 own194 (bz 3) [⟨[], [3], [], Fct.val 11 (.int .i64 i160)⟩, ⟨[0], [], [], Fct.val 12 (.int .i64 (ad i160 1))⟩, ⟨[1], [], [], Fct.val 3 (.int .i64 (ad i160 1))⟩] hz194 hd194 (by kernel_rfl) ?_ ?_
      · refine sc (fun _ _ _ _ s _ => px (or_move (s.1.trans e194_3))) ?_
        refine sc (fun _ _ _ f _ _ => px (or_add f.1 rfl rfl)) ?_
        refine sc (fun _ _ _ f _ _ => px (or_assign f.1)) ?_
        exact steps_nil
      intro own197 a197 w197 hd197 hz197 hk197 hf197 hE197
      have e197_1 := (hk197 1 rfl).trans e194_1
      obtain ⟨(e197_3 : a197.eval (.tmp 3) = .int .i64 (ad i160 1)), -⟩ := hf197 [2] rfl
      have hX197 := es_ hX194 hE197
      have b197_g136 := be_ hE197 b194_g136
      have b197_At1_0 := RdO.evo rfl hE197 b194_At1_0
      have b197_At1_1 := RdO.evo rfl hE197 b194_At1_1
      exact hn179 _ _ _ hs ⟨own197, hd197, hz197, e197_1, e197_3, hX197, b197_g136, b197_At1_0, b197_At1_1⟩
    refine fl_exit ?_
    refine hp181 _ _ _ rfl ?_
    replace hs := hz179 _ hs
    refine hp179 _ _ _ rfl ?_
    refine hx141 _ _ ?_
    refine hn139 _ _ ?_
    refine fl_seq (fun Q198 hn198 hp198 => ?_)
    refine rg0_seq 56 own182 (bz 1) [⟨[], [], [], Fct.val 4 (.int .i64 0)⟩] hz182 hd182 (by kernel_rfl) ?_ ?_
    · refine sc (fun _ _ _ _ _ _ => px (or_assign rfl)) ?_
      exact steps_nil
    intro own199 a199 w199 hd199 hz199 hk199 hf199 hE199
    have e199_1 := (hk199 1 rfl).trans e182_1
    obtain ⟨(e199_4 : a199.eval (.tmp 4) = .int .i64 0), -⟩ := hf199 [0] rfl
    have hX199 := es_ hX182 hE199
    have b199_g136 := be_ hE199 b182_g136
    have b199_At1_0 := RdO.evo rfl hE199 b182_At1_0
    have b199_At1_1 := RdO.evo rfl hE199 b182_At1_1
    refine fl_block (fun Q200 hn200 hx200 hp200 => ?_)
    refine fl_loop (body := (fun s => ref11_Wrong_b2 t1 s)) (z := r) (show loopO _ _ = _ from hs) (fun (i220 : Int) a wx => ∃ (ox : Own), a.defers = [] ∧ a.tmps.size = 56 ∧ a.eval (.tmp 1) = .pointer (some ⟨g136, 0, none⟩) ∧ a.eval (.tmp 4) = .int .i64 i220 ∧ Evo [] (fun _ => 0) ox w wx ∧ BlkO ox 137 wx g136 37 #[.slice At1_0 t1.1.length ct1_0, .slice At1_1 t1.2.length ct1_1] ∧ RdO ox [0] wx R9 At1_0 ct1_0 t1.1 ∧ RdO ox [0] wx R75 At1_1 ct1_1 t1.2) ?_ ?_
    · exact ⟨own199, hd199, hz199, e199_1, e199_4, hX199, b199_g136, b199_At1_0, b199_At1_1⟩
    · rintro i220 zz240 a240 w240 ⟨own240, hd241, hz241, e241_1, e241_4, hE241, b241_g136, b241_At1_0, b241_At1_1⟩ hs Q240 hn240 hp240 hz240
      have hs : ref11_Wrong_b2 t1 i220 = some zz240 := hs
      refine fl_seq (fun Q242 hn242 hp242 => ?_)
      refine rg0_seq 56 own240 [0, 0, 2, 6, 15] [⟨[], [4], [], Fct.val 30 (.int .i64 i220)⟩, ⟨[], [1], [], Fct.val 31 (.pointer (some ⟨g136, 1, none⟩))⟩, ⟨[1], [], [], Fct.val 32 (.slice At1_1 t1.2.length ct1_1)⟩, ⟨[2], [], [], Fct.val 33 (.int .i64 (t1.2.length : Int))⟩, ⟨[0, 3], [], [], Fct.val 34 (.bool (decide (i220 < (t1.2.length : Int))))⟩] hz241 hd241 (by kernel_rfl) ?_ ?_
      · refine sc (fun _ _ _ _ s _ => px (or_move (s.1.trans e241_4))) ?_
        refine sc (fun _ _ _ _ s _ => px (or_field fo37_1 (s.1.trans e241_1) (by rfl))) ?_
        refine sc (fun _ _ _ f _ hE => px (or_load1 to35 f.1 (Blk.at_ (be_ hE b241_g136).2 1 rfl))) ?_
        refine sc (fun _ _ _ f _ _ => px (or_len tu35 f.1 rfl)) ?_
        refine sc (fun _ _ _ f _ _ => px (or_lss f.1 f.2.1 rfl)) ?_
        exact steps_nil
      intro own243 a243 w243 hd243 hz243 hk243 hf243 hE243
      have e243_1 := (hk243 1 rfl).trans e241_1
      have e243_4 := (hk243 4 rfl).trans e241_4
      obtain ⟨(e243_34 : a243.eval (.tmp 34) = .bool (decide (i220 < (t1.2.length : Int)))), -⟩ := hf243 [4] rfl
      have hX243 := es_ hE241 hE243
      have b243_g136 := be_ hE243 b241_g136
      have b243_At1_0 := RdO.evo rfl hE243 b241_At1_0
      have b243_At1_1 := RdO.evo rfl hE243 b241_At1_1
      refine fl_cond e243_34 hs (fun c244 hs => ?_) (fun c244 hs => ?_)
      · refine fl_skip ?_
        refine hn242 _ _ ?_
        refine fl_seq (fun Q245 hn245 hp245 => ?_)
        refine fl_block (fun Q246 hn246 hx246 hp246 => ?_)
        obtain ⟨x247, hx247, hs⟩ := obind hs
        obtain ⟨r248, hr248, hs⟩ := obind hs
        refine rg0_seq 56 own243 [0, 1, 0, 7, 15, 31, 63] [⟨[], [1], [], Fct.val 37 (.pointer (some ⟨g136, 1, none⟩))⟩, ⟨[0], [], [], Fct.val 38 (.slice At1_1 t1.2.length ct1_1)⟩, ⟨[], [4], [], Fct.val 39 (.int .i64 i220)⟩, ⟨[1, 2], [], [], Fct.val 40 (.pointer (some ((adr At1_1).add ((i220 : Int).toNat * R75.s))))⟩, ⟨[3], [], [], Fct.val 41 (.agg #[.int .i64 x247.1, .string x247.2.1, .int .i64 x247.2.2])⟩, ⟨[4], [], [], Fct.val 42 (.int .i64 r248)⟩, ⟨[5], [], [], Fct.val 5 (.int .i64 r248)⟩] hz243 hd243 (by kernel_rfl) ?_ ?_
        · refine sc (fun _ _ _ _ s _ => px (or_field fo37_1 (s.1.trans e243_1) (by rfl))) ?_
          refine sc (fun _ _ _ f _ hE => px (or_load1 to35 f.1 (Blk.at_ (be_ hE b243_g136).2 1 rfl))) ?_
          refine sc (fun _ _ _ _ s _ => px (or_move (s.1.trans e243_4))) ?_
          refine sc (fun _ _ _ f _ _ => px (or_index (R := R75) (l := t1.2) tl35 f.1 f.2.1 (RdO.some_ b243_At1_1 hx247) hx247)) ?_
          refine sc (fun _ _ _ f _ hE => px (or_load (l := E75.f x247) ta75 f.1 (RdO.cells (F := E75) (RdO.evo rfl hE b243_At1_1) hx247) rfl)) ?_
          refine sc (fun _ _ _ f _ _ => px (or_call cf36 (args1 f.1) (ref10_Check_w _ x247  r248 hr248) post_val)) ?_
          refine sc (fun _ _ _ f _ _ => px (or_assign f.1)) ?_
          exact steps_nil
        intro own249 a249 w249 hd249 hz249 hk249 hf249 hE249
        have e249_1 := (hk249 1 rfl).trans e243_1
        have e249_4 := (hk249 4 rfl).trans e243_4
        obtain ⟨(e249_5 : a249.eval (.tmp 5) = .int .i64 r248), -⟩ := hf249 [6] rfl
        have hX249 := es_ hX243 hE249
        have b249_g136 := be_ hE249 b243_g136
        have b249_At1_0 := RdO.evo rfl hE249 b243_At1_0
        have b249_At1_1 := RdO.evo rfl hE249 b243_At1_1
        refine fl_seq (fun Q250 hn250 hp250 => ?_)
        refine rg0_seq 56 own249 (bz 2) [⟨[], [5], [], Fct.val 43 (.int .i64 r248)⟩, ⟨[0], [], [], Fct.val 44 (.bool (!decide (r248 = 0)))⟩] hz249 hd249 (by kernel_rfl) ?_ ?_
        · refine sc (fun _ _ _ _ s _ => px (or_move (s.1.trans e249_5))) ?_
          refine sc (fun _ _ _ f _ _ => px (or_neq f.1 rfl rfl)) ?_
          exact steps_nil
        intro own251 a251 w251 hd251 hz251 hk251 hf251 hE251
        have e251_1 := (hk251 1 rfl).trans e249_1
        have e251_4 := (hk251 4 rfl).trans e249_4
        have e251_5 := (hk251 5 rfl).trans e249_5
        obtain ⟨(e251_44 : a251.eval (.tmp 44) = .bool (!decide (r248 = 0))), -⟩ := hf251 [1] rfl
        have hX251 := es_ hX249 hE251
        have b251_g136 := be_ hE251 b249_g136
        have b251_At1_0 := RdO.evo rfl hE251 b249_At1_0
        have b251_At1_1 := RdO.evo rfl hE251 b249_At1_1
        refine fl_cond e251_44 hs (fun c252 hs => ?_) (fun c252 hs => ?_)
        · refine rg0_seq 56 own251 (bz 2) [⟨[], [5], [], Fct.val 45 (.int .i64 r248)⟩, ⟨[0], [], [], Fct.val 2 (.int .i64 r248)⟩] hz251 hd251 (by kernel_rfl) ?_ ?_
          · refine sc (fun _ _ _ _ s _ => px (or_move (s.1.trans e251_5))) ?_
            refine sc (fun _ _ _ f _ _ => px (or_assign f.1)) ?_
            exact steps_nil
          intro own253 a253 w253 hd253 hz253 hk253 hf253 hE253
          obtain ⟨(e253_2 : a253.eval (.tmp 2) = .int .i64 r248), -⟩ := hf253 [1] rfl
          have hX253 := es_ hX251 hE253
          refine fl_ret ?_
          refine hp250 _ _ _ rfl ?_
          refine hp246 _ _ _ rfl ?_
          refine hp245 _ _ _ rfl ?_
          replace hs := hz240 _ hs
          refine hp240 _ _ _ rfl ?_
          refine hp200 _ _ _ rfl ?_
          refine hp198 _ _ _ rfl ?_
          obtain rfl := (osome hs).symm
          exact hret _ _ _ _ (.inl rfl) hd253 (results1_ rfl (RVal.tmp_ e253_2)) ⟨own253, rfl, hX253⟩
        refine fl_skip ?_
        refine hn250 _ _ ?_
        obtain ⟨x254, hx254, hs⟩ := obind hs
        obtain ⟨r255, hr255, hs⟩ := obind hs
        refine rg_draw_seq g_mixed (n := 56) (rs := []) (own0 := own251) (K := []) (bs := [0, 1, 0, 4, 0, 28, 60, 127, 0, 511]) (ds := [⟨[], [1], [], Fct.val 46 (.pointer (some ⟨g136, 1, none⟩))⟩, ⟨[0], [], [], Fct.val 47 (.slice At1_1 t1.2.length ct1_1)⟩, ⟨[], [1], [], Fct.val 48 (.pointer (some ⟨g136, 1, none⟩))⟩, ⟨[2], [], [], Fct.val 49 (.slice At1_1 t1.2.length ct1_1)⟩, ⟨[], [4], [], Fct.val 50 (.int .i64 i220)⟩, ⟨[3, 4], [], [], Fct.val 51 (.pointer (some ((adr At1_1).add ((i220 : Int).toNat * R75.s))))⟩, ⟨[5], [], [], Fct.val 52 (.agg #[.int .i64 x254.1, .string x254.2.1, .int .i64 x254.2.2])⟩, ⟨[1, 6], [], [], Fct.val 53 (.int .i64 r255)⟩, ⟨[], [4], [], Fct.val 54 (.int .i64 i220)⟩, ⟨[7, 8], [], [], Fct.val 55 (.bool (decide (r255 < i220)))⟩]) (by kernel_rfl) hz251 hd251 nm_ ?_ ?_
        · refine sc (fun _ _ _ _ s _ => px (or_field fo37_1 (s.1.trans e251_1) (by rfl))) ?_
          refine sc (fun _ _ _ f _ hE => px (or_load1 to35 f.1 (Blk.at_ (be_ hE b251_g136).2 1 rfl))) ?_
          refine sc (fun _ _ _ _ s _ => px (or_field fo37_1 (s.1.trans e251_1) (by rfl))) ?_
          refine sc (fun _ _ _ f _ hE => px (or_load1 to35 f.1 (Blk.at_ (be_ hE b251_g136).2 1 rfl))) ?_
          refine sc (fun _ _ _ _ s _ => px (or_move (s.1.trans e251_4))) ?_
          refine sc (fun _ _ _ f _ _ => px (or_index (R := R75) (l := t1.2) tl35 f.1 f.2.1 (RdO.some_ b251_At1_1 hx254) hx254)) ?_
          refine sc (fun _ _ _ f _ hE => px (or_load (l := E75.f x254) ta75 f.1 (RdO.cells (F := E75) (RdO.evo rfl hE b251_At1_1) hx254) rfl)) ?_
          refine sc (fun _ _ _ f _ hE => px (or_call cf37 (args2 f.1 f.2.1) (ref11_Value_w _ t1.2 At1_1 ct1_1 x254 (RdO.zero (RdO.evo rfl hE b251_At1_1)) r255 hr255) post_val)) ?_
          refine sc (fun _ _ _ _ s _ => px (or_move (s.1.trans e251_4))) ?_
          refine sc (fun _ _ _ f _ _ => px (or_lss f.1 f.2.1 rfl)) ?_
          exact steps_nil
        intro own256 a256 w256 hd256 hz256 hk256 hf256 hE256
        have e256_1 := (hk256 1 rfl).trans e251_1
        have e256_4 := (hk256 4 rfl).trans e251_4
        obtain ⟨(e256_55 : a256.eval (.tmp 55) = .bool (decide (r255 < i220))), -⟩ := hf256 [9] rfl
        have hX256 := es_ hX251 hE256
        have b256_g136 := be_ hE256 b251_g136
        have b256_At1_0 := RdO.evo rfl hE256 b251_At1_0
        have b256_At1_1 := RdO.evo rfl hE256 b251_At1_1
        refine fl_cond e256_55 hs (fun c257 hs => ?_) (fun c257 hs => ?_)
        · refine rg0_seq 56 own256 (bz 1) [⟨[], [], [], Fct.val 2 (.int .i64 8)⟩] hz256 hd256 (by kernel_rfl) ?_ ?_
          · refine sc (fun _ _ _ _ _ _ => px (or_assign rfl)) ?_
            exact steps_nil
          intro own258 a258 w258 hd258 hz258 hk258 hf258 hE258
          obtain ⟨(e258_2 : a258.eval (.tmp 2) = .int .i64 8), -⟩ := hf258 [0] rfl
          have hX258 := es_ hX256 hE258
          refine fl_ret ?_
          refine hp246 _ _ _ rfl ?_
          refine hp245 _ _ _ rfl ?_
          replace hs := hz240 _ hs
          refine hp240 _ _ _ rfl ?_
          refine hp200 _ _ _ rfl ?_
          refine hp198 _ _ _ rfl ?_
          obtain rfl := osome hs
          exact hret _ _ _ _ (.inl rfl) hd258 (results1_ rfl (RVal.tmp_ e258_2)) ⟨own258, rfl, hX258⟩
        refine fl_skip ?_
        refine hn246 _ _ ?_
        refine hn245 _ _ ?_
        refine rg0 56 own256 (bz 3) [⟨[], [4], [], Fct.val 35 (.int .i64 i220)⟩, ⟨[0], [], [], Fct.val 36 (.int .i64 (ad i220 1))⟩, ⟨[1], [], [], Fct.val 4 (.int .i64 (ad i220 1))⟩] hz256 hd256 (by kernel_rfl) ?_ ?_
        · refine sc (fun _ _ _ _ s _ => px (or_move (s.1.trans e256_4))) ?_
          refine sc (fun _ _ _ f _ _ => px (or_add f.1 rfl rfl)) ?_
          refine sc (fun _ _ _ f _ _ => px (or_assign f.1)) ?_
          exact steps_nil
        intro own259 a259 w259 hd259 hz259 hk259 hf259 hE259
        have e259_1 := (hk259 1 rfl).trans e256_1
        obtain ⟨(e259_4 : a259.eval (.tmp 4) = .int .i64 (ad i220 1)), -⟩ := hf259 [2] rfl
        have hX259 := es_ hX256 hE259
        have b259_g136 := be_ hE259 b256_g136
        have b259_At1_0 := RdO.evo rfl hE259 b256_At1_0
        have b259_At1_1 := RdO.evo rfl hE259 b256_At1_1
        exact hn240 _ _ _ hs ⟨own259, hd259, hz259, e259_1, e259_4, hX259, b259_g136, b259_At1_0, b259_At1_1⟩
      refine fl_exit ?_
      refine hp242 _ _ _ rfl ?_
      replace hs := hz240 _ hs
      refine hp240 _ _ _ rfl ?_
      refine hx200 _ _ ?_
      refine hn198 _ _ ?_
      refine rg0_seq 56 own243 (bz 1) [⟨[], [], [], Fct.val 2 (.int .i64 0)⟩] hz243 hd243 (by kernel_rfl) ?_ ?_
      · refine sc (fun _ _ _ _ _ _ => px (or_assign rfl)) ?_
        exact steps_nil
      intro own260 a260 w260 hd260 hz260 hk260 hf260 hE260
      obtain ⟨(e260_2 : a260.eval (.tmp 2) = .int .i64 0), -⟩ := hf260 [0] rfl
      have hX260 := es_ hX243 hE260
      refine fl_ret ?_
      obtain rfl := osome hs
      exact hret _ _ _ _ (.inl rfl) hd260 (results1_ rfl (RVal.tmp_ e260_2)) ⟨own260, rfl, hX260⟩
end Go.Proofs.Ytpbhdblkjabdlaa
