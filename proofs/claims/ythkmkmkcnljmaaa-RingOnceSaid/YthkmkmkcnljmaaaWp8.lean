import Derived.Test.YthkmkmkcnljmaaaWp2
import Derived.Test.YthkmkmkcnljmaaaSp8
namespace Go.Proofs.Ythkmkmkcnljmaaa
open Go.RowKit
set_option linter.unusedVariables false
set_option maxRecDepth 10000
theorem law03_RingOnce_w (w : World) (l1 : List (Int × Int)) (Al1 : Option Addr) (cl1 : Nat) (p2 : Int × Int) (hl1 : RdO (fun _ => 0) [0] w R32 Al1 cl1 l1) (r : Bool) (hs : law03_RingOnce l1 p2 = some r) :
    Calls Try.prog 4 #[.slice Al1 l1.length cl1, .agg #[.int .i64 p2.1, .int .i64 p2.2]] w fun e w' => ∃ own' : Own, e = .returned (.bool r) ∧ Evo [] (fun _ => 0) own' w w' := by
  refine fl_enter (n := 107) rfl rfl rfl (Nat.le_of_ble_eq_true rfl) ?_
  intro a0 Q hd0 hz0 harg hret
  have ha0 := harg 0 _ rfl
  have ha1 := harg 1 _ rfl
  clear harg
  have hE0 : Evo [] (fun _ => 0) (fun _ => 0) w w := Evo.refl _ _ _
  refine rg0_seq 107 (fun _ => 0) [0, 0] [⟨[], [1], [], Fct.blk 135 3 (fun g => .pointer (some ⟨g, 0, none⟩)) 32 #[.int .i64 p2.1, .int .i64 p2.2]⟩, ⟨[], [], [], Fct.val 4 (.bool false)⟩] hz0 hd0 (by kernel_rfl) ?_ ?_
  · refine sc (fun _ _ _ _ s _ => px (or_new [(1, .agg #[.int .i64 p2.1, .int .i64 p2.2])] rfl rfl ⟨(s.1.trans ha1), trivial⟩ (by kernel_rfl))) ?_
    refine sc (fun _ _ _ _ _ _ => px (or_assign rfl)) ?_
    exact steps_nil
  intro own136 a136 w136 hd136 hz136 hk136 hf136 hE136
  have e136_0 := (hk136 0 rfl).trans ha0
  obtain ⟨⟨g134, (e136_3 : a136.eval (.tmp 3) = .pointer (some ⟨g134, 0, none⟩)), (b136_g134 : BlkO own136 135 w136 g134 32 #[.int .i64 p2.1, .int .i64 p2.2])⟩, -⟩ := hf136 [0] rfl
  have hX136 := es_ hE0 hE136
  have b136_Al1 := RdO.evo rfl hE136 hl1
  obtain ⟨r137, hr137, hs⟩ := obind hs
  refine rg0_seq 107 own136 (bz 3) [⟨[], [0], [], Fct.val 15 (.slice Al1 l1.length cl1)⟩, ⟨[0], [], [], Fct.mems [139, 140, 0] 16 (fun (x : Option Addr × Nat) => .slice x.1 r137.length x.2) (fun (x : Option Addr × Nat) own w => RdO own [139, 140, 0] w R32 x.1 x.2 r137) (fun hk he h => RdO.evo (hits_sub hk (by decide)) he h)⟩, ⟨[1], [], [], Fct.rel [0, 16] (fun l => ∀ (A138 : Option Addr) (cA138 : Nat), l.getD 1 undef = .slice A138 r137.length cA138 → l.getD 0 undef = .slice A138 r137.length cA138)⟩] hz136 hd136 (by kernel_rfl) ?_ ?_
  · refine sc (fun _ _ _ _ s _ => px (or_move (s.1.trans e136_0))) ?_
    refine sc (fun own _ _ f _ hE => px (or_call cf8 (args1 f.1) (law03_Cut_w _ (forth own (inL [0])) l1 Al1 cl1 inL_le (RdO.alias_ (La := [0]) (RdO.evo rfl hE b136_Al1) (by decide)) r137 hr137) (post_alias (La := [0]) (m' := (look0 [(1, 139), (2, 140)])) (fun own' w' a' x ho hsz h1 h => ⟨x, h1, RdO.backN_ ho hsz h (by decide) (by decide) (by decide)⟩)))) ?_
    refine sc (fun own a wx hf hsl hE => ?_) ?_
    · obtain ⟨⟨⟨A138, cA138⟩, (f_16 : a.eval (.tmp 16) = .slice A138 r137.length cA138), b_A138⟩, -⟩ := hf
      exact px (or_mono (f := Fct.val 0 (.slice A138 r137.length cA138)) (or_assign f_16) (fun own' a' w' v' hp h => fun _ _ h0' => by cases (f_16.symm.trans ((hp.2 16 (by decide)).symm.trans h0')); exact h))
    exact steps_nil
  intro own141 a141 w141 hd141 hz141 hk141 hf141 hE141
  have e141_3 := (hk141 3 rfl).trans e136_3
  obtain ⟨⟨⟨A138, cA138⟩, (f_16 : a141.eval (.tmp 16) = .slice A138 r137.length cA138), (b141_A138 : RdO own141 [139, 140, 0] w141 R32 A138 cA138 r137)⟩, (q_0 : ∀ (A138 : Option Addr) (cA138 : Nat), a141.eval (.tmp 16) = .slice A138 r137.length cA138 → a141.eval (.tmp 0) = .slice A138 r137.length cA138), -⟩ := hf141 [1, 2] rfl
  have e141_0 := q_0 _ _ f_16
  have hX141 := es_ hX136 hE141
  have b141_g134 := be_ hE141 b136_g134
  refine fl_seq (fun Q142 hn142 hp142 => ?_)
  obtain ⟨r143, hr143, hs⟩ := obind hs
  refine rg0_seq 107 own141 (bz 3) [⟨[], [0], [], Fct.val 17 (.slice A138 r137.length cA138)⟩, ⟨[0], [], [], Fct.val 18 (.bool r143)⟩, ⟨[1], [], [], Fct.val 19 (.bool (!r143))⟩] hz141 hd141 (by kernel_rfl) ?_ ?_
  · refine sc (fun _ _ _ _ s _ => px (or_move (s.1.trans e141_0))) ?_
    refine sc (fun _ _ _ f _ hE => px (or_call cf14 (args1 f.1) (ring_Simple_w _ r137 A138 cA138 (RdO.zero (RdO.evo rfl hE b141_A138)) r143 hr143) post_val)) ?_
    refine sc (fun _ _ _ f _ _ => px (or_not f.1 rfl)) ?_
    exact steps_nil
  intro own144 a144 w144 hd144 hz144 hk144 hf144 hE144
  have e144_0 := (hk144 0 rfl).trans e141_0
  have e144_3 := (hk144 3 rfl).trans e141_3
  obtain ⟨(e144_19 : a144.eval (.tmp 19) = .bool (!r143)), -⟩ := hf144 [2] rfl
  have hX144 := es_ hX141 hE144
  have b144_g134 := be_ hE144 b141_g134
  have b144_A138 := RdO.evo rfl hE144 b141_A138
  refine fl_cond e144_19 hs (fun c145 hs => ?_) (fun c145 hs => ?_)
  · obtain ⟨r146, hr146, hs⟩ := obind hs
    refine rg0_seq 107 own144 (bz 2) [⟨[], [], [], Fct.val 20 (.bool r146)⟩, ⟨[0], [], [], Fct.val 4 (.bool r146)⟩] hz144 hd144 (by kernel_rfl) ?_ ?_
    · refine sc (fun _ _ _ _ _ _ => px (or_call cf12 (args0) (law03_known_w _   r146 hr146) post_val)) ?_
      refine sc (fun _ _ _ f _ _ => px (or_assign f.1)) ?_
      exact steps_nil
    intro own147 a147 w147 hd147 hz147 hk147 hf147 hE147
    obtain ⟨(e147_4 : a147.eval (.tmp 4) = .bool r146), -⟩ := hf147 [1] rfl
    have hX147 := es_ hX144 hE147
    refine fl_ret ?_
    refine hp142 _ _ _ rfl ?_
    obtain rfl := (osome hs).symm
    exact hret _ _ _ _ (.inl rfl) hd147 (results1_ rfl (RVal.tmp_ e147_4)) ⟨own147, rfl, hX147⟩
  refine fl_skip ?_
  refine hn142 _ _ ?_
  refine rg0_seq 107 own144 (bz 1) [⟨[], [], [], Fct.val 5 (.int .i64 1)⟩] hz144 hd144 (by kernel_rfl) ?_ ?_
  · refine sc (fun _ _ _ _ _ _ => px (or_assign rfl)) ?_
    exact steps_nil
  intro own148 a148 w148 hd148 hz148 hk148 hf148 hE148
  have e148_0 := (hk148 0 rfl).trans e144_0
  have e148_3 := (hk148 3 rfl).trans e144_3
  obtain ⟨(e148_5 : a148.eval (.tmp 5) = .int .i64 1), -⟩ := hf148 [0] rfl
  have hX148 := es_ hX144 hE148
  have b148_g134 := be_ hE148 b144_g134
  have b148_A138 := RdO.evo rfl hE148 b144_A138
  refine fl_seq (fun Q149 hn149 hp149 => ?_)
  have K155 : ∀ (a155 : Act) (w155 : World) (own155 : Own) (way154 : Int), a155.defers = [] → a155.tmps.size = 107 → a155.eval (.tmp 0) = .slice A138 r137.length cA138 → a155.eval (.tmp 3) = .pointer (some ⟨g134, 0, none⟩) → a155.eval (.tmp 5) = .int .i64 way154 → Evo [] (fun _ => 0) own155 w w155 → RdO own155 [139, 140, 0] w155 R32 A138 cA138 r137 → BlkO own155 135 w155 g134 32 #[.int .i64 p2.1, .int .i64 p2.2] → law03_RingOnce_k1 p2 r137 way154 = some r → Q149 .normal a155 w155 := by
    intro a155 w155 own155 way154 hd156 hz156 e156_0 e156_3 e156_5 hE156 b156_A138 b156_g134 hs
    refine hn149 _ _ ?_
    obtain ⟨r157, hr157, hs⟩ := obind hs
    refine rg0_seq 107 own155 [0, 0, 3, 7, 15, 15, 31, 127] [⟨[], [0], [], Fct.val 25 (.slice A138 r137.length cA138)⟩, ⟨[], [3], [], Fct.val 26 (.agg #[.int .i64 p2.1, .int .i64 p2.2])⟩, ⟨[0, 1], [], [], Fct.val 27 (.tuple #[.int .i64 r157.1, .bool r157.2])⟩, ⟨[2], [], [], Fct.val 24 (.tuple #[.int .i64 r157.1, .bool r157.2])⟩, ⟨[3], [], [], Fct.val 28 (.int .i64 r157.1)⟩, ⟨[3], [], [], Fct.val 29 (.bool r157.2)⟩, ⟨[4], [], [], Fct.val 6 (.int .i64 r157.1)⟩, ⟨[5], [], [], Fct.val 7 (.bool r157.2)⟩] hz156 hd156 (by kernel_rfl) ?_ ?_
    · refine sc (fun _ _ _ _ s _ => px (or_move (s.1.trans e156_0))) ?_
      refine sc (fun _ _ _ _ s hE => px (or_load (l := [.int .i64 p2.1, .int .i64 p2.2]) ta32 (s.1.trans e156_3) (Blk.cellsFrom (be_ hE b156_g134).2 0 rfl) rfl)) ?_
      refine sc (fun _ _ _ f _ hE => px (or_call cf16 (args2 f.1 f.2.1) (ring_Winding_w _ r137 A138 cA138 p2 (RdO.zero (RdO.evo rfl hE b156_A138)) r157 hr157) post_val)) ?_
      refine sc (fun _ _ _ f _ _ => px (or_move f.1)) ?_
      refine sc (fun _ _ _ f _ _ => px (or_k [(24, .tuple #[.int .i64 r157.1, .bool r157.2])] rfl rfl ⟨f.1, trivial⟩ (by kernel_rfl))) ?_
      refine sc (fun _ _ _ f _ _ => px (or_k [(24, .tuple #[.int .i64 r157.1, .bool r157.2])] rfl rfl ⟨f.1, trivial⟩ (by kernel_rfl))) ?_
      refine sc (fun _ _ _ f _ _ => px (or_assign f.1)) ?_
      refine sc (fun _ _ _ f _ _ => px (or_assign f.1)) ?_
      exact steps_nil
    intro own158 a158 w158 hd158 hz158 hk158 hf158 hE158
    have e158_0 := (hk158 0 rfl).trans e156_0
    have e158_5 := (hk158 5 rfl).trans e156_5
    obtain ⟨(e158_6 : a158.eval (.tmp 6) = .int .i64 r157.1), (e158_7 : a158.eval (.tmp 7) = .bool r157.2), -⟩ := hf158 [6, 7] rfl
    have hX158 := es_ hE156 hE158
    have b158_A138 := RdO.evo rfl hE158 b156_A138
    refine fl_seq (fun Q159 hn159 hp159 => ?_)
    obtain ⟨r160, hr160, hs⟩ := obind hs
    obtain ⟨x161, hx161, hs⟩ := obind hs
    refine rg0_seq 107 own158 [0, 1, 3, 7, 15, 31, 63, 127, 255, 511, 1023, 1023, 4095, 8191, 16383] [⟨[], [0], [], Fct.val 30 (.slice A138 r137.length cA138)⟩, ⟨[0], [], [], Fct.val 31 (.int .i64 r160)⟩, ⟨[1], [], [], Fct.val 32 (.bool (decide (r160 = 0)))⟩, ⟨[2], [], [], Fct.val 33 (.bool (decide (r160 = 0)))⟩, ⟨[3], [7], [], Fct.cond (!(decide (r160 = 0))) (some 34) (Fct.val 34 (.bool r157.2))⟩, ⟨[3, 4], [], [], Fct.cond (!(decide (r160 = 0))) (some 35) (Fct.val 35 (.bool r157.2))⟩, ⟨[5], [6], [], Fct.cond ((!(decide (r160 = 0))) && r157.2) (some 36) (Fct.val 36 (.int .i64 r157.1))⟩, ⟨[5, 6], [], [], Fct.cond ((!(decide (r160 = 0))) && r157.2) (some 37) (Fct.val 37 (.bool (!decide (r157.1 = 0))))⟩, ⟨[3, 5, 7], [], [], Fct.cond (!(decide (r160 = 0))) (some 38) (Fct.val 38 (.bool (r157.2 && (!decide (r157.1 = 0)))))⟩, ⟨[3, 8], [], [], Fct.cond (!(decide (r160 = 0))) (some 39) (Fct.val 39 (.bool (r157.2 && (!decide (r157.1 = 0)))))⟩, ⟨[9], [6], [], Fct.cond ((!(decide (r160 = 0))) && (r157.2 && (!decide (r157.1 = 0)))) (some 40) (Fct.val 40 (.int .i64 r157.1))⟩, ⟨[9], [5], [], Fct.cond ((!(decide (r160 = 0))) && (r157.2 && (!decide (r157.1 = 0)))) (some 41) (Fct.val 41 (.int .i64 way154))⟩, ⟨[9, 10, 11], [], [], Fct.cond ((!(decide (r160 = 0))) && (r157.2 && (!decide (r157.1 = 0)))) (some 42) (Fct.val 42 (.bool (!decide (r157.1 = way154))))⟩, ⟨[3, 9, 12], [], [], Fct.cond (!(decide (r160 = 0))) (some 43) (Fct.val 43 (.bool x161))⟩, ⟨[3, 13], [], [], Fct.val 44 (.bool ((decide (r160 = 0)) || x161))⟩] hz158 hd158 (by kernel_rfl) ?_ ?_
    · refine sc (fun _ _ _ _ s _ => px (or_move (s.1.trans e158_0))) ?_
      refine sc (fun _ _ _ f _ hE => px (or_call cf13 (args1 f.1) (ring_Area_w _ r137 A138 cA138 (RdO.zero (RdO.evo rfl hE b158_A138)) r160 hr160) post_val)) ?_
      refine sc (fun _ _ _ f _ _ => px (or_eql f.1 rfl rfl)) ?_
      refine sc (fun _ _ _ f _ _ => px (or_move f.1)) ?_
      refine sc (fun _ _ _ f s _ => sg_f rfl rfl rfl f.1 (fun hg => or_move (s.1.trans e158_7))) ?_
      refine sc (fun _ _ _ f _ _ => sg_f rfl rfl rfl f.1 (fun hg => or_move (f.2.1.1 hg))) ?_
      refine sc (fun _ _ _ f s _ => sg_tc rfl rfl rfl f.1 (fun hg => or_move (s.1.trans e158_6))) ?_
      refine sc (fun _ _ _ f _ _ => sg_tc rfl rfl rfl f.1 (fun hg => or_neq (f.2.1.1 hg) rfl rfl)) ?_
      refine sc (fun _ _ _ f _ _ => sg_f rfl rfl rfl f.1 (fun hg => or_and (f.2.1.1 hg) (fun hx => f.2.2.1.1 (gI hg hx)) rfl rfl)) ?_
      refine sc (fun _ _ _ f _ _ => sg_f rfl rfl rfl f.1 (fun hg => or_move (f.2.1.1 hg))) ?_
      refine sc (fun _ _ _ f s _ => sg_tc rfl rfl rfl f.1 (fun hg => or_move (s.1.trans e158_6))) ?_
      refine sc (fun _ _ _ f s _ => sg_tc rfl rfl rfl f.1 (fun hg => or_move (s.1.trans e158_5))) ?_
      refine sc (fun _ _ _ f _ _ => sg_tc rfl rfl rfl f.1 (fun hg => or_neq (f.2.1.1 hg) (f.2.2.1.1 hg) rfl)) ?_
      refine sc (fun _ _ _ f _ _ => sg_f rfl rfl rfl f.1 (fun hg => or_and (f.2.1.1 hg) (fun hx => f.2.2.1.1 (gI hg hx)) rfl (osome hx161).symm)) ?_
      refine sc (fun _ _ _ f _ _ => px (or_or f.1 rfl (fun hx => f.2.1.1 hx) rfl)) ?_
      exact steps_nil
    intro own162 a162 w162 hd162 hz162 hk162 hf162 hE162
    have e162_0 := (hk162 0 rfl).trans e158_0
    have e162_5 := (hk162 5 rfl).trans e158_5
    obtain ⟨(e162_44 : a162.eval (.tmp 44) = .bool ((decide (r160 = 0)) || x161)), -⟩ := hf162 [14] rfl
    have hX162 := es_ hX158 hE162
    have b162_A138 := RdO.evo rfl hE162 b158_A138
    refine fl_cond e162_44 hs (fun c163 hs => ?_) (fun c163 hs => ?_)
    · refine rg0_seq 107 own162 (bz 1) [⟨[], [], [], Fct.val 4 (.bool false)⟩] hz162 hd162 (by kernel_rfl) ?_ ?_
      · refine sc (fun _ _ _ _ _ _ => px (or_assign rfl)) ?_
        exact steps_nil
      intro own164 a164 w164 hd164 hz164 hk164 hf164 hE164
      obtain ⟨(e164_4 : a164.eval (.tmp 4) = .bool false), -⟩ := hf164 [0] rfl
      have hX164 := es_ hX162 hE164
      refine fl_ret ?_
      refine hp159 _ _ _ rfl ?_
      obtain rfl := osome hs
      exact hret _ _ _ _ (.inl rfl) hd164 (results1_ rfl (RVal.tmp_ e164_4)) ⟨own164, rfl, hX164⟩
    refine fl_skip ?_
    refine hn159 _ _ ?_
    refine fl_seq (fun Q165 hn165 hp165 => ?_)
    refine rg0_seq 107 own162 (bz 1) [⟨[], [], [], Fct.val 8 (.int .i64 0)⟩] hz162 hd162 (by kernel_rfl) ?_ ?_
    · refine sc (fun _ _ _ _ _ _ => px (or_assign rfl)) ?_
      exact steps_nil
    intro own166 a166 w166 hd166 hz166 hk166 hf166 hE166
    have e166_0 := (hk166 0 rfl).trans e162_0
    have e166_5 := (hk166 5 rfl).trans e162_5
    obtain ⟨(e166_8 : a166.eval (.tmp 8) = .int .i64 0), -⟩ := hf166 [0] rfl
    have hX166 := es_ hX162 hE166
    have b166_A138 := RdO.evo rfl hE166 b162_A138
    refine fl_block (fun Q167 hn167 hx167 hp167 => ?_)
    refine fl_loop (body := (fun s => law03_RingOnce_b2 r137 way154 s)) (z := r) (show loopO _ _ = _ from hs) (fun (i195 : Int) a wx => ∃ (ox : Own), a.defers = [] ∧ a.tmps.size = 107 ∧ a.eval (.tmp 0) = .slice A138 r137.length cA138 ∧ a.eval (.tmp 5) = .int .i64 way154 ∧ a.eval (.tmp 8) = .int .i64 i195 ∧ Evo [] (fun _ => 0) ox w wx ∧ RdO ox [139, 140, 0] wx R32 A138 cA138 r137) ?_ ?_
    · exact ⟨own166, hd166, hz166, e166_0, e166_5, e166_8, hX166, b166_A138⟩
    · rintro i195 zz223 a223 w223 ⟨own223, hd224, hz224, e224_0, e224_5, e224_8, hE224, b224_A138⟩ hs Q223 hn223 hp223 hz223
      have hs : law03_RingOnce_b2 r137 way154 i195 = some zz223 := hs
      refine fl_seq (fun Q225 hn225 hp225 => ?_)
      refine rg0_seq 107 own223 [0, 0, 2, 7] [⟨[], [8], [], Fct.val 45 (.int .i64 i195)⟩, ⟨[], [0], [], Fct.val 46 (.slice A138 r137.length cA138)⟩, ⟨[1], [], [], Fct.val 47 (.int .i64 (r137.length : Int))⟩, ⟨[0, 2], [], [], Fct.val 48 (.bool (decide (i195 < (r137.length : Int))))⟩] hz224 hd224 (by kernel_rfl) ?_ ?_
      · refine sc (fun _ _ _ _ s _ => px (or_move (s.1.trans e224_8))) ?_
        refine sc (fun _ _ _ _ s _ => px (or_move (s.1.trans e224_0))) ?_
        refine sc (fun _ _ _ f _ _ => px (or_len tu22 f.1 rfl)) ?_
        refine sc (fun _ _ _ f _ _ => px (or_lss f.1 f.2.1 rfl)) ?_
        exact steps_nil
      intro own226 a226 w226 hd226 hz226 hk226 hf226 hE226
      have e226_0 := (hk226 0 rfl).trans e224_0
      have e226_5 := (hk226 5 rfl).trans e224_5
      have e226_8 := (hk226 8 rfl).trans e224_8
      obtain ⟨(e226_48 : a226.eval (.tmp 48) = .bool (decide (i195 < (r137.length : Int)))), -⟩ := hf226 [3] rfl
      have hX226 := es_ hE224 hE226
      have b226_A138 := RdO.evo rfl hE226 b224_A138
      refine fl_cond e226_48 hs (fun c227 hs => ?_) (fun c227 hs => ?_)
      · refine fl_skip ?_
        refine hn225 _ _ ?_
        refine fl_seq (fun Q228 hn228 hp228 => ?_)
        refine fl_block (fun Q229 hn229 hx229 hp229 => ?_)
        obtain ⟨x230, hx230, hs⟩ := obind hs
        obtain ⟨x231, hx231, hs⟩ := obind hs
        obtain ⟨x232, hx232, hs⟩ := obind hs
        refine rg_draw_seq g_mixed (n := 107) (rs := []) (own0 := own226) (K := [234, 236]) (bs := [0, 0, 3, 7, 0, 0, 32, 0, 128, 480, 1008, 2032, 0, 0, 12303, 32767]) (ds := [⟨[], [0], [], Fct.val 51 (.slice A138 r137.length cA138)⟩, ⟨[], [8], [], Fct.val 52 (.int .i64 i195)⟩, ⟨[0, 1], [], [], Fct.val 53 (.pointer (some ((adr A138).add ((i195 : Int).toNat * R32.s))))⟩, ⟨[2], [], [], Fct.val 54 (.agg #[.int .i64 x230.1, .int .i64 x230.2])⟩, ⟨[], [0], [], Fct.val 55 (.slice A138 r137.length cA138)⟩, ⟨[], [8], [], Fct.val 56 (.int .i64 i195)⟩, ⟨[5], [], [], Fct.val 57 (.int .i64 (ad i195 1))⟩, ⟨[], [0], [], Fct.val 58 (.slice A138 r137.length cA138)⟩, ⟨[7], [], [], Fct.val 59 (.int .i64 (r137.length : Int))⟩, ⟨[6, 8], [], [], Fct.val 60 (.int .i64 x231)⟩, ⟨[4, 9], [], [], Fct.val 61 (.pointer (some ((adr A138).add ((x231 : Int).toNat * R32.s))))⟩, ⟨[10], [], [], Fct.val 62 (.agg #[.int .i64 x232.1, .int .i64 x232.2])⟩, ⟨[], [], [], Fct.blk 234 9 (fun g => .pointer (some ⟨g, 0, none⟩)) 32 #[.int .i64 0, .int .i64 0]⟩, ⟨[], [], [], Fct.blk 236 10 (fun g => .pointer (some ⟨g, 0, none⟩)) 32 #[.int .i64 0, .int .i64 0]⟩, ⟨[12, 3], [], [234], Fct.blk 237 9 (fun g => .pointer (some ⟨g, 0, none⟩)) 32 #[.int .i64 x230.1, .int .i64 x230.2]⟩, ⟨[13, 11], [], [236], Fct.blk 238 10 (fun g => .pointer (some ⟨g, 0, none⟩)) 32 #[.int .i64 x232.1, .int .i64 x232.2]⟩]) (by kernel_rfl) hz226 hd226 nm_ ?_ ?_
        · refine sc (fun _ _ _ _ s _ => px (or_move (s.1.trans e226_0))) ?_
          refine sc (fun _ _ _ _ s _ => px (or_move (s.1.trans e226_8))) ?_
          refine sc (fun _ _ _ f _ _ => px (or_index (R := R32) (l := r137) tl22 f.1 f.2.1 (RdO.some_ b226_A138 hx230) hx230)) ?_
          refine sc (fun _ _ _ f _ hE => px (or_load (l := E32.f x230) ta32 f.1 (RdO.cells (F := E32) (RdO.evo rfl hE b226_A138) hx230) rfl)) ?_
          refine sc (fun _ _ _ _ s _ => px (or_move (s.1.trans e226_0))) ?_
          refine sc (fun _ _ _ _ s _ => px (or_move (s.1.trans e226_8))) ?_
          refine sc (fun _ _ _ f _ _ => px (or_add f.1 rfl rfl)) ?_
          refine sc (fun _ _ _ _ s _ => px (or_move (s.1.trans e226_0))) ?_
          refine sc (fun _ _ _ f _ _ => px (or_len tu22 f.1 rfl)) ?_
          refine sc (fun _ _ _ f _ _ => px (or_rem f.1 f.2.1 hx231)) ?_
          refine sc (fun _ _ _ f _ _ => px (or_index (R := R32) (l := r137) tl22 f.1 f.2.1 (RdO.some_ b226_A138 hx232) hx232)) ?_
          refine sc (fun _ _ _ f _ hE => px (or_load (l := E32.f x232) ta32 f.1 (RdO.cells (F := E32) (RdO.evo rfl hE b226_A138) hx232) rfl)) ?_
          refine sc (fun _ _ _ _ _ _ => px (or_new [] rfl rfl trivial (by kernel_rfl))) ?_
          refine sc (fun _ _ _ _ _ _ => px (or_new [] rfl rfl trivial (by kernel_rfl))) ?_
          refine sc (fun own a wx hf hsl hE => ?_) ?_
          · obtain ⟨⟨g233, f_9, b_g233⟩, f_54, -⟩ := hf
            exact px (or_store (l := #[.int .i64 x230.1, .int .i64 x230.2]) (lab := 234) (lab2 := 237) ts32 f_9 f_54 b_g233 (by simp) (by kernel_rfl) (mem_of rfl) (by decide) (by kernel_rfl) (fun own' a' w' ha hb => ⟨_, (ha 9).trans f_9, hb⟩))
          refine sc (fun own a wx hf hsl hE => ?_) ?_
          · obtain ⟨⟨g235, f_10, b_g235⟩, f_62, -⟩ := hf
            exact px (or_store (l := #[.int .i64 x232.1, .int .i64 x232.2]) (lab := 236) (lab2 := 238) ts32 f_10 f_62 b_g235 (by simp) (by kernel_rfl) (mem_of rfl) (by decide) (by kernel_rfl) (fun own' a' w' ha hb => ⟨_, (ha 10).trans f_10, hb⟩))
          exact steps_nil
        intro own239 a239 w239 hd239 hz239 hk239 hf239 hE239
        have e239_0 := (hk239 0 rfl).trans e226_0
        have e239_5 := (hk239 5 rfl).trans e226_5
        have e239_8 := (hk239 8 rfl).trans e226_8
        obtain ⟨⟨g233, (e239_9 : a239.eval (.tmp 9) = .pointer (some ⟨g233, 0, none⟩)), (b239_g233 : BlkO own239 237 w239 g233 32 #[.int .i64 x230.1, .int .i64 x230.2])⟩, ⟨g235, (e239_10 : a239.eval (.tmp 10) = .pointer (some ⟨g235, 0, none⟩)), (b239_g235 : BlkO own239 238 w239 g235 32 #[.int .i64 x232.1, .int .i64 x232.2])⟩, -⟩ := hf239 [14, 15] rfl
        have hX239 := es_ hX226 hE239
        have b239_A138 := RdO.evo rfl hE239 b226_A138
        obtain ⟨r240, hr240, hs⟩ := obind hs
        refine rg0_seq 107 own239 [0, 0, 0, 7, 15, 31, 31, 63, 255] [⟨[], [0], [], Fct.val 64 (.slice A138 r137.length cA138)⟩, ⟨[], [9], [], Fct.val 65 (.agg #[.int .i64 x230.1, .int .i64 x230.2])⟩, ⟨[], [10], [], Fct.val 66 (.agg #[.int .i64 x232.1, .int .i64 x232.2])⟩, ⟨[0, 1, 2], [], [], Fct.val 67 (.tuple #[.int .i64 r240.1, .bool r240.2])⟩, ⟨[3], [], [], Fct.val 63 (.tuple #[.int .i64 r240.1, .bool r240.2])⟩, ⟨[4], [], [], Fct.val 68 (.int .i64 r240.1)⟩, ⟨[4], [], [], Fct.val 69 (.bool r240.2)⟩, ⟨[5], [], [], Fct.val 11 (.int .i64 r240.1)⟩, ⟨[6], [], [], Fct.val 12 (.bool r240.2)⟩] hz239 hd239 (by kernel_rfl) ?_ ?_
        · refine sc (fun _ _ _ _ s _ => px (or_move (s.1.trans e239_0))) ?_
          refine sc (fun _ _ _ _ s hE => px (or_load (l := [.int .i64 x230.1, .int .i64 x230.2]) ta32 (s.1.trans e239_9) (Blk.cellsFrom (be_ hE b239_g233).2 0 rfl) rfl)) ?_
          refine sc (fun _ _ _ _ s hE => px (or_load (l := [.int .i64 x232.1, .int .i64 x232.2]) ta32 (s.1.trans e239_10) (Blk.cellsFrom (be_ hE b239_g235).2 0 rfl) rfl)) ?_
          refine sc (fun _ _ _ f _ hE => px (or_call cf17 (args3 f.1 f.2.1 f.2.2.1) (ring_Beside_w _ r137 A138 cA138 x230 x232 (RdO.zero (RdO.evo rfl hE b239_A138)) r240 hr240) post_val)) ?_
          refine sc (fun _ _ _ f _ _ => px (or_move f.1)) ?_
          refine sc (fun _ _ _ f _ _ => px (or_k [(63, .tuple #[.int .i64 r240.1, .bool r240.2])] rfl rfl ⟨f.1, trivial⟩ (by kernel_rfl))) ?_
          refine sc (fun _ _ _ f _ _ => px (or_k [(63, .tuple #[.int .i64 r240.1, .bool r240.2])] rfl rfl ⟨f.1, trivial⟩ (by kernel_rfl))) ?_
          refine sc (fun _ _ _ f _ _ => px (or_assign f.1)) ?_
          refine sc (fun _ _ _ f _ _ => px (or_assign f.1)) ?_
          exact steps_nil
        intro own241 a241 w241 hd241 hz241 hk241 hf241 hE241
        have e241_0 := (hk241 0 rfl).trans e239_0
        have e241_5 := (hk241 5 rfl).trans e239_5
        have e241_8 := (hk241 8 rfl).trans e239_8
        have e241_9 := (hk241 9 rfl).trans e239_9
        have e241_10 := (hk241 10 rfl).trans e239_10
        obtain ⟨(e241_11 : a241.eval (.tmp 11) = .int .i64 r240.1), (e241_12 : a241.eval (.tmp 12) = .bool r240.2), -⟩ := hf241 [7, 8] rfl
        have hX241 := es_ hX239 hE241
        have b241_A138 := RdO.evo rfl hE241 b239_A138
        have b241_g233 := be_ hE241 b239_g233
        have b241_g235 := be_ hE241 b239_g235
        obtain ⟨r242, hr242, hs⟩ := obind hs
        refine rg0_seq 107 own241 [0, 0, 0, 7, 15, 31, 31, 63, 255] [⟨[], [0], [], Fct.val 71 (.slice A138 r137.length cA138)⟩, ⟨[], [10], [], Fct.val 72 (.agg #[.int .i64 x232.1, .int .i64 x232.2])⟩, ⟨[], [9], [], Fct.val 73 (.agg #[.int .i64 x230.1, .int .i64 x230.2])⟩, ⟨[0, 1, 2], [], [], Fct.val 74 (.tuple #[.int .i64 r242.1, .bool r242.2])⟩, ⟨[3], [], [], Fct.val 70 (.tuple #[.int .i64 r242.1, .bool r242.2])⟩, ⟨[4], [], [], Fct.val 75 (.int .i64 r242.1)⟩, ⟨[4], [], [], Fct.val 76 (.bool r242.2)⟩, ⟨[5], [], [], Fct.val 13 (.int .i64 r242.1)⟩, ⟨[6], [], [], Fct.val 14 (.bool r242.2)⟩] hz241 hd241 (by kernel_rfl) ?_ ?_
        · refine sc (fun _ _ _ _ s _ => px (or_move (s.1.trans e241_0))) ?_
          refine sc (fun _ _ _ _ s hE => px (or_load (l := [.int .i64 x232.1, .int .i64 x232.2]) ta32 (s.1.trans e241_10) (Blk.cellsFrom (be_ hE b241_g235).2 0 rfl) rfl)) ?_
          refine sc (fun _ _ _ _ s hE => px (or_load (l := [.int .i64 x230.1, .int .i64 x230.2]) ta32 (s.1.trans e241_9) (Blk.cellsFrom (be_ hE b241_g233).2 0 rfl) rfl)) ?_
          refine sc (fun _ _ _ f _ hE => px (or_call cf17 (args3 f.1 f.2.1 f.2.2.1) (ring_Beside_w _ r137 A138 cA138 x232 x230 (RdO.zero (RdO.evo rfl hE b241_A138)) r242 hr242) post_val)) ?_
          refine sc (fun _ _ _ f _ _ => px (or_move f.1)) ?_
          refine sc (fun _ _ _ f _ _ => px (or_k [(70, .tuple #[.int .i64 r242.1, .bool r242.2])] rfl rfl ⟨f.1, trivial⟩ (by kernel_rfl))) ?_
          refine sc (fun _ _ _ f _ _ => px (or_k [(70, .tuple #[.int .i64 r242.1, .bool r242.2])] rfl rfl ⟨f.1, trivial⟩ (by kernel_rfl))) ?_
          refine sc (fun _ _ _ f _ _ => px (or_assign f.1)) ?_
          refine sc (fun _ _ _ f _ _ => px (or_assign f.1)) ?_
          exact steps_nil
        intro own243 a243 w243 hd243 hz243 hk243 hf243 hE243
        have e243_0 := (hk243 0 rfl).trans e241_0
        have e243_5 := (hk243 5 rfl).trans e241_5
        have e243_8 := (hk243 8 rfl).trans e241_8
        have e243_11 := (hk243 11 rfl).trans e241_11
        have e243_12 := (hk243 12 rfl).trans e241_12
        obtain ⟨(e243_13 : a243.eval (.tmp 13) = .int .i64 r242.1), (e243_14 : a243.eval (.tmp 14) = .bool r242.2), -⟩ := hf243 [7, 8] rfl
        have hX243 := es_ hX241 hE243
        have b243_A138 := RdO.evo rfl hE243 b241_A138
        obtain ⟨x244, hx244, hs⟩ := obind hs
        obtain ⟨x245, hx245, hs⟩ := obind hs
        obtain ⟨x246, hx246, hs⟩ := obind hs
        refine rg0_seq 107 own243 [0, 1, 3, 7, 15, 31, 63, 127, 127, 511, 127, 2047, 4095, 8191, 16383, 32767, 65535, 131071, 262143, 524287, 1048575, 2097151, 4194303, 8388607, 16777215, 33554431, 67108863, 134217727, 268435455] [⟨[], [12], [], Fct.val 77 (.bool r240.2)⟩, ⟨[0], [], [], Fct.val 78 (.bool (!r240.2))⟩, ⟨[1], [], [], Fct.val 79 (.bool (!r240.2))⟩, ⟨[2], [14], [], Fct.cond (!(!r240.2)) (some 80) (Fct.val 80 (.bool r242.2))⟩, ⟨[2, 3], [], [], Fct.cond (!(!r240.2)) (some 81) (Fct.val 81 (.bool (!r242.2)))⟩, ⟨[2, 4], [], [], Fct.val 82 (.bool ((!r240.2) || (!r242.2)))⟩, ⟨[5], [], [], Fct.val 83 (.bool ((!r240.2) || (!r242.2)))⟩, ⟨[6], [11], [], Fct.cond (!((!r240.2) || (!r242.2))) (some 84) (Fct.val 84 (.int .i64 r240.1))⟩, ⟨[6], [13], [], Fct.cond (!((!r240.2) || (!r242.2))) (some 85) (Fct.val 85 (.int .i64 r242.1))⟩, ⟨[6, 7, 8], [], [], Fct.cond (!((!r240.2) || (!r242.2))) (some 86) (Fct.val 86 (.int .i64 (ad r240.1 r242.1)))⟩, ⟨[6], [5], [], Fct.cond (!((!r240.2) || (!r242.2))) (some 87) (Fct.val 87 (.int .i64 way154))⟩, ⟨[6, 9, 10], [], [], Fct.cond (!((!r240.2) || (!r242.2))) (some 88) (Fct.val 88 (.bool (!decide ((ad r240.1 r242.1) = way154))))⟩, ⟨[6, 11], [], [], Fct.val 89 (.bool x244)⟩, ⟨[12], [], [], Fct.val 90 (.bool x244)⟩, ⟨[13], [11], [], Fct.cond (!x244) (some 91) (Fct.val 91 (.int .i64 r240.1))⟩, ⟨[13, 14], [], [], Fct.cond (!x244) (some 92) (Fct.val 92 (.bool (!decide (r240.1 = 0))))⟩, ⟨[13, 15], [], [], Fct.cond (!x244) (some 93) (Fct.val 93 (.bool (!decide (r240.1 = 0))))⟩, ⟨[16], [13], [], Fct.cond ((!x244) && (!decide (r240.1 = 0))) (some 94) (Fct.val 94 (.int .i64 r242.1))⟩, ⟨[16, 17], [], [], Fct.cond ((!x244) && (!decide (r240.1 = 0))) (some 95) (Fct.val 95 (.bool (!decide (r242.1 = 0))))⟩, ⟨[13, 16, 18], [], [], Fct.cond (!x244) (some 96) (Fct.val 96 (.bool x245))⟩, ⟨[13, 19], [], [], Fct.val 97 (.bool (x244 || x245))⟩, ⟨[20], [], [], Fct.val 98 (.bool (x244 || x245))⟩, ⟨[21], [5], [], Fct.cond (!(x244 || x245)) (some 99) (Fct.val 99 (.int .i64 way154))⟩, ⟨[21, 22], [], [], Fct.cond (!(x244 || x245)) (some 100) (Fct.val 100 (.bool (decide (way154 = 1))))⟩, ⟨[21, 23], [], [], Fct.cond (!(x244 || x245)) (some 101) (Fct.val 101 (.bool (decide (way154 = 1))))⟩, ⟨[24], [11], [], Fct.cond ((!(x244 || x245)) && (decide (way154 = 1))) (some 102) (Fct.val 102 (.int .i64 r240.1))⟩, ⟨[24, 25], [], [], Fct.cond ((!(x244 || x245)) && (decide (way154 = 1))) (some 103) (Fct.val 103 (.bool (!decide (r240.1 = 1))))⟩, ⟨[21, 24, 26], [], [], Fct.cond (!(x244 || x245)) (some 104) (Fct.val 104 (.bool x246))⟩, ⟨[21, 27], [], [], Fct.val 105 (.bool ((x244 || x245) || x246))⟩] hz243 hd243 (by kernel_rfl) ?_ ?_
        · refine sc (fun _ _ _ _ s _ => px (or_move (s.1.trans e243_12))) ?_
          refine sc (fun _ _ _ f _ _ => px (or_not f.1 rfl)) ?_
          refine sc (fun _ _ _ f _ _ => px (or_move f.1)) ?_
          refine sc (fun _ _ _ f s _ => sg_f rfl rfl rfl f.1 (fun hg => or_move (s.1.trans e243_14))) ?_
          refine sc (fun _ _ _ f _ _ => sg_f rfl rfl rfl f.1 (fun hg => or_not (f.2.1.1 hg) rfl)) ?_
          refine sc (fun _ _ _ f _ _ => px (or_or f.1 rfl (fun hx => f.2.1.1 hx) rfl)) ?_
          refine sc (fun _ _ _ f _ _ => px (or_move f.1)) ?_
          refine sc (fun _ _ _ f s _ => sg_f rfl rfl rfl f.1 (fun hg => or_move (s.1.trans e243_11))) ?_
          refine sc (fun _ _ _ f s _ => sg_f rfl rfl rfl f.1 (fun hg => or_move (s.1.trans e243_13))) ?_
          refine sc (fun _ _ _ f _ _ => sg_f rfl rfl rfl f.1 (fun hg => or_add (f.2.1.1 hg) (f.2.2.1.1 hg) rfl)) ?_
          refine sc (fun _ _ _ f s _ => sg_f rfl rfl rfl f.1 (fun hg => or_move (s.1.trans e243_5))) ?_
          refine sc (fun _ _ _ f _ _ => sg_f rfl rfl rfl f.1 (fun hg => or_neq (f.2.1.1 hg) (f.2.2.1.1 hg) rfl)) ?_
          refine sc (fun _ _ _ f _ _ => px (or_or f.1 rfl (fun hx => f.2.1.1 hx) (osome hx244).symm)) ?_
          refine sc (fun _ _ _ f _ _ => px (or_move f.1)) ?_
          refine sc (fun _ _ _ f s _ => sg_f rfl rfl rfl f.1 (fun hg => or_move (s.1.trans e243_11))) ?_
          refine sc (fun _ _ _ f _ _ => sg_f rfl rfl rfl f.1 (fun hg => or_neq (f.2.1.1 hg) rfl rfl)) ?_
          refine sc (fun _ _ _ f _ _ => sg_f rfl rfl rfl f.1 (fun hg => or_move (f.2.1.1 hg))) ?_
          refine sc (fun _ _ _ f s _ => sg_tc rfl rfl rfl f.1 (fun hg => or_move (s.1.trans e243_13))) ?_
          refine sc (fun _ _ _ f _ _ => sg_tc rfl rfl rfl f.1 (fun hg => or_neq (f.2.1.1 hg) rfl rfl)) ?_
          refine sc (fun _ _ _ f _ _ => sg_f rfl rfl rfl f.1 (fun hg => or_and (f.2.1.1 hg) (fun hx => f.2.2.1.1 (gI hg hx)) rfl (osome hx245).symm)) ?_
          refine sc (fun _ _ _ f _ _ => px (or_or f.1 rfl (fun hx => f.2.1.1 hx) rfl)) ?_
          refine sc (fun _ _ _ f _ _ => px (or_move f.1)) ?_
          refine sc (fun _ _ _ f s _ => sg_f rfl rfl rfl f.1 (fun hg => or_move (s.1.trans e243_5))) ?_
          refine sc (fun _ _ _ f _ _ => sg_f rfl rfl rfl f.1 (fun hg => or_eql (f.2.1.1 hg) rfl rfl)) ?_
          refine sc (fun _ _ _ f _ _ => sg_f rfl rfl rfl f.1 (fun hg => or_move (f.2.1.1 hg))) ?_
          refine sc (fun _ _ _ f s _ => sg_tc rfl rfl rfl f.1 (fun hg => or_move (s.1.trans e243_11))) ?_
          refine sc (fun _ _ _ f _ _ => sg_tc rfl rfl rfl f.1 (fun hg => or_neq (f.2.1.1 hg) rfl rfl)) ?_
          refine sc (fun _ _ _ f _ _ => sg_f rfl rfl rfl f.1 (fun hg => or_and (f.2.1.1 hg) (fun hx => f.2.2.1.1 (gI hg hx)) rfl (osome hx246).symm)) ?_
          refine sc (fun _ _ _ f _ _ => px (or_or f.1 rfl (fun hx => f.2.1.1 hx) rfl)) ?_
          exact steps_nil
        intro own247 a247 w247 hd247 hz247 hk247 hf247 hE247
        have e247_0 := (hk247 0 rfl).trans e243_0
        have e247_5 := (hk247 5 rfl).trans e243_5
        have e247_8 := (hk247 8 rfl).trans e243_8
        obtain ⟨(e247_105 : a247.eval (.tmp 105) = .bool ((x244 || x245) || x246)), -⟩ := hf247 [28] rfl
        have hX247 := es_ hX243 hE247
        have b247_A138 := RdO.evo rfl hE247 b243_A138
        refine fl_cond e247_105 hs (fun c248 hs => ?_) (fun c248 hs => ?_)
        · refine rg0_seq 107 own247 (bz 1) [⟨[], [], [], Fct.val 4 (.bool false)⟩] hz247 hd247 (by kernel_rfl) ?_ ?_
          · refine sc (fun _ _ _ _ _ _ => px (or_assign rfl)) ?_
            exact steps_nil
          intro own249 a249 w249 hd249 hz249 hk249 hf249 hE249
          obtain ⟨(e249_4 : a249.eval (.tmp 4) = .bool false), -⟩ := hf249 [0] rfl
          have hX249 := es_ hX247 hE249
          refine fl_ret ?_
          refine hp229 _ _ _ rfl ?_
          refine hp228 _ _ _ rfl ?_
          replace hs := hz223 _ hs
          refine hp223 _ _ _ rfl ?_
          refine hp167 _ _ _ rfl ?_
          refine hp165 _ _ _ rfl ?_
          obtain rfl := osome hs
          exact hret _ _ _ _ (.inl rfl) hd249 (results1_ rfl (RVal.tmp_ e249_4)) ⟨own249, rfl, hX249⟩
        refine fl_skip ?_
        refine hn229 _ _ ?_
        refine hn228 _ _ ?_
        refine rg0 107 own247 (bz 3) [⟨[], [8], [], Fct.val 49 (.int .i64 i195)⟩, ⟨[0], [], [], Fct.val 50 (.int .i64 (ad i195 1))⟩, ⟨[1], [], [], Fct.val 8 (.int .i64 (ad i195 1))⟩] hz247 hd247 (by kernel_rfl) ?_ ?_
        · refine sc (fun _ _ _ _ s _ => px (or_move (s.1.trans e247_8))) ?_
          refine sc (fun _ _ _ f _ _ => px (or_add f.1 rfl rfl)) ?_
          refine sc (fun _ _ _ f _ _ => px (or_assign f.1)) ?_
          exact steps_nil
        intro own250 a250 w250 hd250 hz250 hk250 hf250 hE250
        have e250_0 := (hk250 0 rfl).trans e247_0
        have e250_5 := (hk250 5 rfl).trans e247_5
        obtain ⟨(e250_8 : a250.eval (.tmp 8) = .int .i64 (ad i195 1)), -⟩ := hf250 [2] rfl
        have hX250 := es_ hX247 hE250
        have b250_A138 := RdO.evo rfl hE250 b247_A138
        exact hn223 _ _ _ hs ⟨own250, hd250, hz250, e250_0, e250_5, e250_8, hX250, b250_A138⟩
      refine fl_exit ?_
      refine hp225 _ _ _ rfl ?_
      replace hs := hz223 _ hs
      refine hp223 _ _ _ rfl ?_
      refine hx167 _ _ ?_
      refine hn165 _ _ ?_
      obtain ⟨r251, hr251, hs⟩ := obind hs
      refine rg0_seq 107 own226 (bz 2) [⟨[], [], [], Fct.val 106 (.bool r251)⟩, ⟨[0], [], [], Fct.val 4 (.bool r251)⟩] hz226 hd226 (by kernel_rfl) ?_ ?_
      · refine sc (fun _ _ _ _ _ _ => px (or_call cf12 (args0) (law03_known_w _   r251 hr251) post_val)) ?_
        refine sc (fun _ _ _ f _ _ => px (or_assign f.1)) ?_
        exact steps_nil
      intro own252 a252 w252 hd252 hz252 hk252 hf252 hE252
      obtain ⟨(e252_4 : a252.eval (.tmp 4) = .bool r251), -⟩ := hf252 [1] rfl
      have hX252 := es_ hX226 hE252
      refine fl_ret ?_
      obtain rfl := (osome hs).symm
      exact hret _ _ _ _ (.inl rfl) hd252 (results1_ rfl (RVal.tmp_ e252_4)) ⟨own252, rfl, hX252⟩
  obtain ⟨r253, hr253, hs⟩ := obind hs
  refine rg0_seq 107 own148 (bz 3) [⟨[], [0], [], Fct.val 21 (.slice A138 r137.length cA138)⟩, ⟨[0], [], [], Fct.val 22 (.int .i64 r253)⟩, ⟨[1], [], [], Fct.val 23 (.bool (decide (r253 < 0)))⟩] hz148 hd148 (by kernel_rfl) ?_ ?_
  · refine sc (fun _ _ _ _ s _ => px (or_move (s.1.trans e148_0))) ?_
    refine sc (fun _ _ _ f _ hE => px (or_call cf13 (args1 f.1) (ring_Area_w _ r137 A138 cA138 (RdO.zero (RdO.evo rfl hE b148_A138)) r253 hr253) post_val)) ?_
    refine sc (fun _ _ _ f _ _ => px (or_lss f.1 rfl rfl)) ?_
    exact steps_nil
  intro own254 a254 w254 hd254 hz254 hk254 hf254 hE254
  have e254_0 := (hk254 0 rfl).trans e148_0
  have e254_3 := (hk254 3 rfl).trans e148_3
  have e254_5 := (hk254 5 rfl).trans e148_5
  obtain ⟨(e254_23 : a254.eval (.tmp 23) = .bool (decide (r253 < 0))), -⟩ := hf254 [2] rfl
  have hX254 := es_ hX148 hE254
  have b254_g134 := be_ hE254 b148_g134
  have b254_A138 := RdO.evo rfl hE254 b148_A138
  refine fl_cond e254_23 hs (fun c255 hs => ?_) (fun c255 hs => ?_)
  · refine rg0 107 own254 (bz 1) [⟨[], [], [], Fct.val 5 (.int .i64 (-1))⟩] hz254 hd254 (by kernel_rfl) ?_ ?_
    · refine sc (fun _ _ _ _ _ _ => px (or_assign rfl)) ?_
      exact steps_nil
    intro own256 a256 w256 hd256 hz256 hk256 hf256 hE256
    have e256_0 := (hk256 0 rfl).trans e254_0
    have e256_3 := (hk256 3 rfl).trans e254_3
    obtain ⟨(e256_5 : a256.eval (.tmp 5) = .int .i64 (-1)), -⟩ := hf256 [0] rfl
    have hX256 := es_ hX254 hE256
    have b256_g134 := be_ hE256 b254_g134
    have b256_A138 := RdO.evo rfl hE256 b254_A138
    exact (K155 _ _ own256 _ hd256 hz256 e256_0 e256_3 e256_5 hX256 b256_A138 b256_g134 hs)
  refine fl_skip ?_
  exact (K155 _ _ own254 _ hd254 hz254 e254_0 e254_3 e254_5 hX254 b254_A138 b254_g134 hs)
end Go.Proofs.Ythkmkmkcnljmaaa
