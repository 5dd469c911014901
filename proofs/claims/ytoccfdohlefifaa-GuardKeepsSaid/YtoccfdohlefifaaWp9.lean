import Derived.Test.YtoccfdohlefifaaWp4
import Derived.Test.YtoccfdohlefifaaWp5
import Derived.Test.YtoccfdohlefifaaWp6
import Derived.Test.YtoccfdohlefifaaSp9
namespace Go.Proofs.Ytoccfdohlefifaa
open Go.RowKit
set_option linter.unusedVariables false
set_option maxRecDepth 10000
theorem seg_line_w (w : World) (x1 : Int × Int) (b2 : Int × Int) (c3 : Int × Int) (d4 : Int × Int) (r : Int) (hs : seg_line x1 b2 c3 d4 = some r) :
    Calls Try.prog 47 #[.agg #[.int .i64 x1.1, .int .i64 x1.2], .agg #[.int .i64 b2.1, .int .i64 b2.2], .agg #[.int .i64 c3.1, .int .i64 c3.2], .agg #[.int .i64 d4.1, .int .i64 d4.2]] w fun e w' => ∃ own' : Own, e = .returned (.int .i64 r) ∧ Evo [] (fun _ => 0) own' w w' := by
  refine fl_enter (n := 37) rfl rfl rfl (Nat.le_of_ble_eq_true rfl) ?_
  intro a0 Q hd0 hz0 harg hret
  have ha0 := harg 0 _ rfl
  have ha1 := harg 1 _ rfl
  have ha2 := harg 2 _ rfl
  have ha3 := harg 3 _ rfl
  clear harg
  have hE0 : Evo [] (fun _ => 0) (fun _ => 0) w w := Evo.refl _ _ _
  refine rg0_seq 37 (fun _ => 0) [0, 0, 0, 0, 0] [⟨[], [0], [], Fct.blk 75 4 (fun g => .pointer (some ⟨g, 0, none⟩)) 25 #[.int .i64 x1.1, .int .i64 x1.2]⟩,     ⟨[], [1], [], Fct.blk 77 5 (fun g => .pointer (some ⟨g, 0, none⟩)) 25 #[.int .i64 b2.1, .int .i64 b2.2]⟩,     ⟨[], [2], [], Fct.blk 79 6 (fun g => .pointer (some ⟨g, 0, none⟩)) 25 #[.int .i64 c3.1, .int .i64 c3.2]⟩,     ⟨[], [3], [], Fct.blk 81 7 (fun g => .pointer (some ⟨g, 0, none⟩)) 25 #[.int .i64 d4.1, .int .i64 d4.2]⟩,     ⟨[], [], [], Fct.val 8 (.int .i64 0)⟩] hz0 hd0 (by kernel_rfl) ?_ ?_
  · refine sc (fun _ _ _ _ s _ => px (or_new [(0, .agg #[.int .i64 x1.1, .int .i64 x1.2])] rfl rfl ⟨(s.1.trans ha0), trivial⟩ (by kernel_rfl))) ?_
    refine sc (fun _ _ _ _ s _ => px (or_new [(1, .agg #[.int .i64 b2.1, .int .i64 b2.2])] rfl rfl ⟨(s.1.trans ha1), trivial⟩ (by kernel_rfl))) ?_
    refine sc (fun _ _ _ _ s _ => px (or_new [(2, .agg #[.int .i64 c3.1, .int .i64 c3.2])] rfl rfl ⟨(s.1.trans ha2), trivial⟩ (by kernel_rfl))) ?_
    refine sc (fun _ _ _ _ s _ => px (or_new [(3, .agg #[.int .i64 d4.1, .int .i64 d4.2])] rfl rfl ⟨(s.1.trans ha3), trivial⟩ (by kernel_rfl))) ?_
    refine sc (fun _ _ _ _ _ _ => px (or_assign rfl)) ?_
    exact steps_nil
  intro own82 a82 w82 hd82 hz82 hk82 hf82 hE82
  obtain ⟨⟨g74, (e82_4 : a82.eval (.tmp 4) = .pointer (some ⟨g74, 0, none⟩)), (b82_g74 : BlkO own82 75 w82 g74 25 #[.int .i64 x1.1, .int .i64 x1.2])⟩, ⟨g76, (e82_5 : a82.eval (.tmp 5) = .pointer (some ⟨g76, 0, none⟩)), (b82_g76 : BlkO own82 77 w82 g76 25 #[.int .i64 b2.1, .int .i64 b2.2])⟩, ⟨g78, (e82_6 : a82.eval (.tmp 6) = .pointer (some ⟨g78, 0, none⟩)), (b82_g78 : BlkO own82 79 w82 g78 25 #[.int .i64 c3.1, .int .i64 c3.2])⟩, ⟨g80, (e82_7 : a82.eval (.tmp 7) = .pointer (some ⟨g80, 0, none⟩)), (b82_g80 : BlkO own82 81 w82 g80 25 #[.int .i64 d4.1, .int .i64 d4.2])⟩, -⟩ := hf82 [0, 1, 2, 3] rfl
  have hX82 := es_ hE0 hE82
  refine fl_seq (fun Q83 hn83 hp83 => ?_)
  have K95 : ∀ (a95 : Act) (w95 : World) (own95 : Own) (x92 : Int × Int) (b94 : Int × Int), a95.defers = [] → a95.tmps.size = 37 → a95.eval (.tmp 4) = .pointer (some ⟨g74, 0, none⟩) → a95.eval (.tmp 5) = .pointer (some ⟨g76, 0, none⟩) → a95.eval (.tmp 6) = .pointer (some ⟨g78, 0, none⟩) → a95.eval (.tmp 7) = .pointer (some ⟨g80, 0, none⟩) → Evo [] (fun _ => 0) own95 w w95 → BlkO own95 91 w95 g74 25 #[.int .i64 x92.1, .int .i64 x92.2] → BlkO own95 93 w95 g76 25 #[.int .i64 b94.1, .int .i64 b94.2] → BlkO own95 79 w95 g78 25 #[.int .i64 c3.1, .int .i64 c3.2] → BlkO own95 81 w95 g80 25 #[.int .i64 d4.1, .int .i64 d4.2] → seg_line_k1 c3 d4 x92 b94 = some r → Q83 .normal a95 w95 := by
    intro a95 w95 own95 x92 b94 hd96 hz96 e96_4 e96_5 e96_6 e96_7 hE96 b96_g74 b96_g76 b96_g78 b96_g80 hs
    refine hn83 _ _ ?_
    refine fl_seq (fun Q97 hn97 hp97 => ?_)
    have K109 : ∀ (a109 : Act) (w109 : World) (own109 : Own) (c106 : Int × Int) (d108 : Int × Int), a109.defers = [] → a109.tmps.size = 37 → a109.eval (.tmp 4) = .pointer (some ⟨g74, 0, none⟩) → a109.eval (.tmp 5) = .pointer (some ⟨g76, 0, none⟩) → a109.eval (.tmp 6) = .pointer (some ⟨g78, 0, none⟩) → a109.eval (.tmp 7) = .pointer (some ⟨g80, 0, none⟩) → Evo [] (fun _ => 0) own109 w w109 → BlkO own109 91 w109 g74 25 #[.int .i64 x92.1, .int .i64 x92.2] → BlkO own109 93 w109 g76 25 #[.int .i64 b94.1, .int .i64 b94.2] → BlkO own109 105 w109 g78 25 #[.int .i64 c106.1, .int .i64 c106.2] → BlkO own109 107 w109 g80 25 #[.int .i64 d108.1, .int .i64 d108.2] → seg_line_k2 x92 b94 c106 d108 = some r → Q97 .normal a109 w109 := by
      intro a109 w109 own109 c106 d108 hd110 hz110 e110_4 e110_5 e110_6 e110_7 hE110 b110_g74 b110_g76 b110_g78 b110_g80 hs
      refine hn97 _ _ ?_
      refine fl_seq (fun Q111 hn111 hp111 => ?_)
      refine fl_block (fun Q112 hn112 hx112 hp112 => ?_)
      obtain ⟨r113, hr113, hs⟩ := obind hs
      obtain ⟨r114, hr114, hs⟩ := obind hs
      refine rg0_seq 37 own109 [0, 0, 3, 7, 15, 15, 63, 127, 255] [⟨[], [5], [], Fct.val 20 (.agg #[.int .i64 b94.1, .int .i64 b94.2])⟩,     ⟨[], [6], [], Fct.val 21 (.agg #[.int .i64 c106.1, .int .i64 c106.2])⟩,     ⟨[0, 1], [], [], Fct.val 22 (.bool r113)⟩,     ⟨[2], [], [], Fct.val 23 (.bool r113)⟩,     ⟨[3], [7], [], Fct.cond (!r113) (some 24) (Fct.val 24 (.agg #[.int .i64 d108.1, .int .i64 d108.2]))⟩,     ⟨[3], [4], [], Fct.cond (!r113) (some 25) (Fct.val 25 (.agg #[.int .i64 x92.1, .int .i64 x92.2]))⟩,     ⟨[3, 4, 5], [], [], Fct.cond (!r113) (some 26) (Fct.val 26 (.bool r114))⟩,     ⟨[3, 6], [], [], Fct.val 27 (.bool (r113 || r114))⟩,     ⟨[7], [], [], Fct.val 19 (.bool (r113 || r114))⟩] hz110 hd110 (by kernel_rfl) ?_ ?_
      · refine sc (fun _ _ _ _ s hE => px (or_load (l := [.int .i64 b94.1, .int .i64 b94.2]) ta25 (s.1.trans e110_5) (Blk.cellsFrom (be_ hE b110_g76).2 0 rfl) rfl)) ?_
        refine sc (fun _ _ _ _ s hE => px (or_load (l := [.int .i64 c106.1, .int .i64 c106.2]) ta25 (s.1.trans e110_6) (Blk.cellsFrom (be_ hE b110_g78).2 0 rfl) rfl)) ?_
        refine sc (fun _ _ _ f _ _ => px (or_call cf51 (args2 f.1 f.2.1) (exact_Less_w _ b94 c106  r113 hr113) post_val)) ?_
        refine sc (fun _ _ _ f _ _ => px (or_move f.1)) ?_
        refine sc (fun _ _ _ f s hE => sg_f rfl rfl rfl f.1 (fun hg => or_load (l := [.int .i64 d108.1, .int .i64 d108.2]) ta25 (s.1.trans e110_7) (Blk.cellsFrom (be_ hE b110_g80).2 0 rfl) rfl)) ?_
        refine sc (fun _ _ _ f s hE => sg_f rfl rfl rfl f.1 (fun hg => or_load (l := [.int .i64 x92.1, .int .i64 x92.2]) ta25 (s.1.trans e110_4) (Blk.cellsFrom (be_ hE b110_g74).2 0 rfl) rfl)) ?_
        refine sc (fun _ _ _ f _ _ => sg_f rfl rfl rfl f.1 (fun hg => or_call cf51 (args2 (f.2.1.1 hg) (f.2.2.1.1 hg)) (exact_Less_w _ d108 x92  r114 (gd_t hr114 hg)) post_val)) ?_
        refine sc (fun _ _ _ f _ _ => px (or_or f.1 rfl (fun hx => f.2.1.1 hx) rfl)) ?_
        refine sc (fun _ _ _ f _ _ => px (or_assign f.1)) ?_
        exact steps_nil
      intro own115 a115 w115 hd115 hz115 hk115 hf115 hE115
      have e115_4 := (hk115 4 rfl).trans e110_4
      have e115_5 := (hk115 5 rfl).trans e110_5
      have e115_6 := (hk115 6 rfl).trans e110_6
      have e115_7 := (hk115 7 rfl).trans e110_7
      obtain ⟨(e115_19 : a115.eval (.tmp 19) = .bool (r113 || r114)), -⟩ := hf115 [8] rfl
      have hX115 := es_ hE110 hE115
      have b115_g74 := be_ hE115 b110_g74
      have b115_g76 := be_ hE115 b110_g76
      have b115_g78 := be_ hE115 b110_g78
      have b115_g80 := be_ hE115 b110_g80
      refine fl_cond e115_19 hs (fun c116 hs => ?_) (fun c116 hs => ?_)
      · refine rg0_seq 37 own115 (bz 1) [⟨[], [], [], Fct.val 8 (.int .i64 0)⟩] hz115 hd115 (by kernel_rfl) ?_ ?_
        · refine sc (fun _ _ _ _ _ _ => px (or_assign rfl)) ?_
          exact steps_nil
        intro own117 a117 w117 hd117 hz117 hk117 hf117 hE117
        obtain ⟨(e117_8 : a117.eval (.tmp 8) = .int .i64 0), -⟩ := hf117 [0] rfl
        have hX117 := es_ hX115 hE117
        refine fl_ret ?_
        refine hp112 _ _ _ rfl ?_
        refine hp111 _ _ _ rfl ?_
        obtain rfl := osome hs
        exact hret _ _ _ _ (.inl rfl) hd117 (results1_ rfl (RVal.tmp_ e117_8)) ⟨own117, rfl, hX117⟩
      obtain ⟨x118, hx118, hs⟩ := obind hs
      refine rg0_seq 37 own115 [0, 0, 3, 7, 15, 15, 63, 127, 255] [⟨[], [5], [], Fct.val 29 (.agg #[.int .i64 b94.1, .int .i64 b94.2])⟩,     ⟨[], [6], [], Fct.val 30 (.agg #[.int .i64 c106.1, .int .i64 c106.2])⟩,     ⟨[0, 1], [], [], Fct.val 31 (.bool (decide (b94 = c106)))⟩,     ⟨[2], [], [], Fct.val 32 (.bool (decide (b94 = c106)))⟩,     ⟨[3], [7], [], Fct.cond (!(decide (b94 = c106))) (some 33) (Fct.val 33 (.agg #[.int .i64 d108.1, .int .i64 d108.2]))⟩,     ⟨[3], [4], [], Fct.cond (!(decide (b94 = c106))) (some 34) (Fct.val 34 (.agg #[.int .i64 x92.1, .int .i64 x92.2]))⟩,     ⟨[3, 4, 5], [], [], Fct.cond (!(decide (b94 = c106))) (some 35) (Fct.val 35 (.bool (decide (d108 = x92))))⟩,     ⟨[3, 6], [], [], Fct.val 36 (.bool x118)⟩,     ⟨[7], [], [], Fct.val 28 (.bool x118)⟩] hz115 hd115 (by kernel_rfl) ?_ ?_
      · refine sc (fun _ _ _ _ s hE => px (or_load (l := [.int .i64 b94.1, .int .i64 b94.2]) ta25 (s.1.trans e115_5) (Blk.cellsFrom (be_ hE b115_g76).2 0 rfl) rfl)) ?_
        refine sc (fun _ _ _ _ s hE => px (or_load (l := [.int .i64 c106.1, .int .i64 c106.2]) ta25 (s.1.trans e115_6) (Blk.cellsFrom (be_ hE b115_g78).2 0 rfl) rfl)) ?_
        refine sc (fun _ _ _ f _ _ => px (or_eqlA sg25 f.1 f.2.1 (se25 b94.1 b94.2 c106.1 c106.2 _) rfl)) ?_
        refine sc (fun _ _ _ f _ _ => px (or_move f.1)) ?_
        refine sc (fun _ _ _ f s hE => sg_f rfl rfl rfl f.1 (fun hg => or_load (l := [.int .i64 d108.1, .int .i64 d108.2]) ta25 (s.1.trans e115_7) (Blk.cellsFrom (be_ hE b115_g80).2 0 rfl) rfl)) ?_
        refine sc (fun _ _ _ f s hE => sg_f rfl rfl rfl f.1 (fun hg => or_load (l := [.int .i64 x92.1, .int .i64 x92.2]) ta25 (s.1.trans e115_4) (Blk.cellsFrom (be_ hE b115_g74).2 0 rfl) rfl)) ?_
        refine sc (fun _ _ _ f _ _ => sg_f rfl rfl rfl f.1 (fun hg => or_eqlA sg25 (f.2.1.1 hg) (f.2.2.1.1 hg) (se25 d108.1 d108.2 x92.1 x92.2 _) rfl)) ?_
        refine sc (fun _ _ _ f _ _ => px (or_or f.1 rfl (fun hx => f.2.1.1 hx) (osome hx118).symm)) ?_
        refine sc (fun _ _ _ f _ _ => px (or_assign f.1)) ?_
        exact steps_nil
      intro own119 a119 w119 hd119 hz119 hk119 hf119 hE119
      obtain ⟨(e119_28 : a119.eval (.tmp 28) = .bool x118), -⟩ := hf119 [8] rfl
      have hX119 := es_ hX115 hE119
      refine fl_cond e119_28 hs (fun c120 hs => ?_) (fun c120 hs => ?_)
      · refine rg0_seq 37 own119 (bz 1) [⟨[], [], [], Fct.val 8 (.int .i64 1)⟩] hz119 hd119 (by kernel_rfl) ?_ ?_
        · refine sc (fun _ _ _ _ _ _ => px (or_assign rfl)) ?_
          exact steps_nil
        intro own121 a121 w121 hd121 hz121 hk121 hf121 hE121
        obtain ⟨(e121_8 : a121.eval (.tmp 8) = .int .i64 1), -⟩ := hf121 [0] rfl
        have hX121 := es_ hX119 hE121
        refine fl_ret ?_
        refine hp112 _ _ _ rfl ?_
        refine hp111 _ _ _ rfl ?_
        obtain rfl := osome hs
        exact hret _ _ _ _ (.inl rfl) hd121 (results1_ rfl (RVal.tmp_ e121_8)) ⟨own121, rfl, hX121⟩
      refine fl_skip ?_
      refine hn112 _ _ ?_
      refine hn111 _ _ ?_
      refine rg0_seq 37 own119 (bz 1) [⟨[], [], [], Fct.val 8 (.int .i64 4)⟩] hz119 hd119 (by kernel_rfl) ?_ ?_
      · refine sc (fun _ _ _ _ _ _ => px (or_assign rfl)) ?_
        exact steps_nil
      intro own122 a122 w122 hd122 hz122 hk122 hf122 hE122
      obtain ⟨(e122_8 : a122.eval (.tmp 8) = .int .i64 4), -⟩ := hf122 [0] rfl
      have hX122 := es_ hX119 hE122
      refine fl_ret ?_
      obtain rfl := osome hs
      exact hret _ _ _ _ (.inl rfl) hd122 (results1_ rfl (RVal.tmp_ e122_8)) ⟨own122, rfl, hX122⟩
    obtain ⟨r123, hr123, hs⟩ := obind hs
    refine rg0_seq 37 own95 [0, 0, 3] [⟨[], [7], [], Fct.val 14 (.agg #[.int .i64 d4.1, .int .i64 d4.2])⟩,     ⟨[], [6], [], Fct.val 15 (.agg #[.int .i64 c3.1, .int .i64 c3.2])⟩,     ⟨[0, 1], [], [], Fct.val 16 (.bool r123)⟩] hz96 hd96 (by kernel_rfl) ?_ ?_
    · refine sc (fun _ _ _ _ s hE => px (or_load (l := [.int .i64 d4.1, .int .i64 d4.2]) ta25 (s.1.trans e96_7) (Blk.cellsFrom (be_ hE b96_g80).2 0 rfl) rfl)) ?_
      refine sc (fun _ _ _ _ s hE => px (or_load (l := [.int .i64 c3.1, .int .i64 c3.2]) ta25 (s.1.trans e96_6) (Blk.cellsFrom (be_ hE b96_g78).2 0 rfl) rfl)) ?_
      refine sc (fun _ _ _ f _ _ => px (or_call cf51 (args2 f.1 f.2.1) (exact_Less_w _ d4 c3  r123 hr123) post_val)) ?_
      exact steps_nil
    intro own124 a124 w124 hd124 hz124 hk124 hf124 hE124
    have e124_4 := (hk124 4 rfl).trans e96_4
    have e124_5 := (hk124 5 rfl).trans e96_5
    have e124_6 := (hk124 6 rfl).trans e96_6
    have e124_7 := (hk124 7 rfl).trans e96_7
    obtain ⟨(e124_16 : a124.eval (.tmp 16) = .bool r123), -⟩ := hf124 [2] rfl
    have hX124 := es_ hE96 hE124
    have b124_g74 := be_ hE124 b96_g74
    have b124_g76 := be_ hE124 b96_g76
    have b124_g78 := be_ hE124 b96_g78
    have b124_g80 := be_ hE124 b96_g80
    refine fl_cond e124_16 hs (fun c125 hs => ?_) (fun c125 hs => ?_)
    · refine rg_plain (n := 37) (rs := [Fct.at_ 79 g78 25 #[.int .i64 c3.1, .int .i64 c3.2], Fct.at_ 81 g80 25 #[.int .i64 d4.1, .int .i64 d4.2]]) (own0 := own124) (K := [79, 81]) (bs := [0, 0, 3, 7]) (ds := [⟨[5], [7], [], Fct.val 17 (.agg #[.int .i64 d4.1, .int .i64 d4.2])⟩,     ⟨[4], [6], [], Fct.val 18 (.agg #[.int .i64 c3.1, .int .i64 c3.2])⟩,     ⟨[0, 4], [6], [79], Fct.at_ 127 g78 25 #[.int .i64 d4.1, .int .i64 d4.2]⟩,     ⟨[1, 5], [7], [81], Fct.at_ 128 g80 25 #[.int .i64 c3.1, .int .i64 c3.2]⟩]) (by kernel_rfl) hz124 hd124 (by simp only [List.forall_mem_cons]; exact ⟨b124_g78, b124_g80, fun _ h => nomatch h⟩) ?_ ?_
      · refine sc (fun own a wx hf hsl hE => ?_) ?_
        · obtain ⟨(b_g80 : BlkO own 81 wx g80 25 #[.int .i64 d4.1, .int .i64 d4.2]), -⟩ := hf
          obtain ⟨s_7, -⟩ := hsl
          exact px (or_load (l := [.int .i64 d4.1, .int .i64 d4.2]) ta25 (s_7.trans e124_7) (Blk.cellsFrom b_g80.2 0 rfl) rfl)
        refine sc (fun own a wx hf hsl hE => ?_) ?_
        · obtain ⟨(b_g78 : BlkO own 79 wx g78 25 #[.int .i64 c3.1, .int .i64 c3.2]), -⟩ := hf
          obtain ⟨s_6, -⟩ := hsl
          exact px (or_load (l := [.int .i64 c3.1, .int .i64 c3.2]) ta25 (s_6.trans e124_6) (Blk.cellsFrom b_g78.2 0 rfl) rfl)
        refine sc (fun own a wx hf hsl hE => ?_) ?_
        · obtain ⟨f_17, b_g78, -⟩ := hf
          obtain ⟨s_6, -⟩ := hsl
          exact px (or_store (l := #[.int .i64 d4.1, .int .i64 d4.2]) (lab := 79) (lab2 := 127) ts25 (s_6.trans e124_6) f_17 b_g78 (by simp) (by kernel_rfl) (mem_of rfl) (by decide) (by kernel_rfl) (fun own' a' w' ha hb => hb))
        refine sc (fun own a wx hf hsl hE => ?_) ?_
        · obtain ⟨f_18, b_g80, -⟩ := hf
          obtain ⟨s_7, -⟩ := hsl
          exact px (or_store (l := #[.int .i64 c3.1, .int .i64 c3.2]) (lab := 81) (lab2 := 128) ts25 (s_7.trans e124_7) f_18 b_g80 (by simp) (by kernel_rfl) (mem_of rfl) (by decide) (by kernel_rfl) (fun own' a' w' ha hb => hb))
        exact steps_nil
      intro own129 a129 w129 hd129 hz129 hk129 hf129 hE129
      have e129_4 := (hk129 4 rfl).trans e124_4
      have e129_5 := (hk129 5 rfl).trans e124_5
      have e129_6 := (hk129 6 rfl).trans e124_6
      have e129_7 := (hk129 7 rfl).trans e124_7
      obtain ⟨(b129_g78 : BlkO own129 127 w129 g78 25 #[.int .i64 d4.1, .int .i64 d4.2]), (b129_g80 : BlkO own129 128 w129 g80 25 #[.int .i64 c3.1, .int .i64 c3.2]), -⟩ := hf129 [2, 3] rfl
      have hX129 := es_ hX124 hE129
      have b129_g74 := be_ hE129 b124_g74
      have b129_g76 := be_ hE129 b124_g76
      exact (K109 _ _ (rl [(127, 105), (128, 107)] own129) d4 c3 hd129 hz129 e129_4 e129_5 e129_6 e129_7 (Evo.rl_ hX129 (fun _ => Nat.le_refl 0) rfl) (BlkO.rl_ (mm := [(127, 105), (128, 107)]) b129_g74) (BlkO.rl_ (mm := [(127, 105), (128, 107)]) b129_g76) (BlkO.rl_ (mm := [(127, 105), (128, 107)]) b129_g78) (BlkO.rl_ (mm := [(127, 105), (128, 107)]) b129_g80) hs)
    refine fl_skip ?_
    exact (K109 _ _ (rl [(79, 105), (81, 107)] own124) c3 d4 hd124 hz124 e124_4 e124_5 e124_6 e124_7 (Evo.rl_ hX124 (fun _ => Nat.le_refl 0) rfl) (BlkO.rl_ (mm := [(79, 105), (81, 107)]) b124_g74) (BlkO.rl_ (mm := [(79, 105), (81, 107)]) b124_g76) (BlkO.rl_ (mm := [(79, 105), (81, 107)]) b124_g78) (BlkO.rl_ (mm := [(79, 105), (81, 107)]) b124_g80) hs)
  obtain ⟨r130, hr130, hs⟩ := obind hs
  refine rg0_seq 37 own82 [0, 0, 3] [⟨[], [5], [], Fct.val 9 (.agg #[.int .i64 b2.1, .int .i64 b2.2])⟩,     ⟨[], [4], [], Fct.val 10 (.agg #[.int .i64 x1.1, .int .i64 x1.2])⟩,     ⟨[0, 1], [], [], Fct.val 11 (.bool r130)⟩] hz82 hd82 (by kernel_rfl) ?_ ?_
  · refine sc (fun _ _ _ _ s hE => px (or_load (l := [.int .i64 b2.1, .int .i64 b2.2]) ta25 (s.1.trans e82_5) (Blk.cellsFrom (be_ hE b82_g76).2 0 rfl) rfl)) ?_
    refine sc (fun _ _ _ _ s hE => px (or_load (l := [.int .i64 x1.1, .int .i64 x1.2]) ta25 (s.1.trans e82_4) (Blk.cellsFrom (be_ hE b82_g74).2 0 rfl) rfl)) ?_
    refine sc (fun _ _ _ f _ _ => px (or_call cf51 (args2 f.1 f.2.1) (exact_Less_w _ b2 x1  r130 hr130) post_val)) ?_
    exact steps_nil
  intro own131 a131 w131 hd131 hz131 hk131 hf131 hE131
  have e131_4 := (hk131 4 rfl).trans e82_4
  have e131_5 := (hk131 5 rfl).trans e82_5
  have e131_6 := (hk131 6 rfl).trans e82_6
  have e131_7 := (hk131 7 rfl).trans e82_7
  obtain ⟨(e131_11 : a131.eval (.tmp 11) = .bool r130), -⟩ := hf131 [2] rfl
  have hX131 := es_ hX82 hE131
  have b131_g74 := be_ hE131 b82_g74
  have b131_g76 := be_ hE131 b82_g76
  have b131_g78 := be_ hE131 b82_g78
  have b131_g80 := be_ hE131 b82_g80
  refine fl_cond e131_11 hs (fun c132 hs => ?_) (fun c132 hs => ?_)
  · refine rg_plain (n := 37) (rs := [Fct.at_ 75 g74 25 #[.int .i64 x1.1, .int .i64 x1.2], Fct.at_ 77 g76 25 #[.int .i64 b2.1, .int .i64 b2.2]]) (own0 := own131) (K := [75, 77]) (bs := [0, 0, 3, 7]) (ds := [⟨[5], [5], [], Fct.val 12 (.agg #[.int .i64 b2.1, .int .i64 b2.2])⟩,     ⟨[4], [4], [], Fct.val 13 (.agg #[.int .i64 x1.1, .int .i64 x1.2])⟩,     ⟨[0, 4], [4], [75], Fct.at_ 134 g74 25 #[.int .i64 b2.1, .int .i64 b2.2]⟩,     ⟨[1, 5], [5], [77], Fct.at_ 135 g76 25 #[.int .i64 x1.1, .int .i64 x1.2]⟩]) (by kernel_rfl) hz131 hd131 (by simp only [List.forall_mem_cons]; exact ⟨b131_g74, b131_g76, fun _ h => nomatch h⟩) ?_ ?_
    · refine sc (fun own a wx hf hsl hE => ?_) ?_
      · obtain ⟨(b_g76 : BlkO own 77 wx g76 25 #[.int .i64 b2.1, .int .i64 b2.2]), -⟩ := hf
        obtain ⟨s_5, -⟩ := hsl
        exact px (or_load (l := [.int .i64 b2.1, .int .i64 b2.2]) ta25 (s_5.trans e131_5) (Blk.cellsFrom b_g76.2 0 rfl) rfl)
      refine sc (fun own a wx hf hsl hE => ?_) ?_
      · obtain ⟨(b_g74 : BlkO own 75 wx g74 25 #[.int .i64 x1.1, .int .i64 x1.2]), -⟩ := hf
        obtain ⟨s_4, -⟩ := hsl
        exact px (or_load (l := [.int .i64 x1.1, .int .i64 x1.2]) ta25 (s_4.trans e131_4) (Blk.cellsFrom b_g74.2 0 rfl) rfl)
      refine sc (fun own a wx hf hsl hE => ?_) ?_
      · obtain ⟨f_12, b_g74, -⟩ := hf
        obtain ⟨s_4, -⟩ := hsl
        exact px (or_store (l := #[.int .i64 b2.1, .int .i64 b2.2]) (lab := 75) (lab2 := 134) ts25 (s_4.trans e131_4) f_12 b_g74 (by simp) (by kernel_rfl) (mem_of rfl) (by decide) (by kernel_rfl) (fun own' a' w' ha hb => hb))
      refine sc (fun own a wx hf hsl hE => ?_) ?_
      · obtain ⟨f_13, b_g76, -⟩ := hf
        obtain ⟨s_5, -⟩ := hsl
        exact px (or_store (l := #[.int .i64 x1.1, .int .i64 x1.2]) (lab := 77) (lab2 := 135) ts25 (s_5.trans e131_5) f_13 b_g76 (by simp) (by kernel_rfl) (mem_of rfl) (by decide) (by kernel_rfl) (fun own' a' w' ha hb => hb))
      exact steps_nil
    intro own136 a136 w136 hd136 hz136 hk136 hf136 hE136
    have e136_4 := (hk136 4 rfl).trans e131_4
    have e136_5 := (hk136 5 rfl).trans e131_5
    have e136_6 := (hk136 6 rfl).trans e131_6
    have e136_7 := (hk136 7 rfl).trans e131_7
    obtain ⟨(b136_g74 : BlkO own136 134 w136 g74 25 #[.int .i64 b2.1, .int .i64 b2.2]), (b136_g76 : BlkO own136 135 w136 g76 25 #[.int .i64 x1.1, .int .i64 x1.2]), -⟩ := hf136 [2, 3] rfl
    have hX136 := es_ hX131 hE136
    have b136_g78 := be_ hE136 b131_g78
    have b136_g80 := be_ hE136 b131_g80
    exact (K95 _ _ (rl [(134, 91), (135, 93)] own136) b2 x1 hd136 hz136 e136_4 e136_5 e136_6 e136_7 (Evo.rl_ hX136 (fun _ => Nat.le_refl 0) rfl) (BlkO.rl_ (mm := [(134, 91), (135, 93)]) b136_g74) (BlkO.rl_ (mm := [(134, 91), (135, 93)]) b136_g76) (BlkO.rl_ (mm := [(134, 91), (135, 93)]) b136_g78) (BlkO.rl_ (mm := [(134, 91), (135, 93)]) b136_g80) hs)
  refine fl_skip ?_
  exact (K95 _ _ (rl [(75, 91), (77, 93)] own131) x1 b2 hd131 hz131 e131_4 e131_5 e131_6 e131_7 (Evo.rl_ hX131 (fun _ => Nat.le_refl 0) rfl) (BlkO.rl_ (mm := [(75, 91), (77, 93)]) b131_g74) (BlkO.rl_ (mm := [(75, 91), (77, 93)]) b131_g76) (BlkO.rl_ (mm := [(75, 91), (77, 93)]) b131_g78) (BlkO.rl_ (mm := [(75, 91), (77, 93)]) b131_g80) hs)
theorem seg_Class_w (w : World) (x1 : Int × Int) (b2 : Int × Int) (c3 : Int × Int) (d4 : Int × Int) (r : Int × Int) (hs : seg_Class x1 b2 c3 d4 = some r) :
    Calls Try.prog 27 #[.agg #[.int .i64 x1.1, .int .i64 x1.2], .agg #[.int .i64 b2.1, .int .i64 b2.2], .agg #[.int .i64 c3.1, .int .i64 c3.2], .agg #[.int .i64 d4.1, .int .i64 d4.2]] w fun e w' => ∃ own' : Own, e = .returned (.tuple #[.int .i64 r.1, .int .i64 r.2]) ∧ Evo [] (fun _ => 0) own' w w' := by
  refine fl_enter (n := 103) rfl rfl rfl (Nat.le_of_ble_eq_true rfl) ?_
  intro a0 Q hd0 hz0 harg hret
  have ha0 := harg 0 _ rfl
  have ha1 := harg 1 _ rfl
  have ha2 := harg 2 _ rfl
  have ha3 := harg 3 _ rfl
  clear harg
  have hE0 : Evo [] (fun _ => 0) (fun _ => 0) w w := Evo.refl _ _ _
  refine rg0_seq 103 (fun _ => 0) [0, 0, 0, 0, 0, 16] [⟨[], [0], [], Fct.blk 78 4 (fun g => .pointer (some ⟨g, 0, none⟩)) 25 #[.int .i64 x1.1, .int .i64 x1.2]⟩,     ⟨[], [1], [], Fct.blk 80 5 (fun g => .pointer (some ⟨g, 0, none⟩)) 25 #[.int .i64 b2.1, .int .i64 b2.2]⟩,     ⟨[], [2], [], Fct.blk 82 6 (fun g => .pointer (some ⟨g, 0, none⟩)) 25 #[.int .i64 c3.1, .int .i64 c3.2]⟩,     ⟨[], [3], [], Fct.blk 84 7 (fun g => .pointer (some ⟨g, 0, none⟩)) 25 #[.int .i64 d4.1, .int .i64 d4.2]⟩,     ⟨[], [], [], Fct.val 8 (.int .i64 0)⟩,     ⟨[], [], [], Fct.val 9 (.int .i64 0)⟩] hz0 hd0 (by kernel_rfl) ?_ ?_
  · refine sc (fun _ _ _ _ s _ => px (or_new [(0, .agg #[.int .i64 x1.1, .int .i64 x1.2])] rfl rfl ⟨(s.1.trans ha0), trivial⟩ (by kernel_rfl))) ?_
    refine sc (fun _ _ _ _ s _ => px (or_new [(1, .agg #[.int .i64 b2.1, .int .i64 b2.2])] rfl rfl ⟨(s.1.trans ha1), trivial⟩ (by kernel_rfl))) ?_
    refine sc (fun _ _ _ _ s _ => px (or_new [(2, .agg #[.int .i64 c3.1, .int .i64 c3.2])] rfl rfl ⟨(s.1.trans ha2), trivial⟩ (by kernel_rfl))) ?_
    refine sc (fun _ _ _ _ s _ => px (or_new [(3, .agg #[.int .i64 d4.1, .int .i64 d4.2])] rfl rfl ⟨(s.1.trans ha3), trivial⟩ (by kernel_rfl))) ?_
    refine sc (fun _ _ _ _ _ _ => px (or_assign rfl)) ?_
    refine sc (fun _ _ _ _ _ _ => px (or_assign rfl)) ?_
    exact steps_nil
  intro own85 a85 w85 hd85 hz85 hk85 hf85 hE85
  obtain ⟨⟨g77, (e85_4 : a85.eval (.tmp 4) = .pointer (some ⟨g77, 0, none⟩)), (b85_g77 : BlkO own85 78 w85 g77 25 #[.int .i64 x1.1, .int .i64 x1.2])⟩, ⟨g79, (e85_5 : a85.eval (.tmp 5) = .pointer (some ⟨g79, 0, none⟩)), (b85_g79 : BlkO own85 80 w85 g79 25 #[.int .i64 b2.1, .int .i64 b2.2])⟩, ⟨g81, (e85_6 : a85.eval (.tmp 6) = .pointer (some ⟨g81, 0, none⟩)), (b85_g81 : BlkO own85 82 w85 g81 25 #[.int .i64 c3.1, .int .i64 c3.2])⟩, ⟨g83, (e85_7 : a85.eval (.tmp 7) = .pointer (some ⟨g83, 0, none⟩)), (b85_g83 : BlkO own85 84 w85 g83 25 #[.int .i64 d4.1, .int .i64 d4.2])⟩, -⟩ := hf85 [0, 1, 2, 3] rfl
  have hX85 := es_ hE0 hE85
  refine fl_seq (fun Q86 hn86 hp86 => ?_)
  refine fl_block (fun Q87 hn87 hx87 hp87 => ?_)
  obtain ⟨r90, hr90, hs⟩ := obind hs
  refine rg0_seq 103 own85 [0, 0, 0, 0, 15, 31, 63, 127] [⟨[], [4], [], Fct.val 16 (.agg #[.int .i64 x1.1, .int .i64 x1.2])⟩,     ⟨[], [5], [], Fct.val 17 (.agg #[.int .i64 b2.1, .int .i64 b2.2])⟩,     ⟨[], [6], [], Fct.val 18 (.agg #[.int .i64 c3.1, .int .i64 c3.2])⟩,     ⟨[], [7], [], Fct.val 19 (.agg #[.int .i64 d4.1, .int .i64 d4.2])⟩,     ⟨[0, 1, 2, 3], [], [], Fct.row 89 [] 20 25 R25 [x1, b2, c3, d4]⟩,     ⟨[4], [], [], Fct.val 21 (.bool r90)⟩,     ⟨[5], [], [], Fct.val 22 (.bool (!r90))⟩,     ⟨[6], [], [], Fct.val 15 (.bool (!r90))⟩] hz85 hd85 (by kernel_rfl) ?_ ?_
  · refine sc (fun _ _ _ _ s hE => px (or_load (l := [.int .i64 x1.1, .int .i64 x1.2]) ta25 (s.1.trans e85_4) (Blk.cellsFrom (be_ hE b85_g77).2 0 rfl) rfl)) ?_
    refine sc (fun _ _ _ _ s hE => px (or_load (l := [.int .i64 b2.1, .int .i64 b2.2]) ta25 (s.1.trans e85_5) (Blk.cellsFrom (be_ hE b85_g79).2 0 rfl) rfl)) ?_
    refine sc (fun _ _ _ _ s hE => px (or_load (l := [.int .i64 c3.1, .int .i64 c3.2]) ta25 (s.1.trans e85_6) (Blk.cellsFrom (be_ hE b85_g81).2 0 rfl) rfl)) ?_
    refine sc (fun _ _ _ _ s hE => px (or_load (l := [.int .i64 d4.1, .int .i64 d4.2]) ta25 (s.1.trans e85_7) (Blk.cellsFrom (be_ hE b85_g83).2 0 rfl) rfl)) ?_
    refine sc (fun _ _ _ f _ _ => px (or_lit (lab := 89) (e := 25) (cs := #[.int .i64 x1.1, .int .i64 x1.2, .int .i64 b2.1, .int .i64 b2.2, .int .i64 c3.1, .int .i64 c3.2, .int .i64 d4.1, .int .i64 d4.2]) (F := E25) (or_new [(16, .agg #[.int .i64 x1.1, .int .i64 x1.2]), (17, .agg #[.int .i64 b2.1, .int .i64 b2.2]), (18, .agg #[.int .i64 c3.1, .int .i64 c3.2]), (19, .agg #[.int .i64 d4.1, .int .i64 d4.2])] rfl rfl ⟨f.1, f.2.1, f.2.2.1, f.2.2.2.1, trivial⟩ (by kernel_rfl)) rfl rfl (show 4 ≤ maxLen by decide))) ?_
    refine sc (fun own a wx hf hsl hE => ?_) ?_
    · obtain ⟨⟨⟨A88, cA88⟩, f_20, b_A88⟩, -⟩ := hf
      exact px (or_call cf32 (args1 f_20) (exact_Right_w _ [x1, b2, c3, d4] A88 cA88 (RdO.zero (RwO.rd b_A88)) r90 hr90) post_val)
    refine sc (fun _ _ _ f _ _ => px (or_not f.1 rfl)) ?_
    refine sc (fun _ _ _ f _ _ => px (or_assign f.1)) ?_
    exact steps_nil
  intro own91 a91 w91 hd91 hz91 hk91 hf91 hE91
  have e91_4 := (hk91 4 rfl).trans e85_4
  have e91_5 := (hk91 5 rfl).trans e85_5
  have e91_6 := (hk91 6 rfl).trans e85_6
  have e91_7 := (hk91 7 rfl).trans e85_7
  obtain ⟨(e91_15 : a91.eval (.tmp 15) = .bool (!r90)), -⟩ := hf91 [7] rfl
  have hX91 := es_ hX85 hE91
  have b91_g77 := be_ hE91 b85_g77
  have b91_g79 := be_ hE91 b85_g79
  have b91_g81 := be_ hE91 b85_g81
  have b91_g83 := be_ hE91 b85_g83
  refine fl_cond e91_15 hs (fun c92 hs => ?_) (fun c92 hs => ?_)
  · refine rg0_seq 103 own91 (bz 2) [⟨[], [], [], Fct.val 8 (.int .i64 0)⟩,     ⟨[], [], [], Fct.val 9 (.int .i64 5)⟩] hz91 hd91 (by kernel_rfl) ?_ ?_
    · refine sc (fun _ _ _ _ _ _ => px (or_assign rfl)) ?_
      refine sc (fun _ _ _ _ _ _ => px (or_assign rfl)) ?_
      exact steps_nil
    intro own93 a93 w93 hd93 hz93 hk93 hf93 hE93
    obtain ⟨(e93_8 : a93.eval (.tmp 8) = .int .i64 0), (e93_9 : a93.eval (.tmp 9) = .int .i64 5), -⟩ := hf93 [0, 1] rfl
    have hX93 := es_ hX91 hE93
    refine fl_ret ?_
    refine hp87 _ _ _ rfl ?_
    refine hp86 _ _ _ rfl ?_
    obtain rfl := osome hs
    exact hret _ _ _ _ (.inl rfl) hd93 (results2_ rfl (RVal.tmp_ e93_8) (RVal.tmp_ e93_9)) ⟨own93, rfl, hX93⟩
  obtain ⟨x94, hx94, hs⟩ := obind hs
  refine rg0_seq 103 own91 [0, 0, 3, 7, 15, 15, 63, 127, 255] [⟨[], [4], [], Fct.val 24 (.agg #[.int .i64 x1.1, .int .i64 x1.2])⟩,     ⟨[], [5], [], Fct.val 25 (.agg #[.int .i64 b2.1, .int .i64 b2.2])⟩,     ⟨[0, 1], [], [], Fct.val 26 (.bool (decide (x1 = b2)))⟩,     ⟨[2], [], [], Fct.val 27 (.bool (decide (x1 = b2)))⟩,     ⟨[3], [6], [], Fct.cond (!(decide (x1 = b2))) (some 28) (Fct.val 28 (.agg #[.int .i64 c3.1, .int .i64 c3.2]))⟩,     ⟨[3], [7], [], Fct.cond (!(decide (x1 = b2))) (some 29) (Fct.val 29 (.agg #[.int .i64 d4.1, .int .i64 d4.2]))⟩,     ⟨[3, 4, 5], [], [], Fct.cond (!(decide (x1 = b2))) (some 30) (Fct.val 30 (.bool (decide (c3 = d4))))⟩,     ⟨[3, 6], [], [], Fct.val 31 (.bool x94)⟩,     ⟨[7], [], [], Fct.val 23 (.bool x94)⟩] hz91 hd91 (by kernel_rfl) ?_ ?_
  · refine sc (fun _ _ _ _ s hE => px (or_load (l := [.int .i64 x1.1, .int .i64 x1.2]) ta25 (s.1.trans e91_4) (Blk.cellsFrom (be_ hE b91_g77).2 0 rfl) rfl)) ?_
    refine sc (fun _ _ _ _ s hE => px (or_load (l := [.int .i64 b2.1, .int .i64 b2.2]) ta25 (s.1.trans e91_5) (Blk.cellsFrom (be_ hE b91_g79).2 0 rfl) rfl)) ?_
    refine sc (fun _ _ _ f _ _ => px (or_eqlA sg25 f.1 f.2.1 (se25 x1.1 x1.2 b2.1 b2.2 _) rfl)) ?_
    refine sc (fun _ _ _ f _ _ => px (or_move f.1)) ?_
    refine sc (fun _ _ _ f s hE => sg_f rfl rfl rfl f.1 (fun hg => or_load (l := [.int .i64 c3.1, .int .i64 c3.2]) ta25 (s.1.trans e91_6) (Blk.cellsFrom (be_ hE b91_g81).2 0 rfl) rfl)) ?_
    refine sc (fun _ _ _ f s hE => sg_f rfl rfl rfl f.1 (fun hg => or_load (l := [.int .i64 d4.1, .int .i64 d4.2]) ta25 (s.1.trans e91_7) (Blk.cellsFrom (be_ hE b91_g83).2 0 rfl) rfl)) ?_
    refine sc (fun _ _ _ f _ _ => sg_f rfl rfl rfl f.1 (fun hg => or_eqlA sg25 (f.2.1.1 hg) (f.2.2.1.1 hg) (se25 c3.1 c3.2 d4.1 d4.2 _) rfl)) ?_
    refine sc (fun _ _ _ f _ _ => px (or_or f.1 rfl (fun hx => f.2.1.1 hx) (osome hx94).symm)) ?_
    refine sc (fun _ _ _ f _ _ => px (or_assign f.1)) ?_
    exact steps_nil
  intro own95 a95 w95 hd95 hz95 hk95 hf95 hE95
  have e95_4 := (hk95 4 rfl).trans e91_4
  have e95_5 := (hk95 5 rfl).trans e91_5
  have e95_6 := (hk95 6 rfl).trans e91_6
  have e95_7 := (hk95 7 rfl).trans e91_7
  obtain ⟨(e95_23 : a95.eval (.tmp 23) = .bool x94), -⟩ := hf95 [8] rfl
  have hX95 := es_ hX91 hE95
  have b95_g77 := be_ hE95 b91_g77
  have b95_g79 := be_ hE95 b91_g79
  have b95_g81 := be_ hE95 b91_g81
  have b95_g83 := be_ hE95 b91_g83
  refine fl_cond e95_23 hs (fun c96 hs => ?_) (fun c96 hs => ?_)
  · refine rg0_seq 103 own95 (bz 2) [⟨[], [], [], Fct.val 8 (.int .i64 0)⟩,     ⟨[], [], [], Fct.val 9 (.int .i64 1)⟩] hz95 hd95 (by kernel_rfl) ?_ ?_
    · refine sc (fun _ _ _ _ _ _ => px (or_assign rfl)) ?_
      refine sc (fun _ _ _ _ _ _ => px (or_assign rfl)) ?_
      exact steps_nil
    intro own97 a97 w97 hd97 hz97 hk97 hf97 hE97
    obtain ⟨(e97_8 : a97.eval (.tmp 8) = .int .i64 0), (e97_9 : a97.eval (.tmp 9) = .int .i64 1), -⟩ := hf97 [0, 1] rfl
    have hX97 := es_ hX95 hE97
    refine fl_ret ?_
    refine hp87 _ _ _ rfl ?_
    refine hp86 _ _ _ rfl ?_
    obtain rfl := osome hs
    exact hret _ _ _ _ (.inl rfl) hd97 (results2_ rfl (RVal.tmp_ e97_8) (RVal.tmp_ e97_9)) ⟨own97, rfl, hX97⟩
  obtain ⟨x98, hx98, hs⟩ := obind hs
  obtain ⟨x99, hx99, hs⟩ := obind hs
  refine rg0_seq 103 own95 [0, 0, 3, 7, 15, 15, 63, 127, 255, 511, 511, 2047, 4095, 8191, 8191, 32767, 65535, 131071, 262143] [⟨[], [4], [], Fct.val 33 (.agg #[.int .i64 x1.1, .int .i64 x1.2])⟩,     ⟨[], [6], [], Fct.val 34 (.agg #[.int .i64 c3.1, .int .i64 c3.2])⟩,     ⟨[0, 1], [], [], Fct.val 35 (.bool (decide (x1 = c3)))⟩,     ⟨[2], [], [], Fct.val 36 (.bool (decide (x1 = c3)))⟩,     ⟨[3], [5], [], Fct.cond (decide (x1 = c3)) (some 37) (Fct.val 37 (.agg #[.int .i64 b2.1, .int .i64 b2.2]))⟩,     ⟨[3], [7], [], Fct.cond (decide (x1 = c3)) (some 38) (Fct.val 38 (.agg #[.int .i64 d4.1, .int .i64 d4.2]))⟩,     ⟨[3, 4, 5], [], [], Fct.cond (decide (x1 = c3)) (some 39) (Fct.val 39 (.bool (decide (b2 = d4))))⟩,     ⟨[3, 6], [], [], Fct.val 40 (.bool x98)⟩,     ⟨[7], [], [], Fct.val 41 (.bool x98)⟩,     ⟨[8], [4], [], Fct.cond (!x98) (some 42) (Fct.val 42 (.agg #[.int .i64 x1.1, .int .i64 x1.2]))⟩,     ⟨[8], [7], [], Fct.cond (!x98) (some 43) (Fct.val 43 (.agg #[.int .i64 d4.1, .int .i64 d4.2]))⟩,     ⟨[8, 9, 10], [], [], Fct.cond (!x98) (some 44) (Fct.val 44 (.bool (decide (x1 = d4))))⟩,     ⟨[8, 11], [], [], Fct.cond (!x98) (some 45) (Fct.val 45 (.bool (decide (x1 = d4))))⟩,     ⟨[12], [5], [], Fct.cond ((!x98) && (decide (x1 = d4))) (some 46) (Fct.val 46 (.agg #[.int .i64 b2.1, .int .i64 b2.2]))⟩,     ⟨[12], [6], [], Fct.cond ((!x98) && (decide (x1 = d4))) (some 47) (Fct.val 47 (.agg #[.int .i64 c3.1, .int .i64 c3.2]))⟩,     ⟨[12, 13, 14], [], [], Fct.cond ((!x98) && (decide (x1 = d4))) (some 48) (Fct.val 48 (.bool (decide (b2 = c3))))⟩,     ⟨[8, 12, 15], [], [], Fct.cond (!x98) (some 49) (Fct.val 49 (.bool x99))⟩,     ⟨[8, 16], [], [], Fct.val 50 (.bool (x98 || x99))⟩,     ⟨[17], [], [], Fct.val 32 (.bool (x98 || x99))⟩] hz95 hd95 (by kernel_rfl) ?_ ?_
  · refine sc (fun _ _ _ _ s hE => px (or_load (l := [.int .i64 x1.1, .int .i64 x1.2]) ta25 (s.1.trans e95_4) (Blk.cellsFrom (be_ hE b95_g77).2 0 rfl) rfl)) ?_
    refine sc (fun _ _ _ _ s hE => px (or_load (l := [.int .i64 c3.1, .int .i64 c3.2]) ta25 (s.1.trans e95_6) (Blk.cellsFrom (be_ hE b95_g81).2 0 rfl) rfl)) ?_
    refine sc (fun _ _ _ f _ _ => px (or_eqlA sg25 f.1 f.2.1 (se25 x1.1 x1.2 c3.1 c3.2 _) rfl)) ?_
    refine sc (fun _ _ _ f _ _ => px (or_move f.1)) ?_
    refine sc (fun _ _ _ f s hE => sg_t rfl rfl rfl f.1 (fun hg => or_load (l := [.int .i64 b2.1, .int .i64 b2.2]) ta25 (s.1.trans e95_5) (Blk.cellsFrom (be_ hE b95_g79).2 0 rfl) rfl)) ?_
    refine sc (fun _ _ _ f s hE => sg_t rfl rfl rfl f.1 (fun hg => or_load (l := [.int .i64 d4.1, .int .i64 d4.2]) ta25 (s.1.trans e95_7) (Blk.cellsFrom (be_ hE b95_g83).2 0 rfl) rfl)) ?_
    refine sc (fun _ _ _ f _ _ => sg_t rfl rfl rfl f.1 (fun hg => or_eqlA sg25 (f.2.1.1 hg) (f.2.2.1.1 hg) (se25 b2.1 b2.2 d4.1 d4.2 _) rfl)) ?_
    refine sc (fun _ _ _ f _ _ => px (or_and f.1 (fun hx => f.2.1.1 hx) rfl (osome hx98).symm)) ?_
    refine sc (fun _ _ _ f _ _ => px (or_move f.1)) ?_
    refine sc (fun _ _ _ f s hE => sg_f rfl rfl rfl f.1 (fun hg => or_load (l := [.int .i64 x1.1, .int .i64 x1.2]) ta25 (s.1.trans e95_4) (Blk.cellsFrom (be_ hE b95_g77).2 0 rfl) rfl)) ?_
    refine sc (fun _ _ _ f s hE => sg_f rfl rfl rfl f.1 (fun hg => or_load (l := [.int .i64 d4.1, .int .i64 d4.2]) ta25 (s.1.trans e95_7) (Blk.cellsFrom (be_ hE b95_g83).2 0 rfl) rfl)) ?_
    refine sc (fun _ _ _ f _ _ => sg_f rfl rfl rfl f.1 (fun hg => or_eqlA sg25 (f.2.1.1 hg) (f.2.2.1.1 hg) (se25 x1.1 x1.2 d4.1 d4.2 _) rfl)) ?_
    refine sc (fun _ _ _ f _ _ => sg_f rfl rfl rfl f.1 (fun hg => or_move (f.2.1.1 hg))) ?_
    refine sc (fun _ _ _ f s hE => sg_tc rfl rfl rfl f.1 (fun hg => or_load (l := [.int .i64 b2.1, .int .i64 b2.2]) ta25 (s.1.trans e95_5) (Blk.cellsFrom (be_ hE b95_g79).2 0 rfl) rfl)) ?_
    refine sc (fun _ _ _ f s hE => sg_tc rfl rfl rfl f.1 (fun hg => or_load (l := [.int .i64 c3.1, .int .i64 c3.2]) ta25 (s.1.trans e95_6) (Blk.cellsFrom (be_ hE b95_g81).2 0 rfl) rfl)) ?_
    refine sc (fun _ _ _ f _ _ => sg_tc rfl rfl rfl f.1 (fun hg => or_eqlA sg25 (f.2.1.1 hg) (f.2.2.1.1 hg) (se25 b2.1 b2.2 c3.1 c3.2 _) rfl)) ?_
    refine sc (fun _ _ _ f _ _ => sg_f rfl rfl rfl f.1 (fun hg => or_and (f.2.1.1 hg) (fun hx => f.2.2.1.1 (gI hg hx)) rfl (osome hx99).symm)) ?_
    refine sc (fun _ _ _ f _ _ => px (or_or f.1 rfl (fun hx => f.2.1.1 hx) rfl)) ?_
    refine sc (fun _ _ _ f _ _ => px (or_assign f.1)) ?_
    exact steps_nil
  intro own100 a100 w100 hd100 hz100 hk100 hf100 hE100
  have e100_4 := (hk100 4 rfl).trans e95_4
  have e100_5 := (hk100 5 rfl).trans e95_5
  have e100_6 := (hk100 6 rfl).trans e95_6
  have e100_7 := (hk100 7 rfl).trans e95_7
  obtain ⟨(e100_32 : a100.eval (.tmp 32) = .bool (x98 || x99)), -⟩ := hf100 [18] rfl
  have hX100 := es_ hX95 hE100
  have b100_g77 := be_ hE100 b95_g77
  have b100_g79 := be_ hE100 b95_g79
  have b100_g81 := be_ hE100 b95_g81
  have b100_g83 := be_ hE100 b95_g83
  refine fl_cond e100_32 hs (fun c101 hs => ?_) (fun c101 hs => ?_)
  · refine rg0_seq 103 own100 (bz 2) [⟨[], [], [], Fct.val 8 (.int .i64 5)⟩,     ⟨[], [], [], Fct.val 9 (.int .i64 0)⟩] hz100 hd100 (by kernel_rfl) ?_ ?_
    · refine sc (fun _ _ _ _ _ _ => px (or_assign rfl)) ?_
      refine sc (fun _ _ _ _ _ _ => px (or_assign rfl)) ?_
      exact steps_nil
    intro own102 a102 w102 hd102 hz102 hk102 hf102 hE102
    obtain ⟨(e102_8 : a102.eval (.tmp 8) = .int .i64 5), (e102_9 : a102.eval (.tmp 9) = .int .i64 0), -⟩ := hf102 [0, 1] rfl
    have hX102 := es_ hX100 hE102
    refine fl_ret ?_
    refine hp87 _ _ _ rfl ?_
    refine hp86 _ _ _ rfl ?_
    obtain rfl := osome hs
    exact hret _ _ _ _ (.inl rfl) hd102 (results2_ rfl (RVal.tmp_ e102_8) (RVal.tmp_ e102_9)) ⟨own102, rfl, hX102⟩
  refine fl_skip ?_
  refine hn87 _ _ ?_
  refine hn86 _ _ ?_
  obtain ⟨r103, hr103, hs⟩ := obind hs
  obtain ⟨r104, hr104, hs⟩ := obind hs
  refine rg_draw_seq g_mixed (n := 103) (rs := []) (own0 := own100) (K := []) (bs := [0, 0, 0, 7, 0, 0, 0, 127, 255, 511]) (ds := [⟨[], [4], [], Fct.val 51 (.agg #[.int .i64 x1.1, .int .i64 x1.2])⟩,     ⟨[], [5], [], Fct.val 52 (.agg #[.int .i64 b2.1, .int .i64 b2.2])⟩,     ⟨[], [6], [], Fct.val 53 (.agg #[.int .i64 c3.1, .int .i64 c3.2])⟩,     ⟨[0, 1, 2], [], [], Fct.val 54 (.int .i64 r103)⟩,     ⟨[], [4], [], Fct.val 55 (.agg #[.int .i64 x1.1, .int .i64 x1.2])⟩,     ⟨[], [5], [], Fct.val 56 (.agg #[.int .i64 b2.1, .int .i64 b2.2])⟩,     ⟨[], [7], [], Fct.val 57 (.agg #[.int .i64 d4.1, .int .i64 d4.2])⟩,     ⟨[4, 5, 6], [], [], Fct.val 58 (.int .i64 r104)⟩,     ⟨[3], [], [], Fct.val 10 (.int .i64 r103)⟩,     ⟨[7], [], [], Fct.val 11 (.int .i64 r104)⟩]) (by kernel_rfl) hz100 hd100 nm_ ?_ ?_
  · refine sc (fun _ _ _ _ s hE => px (or_load (l := [.int .i64 x1.1, .int .i64 x1.2]) ta25 (s.1.trans e100_4) (Blk.cellsFrom (be_ hE b100_g77).2 0 rfl) rfl)) ?_
    refine sc (fun _ _ _ _ s hE => px (or_load (l := [.int .i64 b2.1, .int .i64 b2.2]) ta25 (s.1.trans e100_5) (Blk.cellsFrom (be_ hE b100_g79).2 0 rfl) rfl)) ?_
    refine sc (fun _ _ _ _ s hE => px (or_load (l := [.int .i64 c3.1, .int .i64 c3.2]) ta25 (s.1.trans e100_6) (Blk.cellsFrom (be_ hE b100_g81).2 0 rfl) rfl)) ?_
    refine sc (fun _ _ _ f _ _ => px (or_call cf46 (args3 f.1 f.2.1 f.2.2.1) (exact_Turn_w _ x1 b2 c3  r103 hr103) post_val)) ?_
    refine sc (fun _ _ _ _ s hE => px (or_load (l := [.int .i64 x1.1, .int .i64 x1.2]) ta25 (s.1.trans e100_4) (Blk.cellsFrom (be_ hE b100_g77).2 0 rfl) rfl)) ?_
    refine sc (fun _ _ _ _ s hE => px (or_load (l := [.int .i64 b2.1, .int .i64 b2.2]) ta25 (s.1.trans e100_5) (Blk.cellsFrom (be_ hE b100_g79).2 0 rfl) rfl)) ?_
    refine sc (fun _ _ _ _ s hE => px (or_load (l := [.int .i64 d4.1, .int .i64 d4.2]) ta25 (s.1.trans e100_7) (Blk.cellsFrom (be_ hE b100_g83).2 0 rfl) rfl)) ?_
    refine sc (fun _ _ _ f _ _ => px (or_call cf46 (args3 f.1 f.2.1 f.2.2.1) (exact_Turn_w _ x1 b2 d4  r104 hr104) post_val)) ?_
    refine sc (fun _ _ _ f _ _ => px (or_assign f.1)) ?_
    refine sc (fun _ _ _ f _ _ => px (or_assign f.1)) ?_
    exact steps_nil
  intro own105 a105 w105 hd105 hz105 hk105 hf105 hE105
  have e105_4 := (hk105 4 rfl).trans e100_4
  have e105_5 := (hk105 5 rfl).trans e100_5
  have e105_6 := (hk105 6 rfl).trans e100_6
  have e105_7 := (hk105 7 rfl).trans e100_7
  obtain ⟨(e105_10 : a105.eval (.tmp 10) = .int .i64 r103), (e105_11 : a105.eval (.tmp 11) = .int .i64 r104), -⟩ := hf105 [8, 9] rfl
  have hX105 := es_ hX100 hE105
  have b105_g77 := be_ hE105 b100_g77
  have b105_g79 := be_ hE105 b100_g79
  have b105_g81 := be_ hE105 b100_g81
  have b105_g83 := be_ hE105 b100_g83
  obtain ⟨r106, hr106, hs⟩ := obind hs
  obtain ⟨r107, hr107, hs⟩ := obind hs
  refine rg_draw_seq g_mixed (n := 103) (rs := []) (own0 := own105) (K := []) (bs := [0, 0, 0, 7, 0, 0, 0, 127, 255, 511]) (ds := [⟨[], [6], [], Fct.val 59 (.agg #[.int .i64 c3.1, .int .i64 c3.2])⟩,     ⟨[], [7], [], Fct.val 60 (.agg #[.int .i64 d4.1, .int .i64 d4.2])⟩,     ⟨[], [4], [], Fct.val 61 (.agg #[.int .i64 x1.1, .int .i64 x1.2])⟩,     ⟨[0, 1, 2], [], [], Fct.val 62 (.int .i64 r106)⟩,     ⟨[], [6], [], Fct.val 63 (.agg #[.int .i64 c3.1, .int .i64 c3.2])⟩,     ⟨[], [7], [], Fct.val 64 (.agg #[.int .i64 d4.1, .int .i64 d4.2])⟩,     ⟨[], [5], [], Fct.val 65 (.agg #[.int .i64 b2.1, .int .i64 b2.2])⟩,     ⟨[4, 5, 6], [], [], Fct.val 66 (.int .i64 r107)⟩,     ⟨[3], [], [], Fct.val 12 (.int .i64 r106)⟩,     ⟨[7], [], [], Fct.val 13 (.int .i64 r107)⟩]) (by kernel_rfl) hz105 hd105 nm_ ?_ ?_
  · refine sc (fun _ _ _ _ s hE => px (or_load (l := [.int .i64 c3.1, .int .i64 c3.2]) ta25 (s.1.trans e105_6) (Blk.cellsFrom (be_ hE b105_g81).2 0 rfl) rfl)) ?_
    refine sc (fun _ _ _ _ s hE => px (or_load (l := [.int .i64 d4.1, .int .i64 d4.2]) ta25 (s.1.trans e105_7) (Blk.cellsFrom (be_ hE b105_g83).2 0 rfl) rfl)) ?_
    refine sc (fun _ _ _ _ s hE => px (or_load (l := [.int .i64 x1.1, .int .i64 x1.2]) ta25 (s.1.trans e105_4) (Blk.cellsFrom (be_ hE b105_g77).2 0 rfl) rfl)) ?_
    refine sc (fun _ _ _ f _ _ => px (or_call cf46 (args3 f.1 f.2.1 f.2.2.1) (exact_Turn_w _ c3 d4 x1  r106 hr106) post_val)) ?_
    refine sc (fun _ _ _ _ s hE => px (or_load (l := [.int .i64 c3.1, .int .i64 c3.2]) ta25 (s.1.trans e105_6) (Blk.cellsFrom (be_ hE b105_g81).2 0 rfl) rfl)) ?_
    refine sc (fun _ _ _ _ s hE => px (or_load (l := [.int .i64 d4.1, .int .i64 d4.2]) ta25 (s.1.trans e105_7) (Blk.cellsFrom (be_ hE b105_g83).2 0 rfl) rfl)) ?_
    refine sc (fun _ _ _ _ s hE => px (or_load (l := [.int .i64 b2.1, .int .i64 b2.2]) ta25 (s.1.trans e105_5) (Blk.cellsFrom (be_ hE b105_g79).2 0 rfl) rfl)) ?_
    refine sc (fun _ _ _ f _ _ => px (or_call cf46 (args3 f.1 f.2.1 f.2.2.1) (exact_Turn_w _ c3 d4 b2  r107 hr107) post_val)) ?_
    refine sc (fun _ _ _ f _ _ => px (or_assign f.1)) ?_
    refine sc (fun _ _ _ f _ _ => px (or_assign f.1)) ?_
    exact steps_nil
  intro own108 a108 w108 hd108 hz108 hk108 hf108 hE108
  have e108_4 := (hk108 4 rfl).trans e105_4
  have e108_5 := (hk108 5 rfl).trans e105_5
  have e108_6 := (hk108 6 rfl).trans e105_6
  have e108_7 := (hk108 7 rfl).trans e105_7
  have e108_10 := (hk108 10 rfl).trans e105_10
  have e108_11 := (hk108 11 rfl).trans e105_11
  obtain ⟨(e108_12 : a108.eval (.tmp 12) = .int .i64 r106), (e108_13 : a108.eval (.tmp 13) = .int .i64 r107), -⟩ := hf108 [8, 9] rfl
  have hX108 := es_ hX105 hE108
  have b108_g77 := be_ hE108 b105_g77
  have b108_g79 := be_ hE108 b105_g79
  have b108_g81 := be_ hE108 b105_g81
  have b108_g83 := be_ hE108 b105_g83
  refine fl_seq (fun Q109 hn109 hp109 => ?_)
  obtain ⟨x110, hx110, hs⟩ := obind hs
  refine rg0_seq 103 own108 (bz 6) [⟨[], [10], [], Fct.val 67 (.int .i64 r103)⟩,     ⟨[0], [], [], Fct.val 68 (.bool (decide (r103 = 0)))⟩,     ⟨[1], [], [], Fct.val 69 (.bool (decide (r103 = 0)))⟩,     ⟨[2], [11], [], Fct.cond (decide (r103 = 0)) (some 70) (Fct.val 70 (.int .i64 r104))⟩,     ⟨[2, 3], [], [], Fct.cond (decide (r103 = 0)) (some 71) (Fct.val 71 (.bool (decide (r104 = 0))))⟩,     ⟨[2, 4], [], [], Fct.val 72 (.bool x110)⟩] hz108 hd108 (by kernel_rfl) ?_ ?_
  · refine sc (fun _ _ _ _ s _ => px (or_move (s.1.trans e108_10))) ?_
    refine sc (fun _ _ _ f _ _ => px (or_eql f.1 rfl rfl)) ?_
    refine sc (fun _ _ _ f _ _ => px (or_move f.1)) ?_
    refine sc (fun _ _ _ f s _ => sg_t rfl rfl rfl f.1 (fun hg => or_move (s.1.trans e108_11))) ?_
    refine sc (fun _ _ _ f _ _ => sg_t rfl rfl rfl f.1 (fun hg => or_eql (f.2.1.1 hg) rfl rfl)) ?_
    refine sc (fun _ _ _ f _ _ => px (or_and f.1 (fun hx => f.2.1.1 hx) rfl (osome hx110).symm)) ?_
    exact steps_nil
  intro own111 a111 w111 hd111 hz111 hk111 hf111 hE111
  have e111_4 := (hk111 4 rfl).trans e108_4
  have e111_5 := (hk111 5 rfl).trans e108_5
  have e111_6 := (hk111 6 rfl).trans e108_6
  have e111_7 := (hk111 7 rfl).trans e108_7
  have e111_10 := (hk111 10 rfl).trans e108_10
  have e111_11 := (hk111 11 rfl).trans e108_11
  have e111_12 := (hk111 12 rfl).trans e108_12
  have e111_13 := (hk111 13 rfl).trans e108_13
  obtain ⟨(e111_72 : a111.eval (.tmp 72) = .bool x110), -⟩ := hf111 [5] rfl
  have hX111 := es_ hX108 hE111
  have b111_g77 := be_ hE111 b108_g77
  have b111_g79 := be_ hE111 b108_g79
  have b111_g81 := be_ hE111 b108_g81
  have b111_g83 := be_ hE111 b108_g83
  refine fl_cond e111_72 hs (fun c112 hs => ?_) (fun c112 hs => ?_)
  · obtain ⟨r113, hr113, hs⟩ := obind hs
    refine rg0_seq 103 own111 [0, 0, 0, 0, 15, 31, 63] [⟨[], [4], [], Fct.val 73 (.agg #[.int .i64 x1.1, .int .i64 x1.2])⟩,     ⟨[], [5], [], Fct.val 74 (.agg #[.int .i64 b2.1, .int .i64 b2.2])⟩,     ⟨[], [6], [], Fct.val 75 (.agg #[.int .i64 c3.1, .int .i64 c3.2])⟩,     ⟨[], [7], [], Fct.val 76 (.agg #[.int .i64 d4.1, .int .i64 d4.2])⟩,     ⟨[0, 1, 2, 3], [], [], Fct.val 77 (.int .i64 r113)⟩,     ⟨[4], [], [], Fct.val 8 (.int .i64 r113)⟩,     ⟨[], [], [], Fct.val 9 (.int .i64 0)⟩] hz111 hd111 (by kernel_rfl) ?_ ?_
    · refine sc (fun _ _ _ _ s hE => px (or_load (l := [.int .i64 x1.1, .int .i64 x1.2]) ta25 (s.1.trans e111_4) (Blk.cellsFrom (be_ hE b111_g77).2 0 rfl) rfl)) ?_
      refine sc (fun _ _ _ _ s hE => px (or_load (l := [.int .i64 b2.1, .int .i64 b2.2]) ta25 (s.1.trans e111_5) (Blk.cellsFrom (be_ hE b111_g79).2 0 rfl) rfl)) ?_
      refine sc (fun _ _ _ _ s hE => px (or_load (l := [.int .i64 c3.1, .int .i64 c3.2]) ta25 (s.1.trans e111_6) (Blk.cellsFrom (be_ hE b111_g81).2 0 rfl) rfl)) ?_
      refine sc (fun _ _ _ _ s hE => px (or_load (l := [.int .i64 d4.1, .int .i64 d4.2]) ta25 (s.1.trans e111_7) (Blk.cellsFrom (be_ hE b111_g83).2 0 rfl) rfl)) ?_
      refine sc (fun _ _ _ f _ _ => px (or_call cf47 (args4 f.1 f.2.1 f.2.2.1 f.2.2.2.1) (seg_line_w _ x1 b2 c3 d4  r113 hr113) post_val)) ?_
      refine sc (fun _ _ _ f _ _ => px (or_assign f.1)) ?_
      refine sc (fun _ _ _ _ _ _ => px (or_assign rfl)) ?_
      exact steps_nil
    intro own114 a114 w114 hd114 hz114 hk114 hf114 hE114
    obtain ⟨(e114_8 : a114.eval (.tmp 8) = .int .i64 r113), (e114_9 : a114.eval (.tmp 9) = .int .i64 0), -⟩ := hf114 [5, 6] rfl
    have hX114 := es_ hX111 hE114
    refine fl_ret ?_
    refine hp109 _ _ _ rfl ?_
    obtain rfl := osome hs
    exact hret _ _ _ _ (.inl rfl) hd114 (results2_ rfl (RVal.tmp_ e114_8) (RVal.tmp_ e114_9)) ⟨own114, rfl, hX114⟩
  refine fl_skip ?_
  refine hn109 _ _ ?_
  refine fl_seq (fun Q115 hn115 hp115 => ?_)
  obtain ⟨x116, hx116, hs⟩ := obind hs
  refine rg0_seq 103 own111 [0, 0, 3, 7, 15, 31, 31, 127, 255, 511] [⟨[], [10], [], Fct.val 78 (.int .i64 r103)⟩,     ⟨[], [11], [], Fct.val 79 (.int .i64 r104)⟩,     ⟨[0, 1], [], [], Fct.val 80 (.int .i64 (ml r103 r104))⟩,     ⟨[2], [], [], Fct.val 81 (.bool (decide (0 < (ml r103 r104))))⟩,     ⟨[3], [], [], Fct.val 82 (.bool (decide (0 < (ml r103 r104))))⟩,     ⟨[4], [12], [], Fct.cond (!(decide (0 < (ml r103 r104)))) (some 83) (Fct.val 83 (.int .i64 r106))⟩,     ⟨[4], [13], [], Fct.cond (!(decide (0 < (ml r103 r104)))) (some 84) (Fct.val 84 (.int .i64 r107))⟩,     ⟨[4, 5, 6], [], [], Fct.cond (!(decide (0 < (ml r103 r104)))) (some 85) (Fct.val 85 (.int .i64 (ml r106 r107)))⟩,     ⟨[4, 7], [], [], Fct.cond (!(decide (0 < (ml r103 r104)))) (some 86) (Fct.val 86 (.bool (decide (0 < (ml r106 r107)))))⟩,     ⟨[4, 8], [], [], Fct.val 87 (.bool x116)⟩] hz111 hd111 (by kernel_rfl) ?_ ?_
  · refine sc (fun _ _ _ _ s _ => px (or_move (s.1.trans e111_10))) ?_
    refine sc (fun _ _ _ _ s _ => px (or_move (s.1.trans e111_11))) ?_
    refine sc (fun _ _ _ f _ _ => px (or_mul f.1 f.2.1 rfl)) ?_
    refine sc (fun _ _ _ f _ _ => px (or_gtr f.1 rfl rfl)) ?_
    refine sc (fun _ _ _ f _ _ => px (or_move f.1)) ?_
    refine sc (fun _ _ _ f s _ => sg_f rfl rfl rfl f.1 (fun hg => or_move (s.1.trans e111_12))) ?_
    refine sc (fun _ _ _ f s _ => sg_f rfl rfl rfl f.1 (fun hg => or_move (s.1.trans e111_13))) ?_
    refine sc (fun _ _ _ f _ _ => sg_f rfl rfl rfl f.1 (fun hg => or_mul (f.2.1.1 hg) (f.2.2.1.1 hg) rfl)) ?_
    refine sc (fun _ _ _ f _ _ => sg_f rfl rfl rfl f.1 (fun hg => or_gtr (f.2.1.1 hg) rfl rfl)) ?_
    refine sc (fun _ _ _ f _ _ => px (or_or f.1 rfl (fun hx => f.2.1.1 hx) (osome hx116).symm)) ?_
    exact steps_nil
  intro own117 a117 w117 hd117 hz117 hk117 hf117 hE117
  have e117_10 := (hk117 10 rfl).trans e111_10
  have e117_11 := (hk117 11 rfl).trans e111_11
  have e117_12 := (hk117 12 rfl).trans e111_12
  have e117_13 := (hk117 13 rfl).trans e111_13
  obtain ⟨(e117_87 : a117.eval (.tmp 87) = .bool x116), -⟩ := hf117 [9] rfl
  have hX117 := es_ hX111 hE117
  refine fl_cond e117_87 hs (fun c118 hs => ?_) (fun c118 hs => ?_)
  · refine rg0_seq 103 own117 (bz 2) [⟨[], [], [], Fct.val 8 (.int .i64 0)⟩,     ⟨[], [], [], Fct.val 9 (.int .i64 0)⟩] hz117 hd117 (by kernel_rfl) ?_ ?_
    · refine sc (fun _ _ _ _ _ _ => px (or_assign rfl)) ?_
      refine sc (fun _ _ _ _ _ _ => px (or_assign rfl)) ?_
      exact steps_nil
    intro own119 a119 w119 hd119 hz119 hk119 hf119 hE119
    obtain ⟨(e119_8 : a119.eval (.tmp 8) = .int .i64 0), (e119_9 : a119.eval (.tmp 9) = .int .i64 0), -⟩ := hf119 [0, 1] rfl
    have hX119 := es_ hX117 hE119
    refine fl_ret ?_
    refine hp115 _ _ _ rfl ?_
    obtain rfl := osome hs
    exact hret _ _ _ _ (.inl rfl) hd119 (results2_ rfl (RVal.tmp_ e119_8) (RVal.tmp_ e119_9)) ⟨own119, rfl, hX119⟩
  refine fl_skip ?_
  refine hn115 _ _ ?_
  refine rg0_seq 103 own117 (bz 1) [⟨[], [], [], Fct.val 14 (.int .i64 0)⟩] hz117 hd117 (by kernel_rfl) ?_ ?_
  · refine sc (fun _ _ _ _ _ _ => px (or_assign rfl)) ?_
    exact steps_nil
  intro own120 a120 w120 hd120 hz120 hk120 hf120 hE120
  have e120_10 := (hk120 10 rfl).trans e117_10
  have e120_11 := (hk120 11 rfl).trans e117_11
  have e120_12 := (hk120 12 rfl).trans e117_12
  have e120_13 := (hk120 13 rfl).trans e117_13
  obtain ⟨(e120_14 : a120.eval (.tmp 14) = .int .i64 0), -⟩ := hf120 [0] rfl
  have hX120 := es_ hX117 hE120
  refine fl_seq (fun Q121 hn121 hp121 => ?_)
  have K126 : ∀ (a126 : Act) (w126 : World) (own126 : Own) (ends125 : Int), a126.defers = [] → a126.tmps.size = 103 → a126.eval (.tmp 12) = .int .i64 r106 → a126.eval (.tmp 13) = .int .i64 r107 → a126.eval (.tmp 14) = .int .i64 ends125 → Evo [] (fun _ => 0) own126 w w126 → seg_Class_k1 r106 r107 ends125 = some r → Q121 .normal a126 w126 := by
    intro a126 w126 own126 ends125 hd127 hz127 e127_12 e127_13 e127_14 hE127 hs
    refine hn121 _ _ ?_
    refine fl_seq (fun Q128 hn128 hp128 => ?_)
    have K133 : ∀ (a133 : Act) (w133 : World) (own133 : Own) (ends132 : Int), a133.defers = [] → a133.tmps.size = 103 → a133.eval (.tmp 14) = .int .i64 ends132 → Evo [] (fun _ => 0) own133 w w133 → seg_Class_k2 ends132 = some r → Q128 .normal a133 w133 := by
      intro a133 w133 own133 ends132 hd134 hz134 e134_14 hE134 hs
      refine hn128 _ _ ?_
      obtain ⟨x135, hx135, hs⟩ := obind hs
      refine rg0_seq 103 own133 [0, 0, 3, 7, 15] [⟨[], [], [], Fct.val 100 (.agg #[.int .i64 3, .int .i64 2, .int .i64 1])⟩,     ⟨[], [14], [], Fct.val 101 (.int .i64 ends132)⟩,     ⟨[0, 1], [], [], Fct.val 102 (.int .i64 x135)⟩,     ⟨[2], [], [], Fct.val 8 (.int .i64 x135)⟩,     ⟨[], [], [], Fct.val 9 (.int .i64 0)⟩] hz134 hd134 (by kernel_rfl) ?_ ?_
      · refine sc (fun _ _ _ _ _ _ => px (or_k [] rfl rfl trivial (by kernel_rfl))) ?_
        refine sc (fun _ _ _ _ s _ => px (or_move (s.1.trans e134_14))) ?_
        refine sc (fun _ _ _ f _ _ => px (or_indexA1 (F := E3) (l := [3, 2, 1]) (v := x135) tr102 to3 ts3 rfl rfl rfl f.1 rfl f.2.1 hx135)) ?_
        refine sc (fun _ _ _ f _ _ => px (or_assign f.1)) ?_
        refine sc (fun _ _ _ _ _ _ => px (or_assign rfl)) ?_
        exact steps_nil
      intro own136 a136 w136 hd136 hz136 hk136 hf136 hE136
      obtain ⟨(e136_8 : a136.eval (.tmp 8) = .int .i64 x135), (e136_9 : a136.eval (.tmp 9) = .int .i64 0), -⟩ := hf136 [3, 4] rfl
      have hX136 := es_ hE134 hE136
      refine fl_ret ?_
      obtain rfl := osome hs
      exact hret _ _ _ _ (.inl rfl) hd136 (results2_ rfl (RVal.tmp_ e136_8) (RVal.tmp_ e136_9)) ⟨own136, rfl, hX136⟩
    refine rg0_seq 103 own126 [0, 0, 3, 7] [⟨[], [12], [], Fct.val 94 (.int .i64 r106)⟩,     ⟨[], [13], [], Fct.val 95 (.int .i64 r107)⟩,     ⟨[0, 1], [], [], Fct.val 96 (.int .i64 (ml r106 r107))⟩,     ⟨[2], [], [], Fct.val 97 (.bool (decide ((ml r106 r107) = 0)))⟩] hz127 hd127 (by kernel_rfl) ?_ ?_
    · refine sc (fun _ _ _ _ s _ => px (or_move (s.1.trans e127_12))) ?_
      refine sc (fun _ _ _ _ s _ => px (or_move (s.1.trans e127_13))) ?_
      refine sc (fun _ _ _ f _ _ => px (or_mul f.1 f.2.1 rfl)) ?_
      refine sc (fun _ _ _ f _ _ => px (or_eql f.1 rfl rfl)) ?_
      exact steps_nil
    intro own137 a137 w137 hd137 hz137 hk137 hf137 hE137
    have e137_14 := (hk137 14 rfl).trans e127_14
    obtain ⟨(e137_97 : a137.eval (.tmp 97) = .bool (decide ((ml r106 r107) = 0))), -⟩ := hf137 [3] rfl
    have hX137 := es_ hE127 hE137
    refine fl_cond e137_97 hs (fun c138 hs => ?_) (fun c138 hs => ?_)
    · refine rg0 103 own137 (bz 3) [⟨[], [14], [], Fct.val 98 (.int .i64 ends125)⟩,     ⟨[0], [], [], Fct.val 99 (.int .i64 (ad ends125 1))⟩,     ⟨[1], [], [], Fct.val 14 (.int .i64 (ad ends125 1))⟩] hz137 hd137 (by kernel_rfl) ?_ ?_
      · refine sc (fun _ _ _ _ s _ => px (or_move (s.1.trans e137_14))) ?_
        refine sc (fun _ _ _ f _ _ => px (or_add f.1 rfl rfl)) ?_
        refine sc (fun _ _ _ f _ _ => px (or_assign f.1)) ?_
        exact steps_nil
      intro own139 a139 w139 hd139 hz139 hk139 hf139 hE139
      obtain ⟨(e139_14 : a139.eval (.tmp 14) = .int .i64 (ad ends125 1)), -⟩ := hf139 [2] rfl
      have hX139 := es_ hX137 hE139
      exact (K133 _ _ own139 _ hd139 hz139 e139_14 hX139 hs)
    refine fl_skip ?_
    exact (K133 _ _ own137 _ hd137 hz137 e137_14 hX137 hs)
  refine rg0_seq 103 own120 [0, 0, 3, 7] [⟨[], [10], [], Fct.val 88 (.int .i64 r103)⟩,     ⟨[], [11], [], Fct.val 89 (.int .i64 r104)⟩,     ⟨[0, 1], [], [], Fct.val 90 (.int .i64 (ml r103 r104))⟩,     ⟨[2], [], [], Fct.val 91 (.bool (decide ((ml r103 r104) = 0)))⟩] hz120 hd120 (by kernel_rfl) ?_ ?_
  · refine sc (fun _ _ _ _ s _ => px (or_move (s.1.trans e120_10))) ?_
    refine sc (fun _ _ _ _ s _ => px (or_move (s.1.trans e120_11))) ?_
    refine sc (fun _ _ _ f _ _ => px (or_mul f.1 f.2.1 rfl)) ?_
    refine sc (fun _ _ _ f _ _ => px (or_eql f.1 rfl rfl)) ?_
    exact steps_nil
  intro own140 a140 w140 hd140 hz140 hk140 hf140 hE140
  have e140_12 := (hk140 12 rfl).trans e120_12
  have e140_13 := (hk140 13 rfl).trans e120_13
  have e140_14 := (hk140 14 rfl).trans e120_14
  obtain ⟨(e140_91 : a140.eval (.tmp 91) = .bool (decide ((ml r103 r104) = 0))), -⟩ := hf140 [3] rfl
  have hX140 := es_ hX120 hE140
  refine fl_cond e140_91 hs (fun c141 hs => ?_) (fun c141 hs => ?_)
  · refine rg0 103 own140 (bz 3) [⟨[], [14], [], Fct.val 92 (.int .i64 0)⟩,     ⟨[0], [], [], Fct.val 93 (.int .i64 1)⟩,     ⟨[1], [], [], Fct.val 14 (.int .i64 1)⟩] hz140 hd140 (by kernel_rfl) ?_ ?_
    · refine sc (fun _ _ _ _ s _ => px (or_move (s.1.trans e140_14))) ?_
      refine sc (fun _ _ _ f _ _ => px (or_add f.1 rfl (by decide))) ?_
      refine sc (fun _ _ _ f _ _ => px (or_assign f.1)) ?_
      exact steps_nil
    intro own142 a142 w142 hd142 hz142 hk142 hf142 hE142
    have e142_12 := (hk142 12 rfl).trans e140_12
    have e142_13 := (hk142 13 rfl).trans e140_13
    obtain ⟨(e142_14 : a142.eval (.tmp 14) = .int .i64 1), -⟩ := hf142 [2] rfl
    have hX142 := es_ hX140 hE142
    exact (K126 _ _ own142 _ hd142 hz142 e142_12 e142_13 e142_14 hX142 hs)
  refine fl_skip ?_
  exact (K126 _ _ own140 _ hd140 hz140 e140_12 e140_13 e140_14 hX140 hs)
theorem law18_plain_w (w : World) (l1 : List ((List (Int × Int)) × Int × Int)) (Al1 : Option Addr) (cl1 : Nat) (hl1 : RdO (fun _ => 0) [0] w R63 Al1 cl1 l1) (r : (List ((Int × Int) × (Int × Int))) × Bool) (hs : law18_plain l1 = some r) :
    Calls Try.prog 26 #[.slice Al1 l1.length cl1] w fun e w' => ∃ (own' : Own) (x : Option Addr × Nat), e = .returned (.tuple #[.slice x.1 r.1.length x.2, .bool r.2]) ∧ Evo [] (fun _ => 0) own' w w' ∧ RwO own' 1 [] w' 65 R65 x.1 x.2 r.1 := by
  refine fl_enter (n := 87) rfl rfl rfl (Nat.le_of_ble_eq_true rfl) ?_
  intro a0 Q hd0 hz0 harg hret
  have ha0 := harg 0 _ rfl
  clear harg
  have hE0 : Evo [] (fun _ => 0) (fun _ => 0) w w := Evo.refl _ _ _
  refine rg0_seq 87 (fun _ => 0) (bz 2) [⟨[], [], [], Fct.val 2 (.slice none 0 0)⟩,     ⟨[], [], [], Fct.val 3 (.bool false)⟩] hz0 hd0 (by kernel_rfl) ?_ ?_
  · refine sc (fun _ _ _ _ _ _ => px (or_assign rfl)) ?_
    refine sc (fun _ _ _ _ _ _ => px (or_assign rfl)) ?_
    exact steps_nil
  intro own783 a783 w783 hd783 hz783 hk783 hf783 hE783
  have e783_0 := (hk783 0 rfl).trans ha0
  have hX783 := es_ hE0 hE783
  have b783_Al1 := RdO.evo rfl hE783 hl1
  refine rg0_seq 87 own783 (bz 1) [⟨[], [], [], Fct.val 4 (.slice none 0 0)⟩] hz783 hd783 (by kernel_rfl) ?_ ?_
  · refine sc (fun _ _ _ _ _ _ => px (or_assign rfl)) ?_
    exact steps_nil
  intro own784 a784 w784 hd784 hz784 hk784 hf784 hE784
  have e784_0 := (hk784 0 rfl).trans e783_0
  obtain ⟨(e784_4 : a784.eval (.tmp 4) = .slice none 0 0), -⟩ := hf784 [0] rfl
  have hX784 := es_ hX783 hE784
  have b784_Al1 := RdO.evo rfl hE784 b783_Al1
  refine fl_seq (fun Q785 hn785 hp785 => ?_)
  refine rg0_seq 87 own784 (bz 1) [⟨[], [], [], Fct.val 5 (.int .i64 0)⟩] hz784 hd784 (by kernel_rfl) ?_ ?_
  · refine sc (fun _ _ _ _ _ _ => px (or_assign rfl)) ?_
    exact steps_nil
  intro own786 a786 w786 hd786 hz786 hk786 hf786 hE786
  have e786_0 := (hk786 0 rfl).trans e784_0
  have e786_4 := (hk786 4 rfl).trans e784_4
  obtain ⟨(e786_5 : a786.eval (.tmp 5) = .int .i64 0), -⟩ := hf786 [0] rfl
  have hX786 := es_ hX784 hE786
  have b786_Al1 := RdO.evo rfl hE786 b784_Al1
  refine fl_block (fun Q787 hn787 hx787 hp787 => ?_)
  refine fl_loop (body := (fun s => law18_plain_b1 l1 s.1 s.2)) (z := r) (show loopO _ _ = _ from hs) (fun (s : (List ((Int × Int) × (Int × Int))) × Int) a wx => match s with | (out1016, i1018) => ∃ (ox : Own) (A1014 : Option Addr) (c1015 : Nat), a.defers = [] ∧ a.tmps.size = 87 ∧ a.eval (.tmp 0) = .slice Al1 l1.length cl1 ∧ a.eval (.tmp 4) = .slice A1014 out1016.length c1015 ∧ a.eval (.tmp 5) = .int .i64 i1018 ∧ Evo [] (fun _ => 0) ox w wx ∧ RdO ox [0] wx R63 Al1 cl1 l1 ∧ RwO ox 1017 [] wx 65 R65 A1014 c1015 out1016) ?_ ?_
  · exact ⟨own786, none, 0, hd786, hz786, e786_0, e786_4, e786_5, hX786, b786_Al1, RwO.nil_⟩
  · rintro ⟨out1016, i1018⟩ zz1286 a1286 w1286 ⟨own1286, A1014, c1015, hd1287, hz1287, e1287_0, e1287_4, e1287_5, hE1287, b1287_Al1, b1287_A1014⟩ hs Q1286 hn1286 hp1286 hz1286
    have hs : law18_plain_b1 l1 out1016 i1018 = some zz1286 := hs
    refine fl_seq (fun Q1288 hn1288 hp1288 => ?_)
    refine rg0_seq 87 own1286 [0, 0, 2, 7] [⟨[], [5], [], Fct.val 12 (.int .i64 i1018)⟩,     ⟨[], [0], [], Fct.val 13 (.slice Al1 l1.length cl1)⟩,     ⟨[1], [], [], Fct.val 14 (.int .i64 (l1.length : Int))⟩,     ⟨[0, 2], [], [], Fct.val 15 (.bool (decide (i1018 < (l1.length : Int))))⟩] hz1287 hd1287 (by kernel_rfl) ?_ ?_
    · refine sc (fun _ _ _ _ s _ => px (or_move (s.1.trans e1287_5))) ?_
      refine sc (fun _ _ _ _ s _ => px (or_move (s.1.trans e1287_0))) ?_
      refine sc (fun _ _ _ f _ _ => px (or_len tu23 f.1 rfl)) ?_
      refine sc (fun _ _ _ f _ _ => px (or_lss f.1 f.2.1 rfl)) ?_
      exact steps_nil
    intro own1289 a1289 w1289 hd1289 hz1289 hk1289 hf1289 hE1289
    have e1289_0 := (hk1289 0 rfl).trans e1287_0
    have e1289_4 := (hk1289 4 rfl).trans e1287_4
    have e1289_5 := (hk1289 5 rfl).trans e1287_5
    obtain ⟨(e1289_15 : a1289.eval (.tmp 15) = .bool (decide (i1018 < (l1.length : Int)))), -⟩ := hf1289 [3] rfl
    have hX1289 := es_ hE1287 hE1289
    have b1289_Al1 := RdO.evo rfl hE1289 b1287_Al1
    have b1289_A1014 := re_ hE1289 b1287_A1014
    refine fl_cond e1289_15 hs (fun c1290 hs => ?_) (fun c1290 hs => ?_)
    · refine fl_skip ?_
      refine hn1288 _ _ ?_
      refine fl_seq (fun Q1291 hn1291 hp1291 => ?_)
      refine fl_block (fun Q1292 hn1292 hx1292 hp1292 => ?_)
      refine rg0_seq 87 own1289 (bz 1) [⟨[], [], [], Fct.val 6 (.int .i64 1)⟩] hz1289 hd1289 (by kernel_rfl) ?_ ?_
      · refine sc (fun _ _ _ _ _ _ => px (or_assign rfl)) ?_
        exact steps_nil
      intro own1293 a1293 w1293 hd1293 hz1293 hk1293 hf1293 hE1293
      have e1293_0 := (hk1293 0 rfl).trans e1289_0
      have e1293_4 := (hk1293 4 rfl).trans e1289_4
      have e1293_5 := (hk1293 5 rfl).trans e1289_5
      obtain ⟨(e1293_6 : a1293.eval (.tmp 6) = .int .i64 1), -⟩ := hf1293 [0] rfl
      have hX1293 := es_ hX1289 hE1293
      have b1293_Al1 := RdO.evo rfl hE1293 b1289_Al1
      have b1293_A1014 := re_ hE1293 b1289_A1014
      refine fl_block (fun Q1294 hn1294 hx1294 hp1294 => ?_)
      refine fl_loop (body := (fun s => law18_plain_b2 l1 i1018 s.1 s.2)) (z := zz1286) (show loopO _ _ = _ from hs) (fun (s : (List ((Int × Int) × (Int × Int))) × Int) a wx => match s with | (out1381, k1383) => ∃ (ox : Own) (A1379 : Option Addr) (c1380 : Nat), a.defers = [] ∧ a.tmps.size = 87 ∧ a.eval (.tmp 0) = .slice Al1 l1.length cl1 ∧ a.eval (.tmp 4) = .slice A1379 out1381.length c1380 ∧ a.eval (.tmp 5) = .int .i64 i1018 ∧ a.eval (.tmp 6) = .int .i64 k1383 ∧ Evo [] (fun _ => 0) ox w wx ∧ RdO ox [0] wx R63 Al1 cl1 l1 ∧ RwO ox 1382 [] wx 65 R65 A1379 c1380 out1381) ?_ ?_
      · exact ⟨(rl [(1017, 1382)] own1293), A1014, c1015, hd1293, hz1293, e1293_0, e1293_4, e1293_5, e1293_6, (Evo.rl_ hX1293 (fun _ => Nat.le_refl 0) rfl), (RdO.rl_ (mm := [(1017, 1382)]) b1293_Al1), (RwO.rl_ (mm := [(1017, 1382)]) b1293_A1014)⟩
      · rintro ⟨out1381, k1383⟩ zz1468 a1468 w1468 ⟨own1468, A1379, c1380, hd1469, hz1469, e1469_0, e1469_4, e1469_5, e1469_6, hE1469, b1469_Al1, b1469_A1379⟩ hs Q1468 hn1468 hp1468 hz1468
        have hs : law18_plain_b2 l1 i1018 out1381 k1383 = some zz1468 := hs
        refine fl_seq (fun Q1470 hn1470 hp1470 => ?_)
        obtain ⟨x1471, hx1471, hs⟩ := obind hs
        refine rg0_seq 87 own1468 [0, 0, 0, 6, 14, 30, 62, 127] [⟨[], [6], [], Fct.val 18 (.int .i64 k1383)⟩,     ⟨[], [0], [], Fct.val 19 (.slice Al1 l1.length cl1)⟩,     ⟨[], [5], [], Fct.val 20 (.int .i64 i1018)⟩,     ⟨[1, 2], [], [], Fct.val 21 (.pointer (some ((adr Al1).add ((i1018 : Int).toNat * R63.s))))⟩,     ⟨[3], [], [], Fct.val 22 (.pointer (some ((adr Al1).add ((i1018 : Int).toNat * R63.s))))⟩,     ⟨[4], [], [], Fct.nest X63 [0] 23 (fun (y : ((Option Addr × Nat) × Unit × Unit)) => .slice y.1.1 x1471.1.length y.1.2) x1471⟩,     ⟨[5], [], [], Fct.val 24 (.int .i64 (x1471.1.length : Int))⟩,     ⟨[0, 6], [], [], Fct.val 25 (.bool (decide (k1383 < (x1471.1.length : Int))))⟩] hz1469 hd1469 (by kernel_rfl) ?_ ?_
        · refine sc (fun _ _ _ _ s _ => px (or_move (s.1.trans e1469_6))) ?_
          refine sc (fun _ _ _ _ s _ => px (or_move (s.1.trans e1469_0))) ?_
          refine sc (fun _ _ _ _ s _ => px (or_move (s.1.trans e1469_5))) ?_
          refine sc (fun _ _ _ f _ _ => px (or_index (R := R63) (l := l1) tl23 f.1 f.2.1 (RdO.some_ b1469_Al1 hx1471) hx1471)) ?_
          refine sc (fun _ _ _ f _ _ => px (or_field fo63_0 f.1 (Addr.add_zero' _))) ?_
          refine sc (fun _ _ _ f _ hE => px (or_loadN1 X63 0 to55 f.1 (Addr.add_zero' _).symm (RdO.evo rfl hE b1469_Al1) hx1471 (fun _ => rfl))) ?_
          refine sc (fun own a wx hf hsl hE => ?_) ?_
          · obtain ⟨⟨⟨⟨A1472, cA1472⟩, _, _⟩, f_23, ⟨b_A1472, -, -⟩⟩, -⟩ := hf
            exact px (or_len tu55 f_23 rfl)
          refine sc (fun _ _ _ f _ _ => px (or_lss f.1 f.2.1 rfl)) ?_
          exact steps_nil
        intro own1473 a1473 w1473 hd1473 hz1473 hk1473 hf1473 hE1473
        have e1473_0 := (hk1473 0 rfl).trans e1469_0
        have e1473_4 := (hk1473 4 rfl).trans e1469_4
        have e1473_5 := (hk1473 5 rfl).trans e1469_5
        have e1473_6 := (hk1473 6 rfl).trans e1469_6
        obtain ⟨(e1473_25 : a1473.eval (.tmp 25) = .bool (decide (k1383 < (x1471.1.length : Int)))), -⟩ := hf1473 [7] rfl
        have hX1473 := es_ hE1469 hE1473
        have b1473_Al1 := RdO.evo rfl hE1473 b1469_Al1
        have b1473_A1379 := re_ hE1473 b1469_A1379
        refine fl_cond e1473_25 hs (fun c1474 hs => ?_) (fun c1474 hs => ?_)
        · refine fl_skip ?_
          refine hn1470 _ _ ?_
          refine fl_seq (fun Q1475 hn1475 hp1475 => ?_)
          refine fl_block (fun Q1476 hn1476 hx1476 hp1476 => ?_)
          obtain ⟨x1477, hx1477, hs⟩ := obind hs
          obtain ⟨x1479, hx1479, hs⟩ := obind hs
          obtain ⟨x1480, hx1480, hs⟩ := obind hs
          obtain ⟨x1482, hx1482, hs⟩ := obind hs
          refine rg_draw_seq g_mixed (n := 87) (rs := []) (own0 := own1473) (K := [1484, 1486]) (bs := [0, 0, 3, 7, 15, 0, 32, 127, 255, 0, 0, 1536, 3584, 7680, 0, 32256, 65024, 0, 0, 393727, 1048575]) (ds := [⟨[], [0], [], Fct.val 28 (.slice Al1 l1.length cl1)⟩,     ⟨[], [5], [], Fct.val 29 (.int .i64 i1018)⟩,     ⟨[0, 1], [], [], Fct.val 30 (.pointer (some ((adr Al1).add ((i1018 : Int).toNat * R63.s))))⟩,     ⟨[2], [], [], Fct.val 31 (.pointer (some ((adr Al1).add ((i1018 : Int).toNat * R63.s))))⟩,     ⟨[3], [], [], Fct.nest X63 [0] 32 (fun (y : ((Option Addr × Nat) × Unit × Unit)) => .slice y.1.1 x1477.1.length y.1.2) x1477⟩,     ⟨[], [6], [], Fct.val 33 (.int .i64 k1383)⟩,     ⟨[5], [], [], Fct.val 34 (.int .i64 (sb k1383 1))⟩,     ⟨[4, 6], [], [], Fct.rel [35, 32] (fun l => ∀ (A1478 : Option Addr) (cA1478 : Nat), l.getD 1 undef = .slice A1478 x1477.1.length cA1478 → l.getD 0 undef = .pointer (some ((adr A1478).add ((sb k1383 1 : Int).toNat * R25.s))))⟩,     ⟨[7, 4], [], [], Fct.val 36 (.agg #[.int .i64 x1479.1, .int .i64 x1479.2])⟩,     ⟨[], [0], [], Fct.val 37 (.slice Al1 l1.length cl1)⟩,     ⟨[], [5], [], Fct.val 38 (.int .i64 i1018)⟩,     ⟨[9, 10], [], [], Fct.val 39 (.pointer (some ((adr Al1).add ((i1018 : Int).toNat * R63.s))))⟩,     ⟨[11], [], [], Fct.val 40 (.pointer (some ((adr Al1).add ((i1018 : Int).toNat * R63.s))))⟩,     ⟨[12], [], [], Fct.nest X63 [0] 41 (fun (y : ((Option Addr × Nat) × Unit × Unit)) => .slice y.1.1 x1480.1.length y.1.2) x1480⟩,     ⟨[], [6], [], Fct.val 42 (.int .i64 k1383)⟩,     ⟨[13, 14], [], [], Fct.rel [43, 41] (fun l => ∀ (A1481 : Option Addr) (cA1481 : Nat), l.getD 1 undef = .slice A1481 x1480.1.length cA1481 → l.getD 0 undef = .pointer (some ((adr A1481).add ((k1383 : Int).toNat * R25.s))))⟩,     ⟨[15, 13], [], [], Fct.val 44 (.agg #[.int .i64 x1482.1, .int .i64 x1482.2])⟩,     ⟨[], [], [], Fct.blk 1484 7 (fun g => .pointer (some ⟨g, 0, none⟩)) 25 #[.int .i64 0, .int .i64 0]⟩,     ⟨[], [], [], Fct.blk 1486 8 (fun g => .pointer (some ⟨g, 0, none⟩)) 25 #[.int .i64 0, .int .i64 0]⟩,     ⟨[17, 8], [], [1484], Fct.blk 1487 7 (fun g => .pointer (some ⟨g, 0, none⟩)) 25 #[.int .i64 x1479.1, .int .i64 x1479.2]⟩,     ⟨[18, 16], [], [1486], Fct.blk 1488 8 (fun g => .pointer (some ⟨g, 0, none⟩)) 25 #[.int .i64 x1482.1, .int .i64 x1482.2]⟩]) (by kernel_rfl) hz1473 hd1473 nm_ ?_ ?_
          · refine sc (fun _ _ _ _ s _ => px (or_move (s.1.trans e1473_0))) ?_
            refine sc (fun _ _ _ _ s _ => px (or_move (s.1.trans e1473_5))) ?_
            refine sc (fun _ _ _ f _ _ => px (or_index (R := R63) (l := l1) tl23 f.1 f.2.1 (RdO.some_ b1473_Al1 hx1477) hx1477)) ?_
            refine sc (fun _ _ _ f _ _ => px (or_field fo63_0 f.1 (Addr.add_zero' _))) ?_
            refine sc (fun _ _ _ f _ hE => px (or_loadN1 X63 0 to55 f.1 (Addr.add_zero' _).symm (RdO.evo rfl hE b1473_Al1) hx1477 (fun _ => rfl))) ?_
            refine sc (fun _ _ _ _ s _ => px (or_move (s.1.trans e1473_6))) ?_
            refine sc (fun _ _ _ f _ _ => px (or_sub f.1 rfl rfl)) ?_
            refine sc (fun own a wx hf hsl hE => ?_) ?_
            · obtain ⟨⟨⟨⟨A1478, cA1478⟩, _, _⟩, (f_32 : a.eval (.tmp 32) = .slice A1478 x1477.1.length cA1478), ⟨b_A1478, -, -⟩⟩, f_34, -⟩ := hf
              exact px (or_mono (f := Fct.val 35 (.pointer (some ((adr A1478).add ((sb k1383 1 : Int).toNat * R25.s))))) (or_index (R := R25) (l := x1477.1) tl55 f_32 f_34 (RdO.some_ b_A1478 hx1479) hx1479) (fun own' a' w' v' hp h => fun _ _ h0' => by cases (f_32.symm.trans ((hp.2 32 (by decide)).symm.trans h0')); exact h))
            refine sc (fun own a wx hf hsl hE => ?_) ?_
            · obtain ⟨(q_35 : ∀ (A1478 : Option Addr) (cA1478 : Nat), a.eval (.tmp 32) = .slice A1478 x1477.1.length cA1478 → a.eval (.tmp 35) = .pointer (some ((adr A1478).add ((sb k1383 1 : Int).toNat * R25.s)))), ⟨⟨⟨A1478, cA1478⟩, _, _⟩, f_32, ⟨b_A1478, -, -⟩⟩, -⟩ := hf
              have f_35 := q_35 _ _ f_32
              exact px (or_load (l := E25.f x1479) ta25 f_35 (RdO.cells (F := E25) b_A1478 hx1479) rfl)
            refine sc (fun _ _ _ _ s _ => px (or_move (s.1.trans e1473_0))) ?_
            refine sc (fun _ _ _ _ s _ => px (or_move (s.1.trans e1473_5))) ?_
            refine sc (fun _ _ _ f _ _ => px (or_index (R := R63) (l := l1) tl23 f.1 f.2.1 (RdO.some_ b1473_Al1 hx1480) hx1480)) ?_
            refine sc (fun _ _ _ f _ _ => px (or_field fo63_0 f.1 (Addr.add_zero' _))) ?_
            refine sc (fun _ _ _ f _ hE => px (or_loadN1 X63 0 to55 f.1 (Addr.add_zero' _).symm (RdO.evo rfl hE b1473_Al1) hx1480 (fun _ => rfl))) ?_
            refine sc (fun _ _ _ _ s _ => px (or_move (s.1.trans e1473_6))) ?_
            refine sc (fun own a wx hf hsl hE => ?_) ?_
            · obtain ⟨⟨⟨⟨A1481, cA1481⟩, _, _⟩, (f_41 : a.eval (.tmp 41) = .slice A1481 x1480.1.length cA1481), ⟨b_A1481, -, -⟩⟩, f_42, -⟩ := hf
              exact px (or_mono (f := Fct.val 43 (.pointer (some ((adr A1481).add ((k1383 : Int).toNat * R25.s))))) (or_index (R := R25) (l := x1480.1) tl55 f_41 f_42 (RdO.some_ b_A1481 hx1482) hx1482) (fun own' a' w' v' hp h => fun _ _ h0' => by cases (f_41.symm.trans ((hp.2 41 (by decide)).symm.trans h0')); exact h))
            refine sc (fun own a wx hf hsl hE => ?_) ?_
            · obtain ⟨(q_43 : ∀ (A1481 : Option Addr) (cA1481 : Nat), a.eval (.tmp 41) = .slice A1481 x1480.1.length cA1481 → a.eval (.tmp 43) = .pointer (some ((adr A1481).add ((k1383 : Int).toNat * R25.s)))), ⟨⟨⟨A1481, cA1481⟩, _, _⟩, f_41, ⟨b_A1481, -, -⟩⟩, -⟩ := hf
              have f_43 := q_43 _ _ f_41
              exact px (or_load (l := E25.f x1482) ta25 f_43 (RdO.cells (F := E25) b_A1481 hx1482) rfl)
            refine sc (fun _ _ _ _ _ _ => px (or_new [] rfl rfl trivial (by kernel_rfl))) ?_
            refine sc (fun _ _ _ _ _ _ => px (or_new [] rfl rfl trivial (by kernel_rfl))) ?_
            refine sc (fun own a wx hf hsl hE => ?_) ?_
            · obtain ⟨⟨g1483, f_7, b_g1483⟩, f_36, -⟩ := hf
              exact px (or_store (l := #[.int .i64 x1479.1, .int .i64 x1479.2]) (lab := 1484) (lab2 := 1487) ts25 f_7 f_36 b_g1483 (by simp) (by kernel_rfl) (mem_of rfl) (by decide) (by kernel_rfl) (fun own' a' w' ha hb => ⟨_, (ha 7).trans f_7, hb⟩))
            refine sc (fun own a wx hf hsl hE => ?_) ?_
            · obtain ⟨⟨g1485, f_8, b_g1485⟩, f_44, -⟩ := hf
              exact px (or_store (l := #[.int .i64 x1482.1, .int .i64 x1482.2]) (lab := 1486) (lab2 := 1488) ts25 f_8 f_44 b_g1485 (by simp) (by kernel_rfl) (mem_of rfl) (by decide) (by kernel_rfl) (fun own' a' w' ha hb => ⟨_, (ha 8).trans f_8, hb⟩))
            exact steps_nil
          intro own1489 a1489 w1489 hd1489 hz1489 hk1489 hf1489 hE1489
          have e1489_0 := (hk1489 0 rfl).trans e1473_0
          have e1489_4 := (hk1489 4 rfl).trans e1473_4
          have e1489_5 := (hk1489 5 rfl).trans e1473_5
          have e1489_6 := (hk1489 6 rfl).trans e1473_6
          obtain ⟨⟨g1483, (e1489_7 : a1489.eval (.tmp 7) = .pointer (some ⟨g1483, 0, none⟩)), (b1489_g1483 : BlkO own1489 1487 w1489 g1483 25 #[.int .i64 x1479.1, .int .i64 x1479.2])⟩, ⟨g1485, (e1489_8 : a1489.eval (.tmp 8) = .pointer (some ⟨g1485, 0, none⟩)), (b1489_g1485 : BlkO own1489 1488 w1489 g1485 25 #[.int .i64 x1482.1, .int .i64 x1482.2])⟩, -⟩ := hf1489 [19, 20] rfl
          have hX1489 := es_ hX1473 hE1489
          have b1489_Al1 := RdO.evo rfl hE1489 b1473_Al1
          have b1489_A1379 := re_ hE1489 b1473_A1379
          refine fl_seq (fun Q1490 hn1490 hp1490 => ?_)
          refine rg0_seq 87 own1489 (bz 1) [⟨[], [], [], Fct.val 9 (.int .i64 0)⟩] hz1489 hd1489 (by kernel_rfl) ?_ ?_
          · refine sc (fun _ _ _ _ _ _ => px (or_assign rfl)) ?_
            exact steps_nil
          intro own1491 a1491 w1491 hd1491 hz1491 hk1491 hf1491 hE1491
          have e1491_0 := (hk1491 0 rfl).trans e1489_0
          have e1491_4 := (hk1491 4 rfl).trans e1489_4
          have e1491_5 := (hk1491 5 rfl).trans e1489_5
          have e1491_6 := (hk1491 6 rfl).trans e1489_6
          have e1491_7 := (hk1491 7 rfl).trans e1489_7
          have e1491_8 := (hk1491 8 rfl).trans e1489_8
          obtain ⟨(e1491_9 : a1491.eval (.tmp 9) = .int .i64 0), -⟩ := hf1491 [0] rfl
          have hX1491 := es_ hX1489 hE1491
          have b1491_Al1 := RdO.evo rfl hE1491 b1489_Al1
          have b1491_A1379 := re_ hE1491 b1489_A1379
          have b1491_g1483 := be_ hE1491 b1489_g1483
          have b1491_g1485 := be_ hE1491 b1489_g1485
          refine fl_block (fun Q1492 hn1492 hx1492 hp1492 => ?_)
          refine fl_loop (body := (fun s => law18_plain_b3 out1381 k1383 x1479 x1482 s)) (z := zz1468) (show loopO _ _ = _ from hs) (fun (j1508 : Int) a wx => ∃ (ox : Own), a.defers = [] ∧ a.tmps.size = 87 ∧ a.eval (.tmp 0) = .slice Al1 l1.length cl1 ∧ a.eval (.tmp 4) = .slice A1379 out1381.length c1380 ∧ a.eval (.tmp 5) = .int .i64 i1018 ∧ a.eval (.tmp 6) = .int .i64 k1383 ∧ a.eval (.tmp 7) = .pointer (some ⟨g1483, 0, none⟩) ∧ a.eval (.tmp 8) = .pointer (some ⟨g1485, 0, none⟩) ∧ a.eval (.tmp 9) = .int .i64 j1508 ∧ Evo [] (fun _ => 0) ox w wx ∧ RdO ox [0] wx R63 Al1 cl1 l1 ∧ RwO ox 1382 [] wx 65 R65 A1379 c1380 out1381 ∧ BlkO ox 1487 wx g1483 25 #[.int .i64 x1479.1, .int .i64 x1479.2] ∧ BlkO ox 1488 wx g1485 25 #[.int .i64 x1482.1, .int .i64 x1482.2]) ?_ ?_
          · exact ⟨own1491, hd1491, hz1491, e1491_0, e1491_4, e1491_5, e1491_6, e1491_7, e1491_8, e1491_9, hX1491, b1491_Al1, b1491_A1379, b1491_g1483, b1491_g1485⟩
          · rintro j1508 zz1524 a1524 w1524 ⟨own1524, hd1525, hz1525, e1525_0, e1525_4, e1525_5, e1525_6, e1525_7, e1525_8, e1525_9, hE1525, b1525_Al1, b1525_A1379, b1525_g1483, b1525_g1485⟩ hs Q1524 hn1524 hp1524 hz1524
            have hs : law18_plain_b3 out1381 k1383 x1479 x1482 j1508 = some zz1524 := hs
            refine fl_seq (fun Q1526 hn1526 hp1526 => ?_)
            refine rg0_seq 87 own1524 [0, 0, 2, 7] [⟨[], [9], [], Fct.val 45 (.int .i64 j1508)⟩,     ⟨[], [4], [], Fct.val 46 (.slice A1379 out1381.length c1380)⟩,     ⟨[1], [], [], Fct.val 47 (.int .i64 (out1381.length : Int))⟩,     ⟨[0, 2], [], [], Fct.val 48 (.bool (decide (j1508 < (out1381.length : Int))))⟩] hz1525 hd1525 (by kernel_rfl) ?_ ?_
            · refine sc (fun _ _ _ _ s _ => px (or_move (s.1.trans e1525_9))) ?_
              refine sc (fun _ _ _ _ s _ => px (or_move (s.1.trans e1525_4))) ?_
              refine sc (fun _ _ _ f _ _ => px (or_len tu59 f.1 rfl)) ?_
              refine sc (fun _ _ _ f _ _ => px (or_lss f.1 f.2.1 rfl)) ?_
              exact steps_nil
            intro own1527 a1527 w1527 hd1527 hz1527 hk1527 hf1527 hE1527
            have e1527_0 := (hk1527 0 rfl).trans e1525_0
            have e1527_4 := (hk1527 4 rfl).trans e1525_4
            have e1527_5 := (hk1527 5 rfl).trans e1525_5
            have e1527_6 := (hk1527 6 rfl).trans e1525_6
            have e1527_7 := (hk1527 7 rfl).trans e1525_7
            have e1527_8 := (hk1527 8 rfl).trans e1525_8
            have e1527_9 := (hk1527 9 rfl).trans e1525_9
            obtain ⟨(e1527_48 : a1527.eval (.tmp 48) = .bool (decide (j1508 < (out1381.length : Int)))), -⟩ := hf1527 [3] rfl
            have hX1527 := es_ hE1525 hE1527
            have b1527_Al1 := RdO.evo rfl hE1527 b1525_Al1
            have b1527_A1379 := re_ hE1527 b1525_A1379
            have b1527_g1483 := be_ hE1527 b1525_g1483
            have b1527_g1485 := be_ hE1527 b1525_g1485
            refine fl_cond e1527_48 hs (fun c1528 hs => ?_) (fun c1528 hs => ?_)
            · refine fl_skip ?_
              refine hn1526 _ _ ?_
              refine fl_seq (fun Q1529 hn1529 hp1529 => ?_)
              refine fl_block (fun Q1530 hn1530 hx1530 hp1530 => ?_)
              obtain ⟨x1531, hx1531, hs⟩ := obind hs
              obtain ⟨x1532, hx1532, hs⟩ := obind hs
              obtain ⟨r1533, hr1533, hs⟩ := obind hs
              refine rg_draw_seq g_mixed (n := 87) (rs := []) (own0 := own1527) (K := []) (bs := [0, 0, 0, 0, 12, 28, 60, 0, 0, 384, 896, 1920, 4095, 8191, 16383, 16383, 32767, 131071]) (ds := [⟨[], [7], [], Fct.val 52 (.agg #[.int .i64 x1479.1, .int .i64 x1479.2])⟩,     ⟨[], [8], [], Fct.val 53 (.agg #[.int .i64 x1482.1, .int .i64 x1482.2])⟩,     ⟨[], [4], [], Fct.val 54 (.slice A1379 out1381.length c1380)⟩,     ⟨[], [9], [], Fct.val 55 (.int .i64 j1508)⟩,     ⟨[2, 3], [], [], Fct.val 56 (.pointer (some ((adr A1379).add ((j1508 : Int).toNat * R65.s))))⟩,     ⟨[4], [], [], Fct.val 57 (.pointer (some ((adr A1379).add ((j1508 : Int).toNat * R65.s))))⟩,     ⟨[5], [], [], Fct.val 58 (.agg #[.int .i64 x1531.1.1, .int .i64 x1531.1.2])⟩,     ⟨[], [4], [], Fct.val 59 (.slice A1379 out1381.length c1380)⟩,     ⟨[], [9], [], Fct.val 60 (.int .i64 j1508)⟩,     ⟨[7, 8], [], [], Fct.val 61 (.pointer (some ((adr A1379).add ((j1508 : Int).toNat * R65.s))))⟩,     ⟨[9], [], [], Fct.val 62 (.pointer (some (((adr A1379).add ((j1508 : Int).toNat * R65.s)).add 2)))⟩,     ⟨[10], [], [], Fct.val 63 (.agg #[.int .i64 x1532.2.1, .int .i64 x1532.2.2])⟩,     ⟨[0, 1, 6, 11], [], [], Fct.val 64 (.tuple #[.int .i64 r1533.1, .int .i64 r1533.2])⟩,     ⟨[12], [], [], Fct.val 51 (.tuple #[.int .i64 r1533.1, .int .i64 r1533.2])⟩,     ⟨[13], [], [], Fct.val 65 (.int .i64 r1533.1)⟩,     ⟨[13], [], [], Fct.val 66 (.int .i64 r1533.2)⟩,     ⟨[14], [], [], Fct.val 10 (.int .i64 r1533.1)⟩,     ⟨[15], [], [], Fct.val 11 (.int .i64 r1533.2)⟩]) (by kernel_rfl) hz1527 hd1527 nm_ ?_ ?_
              · refine sc (fun _ _ _ _ s hE => px (or_load (l := [.int .i64 x1479.1, .int .i64 x1479.2]) ta25 (s.1.trans e1527_7) (Blk.cellsFrom (be_ hE b1527_g1483).2 0 rfl) rfl)) ?_
                refine sc (fun _ _ _ _ s hE => px (or_load (l := [.int .i64 x1482.1, .int .i64 x1482.2]) ta25 (s.1.trans e1527_8) (Blk.cellsFrom (be_ hE b1527_g1485).2 0 rfl) rfl)) ?_
                refine sc (fun _ _ _ _ s _ => px (or_move (s.1.trans e1527_4))) ?_
                refine sc (fun _ _ _ _ s _ => px (or_move (s.1.trans e1527_9))) ?_
                refine sc (fun _ _ _ f _ _ => px (or_index (R := R65) (l := out1381) tl59 f.1 f.2.1 (RdO.some_ (RwO.rd b1527_A1379) hx1531) hx1531)) ?_
                refine sc (fun _ _ _ f s _ => px (or_indexArr (i := 0) (s := 2) tr65 ts25 f.1 rfl (by decide) (Addr.add_zero' _))) ?_
                refine sc (fun _ _ _ f _ hE => px (or_load (l := [.int .i64 x1531.1.1, .int .i64 x1531.1.2]) ta25 f.1 (CellsAt.head_ (RdO.cells (F := E65) (RwO.rd (re_ hE b1527_A1379)) hx1531) rfl) rfl)) ?_
                refine sc (fun _ _ _ _ s _ => px (or_move (s.1.trans e1527_4))) ?_
                refine sc (fun _ _ _ _ s _ => px (or_move (s.1.trans e1527_9))) ?_
                refine sc (fun _ _ _ f _ _ => px (or_index (R := R65) (l := out1381) tl59 f.1 f.2.1 (RdO.some_ (RwO.rd b1527_A1379) hx1532) hx1532)) ?_
                refine sc (fun _ _ _ f s _ => px (or_indexArr (i := 1) (s := 2) tr65 ts25 f.1 rfl (by decide) rfl)) ?_
                refine sc (fun _ _ _ f _ hE => px (or_load (l := [.int .i64 x1532.2.1, .int .i64 x1532.2.2]) ta25 f.1 (CellsAt.part (RdO.cells (F := E65) (RwO.rd (re_ hE b1527_A1379)) hx1532) 2 rfl) rfl)) ?_
                refine sc (fun _ _ _ f _ _ => px (or_call cf27 (args4 f.1 f.2.1 f.2.2.1 f.2.2.2.1) (seg_Class_w _ x1479 x1482 x1531.1 x1532.2  r1533 hr1533) post_val)) ?_
                refine sc (fun _ _ _ f _ _ => px (or_move f.1)) ?_
                refine sc (fun _ _ _ f _ _ => px (or_k [(51, .tuple #[.int .i64 r1533.1, .int .i64 r1533.2])] rfl rfl ⟨f.1, trivial⟩ (by kernel_rfl))) ?_
                refine sc (fun _ _ _ f _ _ => px (or_k [(51, .tuple #[.int .i64 r1533.1, .int .i64 r1533.2])] rfl rfl ⟨f.1, trivial⟩ (by kernel_rfl))) ?_
                refine sc (fun _ _ _ f _ _ => px (or_assign f.1)) ?_
                refine sc (fun _ _ _ f _ _ => px (or_assign f.1)) ?_
                exact steps_nil
              intro own1534 a1534 w1534 hd1534 hz1534 hk1534 hf1534 hE1534
              have e1534_0 := (hk1534 0 rfl).trans e1527_0
              have e1534_4 := (hk1534 4 rfl).trans e1527_4
              have e1534_5 := (hk1534 5 rfl).trans e1527_5
              have e1534_6 := (hk1534 6 rfl).trans e1527_6
              have e1534_7 := (hk1534 7 rfl).trans e1527_7
              have e1534_8 := (hk1534 8 rfl).trans e1527_8
              have e1534_9 := (hk1534 9 rfl).trans e1527_9
              obtain ⟨(e1534_10 : a1534.eval (.tmp 10) = .int .i64 r1533.1), (e1534_11 : a1534.eval (.tmp 11) = .int .i64 r1533.2), -⟩ := hf1534 [16, 17] rfl
              have hX1534 := es_ hX1527 hE1534
              have b1534_Al1 := RdO.evo rfl hE1534 b1527_Al1
              have b1534_A1379 := re_ hE1534 b1527_A1379
              have b1534_g1483 := be_ hE1534 b1527_g1483
              have b1534_g1485 := be_ hE1534 b1527_g1485
              obtain ⟨x1535, hx1535, hs⟩ := obind hs
              refine rg0_seq 87 own1534 (bz 10) [⟨[], [11], [], Fct.val 67 (.int .i64 r1533.2)⟩,     ⟨[0], [], [], Fct.val 68 (.bool (!decide (r1533.2 = 0)))⟩,     ⟨[1], [], [], Fct.val 69 (.bool (!decide (r1533.2 = 0)))⟩,     ⟨[2], [10], [], Fct.cond (!(!decide (r1533.2 = 0))) (some 70) (Fct.val 70 (.int .i64 r1533.1))⟩,     ⟨[2, 3], [], [], Fct.cond (!(!decide (r1533.2 = 0))) (some 71) (Fct.val 71 (.bool (!decide (r1533.1 = 0))))⟩,     ⟨[2, 4], [], [], Fct.cond (!(!decide (r1533.2 = 0))) (some 72) (Fct.val 72 (.bool (!decide (r1533.1 = 0))))⟩,     ⟨[5], [10], [], Fct.cond ((!(!decide (r1533.2 = 0))) && (!decide (r1533.1 = 0))) (some 73) (Fct.val 73 (.int .i64 r1533.1))⟩,     ⟨[5, 6], [], [], Fct.cond ((!(!decide (r1533.2 = 0))) && (!decide (r1533.1 = 0))) (some 74) (Fct.val 74 (.bool (!decide (r1533.1 = 1))))⟩,     ⟨[2, 5, 7], [], [], Fct.cond (!(!decide (r1533.2 = 0))) (some 75) (Fct.val 75 (.bool x1535))⟩,     ⟨[2, 8], [], [], Fct.val 76 (.bool ((!decide (r1533.2 = 0)) || x1535))⟩] hz1534 hd1534 (by kernel_rfl) ?_ ?_
              · refine sc (fun _ _ _ _ s _ => px (or_move (s.1.trans e1534_11))) ?_
                refine sc (fun _ _ _ f _ _ => px (or_neq f.1 rfl rfl)) ?_
                refine sc (fun _ _ _ f _ _ => px (or_move f.1)) ?_
                refine sc (fun _ _ _ f s _ => sg_f rfl rfl rfl f.1 (fun hg => or_move (s.1.trans e1534_10))) ?_
                refine sc (fun _ _ _ f _ _ => sg_f rfl rfl rfl f.1 (fun hg => or_neq (f.2.1.1 hg) rfl rfl)) ?_
                refine sc (fun _ _ _ f _ _ => sg_f rfl rfl rfl f.1 (fun hg => or_move (f.2.1.1 hg))) ?_
                refine sc (fun _ _ _ f s _ => sg_tc rfl rfl rfl f.1 (fun hg => or_move (s.1.trans e1534_10))) ?_
                refine sc (fun _ _ _ f _ _ => sg_tc rfl rfl rfl f.1 (fun hg => or_neq (f.2.1.1 hg) rfl rfl)) ?_
                refine sc (fun _ _ _ f _ _ => sg_f rfl rfl rfl f.1 (fun hg => or_and (f.2.1.1 hg) (fun hx => f.2.2.1.1 (gI hg hx)) rfl (osome hx1535).symm)) ?_
                refine sc (fun _ _ _ f _ _ => px (or_or f.1 rfl (fun hx => f.2.1.1 hx) rfl)) ?_
                exact steps_nil
              intro own1536 a1536 w1536 hd1536 hz1536 hk1536 hf1536 hE1536
              have e1536_0 := (hk1536 0 rfl).trans e1534_0
              have e1536_4 := (hk1536 4 rfl).trans e1534_4
              have e1536_5 := (hk1536 5 rfl).trans e1534_5
              have e1536_6 := (hk1536 6 rfl).trans e1534_6
              have e1536_7 := (hk1536 7 rfl).trans e1534_7
              have e1536_8 := (hk1536 8 rfl).trans e1534_8
              have e1536_9 := (hk1536 9 rfl).trans e1534_9
              obtain ⟨(e1536_76 : a1536.eval (.tmp 76) = .bool ((!decide (r1533.2 = 0)) || x1535)), -⟩ := hf1536 [9] rfl
              have hX1536 := es_ hX1534 hE1536
              have b1536_Al1 := RdO.evo rfl hE1536 b1534_Al1
              have b1536_A1379 := re_ hE1536 b1534_A1379
              have b1536_g1483 := be_ hE1536 b1534_g1483
              have b1536_g1485 := be_ hE1536 b1534_g1485
              refine fl_cond e1536_76 hs (fun c1537 hs => ?_) (fun c1537 hs => ?_)
              · refine rg0_seq 87 own1536 (bz 2) [⟨[], [], [], Fct.val 2 (.slice none 0 0)⟩,     ⟨[], [], [], Fct.val 3 (.bool false)⟩] hz1536 hd1536 (by kernel_rfl) ?_ ?_
                · refine sc (fun _ _ _ _ _ _ => px (or_assign rfl)) ?_
                  refine sc (fun _ _ _ _ _ _ => px (or_assign rfl)) ?_
                  exact steps_nil
                intro own1538 a1538 w1538 hd1538 hz1538 hk1538 hf1538 hE1538
                obtain ⟨(e1538_2 : a1538.eval (.tmp 2) = .slice none 0 0), (e1538_3 : a1538.eval (.tmp 3) = .bool false), -⟩ := hf1538 [0, 1] rfl
                have hX1538 := es_ hX1536 hE1538
                refine fl_ret ?_
                refine hp1530 _ _ _ rfl ?_
                refine hp1529 _ _ _ rfl ?_
                replace hs := hz1524 _ hs
                refine hp1524 _ _ _ rfl ?_
                refine hp1492 _ _ _ rfl ?_
                refine hp1490 _ _ _ rfl ?_
                refine hp1476 _ _ _ rfl ?_
                refine hp1475 _ _ _ rfl ?_
                replace hs := hz1468 _ hs
                refine hp1468 _ _ _ rfl ?_
                refine hp1294 _ _ _ rfl ?_
                refine hp1292 _ _ _ rfl ?_
                refine hp1291 _ _ _ rfl ?_
                replace hs := hz1286 _ hs
                refine hp1286 _ _ _ rfl ?_
                refine hp787 _ _ _ rfl ?_
                refine hp785 _ _ _ rfl ?_
                obtain rfl := osome hs
                exact hret _ _ _ _ (.inl rfl) hd1538 (results2_ rfl (RVal.tmp_ e1538_2) (RVal.tmp_ e1538_3)) ⟨own1538, (none, 0), rfl, hX1538, RwO.nil_⟩
              refine fl_skip ?_
              refine hn1530 _ _ ?_
              refine hn1529 _ _ ?_
              refine rg0 87 own1536 (bz 3) [⟨[], [9], [], Fct.val 49 (.int .i64 j1508)⟩,     ⟨[0], [], [], Fct.val 50 (.int .i64 (ad j1508 1))⟩,     ⟨[1], [], [], Fct.val 9 (.int .i64 (ad j1508 1))⟩] hz1536 hd1536 (by kernel_rfl) ?_ ?_
              · refine sc (fun _ _ _ _ s _ => px (or_move (s.1.trans e1536_9))) ?_
                refine sc (fun _ _ _ f _ _ => px (or_add f.1 rfl rfl)) ?_
                refine sc (fun _ _ _ f _ _ => px (or_assign f.1)) ?_
                exact steps_nil
              intro own1539 a1539 w1539 hd1539 hz1539 hk1539 hf1539 hE1539
              have e1539_0 := (hk1539 0 rfl).trans e1536_0
              have e1539_4 := (hk1539 4 rfl).trans e1536_4
              have e1539_5 := (hk1539 5 rfl).trans e1536_5
              have e1539_6 := (hk1539 6 rfl).trans e1536_6
              have e1539_7 := (hk1539 7 rfl).trans e1536_7
              have e1539_8 := (hk1539 8 rfl).trans e1536_8
              obtain ⟨(e1539_9 : a1539.eval (.tmp 9) = .int .i64 (ad j1508 1)), -⟩ := hf1539 [2] rfl
              have hX1539 := es_ hX1536 hE1539
              have b1539_Al1 := RdO.evo rfl hE1539 b1536_Al1
              have b1539_A1379 := re_ hE1539 b1536_A1379
              have b1539_g1483 := be_ hE1539 b1536_g1483
              have b1539_g1485 := be_ hE1539 b1536_g1485
              exact hn1524 _ _ _ hs ⟨own1539, hd1539, hz1539, e1539_0, e1539_4, e1539_5, e1539_6, e1539_7, e1539_8, e1539_9, hX1539, b1539_Al1, b1539_A1379, b1539_g1483, b1539_g1485⟩
            refine fl_exit ?_
            refine hp1526 _ _ _ rfl ?_
            replace hs := hz1524 _ hs
            refine hp1524 _ _ _ rfl ?_
            refine hx1492 _ _ ?_
            refine hn1490 _ _ ?_
            refine fl_seq (fun Q1540 hn1540 hp1540 => ?_)
            refine rg0_seq 87 own1527 [0, 0, 3] [⟨[], [7], [], Fct.val 77 (.agg #[.int .i64 x1479.1, .int .i64 x1479.2])⟩,     ⟨[], [8], [], Fct.val 78 (.agg #[.int .i64 x1482.1, .int .i64 x1482.2])⟩,     ⟨[0, 1], [], [], Fct.val 79 (.bool (decide (x1479 = x1482)))⟩] hz1527 hd1527 (by kernel_rfl) ?_ ?_
            · refine sc (fun _ _ _ _ s hE => px (or_load (l := [.int .i64 x1479.1, .int .i64 x1479.2]) ta25 (s.1.trans e1527_7) (Blk.cellsFrom (be_ hE b1527_g1483).2 0 rfl) rfl)) ?_
              refine sc (fun _ _ _ _ s hE => px (or_load (l := [.int .i64 x1482.1, .int .i64 x1482.2]) ta25 (s.1.trans e1527_8) (Blk.cellsFrom (be_ hE b1527_g1485).2 0 rfl) rfl)) ?_
              refine sc (fun _ _ _ f _ _ => px (or_eqlA sg25 f.1 f.2.1 (se25 x1479.1 x1479.2 x1482.1 x1482.2 _) rfl)) ?_
              exact steps_nil
            intro own1541 a1541 w1541 hd1541 hz1541 hk1541 hf1541 hE1541
            have e1541_0 := (hk1541 0 rfl).trans e1527_0
            have e1541_4 := (hk1541 4 rfl).trans e1527_4
            have e1541_5 := (hk1541 5 rfl).trans e1527_5
            have e1541_6 := (hk1541 6 rfl).trans e1527_6
            have e1541_7 := (hk1541 7 rfl).trans e1527_7
            have e1541_8 := (hk1541 8 rfl).trans e1527_8
            obtain ⟨(e1541_79 : a1541.eval (.tmp 79) = .bool (decide (x1479 = x1482))), -⟩ := hf1541 [2] rfl
            have hX1541 := es_ hX1527 hE1541
            have b1541_Al1 := RdO.evo rfl hE1541 b1527_Al1
            have b1541_A1379 := re_ hE1541 b1527_A1379
            have b1541_g1483 := be_ hE1541 b1527_g1483
            have b1541_g1485 := be_ hE1541 b1527_g1485
            refine fl_cond e1541_79 hs (fun c1542 hs => ?_) (fun c1542 hs => ?_)
            · refine rg0_seq 87 own1541 (bz 2) [⟨[], [], [], Fct.val 2 (.slice none 0 0)⟩,     ⟨[], [], [], Fct.val 3 (.bool false)⟩] hz1541 hd1541 (by kernel_rfl) ?_ ?_
              · refine sc (fun _ _ _ _ _ _ => px (or_assign rfl)) ?_
                refine sc (fun _ _ _ _ _ _ => px (or_assign rfl)) ?_
                exact steps_nil
              intro own1543 a1543 w1543 hd1543 hz1543 hk1543 hf1543 hE1543
              obtain ⟨(e1543_2 : a1543.eval (.tmp 2) = .slice none 0 0), (e1543_3 : a1543.eval (.tmp 3) = .bool false), -⟩ := hf1543 [0, 1] rfl
              have hX1543 := es_ hX1541 hE1543
              refine fl_ret ?_
              refine hp1540 _ _ _ rfl ?_
              refine hp1476 _ _ _ rfl ?_
              refine hp1475 _ _ _ rfl ?_
              replace hs := hz1468 _ hs
              refine hp1468 _ _ _ rfl ?_
              refine hp1294 _ _ _ rfl ?_
              refine hp1292 _ _ _ rfl ?_
              refine hp1291 _ _ _ rfl ?_
              replace hs := hz1286 _ hs
              refine hp1286 _ _ _ rfl ?_
              refine hp787 _ _ _ rfl ?_
              refine hp785 _ _ _ rfl ?_
              obtain rfl := osome hs
              exact hret _ _ _ _ (.inl rfl) hd1543 (results2_ rfl (RVal.tmp_ e1543_2) (RVal.tmp_ e1543_3)) ⟨own1543, (none, 0), rfl, hX1543, RwO.nil_⟩
            refine fl_skip ?_
            refine hn1540 _ _ ?_
            obtain ⟨x1548, hx1548, hs⟩ := obind hs
            refine rg_plain (n := 87) (rs := [Fct.rowAt 1382 [] 65 R65 A1379 c1380 out1381]) (own0 := own1541) (K := [1382]) (bs := [0, 0, 0, 6, 14, 31, 63]) (ds := [⟨[], [4], [], Fct.val 80 (.slice A1379 out1381.length c1380)⟩,     ⟨[], [7], [], Fct.val 81 (.agg #[.int .i64 x1479.1, .int .i64 x1479.2])⟩,     ⟨[], [8], [], Fct.val 82 (.agg #[.int .i64 x1482.1, .int .i64 x1482.2])⟩,     ⟨[1, 2], [], [], Fct.val 83 (.agg #[.int .i64 x1479.1, .int .i64 x1479.2, .int .i64 x1482.1, .int .i64 x1482.2])⟩,     ⟨[3], [], [], Fct.row 1547 [] 84 65 R65 [(x1479, x1482)]⟩,     ⟨[0, 4, 7], [], [1382], Fct.row 1549 [] 85 65 R65 x1548⟩,     ⟨[5], [], [], Fct.rel [4, 85] (fun l => ∀ (A1550 : Option Addr) (cA1550 : Nat), l.getD 1 undef = .slice A1550 x1548.length cA1550 → l.getD 0 undef = .slice A1550 x1548.length cA1550)⟩]) (by kernel_rfl) hz1541 hd1541 (by simp only [List.forall_mem_cons]; exact ⟨b1541_A1379, fun _ h => nomatch h⟩) ?_ ?_
            · refine sc (fun _ _ _ _ s _ => px (or_move (s.1.trans e1541_4))) ?_
              refine sc (fun _ _ _ _ s hE => px (or_load (l := [.int .i64 x1479.1, .int .i64 x1479.2]) ta25 (s.1.trans e1541_7) (Blk.cellsFrom (be_ hE b1541_g1483).2 0 rfl) rfl)) ?_
              refine sc (fun _ _ _ _ s hE => px (or_load (l := [.int .i64 x1482.1, .int .i64 x1482.2]) ta25 (s.1.trans e1541_8) (Blk.cellsFrom (be_ hE b1541_g1485).2 0 rfl) rfl)) ?_
              refine sc (fun _ _ _ f _ _ => px (or_k [(81, .agg #[.int .i64 x1479.1, .int .i64 x1479.2]), (82, .agg #[.int .i64 x1482.1, .int .i64 x1482.2])] rfl rfl ⟨f.1, f.2.1, trivial⟩ (by kernel_rfl))) ?_
              refine sc (fun _ _ _ f _ _ => px (or_lit (lab := 1547) (e := 65) (cs := #[.int .i64 x1479.1, .int .i64 x1479.2, .int .i64 x1482.1, .int .i64 x1482.2]) (F := E65) (or_new [(83, .agg #[.int .i64 x1479.1, .int .i64 x1479.2, .int .i64 x1482.1, .int .i64 x1482.2])] rfl rfl ⟨f.1, trivial⟩ (by kernel_rfl)) rfl rfl (show 1 ≤ maxLen by decide))) ?_
              refine sc (fun own a wx hf hsl hE => ?_) ?_
              · obtain ⟨f_80, ⟨⟨A1546, cA1546⟩, f_84, b_A1546⟩, b_A1379, -⟩ := hf
                exact px (or_append (R := R65) (lab := 1382) (lab2 := 1549) (L := []) (L3 := []) tp59 f_80 b_A1379 (by decide) f_84 (RwO.rd b_A1546) hx1548 (by decide) (by decide) (mem_of rfl) (.inl (Rep.fl_flat _)))
              refine sc (fun own a wx hf hsl hE => ?_) ?_
              · obtain ⟨⟨⟨A1550, cA1550⟩, (f_85 : a.eval (.tmp 85) = .slice A1550 x1548.length cA1550), b_A1550⟩, -⟩ := hf
                exact px (or_mono (f := Fct.val 4 (.slice A1550 x1548.length cA1550)) (or_assign f_85) (fun own' a' w' v' hp h => fun _ _ h0' => by cases (f_85.symm.trans ((hp.2 85 (by decide)).symm.trans h0')); exact h))
              exact steps_nil
            intro own1551 a1551 w1551 hd1551 hz1551 hk1551 hf1551 hE1551
            have e1551_0 := (hk1551 0 rfl).trans e1541_0
            have e1551_5 := (hk1551 5 rfl).trans e1541_5
            have e1551_6 := (hk1551 6 rfl).trans e1541_6
            obtain ⟨⟨⟨A1550, cA1550⟩, (f_85 : a1551.eval (.tmp 85) = .slice A1550 x1548.length cA1550), (b1551_A1550 : RwO own1551 1549 [] w1551 65 R65 A1550 cA1550 x1548)⟩, (q_4 : ∀ (A1550 : Option Addr) (cA1550 : Nat), a1551.eval (.tmp 85) = .slice A1550 x1548.length cA1550 → a1551.eval (.tmp 4) = .slice A1550 x1548.length cA1550), -⟩ := hf1551 [5, 6] rfl
            have e1551_4 := q_4 _ _ f_85
            have hX1551 := es_ hX1541 hE1551
            have b1551_Al1 := RdO.evo rfl hE1551 b1541_Al1
            refine hn1476 _ _ ?_
            refine hn1475 _ _ ?_
            refine rg0 87 own1551 (bz 3) [⟨[], [6], [], Fct.val 26 (.int .i64 k1383)⟩,     ⟨[0], [], [], Fct.val 27 (.int .i64 (ad k1383 1))⟩,     ⟨[1], [], [], Fct.val 6 (.int .i64 (ad k1383 1))⟩] hz1551 hd1551 (by kernel_rfl) ?_ ?_
            · refine sc (fun _ _ _ _ s _ => px (or_move (s.1.trans e1551_6))) ?_
              refine sc (fun _ _ _ f _ _ => px (or_add f.1 rfl rfl)) ?_
              refine sc (fun _ _ _ f _ _ => px (or_assign f.1)) ?_
              exact steps_nil
            intro own1552 a1552 w1552 hd1552 hz1552 hk1552 hf1552 hE1552
            have e1552_0 := (hk1552 0 rfl).trans e1551_0
            have e1552_4 := (hk1552 4 rfl).trans e1551_4
            have e1552_5 := (hk1552 5 rfl).trans e1551_5
            obtain ⟨(e1552_6 : a1552.eval (.tmp 6) = .int .i64 (ad k1383 1)), -⟩ := hf1552 [2] rfl
            have hX1552 := es_ hX1551 hE1552
            have b1552_Al1 := RdO.evo rfl hE1552 b1551_Al1
            have b1552_A1550 := re_ hE1552 b1551_A1550
            exact hn1468 _ _ _ hs ⟨(rl [(1549, 1382)] own1552), A1550, cA1550, hd1552, hz1552, e1552_0, e1552_4, e1552_5, e1552_6, (Evo.rl_ hX1552 (fun _ => Nat.le_refl 0) rfl), (RdO.rl_ (mm := [(1549, 1382)]) b1552_Al1), (RwO.rl_ (mm := [(1549, 1382)]) b1552_A1550)⟩
        refine fl_exit ?_
        refine hp1470 _ _ _ rfl ?_
        replace hs := hz1468 _ hs
        refine hp1468 _ _ _ rfl ?_
        refine hx1294 _ _ ?_
        refine hn1292 _ _ ?_
        refine hn1291 _ _ ?_
        refine rg0 87 own1473 (bz 3) [⟨[], [5], [], Fct.val 16 (.int .i64 i1018)⟩,     ⟨[0], [], [], Fct.val 17 (.int .i64 (ad i1018 1))⟩,     ⟨[1], [], [], Fct.val 5 (.int .i64 (ad i1018 1))⟩] hz1473 hd1473 (by kernel_rfl) ?_ ?_
        · refine sc (fun _ _ _ _ s _ => px (or_move (s.1.trans e1473_5))) ?_
          refine sc (fun _ _ _ f _ _ => px (or_add f.1 rfl rfl)) ?_
          refine sc (fun _ _ _ f _ _ => px (or_assign f.1)) ?_
          exact steps_nil
        intro own1553 a1553 w1553 hd1553 hz1553 hk1553 hf1553 hE1553
        have e1553_0 := (hk1553 0 rfl).trans e1473_0
        have e1553_4 := (hk1553 4 rfl).trans e1473_4
        obtain ⟨(e1553_5 : a1553.eval (.tmp 5) = .int .i64 (ad i1018 1)), -⟩ := hf1553 [2] rfl
        have hX1553 := es_ hX1473 hE1553
        have b1553_Al1 := RdO.evo rfl hE1553 b1473_Al1
        have b1553_A1379 := re_ hE1553 b1473_A1379
        exact hn1286 _ _ _ hs ⟨(rl [(1382, 1017)] own1553), A1379, c1380, hd1553, hz1553, e1553_0, e1553_4, e1553_5, (Evo.rl_ hX1553 (fun _ => Nat.le_refl 0) rfl), (RdO.rl_ (mm := [(1382, 1017)]) b1553_Al1), (RwO.rl_ (mm := [(1382, 1017)]) b1553_A1379)⟩
    refine fl_exit ?_
    refine hp1288 _ _ _ rfl ?_
    replace hs := hz1286 _ hs
    refine hp1286 _ _ _ rfl ?_
    refine hx787 _ _ ?_
    refine hn785 _ _ ?_
    refine rg0_seq 87 own1289 (bz 3) [⟨[], [4], [], Fct.val 86 (.slice A1014 out1016.length c1015)⟩,     ⟨[0], [], [], Fct.val 2 (.slice A1014 out1016.length c1015)⟩,     ⟨[], [], [], Fct.val 3 (.bool true)⟩] hz1289 hd1289 (by kernel_rfl) ?_ ?_
    · refine sc (fun _ _ _ _ s _ => px (or_move (s.1.trans e1289_4))) ?_
      refine sc (fun _ _ _ f _ _ => px (or_assign f.1)) ?_
      refine sc (fun _ _ _ _ _ _ => px (or_assign rfl)) ?_
      exact steps_nil
    intro own1554 a1554 w1554 hd1554 hz1554 hk1554 hf1554 hE1554
    obtain ⟨(e1554_2 : a1554.eval (.tmp 2) = .slice A1014 out1016.length c1015), (e1554_3 : a1554.eval (.tmp 3) = .bool true), -⟩ := hf1554 [1, 2] rfl
    have hX1554 := es_ hX1289 hE1554
    have b1554_A1014 := re_ hE1554 b1289_A1014
    refine fl_ret ?_
    obtain rfl := osome hs
    exact hret _ _ _ _ (.inl rfl) hd1554 (results2_ rfl (RVal.tmp_ e1554_2) (RVal.tmp_ e1554_3)) ⟨(rl [(1017, 1)] own1554), (A1014, c1015), rfl, (Evo.rl_ hX1554 (fun _ => Nat.le_refl 0) rfl), (RwO.rl_ (mm := [(1017, 1)]) b1554_A1014)⟩
set_option maxHeartbeats 2000000 in
theorem law18_GuardKeeps_w (w : World) (l1 : List ((List (Int × Int)) × Int × Int)) (Al1 : Option Addr) (cl1 : Nat) (arc2 : Int) (place3 : Int) (hl1 : RdO (fun _ => 0) [0] w R63 Al1 cl1 l1) (r : Bool) (hs : law18_GuardKeeps l1 arc2 place3 = some r) :
    Calls Try.prog 6 #[.slice Al1 l1.length cl1, .int .i64 arc2, .int .i64 place3] w fun e w' => ∃ own' : Own, e = .returned (.bool r) ∧ Evo [] (fun _ => 0) own' w w' := by
  refine fl_enter (n := 186) rfl rfl rfl (Nat.le_of_ble_eq_true rfl) ?_
  intro a0 Q hd0 hz0 harg hret
  have ha0 := harg 0 _ rfl
  have ha1 := harg 1 _ rfl
  have ha2 := harg 2 _ rfl
  clear harg
  have hE0 : Evo [] (fun _ => 0) (fun _ => 0) w w := Evo.refl _ _ _
  refine rg0_seq 186 (fun _ => 0) (bz 1) [⟨[], [], [], Fct.val 6 (.bool false)⟩] hz0 hd0 (by kernel_rfl) ?_ ?_
  · refine sc (fun _ _ _ _ _ _ => px (or_assign rfl)) ?_
    exact steps_nil
  intro own439 a439 w439 hd439 hz439 hk439 hf439 hE439
  have e439_0 := (hk439 0 rfl).trans ha0
  have e439_1 := (hk439 1 rfl).trans ha1
  have e439_2 := (hk439 2 rfl).trans ha2
  have hX439 := es_ hE0 hE439
  have b439_Al1 := RdO.evo rfl hE439 hl1
  obtain ⟨r440, hr440, hs⟩ := obind hs
  refine rg0_seq 186 own439 (bz 3) [⟨[], [0], [], Fct.val 20 (.slice Al1 l1.length cl1)⟩,     ⟨[0], [], [], Fct.mems [442, 443, 444, 0] 21 (fun (x : Option Addr × Nat) => .slice x.1 r440.length x.2) (fun (x : Option Addr × Nat) own w => RwO own 442 [443, 444, 0] w 63 R63 x.1 x.2 r440) (fun hk he h => RwO.evo (hits_sub hk (by decide)) he h)⟩,     ⟨[1], [], [], Fct.rel [0, 21] (fun l => ∀ (A441 : Option Addr) (cA441 : Nat), l.getD 1 undef = .slice A441 r440.length cA441 → l.getD 0 undef = .slice A441 r440.length cA441)⟩] hz439 hd439 (by kernel_rfl) ?_ ?_
  · refine sc (fun _ _ _ _ s _ => px (or_move (s.1.trans e439_0))) ?_
    refine sc (fun own _ _ f _ hE => px (or_call cf9 (args1 f.1) (law14_Cut_w _ (forth own (inL [0])) l1 Al1 cl1 inL_le (RdO.alias_ (La := [0]) (RdO.evo rfl hE b439_Al1) (by decide)) r440 hr440) (post_alias (La := [0]) (m' := (look0 [(1, 443), (2, 442), (3, 444)])) (fun own' w' a' x ho hsz h1 h => ⟨x, h1, RwO.backM_ ho h (by decide) (by decide) (by decide) (by decide)⟩)))) ?_
    refine sc (fun own a wx hf hsl hE => ?_) ?_
    · obtain ⟨⟨⟨A441, cA441⟩, (f_21 : a.eval (.tmp 21) = .slice A441 r440.length cA441), b_A441⟩, -⟩ := hf
      exact px (or_mono (f := Fct.val 0 (.slice A441 r440.length cA441)) (or_assign f_21) (fun own' a' w' v' hp h => fun _ _ h0' => by cases (f_21.symm.trans ((hp.2 21 (by decide)).symm.trans h0')); exact h))
    exact steps_nil
  intro own445 a445 w445 hd445 hz445 hk445 hf445 hE445
  have e445_1 := (hk445 1 rfl).trans e439_1
  have e445_2 := (hk445 2 rfl).trans e439_2
  obtain ⟨⟨⟨A441, cA441⟩, (f_21 : a445.eval (.tmp 21) = .slice A441 r440.length cA441), (b445_A441 : RwO own445 442 [443, 444, 0] w445 63 R63 A441 cA441 r440)⟩, (q_0 : ∀ (A441 : Option Addr) (cA441 : Nat), a445.eval (.tmp 21) = .slice A441 r440.length cA441 → a445.eval (.tmp 0) = .slice A441 r440.length cA441), -⟩ := hf445 [1, 2] rfl
  have e445_0 := q_0 _ _ f_21
  have hX445 := es_ hX439 hE445
  obtain ⟨r446, hr446, hs⟩ := obind hs
  refine rg0_seq 186 own445 [0, 1, 3, 7, 7, 15, 63] [⟨[], [0], [], Fct.val 23 (.slice A441 r440.length cA441)⟩,     ⟨[0], [], [], Fct.mems [448] 24 (fun (x : Option Addr × Nat) => .tuple #[.slice x.1 r446.1.length x.2, .bool r446.2]) (fun (x : Option Addr × Nat) own w => RwO own 448 [] w 65 R65 x.1 x.2 r446.1) (fun hk he h => RwO.evo (hits_sub hk (by decide)) he h)⟩,     ⟨[1], [], [], Fct.rel [22, 24] (fun l => ∀ (A447 : Option Addr) (cA447 : Nat), l.getD 1 undef = .tuple #[.slice A447 r446.1.length cA447, .bool r446.2] → l.getD 0 undef = .tuple #[.slice A447 r446.1.length cA447, .bool r446.2])⟩,     ⟨[2, 1], [], [], Fct.rel [25, 24] (fun l => ∀ (A447 : Option Addr) (cA447 : Nat), l.getD 1 undef = .tuple #[.slice A447 r446.1.length cA447, .bool r446.2] → l.getD 0 undef = .slice A447 r446.1.length cA447)⟩,     ⟨[2, 1], [], [], Fct.val 26 (.bool r446.2)⟩,     ⟨[3, 1], [], [], Fct.rel [7, 24] (fun l => ∀ (A447 : Option Addr) (cA447 : Nat), l.getD 1 undef = .tuple #[.slice A447 r446.1.length cA447, .bool r446.2] → l.getD 0 undef = .slice A447 r446.1.length cA447)⟩,     ⟨[4], [], [], Fct.val 8 (.bool r446.2)⟩] hz445 hd445 (by kernel_rfl) ?_ ?_
  · refine sc (fun _ _ _ _ s _ => px (or_move (s.1.trans e445_0))) ?_
    refine sc (fun _ _ _ f _ hE => px (or_call cf26 (args1 f.1) (law18_plain_w _ r440 A441 cA441 (RdO.zero (RwO.rd (re_ hE b445_A441))) r446 hr446) (post_mems (m := (fun _ => 0)) (m' := (look0 [(1, 448)])) (fun _ _ => .inl rfl) (fun own' w' a' x h1 h => ⟨x, h1, RwO.back_ h (by decide) (.inl (Rep.fl_flat _))⟩)))) ?_
    refine sc (fun own a wx hf hsl hE => ?_) ?_
    · obtain ⟨⟨⟨A447, cA447⟩, (f_24 : a.eval (.tmp 24) = .tuple #[.slice A447 r446.1.length cA447, .bool r446.2]), b_A447⟩, -⟩ := hf
      exact px (or_mono (f := Fct.val 22 (.tuple #[.slice A447 r446.1.length cA447, .bool r446.2])) (or_move f_24) (fun own' a' w' v' hp h => fun _ _ h0' => by cases (f_24.symm.trans ((hp.2 24 (by decide)).symm.trans h0')); exact h))
    refine sc (fun own a wx hf hsl hE => ?_) ?_
    · obtain ⟨(q_22 : ∀ (A447 : Option Addr) (cA447 : Nat), a.eval (.tmp 24) = .tuple #[.slice A447 r446.1.length cA447, .bool r446.2] → a.eval (.tmp 22) = .tuple #[.slice A447 r446.1.length cA447, .bool r446.2]), ⟨⟨A447, cA447⟩, (f_24 : a.eval (.tmp 24) = .tuple #[.slice A447 r446.1.length cA447, .bool r446.2]), b_A447⟩, -⟩ := hf
      have f_22 := q_22 _ _ f_24
      exact px (or_mono (f := Fct.val 25 (.slice A447 r446.1.length cA447)) (or_k [(22, .tuple #[.slice A447 r446.1.length cA447, .bool r446.2])] rfl rfl ⟨f_22, trivial⟩ (by kernel_rfl)) (fun own' a' w' v' hp h => fun _ _ h0' => by cases (f_24.symm.trans ((hp.2 24 (by decide)).symm.trans h0')); exact h))
    refine sc (fun own a wx hf hsl hE => ?_) ?_
    · obtain ⟨(q_22 : ∀ (A447 : Option Addr) (cA447 : Nat), a.eval (.tmp 24) = .tuple #[.slice A447 r446.1.length cA447, .bool r446.2] → a.eval (.tmp 22) = .tuple #[.slice A447 r446.1.length cA447, .bool r446.2]), ⟨⟨A447, cA447⟩, f_24, b_A447⟩, -⟩ := hf
      have f_22 := q_22 _ _ f_24
      exact px (or_k [(22, .tuple #[.slice A447 r446.1.length cA447, .bool r446.2])] rfl rfl ⟨f_22, trivial⟩ (by kernel_rfl))
    refine sc (fun own a wx hf hsl hE => ?_) ?_
    · obtain ⟨(q_25 : ∀ (A447 : Option Addr) (cA447 : Nat), a.eval (.tmp 24) = .tuple #[.slice A447 r446.1.length cA447, .bool r446.2] → a.eval (.tmp 25) = .slice A447 r446.1.length cA447), ⟨⟨A447, cA447⟩, (f_24 : a.eval (.tmp 24) = .tuple #[.slice A447 r446.1.length cA447, .bool r446.2]), b_A447⟩, -⟩ := hf
      have f_25 := q_25 _ _ f_24
      exact px (or_mono (f := Fct.val 7 (.slice A447 r446.1.length cA447)) (or_assign f_25) (fun own' a' w' v' hp h => fun _ _ h0' => by cases (f_24.symm.trans ((hp.2 24 (by decide)).symm.trans h0')); exact h))
    refine sc (fun _ _ _ f _ _ => px (or_assign f.1)) ?_
    exact steps_nil
  intro own449 a449 w449 hd449 hz449 hk449 hf449 hE449
  have e449_0 := (hk449 0 rfl).trans e445_0
  have e449_1 := (hk449 1 rfl).trans e445_1
  have e449_2 := (hk449 2 rfl).trans e445_2
  obtain ⟨⟨⟨A447, cA447⟩, (f_24 : a449.eval (.tmp 24) = .tuple #[.slice A447 r446.1.length cA447, .bool r446.2]), (b449_A447 : RwO own449 448 [] w449 65 R65 A447 cA447 r446.1)⟩, (q_7 : ∀ (A447 : Option Addr) (cA447 : Nat), a449.eval (.tmp 24) = .tuple #[.slice A447 r446.1.length cA447, .bool r446.2] → a449.eval (.tmp 7) = .slice A447 r446.1.length cA447), (e449_8 : a449.eval (.tmp 8) = .bool r446.2), -⟩ := hf449 [1, 5, 6] rfl
  have e449_7 := q_7 _ _ f_24
  have hX449 := es_ hX445 hE449
  have b449_A441 := re_ hE449 b445_A441
  refine fl_seq (fun Q450 hn450 hp450 => ?_)
  obtain ⟨x451, hx451, hs⟩ := obind hs
  refine rg0_seq 186 own449 (bz 7) [⟨[], [8], [], Fct.val 27 (.bool r446.2)⟩,     ⟨[0], [], [], Fct.val 28 (.bool (!r446.2))⟩,     ⟨[1], [], [], Fct.val 29 (.bool (!r446.2))⟩,     ⟨[2], [0], [], Fct.cond (!(!r446.2)) (some 30) (Fct.val 30 (.slice A441 r440.length cA441))⟩,     ⟨[2, 3], [], [], Fct.cond (!(!r446.2)) (some 31) (Fct.val 31 (.int .i64 (r440.length : Int)))⟩,     ⟨[2, 4], [], [], Fct.cond (!(!r446.2)) (some 32) (Fct.val 32 (.bool (decide ((r440.length : Int) = 0))))⟩,     ⟨[2, 5], [], [], Fct.val 33 (.bool x451)⟩] hz449 hd449 (by kernel_rfl) ?_ ?_
  · refine sc (fun _ _ _ _ s _ => px (or_move (s.1.trans e449_8))) ?_
    refine sc (fun _ _ _ f _ _ => px (or_not f.1 rfl)) ?_
    refine sc (fun _ _ _ f _ _ => px (or_move f.1)) ?_
    refine sc (fun _ _ _ f s _ => sg_f rfl rfl rfl f.1 (fun hg => or_move (s.1.trans e449_0))) ?_
    refine sc (fun _ _ _ f _ _ => sg_f rfl rfl rfl f.1 (fun hg => or_len tu23 (f.2.1.1 hg) rfl)) ?_
    refine sc (fun _ _ _ f _ _ => sg_f rfl rfl rfl f.1 (fun hg => or_eql (f.2.1.1 hg) rfl rfl)) ?_
    refine sc (fun _ _ _ f _ _ => px (or_or f.1 rfl (fun hx => f.2.1.1 hx) (osome hx451).symm)) ?_
    exact steps_nil
  intro own452 a452 w452 hd452 hz452 hk452 hf452 hE452
  have e452_0 := (hk452 0 rfl).trans e449_0
  have e452_1 := (hk452 1 rfl).trans e449_1
  have e452_2 := (hk452 2 rfl).trans e449_2
  have e452_7 := (hk452 7 rfl).trans e449_7
  obtain ⟨(e452_33 : a452.eval (.tmp 33) = .bool x451), -⟩ := hf452 [6] rfl
  have hX452 := es_ hX449 hE452
  have b452_A441 := re_ hE452 b449_A441
  have b452_A447 := re_ hE452 b449_A447
  refine fl_cond e452_33 hs (fun c453 hs => ?_) (fun c453 hs => ?_)
  · obtain ⟨r454, hr454, hs⟩ := obind hs
    refine rg0_seq 186 own452 (bz 2) [⟨[], [], [], Fct.val 34 (.bool r454)⟩,     ⟨[0], [], [], Fct.val 6 (.bool r454)⟩] hz452 hd452 (by kernel_rfl) ?_ ?_
    · refine sc (fun _ _ _ _ _ _ => px (or_call cf11 (args0) (law18_known_w _   r454 hr454) post_val)) ?_
      refine sc (fun _ _ _ f _ _ => px (or_assign f.1)) ?_
      exact steps_nil
    intro own455 a455 w455 hd455 hz455 hk455 hf455 hE455
    obtain ⟨(e455_6 : a455.eval (.tmp 6) = .bool r454), -⟩ := hf455 [1] rfl
    have hX455 := es_ hX452 hE455
    refine fl_ret ?_
    refine hp450 _ _ _ rfl ?_
    obtain rfl := (osome hs).symm
    exact hret _ _ _ _ (.inl rfl) hd455 (results1_ rfl (RVal.tmp_ e455_6)) ⟨own455, rfl, hX455⟩
  refine fl_skip ?_
  refine hn450 _ _ ?_
  obtain ⟨x456, hx456, hs⟩ := obind hs
  obtain ⟨x457, hx457, hs⟩ := obind hs
  refine rg0_seq 186 own452 [0, 0, 2, 0, 8, 24, 62, 126, 255, 511, 1023, 2047] [⟨[], [0], [], Fct.val 35 (.slice A441 r440.length cA441)⟩,     ⟨[], [1], [], Fct.val 36 (.int .i64 arc2)⟩,     ⟨[1], [], [], Fct.val 37 (.int .u64 (IntKind.u64.wrap arc2))⟩,     ⟨[], [0], [], Fct.val 38 (.slice A441 r440.length cA441)⟩,     ⟨[3], [], [], Fct.val 39 (.int .i64 (r440.length : Int))⟩,     ⟨[4], [], [], Fct.val 40 (.int .u64 (IntKind.u64.wrap (r440.length : Int)))⟩,     ⟨[2, 5], [], [], Fct.val 41 (.int .u64 x456)⟩,     ⟨[6], [], [], Fct.val 42 (.int .i64 (IntKind.i64.wrap x456))⟩,     ⟨[0, 7], [], [], Fct.val 43 (.pointer (some ((adr A441).add ((IntKind.i64.wrap x456 : Int).toNat * R63.s))))⟩,     ⟨[8], [], [], Fct.val 44 (.pointer (some ((adr A441).add ((IntKind.i64.wrap x456 : Int).toNat * R63.s))))⟩,     ⟨[9], [], [], Fct.nest X63 [442, 443, 444, 0] 45 (fun (y : ((Option Addr × Nat) × Unit × Unit)) => .slice y.1.1 x457.1.length y.1.2) x457⟩,     ⟨[10], [], [], Fct.rel [9, 45] (fun l => ∀ (A458 : Option Addr) (cA458 : Nat), l.getD 1 undef = .slice A458 x457.1.length cA458 → l.getD 0 undef = .slice A458 x457.1.length cA458)⟩] hz452 hd452 (by kernel_rfl) ?_ ?_
  · refine sc (fun _ _ _ _ s _ => px (or_move (s.1.trans e452_0))) ?_
    refine sc (fun _ _ _ _ s _ => px (or_move (s.1.trans e452_1))) ?_
    refine sc (fun _ _ _ f _ _ => px (or_conv f.1 tn3 tn64 rfl)) ?_
    refine sc (fun _ _ _ _ s _ => px (or_move (s.1.trans e452_0))) ?_
    refine sc (fun _ _ _ f _ _ => px (or_len tu23 f.1 rfl)) ?_
    refine sc (fun _ _ _ f _ _ => px (or_conv f.1 tn3 tn64 rfl)) ?_
    refine sc (fun _ _ _ f _ _ => px (or_rem f.1 f.2.1 hx456)) ?_
    refine sc (fun _ _ _ f _ _ => px (or_conv f.1 tn64 tn3 rfl)) ?_
    refine sc (fun _ _ _ f _ _ => px (or_index (R := R63) (l := r440) tl23 f.1 f.2.1 (RdO.some_ (RwO.rd b452_A441) hx457) hx457)) ?_
    refine sc (fun _ _ _ f _ _ => px (or_field fo63_0 f.1 (Addr.add_zero' _))) ?_
    refine sc (fun _ _ _ f _ hE => px (or_loadN1 X63 0 to55 f.1 (Addr.add_zero' _).symm (RwO.rd (re_ hE b452_A441)) hx457 (fun _ => rfl))) ?_
    refine sc (fun own a wx hf hsl hE => ?_) ?_
    · obtain ⟨⟨⟨⟨A458, cA458⟩, _, _⟩, (f_45 : a.eval (.tmp 45) = .slice A458 x457.1.length cA458), ⟨b_A458, -, -⟩⟩, -⟩ := hf
      exact px (or_mono (f := Fct.val 9 (.slice A458 x457.1.length cA458)) (or_assign f_45) (fun own' a' w' v' hp h => fun _ _ h0' => by cases (f_45.symm.trans ((hp.2 45 (by decide)).symm.trans h0')); exact h))
    exact steps_nil
  intro own459 a459 w459 hd459 hz459 hk459 hf459 hE459
  have e459_0 := (hk459 0 rfl).trans e452_0
  have e459_2 := (hk459 2 rfl).trans e452_2
  have e459_7 := (hk459 7 rfl).trans e452_7
  obtain ⟨⟨⟨⟨A458, cA458⟩, _, _⟩, (f_45 : a459.eval (.tmp 45) = .slice A458 x457.1.length cA458), ⟨(b459_A458 : RdO own459 [442, 443, 444, 0] w459 R25 A458 cA458 x457.1), -, -⟩⟩, (q_9 : ∀ (A458 : Option Addr) (cA458 : Nat), a459.eval (.tmp 45) = .slice A458 x457.1.length cA458 → a459.eval (.tmp 9) = .slice A458 x457.1.length cA458), -⟩ := hf459 [10, 11] rfl
  have e459_9 := q_9 _ _ f_45
  have hX459 := es_ hX452 hE459
  have b459_A441 := re_ hE459 b452_A441
  have b459_A447 := re_ hE459 b452_A447
  refine fl_seq (fun Q460 hn460 hp460 => ?_)
  refine rg0_seq 186 own459 (bz 3) [⟨[], [9], [], Fct.val 46 (.slice A458 x457.1.length cA458)⟩,     ⟨[0], [], [], Fct.val 47 (.int .i64 (x457.1.length : Int))⟩,     ⟨[1], [], [], Fct.val 48 (.bool (decide ((x457.1.length : Int) < 3)))⟩] hz459 hd459 (by kernel_rfl) ?_ ?_
  · refine sc (fun _ _ _ _ s _ => px (or_move (s.1.trans e459_9))) ?_
    refine sc (fun _ _ _ f _ _ => px (or_len tu55 f.1 rfl)) ?_
    refine sc (fun _ _ _ f _ _ => px (or_lss f.1 rfl rfl)) ?_
    exact steps_nil
  intro own461 a461 w461 hd461 hz461 hk461 hf461 hE461
  have e461_0 := (hk461 0 rfl).trans e459_0
  have e461_2 := (hk461 2 rfl).trans e459_2
  have e461_7 := (hk461 7 rfl).trans e459_7
  have e461_9 := (hk461 9 rfl).trans e459_9
  obtain ⟨(e461_48 : a461.eval (.tmp 48) = .bool (decide ((x457.1.length : Int) < 3))), -⟩ := hf461 [2] rfl
  have hX461 := es_ hX459 hE461
  have b461_A441 := re_ hE461 b459_A441
  have b461_A447 := re_ hE461 b459_A447
  have b461_A458 := RdO.evo rfl hE461 b459_A458
  refine fl_cond e461_48 hs (fun c462 hs => ?_) (fun c462 hs => ?_)
  · obtain ⟨r463, hr463, hs⟩ := obind hs
    refine rg0_seq 186 own461 (bz 2) [⟨[], [], [], Fct.val 49 (.bool r463)⟩,     ⟨[0], [], [], Fct.val 6 (.bool r463)⟩] hz461 hd461 (by kernel_rfl) ?_ ?_
    · refine sc (fun _ _ _ _ _ _ => px (or_call cf11 (args0) (law18_known_w _   r463 hr463) post_val)) ?_
      refine sc (fun _ _ _ f _ _ => px (or_assign f.1)) ?_
      exact steps_nil
    intro own464 a464 w464 hd464 hz464 hk464 hf464 hE464
    obtain ⟨(e464_6 : a464.eval (.tmp 6) = .bool r463), -⟩ := hf464 [1] rfl
    have hX464 := es_ hX461 hE464
    refine fl_ret ?_
    refine hp460 _ _ _ rfl ?_
    obtain rfl := (osome hs).symm
    exact hret _ _ _ _ (.inl rfl) hd464 (results1_ rfl (RVal.tmp_ e464_6)) ⟨own464, rfl, hX464⟩
  refine fl_skip ?_
  refine hn460 _ _ ?_
  obtain ⟨x465, hx465, hs⟩ := obind hs
  obtain ⟨x466, hx466, hs⟩ := obind hs
  refine rg0_seq 186 own461 [0, 1, 0, 4, 12, 28, 63, 127, 255, 511] [⟨[], [2], [], Fct.val 50 (.int .i64 place3)⟩,     ⟨[0], [], [], Fct.val 51 (.int .u64 (IntKind.u64.wrap place3))⟩,     ⟨[], [9], [], Fct.val 52 (.slice A458 x457.1.length cA458)⟩,     ⟨[2], [], [], Fct.val 53 (.int .i64 (x457.1.length : Int))⟩,     ⟨[3], [], [], Fct.val 54 (.int .i64 (sb (x457.1.length : Int) 2))⟩,     ⟨[4], [], [], Fct.val 55 (.int .u64 x465)⟩,     ⟨[1, 5], [], [], Fct.val 56 (.int .u64 x466)⟩,     ⟨[6], [], [], Fct.val 57 (.int .i64 (IntKind.i64.wrap x466))⟩,     ⟨[7], [], [], Fct.val 58 (.int .i64 (ad 1 (IntKind.i64.wrap x466)))⟩,     ⟨[8], [], [], Fct.val 10 (.int .i64 (ad 1 (IntKind.i64.wrap x466)))⟩] hz461 hd461 (by kernel_rfl) ?_ ?_
  · refine sc (fun _ _ _ _ s _ => px (or_move (s.1.trans e461_2))) ?_
    refine sc (fun _ _ _ f _ _ => px (or_conv f.1 tn3 tn64 rfl)) ?_
    refine sc (fun _ _ _ _ s _ => px (or_move (s.1.trans e461_9))) ?_
    refine sc (fun _ _ _ f _ _ => px (or_len tu55 f.1 rfl)) ?_
    refine sc (fun _ _ _ f _ _ => px (or_sub f.1 rfl rfl)) ?_
    refine sc (fun _ _ _ f _ _ => px (or_conv f.1 tn3 tn64 (osome hx465).symm)) ?_
    refine sc (fun _ _ _ f _ _ => px (or_rem f.1 f.2.1 hx466)) ?_
    refine sc (fun _ _ _ f _ _ => px (or_conv f.1 tn64 tn3 rfl)) ?_
    refine sc (fun _ _ _ f _ _ => px (or_add rfl f.1 rfl)) ?_
    refine sc (fun _ _ _ f _ _ => px (or_assign f.1)) ?_
    exact steps_nil
  intro own467 a467 w467 hd467 hz467 hk467 hf467 hE467
  have e467_0 := (hk467 0 rfl).trans e461_0
  have e467_7 := (hk467 7 rfl).trans e461_7
  have e467_9 := (hk467 9 rfl).trans e461_9
  obtain ⟨(e467_10 : a467.eval (.tmp 10) = .int .i64 (ad 1 (IntKind.i64.wrap x466))), -⟩ := hf467 [9] rfl
  have hX467 := es_ hX461 hE467
  have b467_A441 := re_ hE467 b461_A441
  have b467_A447 := re_ hE467 b461_A447
  have b467_A458 := RdO.evo rfl hE467 b461_A458
  obtain ⟨x468, hx468, hs⟩ := obind hs
  obtain ⟨x469, hx469, hs⟩ := obind hs
  obtain ⟨x470, hx470, hs⟩ := obind hs
  refine rg_draw_seq g_mixed (n := 186) (rs := []) (own0 := own467) (K := [472, 474, 476]) (bs := [0, 0, 2, 7, 15, 0, 0, 96, 224, 0, 0, 1024, 3584, 7680, 0, 0, 0, 114719, 246271, 524287]) (ds := [⟨[], [9], [], Fct.val 59 (.slice A458 x457.1.length cA458)⟩,     ⟨[], [10], [], Fct.val 60 (.int .i64 (ad 1 (IntKind.i64.wrap x466)))⟩,     ⟨[1], [], [], Fct.val 61 (.int .i64 (sb (ad 1 (IntKind.i64.wrap x466)) 1))⟩,     ⟨[0, 2], [], [], Fct.val 62 (.pointer (some ((adr A458).add ((sb (ad 1 (IntKind.i64.wrap x466)) 1 : Int).toNat * R25.s))))⟩,     ⟨[3], [], [], Fct.val 63 (.agg #[.int .i64 x468.1, .int .i64 x468.2])⟩,     ⟨[], [9], [], Fct.val 64 (.slice A458 x457.1.length cA458)⟩,     ⟨[], [10], [], Fct.val 65 (.int .i64 (ad 1 (IntKind.i64.wrap x466)))⟩,     ⟨[5, 6], [], [], Fct.val 66 (.pointer (some ((adr A458).add ((ad 1 (IntKind.i64.wrap x466) : Int).toNat * R25.s))))⟩,     ⟨[7], [], [], Fct.val 67 (.agg #[.int .i64 x469.1, .int .i64 x469.2])⟩,     ⟨[], [9], [], Fct.val 68 (.slice A458 x457.1.length cA458)⟩,     ⟨[], [10], [], Fct.val 69 (.int .i64 (ad 1 (IntKind.i64.wrap x466)))⟩,     ⟨[10], [], [], Fct.val 70 (.int .i64 (ad (ad 1 (IntKind.i64.wrap x466)) 1))⟩,     ⟨[9, 11], [], [], Fct.val 71 (.pointer (some ((adr A458).add ((ad (ad 1 (IntKind.i64.wrap x466)) 1 : Int).toNat * R25.s))))⟩,     ⟨[12], [], [], Fct.val 72 (.agg #[.int .i64 x470.1, .int .i64 x470.2])⟩,     ⟨[], [], [], Fct.blk 472 11 (fun g => .pointer (some ⟨g, 0, none⟩)) 25 #[.int .i64 0, .int .i64 0]⟩,     ⟨[], [], [], Fct.blk 474 12 (fun g => .pointer (some ⟨g, 0, none⟩)) 25 #[.int .i64 0, .int .i64 0]⟩,     ⟨[], [], [], Fct.blk 476 13 (fun g => .pointer (some ⟨g, 0, none⟩)) 25 #[.int .i64 0, .int .i64 0]⟩,     ⟨[14, 4], [], [472], Fct.blk 477 11 (fun g => .pointer (some ⟨g, 0, none⟩)) 25 #[.int .i64 x468.1, .int .i64 x468.2]⟩,     ⟨[15, 8], [], [474], Fct.blk 478 12 (fun g => .pointer (some ⟨g, 0, none⟩)) 25 #[.int .i64 x469.1, .int .i64 x469.2]⟩,     ⟨[16, 13], [], [476], Fct.blk 479 13 (fun g => .pointer (some ⟨g, 0, none⟩)) 25 #[.int .i64 x470.1, .int .i64 x470.2]⟩]) (by kernel_rfl) hz467 hd467 nm_ ?_ ?_
  · refine sc (fun _ _ _ _ s _ => px (or_move (s.1.trans e467_9))) ?_
    refine sc (fun _ _ _ _ s _ => px (or_move (s.1.trans e467_10))) ?_
    refine sc (fun _ _ _ f _ _ => px (or_sub f.1 rfl rfl)) ?_
    refine sc (fun _ _ _ f _ _ => px (or_index (R := R25) (l := x457.1) tl55 f.1 f.2.1 (RdO.some_ b467_A458 hx468) hx468)) ?_
    refine sc (fun _ _ _ f _ hE => px (or_load (l := E25.f x468) ta25 f.1 (RdO.cells (F := E25) (RdO.evo rfl hE b467_A458) hx468) rfl)) ?_
    refine sc (fun _ _ _ _ s _ => px (or_move (s.1.trans e467_9))) ?_
    refine sc (fun _ _ _ _ s _ => px (or_move (s.1.trans e467_10))) ?_
    refine sc (fun _ _ _ f _ _ => px (or_index (R := R25) (l := x457.1) tl55 f.1 f.2.1 (RdO.some_ b467_A458 hx469) hx469)) ?_
    refine sc (fun _ _ _ f _ hE => px (or_load (l := E25.f x469) ta25 f.1 (RdO.cells (F := E25) (RdO.evo rfl hE b467_A458) hx469) rfl)) ?_
    refine sc (fun _ _ _ _ s _ => px (or_move (s.1.trans e467_9))) ?_
    refine sc (fun _ _ _ _ s _ => px (or_move (s.1.trans e467_10))) ?_
    refine sc (fun _ _ _ f _ _ => px (or_add f.1 rfl rfl)) ?_
    refine sc (fun _ _ _ f _ _ => px (or_index (R := R25) (l := x457.1) tl55 f.1 f.2.1 (RdO.some_ b467_A458 hx470) hx470)) ?_
    refine sc (fun _ _ _ f _ hE => px (or_load (l := E25.f x470) ta25 f.1 (RdO.cells (F := E25) (RdO.evo rfl hE b467_A458) hx470) rfl)) ?_
    refine sc (fun _ _ _ _ _ _ => px (or_new [] rfl rfl trivial (by kernel_rfl))) ?_
    refine sc (fun _ _ _ _ _ _ => px (or_new [] rfl rfl trivial (by kernel_rfl))) ?_
    refine sc (fun _ _ _ _ _ _ => px (or_new [] rfl rfl trivial (by kernel_rfl))) ?_
    refine sc (fun own a wx hf hsl hE => ?_) ?_
    · obtain ⟨⟨g471, f_11, b_g471⟩, f_63, -⟩ := hf
      exact px (or_store (l := #[.int .i64 x468.1, .int .i64 x468.2]) (lab := 472) (lab2 := 477) ts25 f_11 f_63 b_g471 (by simp) (by kernel_rfl) (mem_of rfl) (by decide) (by kernel_rfl) (fun own' a' w' ha hb => ⟨_, (ha 11).trans f_11, hb⟩))
    refine sc (fun own a wx hf hsl hE => ?_) ?_
    · obtain ⟨⟨g473, f_12, b_g473⟩, f_67, -⟩ := hf
      exact px (or_store (l := #[.int .i64 x469.1, .int .i64 x469.2]) (lab := 474) (lab2 := 478) ts25 f_12 f_67 b_g473 (by simp) (by kernel_rfl) (mem_of rfl) (by decide) (by kernel_rfl) (fun own' a' w' ha hb => ⟨_, (ha 12).trans f_12, hb⟩))
    refine sc (fun own a wx hf hsl hE => ?_) ?_
    · obtain ⟨⟨g475, f_13, b_g475⟩, f_72, -⟩ := hf
      exact px (or_store (l := #[.int .i64 x470.1, .int .i64 x470.2]) (lab := 476) (lab2 := 479) ts25 f_13 f_72 b_g475 (by simp) (by kernel_rfl) (mem_of rfl) (by decide) (by kernel_rfl) (fun own' a' w' ha hb => ⟨_, (ha 13).trans f_13, hb⟩))
    exact steps_nil
  intro own480 a480 w480 hd480 hz480 hk480 hf480 hE480
  have e480_0 := (hk480 0 rfl).trans e467_0
  have e480_7 := (hk480 7 rfl).trans e467_7
  obtain ⟨⟨g471, (e480_11 : a480.eval (.tmp 11) = .pointer (some ⟨g471, 0, none⟩)), (b480_g471 : BlkO own480 477 w480 g471 25 #[.int .i64 x468.1, .int .i64 x468.2])⟩, ⟨g473, (e480_12 : a480.eval (.tmp 12) = .pointer (some ⟨g473, 0, none⟩)), (b480_g473 : BlkO own480 478 w480 g473 25 #[.int .i64 x469.1, .int .i64 x469.2])⟩, ⟨g475, (e480_13 : a480.eval (.tmp 13) = .pointer (some ⟨g475, 0, none⟩)), (b480_g475 : BlkO own480 479 w480 g475 25 #[.int .i64 x470.1, .int .i64 x470.2])⟩, -⟩ := hf480 [17, 18, 19] rfl
  have hX480 := es_ hX467 hE480
  have b480_A441 := re_ hE480 b467_A441
  have b480_A447 := re_ hE480 b467_A447
  refine rg0_seq 186 own480 (bz 1) [⟨[], [], [], Fct.val 14 (.int .i64 0)⟩] hz480 hd480 (by kernel_rfl) ?_ ?_
  · refine sc (fun _ _ _ _ _ _ => px (or_assign rfl)) ?_
    exact steps_nil
  intro own481 a481 w481 hd481 hz481 hk481 hf481 hE481
  have e481_0 := (hk481 0 rfl).trans e480_0
  have e481_7 := (hk481 7 rfl).trans e480_7
  have e481_11 := (hk481 11 rfl).trans e480_11
  have e481_12 := (hk481 12 rfl).trans e480_12
  have e481_13 := (hk481 13 rfl).trans e480_13
  obtain ⟨(e481_14 : a481.eval (.tmp 14) = .int .i64 0), -⟩ := hf481 [0] rfl
  have hX481 := es_ hX480 hE481
  have b481_A441 := re_ hE481 b480_A441
  have b481_A447 := re_ hE481 b480_A447
  have b481_g471 := be_ hE481 b480_g471
  have b481_g473 := be_ hE481 b480_g473
  have b481_g475 := be_ hE481 b480_g475
  refine fl_seq (fun Q482 hn482 hp482 => ?_)
  refine rg0_seq 186 own481 (bz 1) [⟨[], [], [], Fct.val 15 (.int .i64 0)⟩] hz481 hd481 (by kernel_rfl) ?_ ?_
  · refine sc (fun _ _ _ _ _ _ => px (or_assign rfl)) ?_
    exact steps_nil
  intro own483 a483 w483 hd483 hz483 hk483 hf483 hE483
  have e483_0 := (hk483 0 rfl).trans e481_0
  have e483_7 := (hk483 7 rfl).trans e481_7
  have e483_11 := (hk483 11 rfl).trans e481_11
  have e483_12 := (hk483 12 rfl).trans e481_12
  have e483_13 := (hk483 13 rfl).trans e481_13
  have e483_14 := (hk483 14 rfl).trans e481_14
  obtain ⟨(e483_15 : a483.eval (.tmp 15) = .int .i64 0), -⟩ := hf483 [0] rfl
  have hX483 := es_ hX481 hE483
  have b483_A441 := re_ hE483 b481_A441
  have b483_A447 := re_ hE483 b481_A447
  have b483_g471 := be_ hE483 b481_g471
  have b483_g473 := be_ hE483 b481_g473
  have b483_g475 := be_ hE483 b481_g475
  refine fl_block (fun Q484 hn484 hx484 hp484 => ?_)
  refine fl_loop (body := (fun s => law18_GuardKeeps_b1 r440 r446 x468 x469 x470 s.1 s.2)) (z := r) (show loopO _ _ = _ from hs) (fun (s : Int × Int) a wx => match s with | (n527, i528) => ∃ (ox : Own), a.defers = [] ∧ a.tmps.size = 186 ∧ a.eval (.tmp 0) = .slice A441 r440.length cA441 ∧ a.eval (.tmp 7) = .slice A447 r446.1.length cA447 ∧ a.eval (.tmp 11) = .pointer (some ⟨g471, 0, none⟩) ∧ a.eval (.tmp 12) = .pointer (some ⟨g473, 0, none⟩) ∧ a.eval (.tmp 13) = .pointer (some ⟨g475, 0, none⟩) ∧ a.eval (.tmp 14) = .int .i64 n527 ∧ a.eval (.tmp 15) = .int .i64 i528 ∧ Evo [] (fun _ => 0) ox w wx ∧ RwO ox 442 [0, 526] wx 63 R63 A441 cA441 r440 ∧ RwO ox 448 [] wx 65 R65 A447 cA447 r446.1 ∧ BlkO ox 477 wx g471 25 #[.int .i64 x468.1, .int .i64 x468.2] ∧ BlkO ox 478 wx g473 25 #[.int .i64 x469.1, .int .i64 x469.2] ∧ BlkO ox 479 wx g475 25 #[.int .i64 x470.1, .int .i64 x470.2]) ?_ ?_
  · exact ⟨(rl [(443, 526), (444, 526)] own483), hd483, hz483, e483_0, e483_7, e483_11, e483_12, e483_13, e483_14, e483_15, (Evo.rl_ hX483 (fun _ => Nat.le_refl 0) rfl), (RwO.more (RwO.rl_ (mm := [(443, 526), (444, 526)]) b483_A441) (by decide)), (RwO.rl_ (mm := [(443, 526), (444, 526)]) b483_A447), (BlkO.rl_ (mm := [(443, 526), (444, 526)]) b483_g471), (BlkO.rl_ (mm := [(443, 526), (444, 526)]) b483_g473), (BlkO.rl_ (mm := [(443, 526), (444, 526)]) b483_g475)⟩
  · rintro ⟨n527, i528⟩ zz569 a569 w569 ⟨own569, hd570, hz570, e570_0, e570_7, e570_11, e570_12, e570_13, e570_14, e570_15, hE570, b570_A441, b570_A447, b570_g471, b570_g473, b570_g475⟩ hs Q569 hn569 hp569 hz569
    have hs : law18_GuardKeeps_b1 r440 r446 x468 x469 x470 n527 i528 = some zz569 := hs
    refine fl_seq (fun Q571 hn571 hp571 => ?_)
    refine rg0_seq 186 own569 [0, 0, 2, 7] [⟨[], [15], [], Fct.val 73 (.int .i64 i528)⟩,     ⟨[], [7], [], Fct.val 74 (.slice A447 r446.1.length cA447)⟩,     ⟨[1], [], [], Fct.val 75 (.int .i64 (r446.1.length : Int))⟩,     ⟨[0, 2], [], [], Fct.val 76 (.bool (decide (i528 < (r446.1.length : Int))))⟩] hz570 hd570 (by kernel_rfl) ?_ ?_
    · refine sc (fun _ _ _ _ s _ => px (or_move (s.1.trans e570_15))) ?_
      refine sc (fun _ _ _ _ s _ => px (or_move (s.1.trans e570_7))) ?_
      refine sc (fun _ _ _ f _ _ => px (or_len tu59 f.1 rfl)) ?_
      refine sc (fun _ _ _ f _ _ => px (or_lss f.1 f.2.1 rfl)) ?_
      exact steps_nil
    intro own572 a572 w572 hd572 hz572 hk572 hf572 hE572
    have e572_0 := (hk572 0 rfl).trans e570_0
    have e572_7 := (hk572 7 rfl).trans e570_7
    have e572_11 := (hk572 11 rfl).trans e570_11
    have e572_12 := (hk572 12 rfl).trans e570_12
    have e572_13 := (hk572 13 rfl).trans e570_13
    have e572_14 := (hk572 14 rfl).trans e570_14
    have e572_15 := (hk572 15 rfl).trans e570_15
    obtain ⟨(e572_76 : a572.eval (.tmp 76) = .bool (decide (i528 < (r446.1.length : Int)))), -⟩ := hf572 [3] rfl
    have hX572 := es_ hE570 hE572
    have b572_A441 := re_ hE572 b570_A441
    have b572_A447 := re_ hE572 b570_A447
    have b572_g471 := be_ hE572 b570_g471
    have b572_g473 := be_ hE572 b570_g473
    have b572_g475 := be_ hE572 b570_g475
    refine fl_cond e572_76 hs (fun c573 hs => ?_) (fun c573 hs => ?_)
    · refine fl_skip ?_
      refine hn571 _ _ ?_
      refine fl_seq (fun Q574 hn574 hp574 => ?_)
      refine fl_block (fun Q592 hn592 hx592 hp592 => ?_)
      have K601 : ∀ (a601 : Act) (w601 : World) (own601 : Own) (n600 : Int), a601.defers = [] → a601.tmps.size = 186 → a601.eval (.tmp 0) = .slice A441 r440.length cA441 → a601.eval (.tmp 7) = .slice A447 r446.1.length cA447 → a601.eval (.tmp 11) = .pointer (some ⟨g471, 0, none⟩) → a601.eval (.tmp 12) = .pointer (some ⟨g473, 0, none⟩) → a601.eval (.tmp 13) = .pointer (some ⟨g475, 0, none⟩) → a601.eval (.tmp 14) = .int .i64 n600 → a601.eval (.tmp 15) = .int .i64 i528 → Evo [] (fun _ => 0) own601 w w601 → RwO own601 442 [0, 599] w601 63 R63 A441 cA441 r440 → RwO own601 448 [] w601 65 R65 A447 cA447 r446.1 → BlkO own601 477 w601 g471 25 #[.int .i64 x468.1, .int .i64 x468.2] → BlkO own601 478 w601 g473 25 #[.int .i64 x469.1, .int .i64 x469.2] → BlkO own601 479 w601 g475 25 #[.int .i64 x470.1, .int .i64 x470.2] → law18_GuardKeeps_k2 i528 n600 = some zz569 → (Q592 .normal a601 w601 ∧ Q592 (.exit 1) a601 w601) := by
        intro a601 w601 own601 n600 hd602 hz602 e602_0 e602_7 e602_11 e602_12 e602_13 e602_14 e602_15 hE602 b602_A441 b602_A447 b602_g471 b602_g473 b602_g475 hs
        refine and_both (hn592 _ _) (hx592 _ _) ?_
        refine hn574 _ _ ?_
        refine rg0 186 own601 (bz 3) [⟨[], [15], [], Fct.val 77 (.int .i64 i528)⟩,     ⟨[0], [], [], Fct.val 78 (.int .i64 (ad i528 1))⟩,     ⟨[1], [], [], Fct.val 15 (.int .i64 (ad i528 1))⟩] hz602 hd602 (by kernel_rfl) ?_ ?_
        · refine sc (fun _ _ _ _ s _ => px (or_move (s.1.trans e602_15))) ?_
          refine sc (fun _ _ _ f _ _ => px (or_add f.1 rfl rfl)) ?_
          refine sc (fun _ _ _ f _ _ => px (or_assign f.1)) ?_
          exact steps_nil
        intro own603 a603 w603 hd603 hz603 hk603 hf603 hE603
        have e603_0 := (hk603 0 rfl).trans e602_0
        have e603_7 := (hk603 7 rfl).trans e602_7
        have e603_11 := (hk603 11 rfl).trans e602_11
        have e603_12 := (hk603 12 rfl).trans e602_12
        have e603_13 := (hk603 13 rfl).trans e602_13
        have e603_14 := (hk603 14 rfl).trans e602_14
        obtain ⟨(e603_15 : a603.eval (.tmp 15) = .int .i64 (ad i528 1)), -⟩ := hf603 [2] rfl
        have hX603 := es_ hE602 hE603
        have b603_A441 := re_ hE603 b602_A441
        have b603_A447 := re_ hE603 b602_A447
        have b603_g471 := be_ hE603 b602_g471
        have b603_g473 := be_ hE603 b602_g473
        have b603_g475 := be_ hE603 b602_g475
        exact hn569 _ _ _ hs ⟨(rl [(599, 526)] own603), hd603, hz603, e603_0, e603_7, e603_11, e603_12, e603_13, e603_14, e603_15, (Evo.rl_ hX603 (fun _ => Nat.le_refl 0) rfl), (RwO.rl_ (mm := [(599, 526)]) b603_A441), (RwO.rl_ (mm := [(599, 526)]) b603_A447), (BlkO.rl_ (mm := [(599, 526)]) b603_g471), (BlkO.rl_ (mm := [(599, 526)]) b603_g473), (BlkO.rl_ (mm := [(599, 526)]) b603_g475)⟩
      obtain ⟨x604, hx604, hs⟩ := obind hs
      obtain ⟨x605, hx605, hs⟩ := obind hs
      obtain ⟨x606, hx606, hs⟩ := obind hs
      refine rg_draw_seq g_mixed (n := 186) (rs := []) (own0 := own572) (K := []) (bs := [0, 0, 3, 7, 15, 0, 63, 127, 255, 255, 1023, 2047, 4095, 255, 16383, 32767]) (ds := [⟨[], [7], [], Fct.val 79 (.slice A447 r446.1.length cA447)⟩,     ⟨[], [15], [], Fct.val 80 (.int .i64 i528)⟩,     ⟨[0, 1], [], [], Fct.val 81 (.pointer (some ((adr A447).add ((i528 : Int).toNat * R65.s))))⟩,     ⟨[2], [], [], Fct.val 82 (.pointer (some ((adr A447).add ((i528 : Int).toNat * R65.s))))⟩,     ⟨[3], [], [], Fct.val 83 (.agg #[.int .i64 x604.1.1, .int .i64 x604.1.2])⟩,     ⟨[], [12], [], Fct.val 84 (.agg #[.int .i64 x469.1, .int .i64 x469.2])⟩,     ⟨[4, 5], [], [], Fct.val 85 (.bool (decide (x604.1 = x469)))⟩,     ⟨[6], [], [], Fct.val 86 (.bool (decide (x604.1 = x469)))⟩,     ⟨[7], [7], [], Fct.cond (!(decide (x604.1 = x469))) (some 87) (Fct.val 87 (.slice A447 r446.1.length cA447))⟩,     ⟨[7], [15], [], Fct.cond (!(decide (x604.1 = x469))) (some 88) (Fct.val 88 (.int .i64 i528))⟩,     ⟨[7, 8, 9], [], [], Fct.cond (!(decide (x604.1 = x469))) (some 89) (Fct.val 89 (.pointer (some ((adr A447).add ((i528 : Int).toNat * R65.s)))))⟩,     ⟨[7, 10], [], [], Fct.cond (!(decide (x604.1 = x469))) (some 90) (Fct.val 90 (.pointer (some (((adr A447).add ((i528 : Int).toNat * R65.s)).add 2))))⟩,     ⟨[7, 11], [], [], Fct.cond (!(decide (x604.1 = x469))) (some 91) (Fct.val 91 (.agg #[.int .i64 x605.2.1, .int .i64 x605.2.2]))⟩,     ⟨[7], [12], [], Fct.cond (!(decide (x604.1 = x469))) (some 92) (Fct.val 92 (.agg #[.int .i64 x469.1, .int .i64 x469.2]))⟩,     ⟨[7, 12, 13], [], [], Fct.cond (!(decide (x604.1 = x469))) (some 93) (Fct.val 93 (.bool (decide (x605.2 = x469))))⟩,     ⟨[7, 14], [], [], Fct.val 94 (.bool x606)⟩]) (by kernel_rfl) hz572 hd572 nm_ ?_ ?_
      · refine sc (fun _ _ _ _ s _ => px (or_move (s.1.trans e572_7))) ?_
        refine sc (fun _ _ _ _ s _ => px (or_move (s.1.trans e572_15))) ?_
        refine sc (fun _ _ _ f _ _ => px (or_index (R := R65) (l := r446.1) tl59 f.1 f.2.1 (RdO.some_ (RwO.rd b572_A447) hx604) hx604)) ?_
        refine sc (fun _ _ _ f s _ => px (or_indexArr (i := 0) (s := 2) tr65 ts25 f.1 rfl (by decide) (Addr.add_zero' _))) ?_
        refine sc (fun _ _ _ f _ hE => px (or_load (l := [.int .i64 x604.1.1, .int .i64 x604.1.2]) ta25 f.1 (CellsAt.head_ (RdO.cells (F := E65) (RwO.rd (re_ hE b572_A447)) hx604) rfl) rfl)) ?_
        refine sc (fun _ _ _ _ s hE => px (or_load (l := [.int .i64 x469.1, .int .i64 x469.2]) ta25 (s.1.trans e572_12) (Blk.cellsFrom (be_ hE b572_g473).2 0 rfl) rfl)) ?_
        refine sc (fun _ _ _ f _ _ => px (or_eqlA sg25 f.1 f.2.1 (se25 x604.1.1 x604.1.2 x469.1 x469.2 _) rfl)) ?_
        refine sc (fun _ _ _ f _ _ => px (or_move f.1)) ?_
        refine sc (fun _ _ _ f s _ => sg_f rfl rfl rfl f.1 (fun hg => or_move (s.1.trans e572_7))) ?_
        refine sc (fun _ _ _ f s _ => sg_f rfl rfl rfl f.1 (fun hg => or_move (s.1.trans e572_15))) ?_
        refine sc (fun _ _ _ f _ _ => sg_f rfl rfl rfl f.1 (fun hg => or_index (R := R65) (l := r446.1) tl59 (f.2.1.1 hg) (f.2.2.1.1 hg) (RdO.some_ (RwO.rd b572_A447) (gd_t hx605 hg)) (gd_t hx605 hg))) ?_
        refine sc (fun _ _ _ f s _ => sg_f rfl rfl rfl f.1 (fun hg => or_indexArr (i := 1) (s := 2) tr65 ts25 (f.2.1.1 hg) rfl (by decide) rfl)) ?_
        refine sc (fun _ _ _ f _ hE => sg_f rfl rfl rfl f.1 (fun hg => or_load (l := [.int .i64 x605.2.1, .int .i64 x605.2.2]) ta25 (f.2.1.1 hg) (CellsAt.part (RdO.cells (F := E65) (RwO.rd (re_ hE b572_A447)) (gd_t hx605 hg)) 2 rfl) rfl)) ?_
        refine sc (fun _ _ _ f s hE => sg_f rfl rfl rfl f.1 (fun hg => or_load (l := [.int .i64 x469.1, .int .i64 x469.2]) ta25 (s.1.trans e572_12) (Blk.cellsFrom (be_ hE b572_g473).2 0 rfl) rfl)) ?_
        refine sc (fun _ _ _ f _ _ => sg_f rfl rfl rfl f.1 (fun hg => or_eqlA sg25 (f.2.1.1 hg) (f.2.2.1.1 hg) (se25 x605.2.1 x605.2.2 x469.1 x469.2 _) rfl)) ?_
        refine sc (fun _ _ _ f _ _ => px (or_or f.1 rfl (fun hx => f.2.1.1 hx) (osome hx606).symm)) ?_
        exact steps_nil
      intro own607 a607 w607 hd607 hz607 hk607 hf607 hE607
      have e607_0 := (hk607 0 rfl).trans e572_0
      have e607_7 := (hk607 7 rfl).trans e572_7
      have e607_11 := (hk607 11 rfl).trans e572_11
      have e607_12 := (hk607 12 rfl).trans e572_12
      have e607_13 := (hk607 13 rfl).trans e572_13
      have e607_14 := (hk607 14 rfl).trans e572_14
      have e607_15 := (hk607 15 rfl).trans e572_15
      obtain ⟨(e607_94 : a607.eval (.tmp 94) = .bool x606), -⟩ := hf607 [15] rfl
      have hX607 := es_ hX572 hE607
      have b607_A441 := re_ hE607 b572_A441
      have b607_A447 := re_ hE607 b572_A447
      have b607_g471 := be_ hE607 b572_g471
      have b607_g473 := be_ hE607 b572_g473
      have b607_g475 := be_ hE607 b572_g475
      refine fl_cond e607_94 hs (fun c608 hs => ?_) (fun c608 hs => ?_)
      · refine rg0 186 own607 (bz 3) [⟨[], [14], [], Fct.val 95 (.int .i64 n527)⟩,     ⟨[0], [], [], Fct.val 96 (.int .i64 (ad n527 1))⟩,     ⟨[1], [], [], Fct.val 14 (.int .i64 (ad n527 1))⟩] hz607 hd607 (by kernel_rfl) ?_ ?_
        · refine sc (fun _ _ _ _ s _ => px (or_move (s.1.trans e607_14))) ?_
          refine sc (fun _ _ _ f _ _ => px (or_add f.1 rfl rfl)) ?_
          refine sc (fun _ _ _ f _ _ => px (or_assign f.1)) ?_
          exact steps_nil
        intro own609 a609 w609 hd609 hz609 hk609 hf609 hE609
        have e609_0 := (hk609 0 rfl).trans e607_0
        have e609_7 := (hk609 7 rfl).trans e607_7
        have e609_11 := (hk609 11 rfl).trans e607_11
        have e609_12 := (hk609 12 rfl).trans e607_12
        have e609_13 := (hk609 13 rfl).trans e607_13
        have e609_15 := (hk609 15 rfl).trans e607_15
        obtain ⟨(e609_14 : a609.eval (.tmp 14) = .int .i64 (ad n527 1)), -⟩ := hf609 [2] rfl
        have hX609 := es_ hX607 hE609
        have b609_A441 := re_ hE609 b607_A441
        have b609_A447 := re_ hE609 b607_A447
        have b609_g471 := be_ hE609 b607_g471
        have b609_g473 := be_ hE609 b607_g473
        have b609_g475 := be_ hE609 b607_g475
        exact (K601 _ _ (rl [(526, 599)] own609) _ hd609 hz609 e609_0 e609_7 e609_11 e609_12 e609_13 e609_14 e609_15 (Evo.rl_ hX609 (fun _ => Nat.le_refl 0) rfl) (RwO.rl_ (mm := [(526, 599)]) b609_A441) (RwO.rl_ (mm := [(526, 599)]) b609_A447) (BlkO.rl_ (mm := [(526, 599)]) b609_g471) (BlkO.rl_ (mm := [(526, 599)]) b609_g473) (BlkO.rl_ (mm := [(526, 599)]) b609_g475) hs).1
      refine fl_skip ?_
      exact (K601 _ _ (rl [(526, 599)] own607) _ hd607 hz607 e607_0 e607_7 e607_11 e607_12 e607_13 e607_14 e607_15 (Evo.rl_ hX607 (fun _ => Nat.le_refl 0) rfl) (RwO.rl_ (mm := [(526, 599)]) b607_A441) (RwO.rl_ (mm := [(526, 599)]) b607_A447) (BlkO.rl_ (mm := [(526, 599)]) b607_g471) (BlkO.rl_ (mm := [(526, 599)]) b607_g473) (BlkO.rl_ (mm := [(526, 599)]) b607_g475) hs).1
    refine fl_exit ?_
    refine hp571 _ _ _ rfl ?_
    replace hs := hz569 _ hs
    refine hp569 _ _ _ rfl ?_
    refine hx484 _ _ ?_
    refine hn482 _ _ ?_
    obtain ⟨r610, hr610, hs⟩ := obind hs
    refine rg0_seq 186 own572 (bz 3) [⟨[], [0], [], Fct.val 97 (.slice A441 r440.length cA441)⟩,     ⟨[0], [], [], Fct.mems [620, 621, 622, 623, 624, 625, 626, 627, 628, 629] 98 (fun (x : (Option Addr × Nat) × (Option Addr × Nat) × (Option Addr × Nat) × (Option Addr × Nat) × (Option Addr × Nat) × (Option Addr × Nat) × (Option Addr × Nat) × (Option Addr × Nat) × (Option Addr × Nat)) => .pointer (some ⟨x.1.2, 0, none⟩)) (fun (x : (Option Addr × Nat) × (Option Addr × Nat) × (Option Addr × Nat) × (Option Addr × Nat) × (Option Addr × Nat) × (Option Addr × Nat) × (Option Addr × Nat) × (Option Addr × Nat) × (Option Addr × Nat)) own w => RwO own 620 [] w 80 R80 x.2.2.1.1 x.2.2.1.2 r610.1.1 ∧ MpN own 621 622 [] w x.2.2.2.1.2 vv111 3 R3 r610.1.2.1 ∧ RwO own 623 [] w 3 R3 x.2.2.2.2.1.1 x.2.2.2.2.1.2 r610.1.2.2 ∧ BlkO own 624 w x.2.1.2 106 #[.slice x.2.2.1.1 r610.1.1.length x.2.2.1.2, .map (some x.2.2.2.1.2), .slice x.2.2.2.2.1.1 r610.1.2.2.length x.2.2.2.2.1.2] ∧ RwO own 625 [] w 3 R3 x.2.2.2.2.2.1.1 x.2.2.2.2.2.1.2 r610.2.1 ∧ RwO own 626 [] w 25 R25 x.2.2.2.2.2.2.1.1 x.2.2.2.2.2.2.1.2 r610.2.2.1 ∧ MpO own 627 w x.2.2.2.2.2.2.2.1.2 vv25 vv4 r610.2.2.2.1 ∧ MpO own 628 w x.2.2.2.2.2.2.2.2.2 vv81 vv4 r610.2.2.2.2 ∧ BlkO own 629 w x.1.2 77 #[.pointer (some ⟨x.2.1.2, 0, none⟩), .slice x.2.2.2.2.2.1.1 r610.2.1.length x.2.2.2.2.2.1.2, .slice x.2.2.2.2.2.2.1.1 r610.2.2.1.length x.2.2.2.2.2.2.1.2, .map (some x.2.2.2.2.2.2.2.1.2), .map (some x.2.2.2.2.2.2.2.2.2)]) (fun hk he h => ⟨RwO.evo (hits_sub hk (by decide)) he h.1, MpN.evo (hits_sub hk (by decide)) he h.2.1, RwO.evo (hits_sub hk (by decide)) he h.2.2.1, BlkO.evo (not_hit hk (by decide)) he h.2.2.2.1, RwO.evo (hits_sub hk (by decide)) he h.2.2.2.2.1, RwO.evo (hits_sub hk (by decide)) he h.2.2.2.2.2.1, MpO.evo (not_hit hk (by decide)) he h.2.2.2.2.2.2.1, MpO.evo (not_hit hk (by decide)) he h.2.2.2.2.2.2.2.1, BlkO.evo (not_hit hk (by decide)) he h.2.2.2.2.2.2.2.2⟩)⟩,     ⟨[1], [], [], Fct.rel [16, 98] (fun l => ∀ (cA611 : Nat), l.getD 1 undef = .pointer (some ⟨cA611, 0, none⟩) → l.getD 0 undef = .pointer (some ⟨cA611, 0, none⟩))⟩] hz572 hd572 (by kernel_rfl) ?_ ?_
    · refine sc (fun _ _ _ _ s _ => px (or_move (s.1.trans e572_0))) ?_
      refine sc (fun _ _ _ f _ hE => px (or_call cf7 (args2 rfl f.1) (guard_New_w _ ([] : List Int) none 0 r440 A441 cA441 RdO.nil_ (RdO.zero (RwO.rd (re_ hE b572_A441))) r610 hr610) (post_mems (m := (fun _ => 0)) (m' := (look0 [(1, 629), (2, 624), (3, 620), (4, 621), (5, 622), (6, 623), (7, 625), (8, 626), (9, 627), (10, 628)])) (fun _ _ => .inl rfl) (fun own' w' a' x h1 h => ⟨x, h1, ⟨RwO.back_ h.1 (by decide) (.inl (Rep.fl_flat _)), MpN.back_ h.2.1 (by decide) (by decide) (.inl (Rep.fl_flat _)), RwO.back_ h.2.2.1 (by decide) (.inl (Rep.fl_flat _)), BlkO.back_ h.2.2.2.1 (by decide), RwO.back_ h.2.2.2.2.1 (by decide) (.inl (Rep.fl_flat _)), RwO.back_ h.2.2.2.2.2.1 (by decide) (.inl (Rep.fl_flat _)), MpO.back_ h.2.2.2.2.2.2.1 (by decide), MpO.back_ h.2.2.2.2.2.2.2.1 (by decide), BlkO.back_ h.2.2.2.2.2.2.2.2 (by decide)⟩⟩)))) ?_
      refine sc (fun own a wx hf hsl hE => ?_) ?_
      · obtain ⟨⟨⟨⟨A611, cA611⟩, ⟨A612, cA612⟩, ⟨A613, cA613⟩, ⟨A614, cA614⟩, ⟨A615, cA615⟩, ⟨A616, cA616⟩, ⟨A617, cA617⟩, ⟨A618, cA618⟩, ⟨A619, cA619⟩⟩, (f_98 : a.eval (.tmp 98) = .pointer (some ⟨cA611, 0, none⟩)), b_A613, b_cA614, b_A615, b_cA612, b_A616, b_A617, b_cA618, b_cA619, b_cA611⟩, -⟩ := hf
        exact px (or_mono (f := Fct.val 16 (.pointer (some ⟨cA611, 0, none⟩))) (or_assign f_98) (fun own' a' w' v' hp h => fun _ h0' => by cases (f_98.symm.trans ((hp.2 98 (by decide)).symm.trans h0')); exact h))
      exact steps_nil
    intro own630 a630 w630 hd630 hz630 hk630 hf630 hE630
    have e630_7 := (hk630 7 rfl).trans e572_7
    have e630_11 := (hk630 11 rfl).trans e572_11
    have e630_12 := (hk630 12 rfl).trans e572_12
    have e630_13 := (hk630 13 rfl).trans e572_13
    have e630_14 := (hk630 14 rfl).trans e572_14
    obtain ⟨⟨⟨⟨A611, cA611⟩, ⟨A612, cA612⟩, ⟨A613, cA613⟩, ⟨A614, cA614⟩, ⟨A615, cA615⟩, ⟨A616, cA616⟩, ⟨A617, cA617⟩, ⟨A618, cA618⟩, ⟨A619, cA619⟩⟩, (f_98 : a630.eval (.tmp 98) = .pointer (some ⟨cA611, 0, none⟩)), (b630_A613 : RwO own630 620 [] w630 80 R80 A613 cA613 r610.1.1), (b630_cA614 : MpN own630 621 622 [] w630 cA614 vv111 3 R3 r610.1.2.1), (b630_A615 : RwO own630 623 [] w630 3 R3 A615 cA615 r610.1.2.2), (b630_cA612 : BlkO own630 624 w630 cA612 106 #[.slice A613 r610.1.1.length cA613, .map (some cA614), .slice A615 r610.1.2.2.length cA615]), (b630_A616 : RwO own630 625 [] w630 3 R3 A616 cA616 r610.2.1), (b630_A617 : RwO own630 626 [] w630 25 R25 A617 cA617 r610.2.2.1), (b630_cA618 : MpO own630 627 w630 cA618 vv25 vv4 r610.2.2.2.1), (b630_cA619 : MpO own630 628 w630 cA619 vv81 vv4 r610.2.2.2.2), (b630_cA611 : BlkO own630 629 w630 cA611 77 #[.pointer (some ⟨cA612, 0, none⟩), .slice A616 r610.2.1.length cA616, .slice A617 r610.2.2.1.length cA617, .map (some cA618), .map (some cA619)])⟩, (q_16 : ∀ (cA611 : Nat), a630.eval (.tmp 98) = .pointer (some ⟨cA611, 0, none⟩) → a630.eval (.tmp 16) = .pointer (some ⟨cA611, 0, none⟩)), -⟩ := hf630 [1, 2] rfl
    have e630_16 := q_16 _ f_98
    have hX630 := es_ hX572 hE630
    have b630_A447 := re_ hE630 b572_A447
    have b630_g471 := be_ hE630 b572_g471
    have b630_g473 := be_ hE630 b572_g473
    have b630_g475 := be_ hE630 b572_g475
    refine fl_seq (fun Q631 hn631 hp631 => ?_)
    obtain ⟨r632, hr632, hs⟩ := obind hs
    obtain ⟨x647, hx647, hs⟩ := obind hs
    refine rg_plain_seq (n := 186) (rs := [Fct.at_ 629 cA611 77 #[.pointer (some ⟨cA612, 0, none⟩), .slice A616 r610.2.1.length cA616, .slice A617 r610.2.2.1.length cA617, .map (some cA618), .map (some cA619)], Fct.at_ 624 cA612 106 #[.slice A613 r610.1.1.length cA613, .map (some cA614), .slice A615 r610.1.2.2.length cA615], Fct.rowAt 620 [] 80 R80 A613 cA613 r610.1.1, Fct.mapnAt 621 622 [] cA614 vv111 3 R3 r610.1.2.1, Fct.rowAt 623 [] 3 R3 A615 cA615 r610.1.2.2, Fct.rowAt 625 [] 3 R3 A616 cA616 r610.2.1, Fct.rowAt 626 [] 25 R25 A617 cA617 r610.2.2.1, Fct.mapAt 627 cA618 vv25 vv4 r610.2.2.2.1, Fct.mapAt 628 cA619 vv81 vv4 r610.2.2.2.2]) (own0 := own630) (K := [629, 624, 620, 621, 622, 623, 625, 626, 627, 628]) (bs := [0, 1, 3, 7, 15, 31, 63, 127, 127, 127, 127, 2047, 4095, 8191]) (ds := [⟨[], [16], [], Fct.val 99 (.pointer (some ⟨cA611, 0, none⟩))⟩,     ⟨[0], [], [], Fct.val 100 (.bool false)⟩,     ⟨[1], [], [], Fct.val 101 (.bool false)⟩,     ⟨[2], [14], [], Fct.cond (!false) (some 102) (Fct.val 102 (.int .i64 n527))⟩,     ⟨[2, 3], [], [], Fct.cond (!false) (some 103) (Fct.val 103 (.bool (!decide (n527 = 2))))⟩,     ⟨[2, 4], [], [], Fct.val 104 (.bool (false || (!decide (n527 = 2))))⟩,     ⟨[5], [], [], Fct.val 105 (.bool (false || (!decide (n527 = 2))))⟩,     ⟨[6], [16], [], Fct.cond (!(false || (!decide (n527 = 2)))) (some 106) (Fct.val 106 (.pointer (some ⟨cA611, 0, none⟩)))⟩,     ⟨[6], [11], [], Fct.cond (!(false || (!decide (n527 = 2)))) (some 107) (Fct.val 107 (.agg #[.int .i64 x468.1, .int .i64 x468.2]))⟩,     ⟨[6], [12], [], Fct.cond (!(false || (!decide (n527 = 2)))) (some 108) (Fct.val 108 (.agg #[.int .i64 x469.1, .int .i64 x469.2]))⟩,     ⟨[6], [13], [], Fct.cond (!(false || (!decide (n527 = 2)))) (some 109) (Fct.val 109 (.agg #[.int .i64 x470.1, .int .i64 x470.2]))⟩,     ⟨[6, 7, 8, 9, 10, 14, 15, 16, 17, 18, 19, 20, 21, 22], [], [629, 624, 620, 621, 622, 623, 625, 626, 627, 628], Fct.memsB (!(false || (!decide (n527 = 2)))) [637, 638, 639, 640, 641, 642, 643, 644, 645, 646] 110 (fun (x : (Option Addr × Nat) × (Option Addr × Nat) × (Option Addr × Nat) × (Option Addr × Nat)) => .bool r632.1) (fun (x : (Option Addr × Nat) × (Option Addr × Nat) × (Option Addr × Nat) × (Option Addr × Nat)) own w => RwO own 637 [] w 80 R80 x.1.1 x.1.2 r632.2.1.1 ∧ MpN own 638 639 [] w cA614 vv111 3 R3 r632.2.1.2.1 ∧ RwO own 640 [] w 3 R3 x.2.1.1 x.2.1.2 r632.2.1.2.2 ∧ BlkO own 641 w cA612 106 #[.slice x.1.1 r632.2.1.1.length x.1.2, .map (some cA614), .slice x.2.1.1 r632.2.1.2.2.length x.2.1.2] ∧ RwO own 642 [] w 3 R3 x.2.2.1.1 x.2.2.1.2 r632.2.2.1 ∧ RwO own 643 [] w 25 R25 x.2.2.2.1 x.2.2.2.2 r632.2.2.2.1 ∧ MpO own 644 w cA618 vv25 vv4 r632.2.2.2.2.1 ∧ MpO own 645 w cA619 vv81 vv4 r632.2.2.2.2.2 ∧ BlkO own 646 w cA611 77 #[.pointer (some ⟨cA612, 0, none⟩), .slice x.2.2.1.1 r632.2.2.1.length x.2.2.1.2, .slice x.2.2.2.1 r632.2.2.2.1.length x.2.2.2.2, .map (some cA618), .map (some cA619)]) (fun hk he h => ⟨RwO.evo (hits_sub hk (by decide)) he h.1, MpN.evo (hits_sub hk (by decide)) he h.2.1, RwO.evo (hits_sub hk (by decide)) he h.2.2.1, BlkO.evo (not_hit hk (by decide)) he h.2.2.2.1, RwO.evo (hits_sub hk (by decide)) he h.2.2.2.2.1, RwO.evo (hits_sub hk (by decide)) he h.2.2.2.2.2.1, MpO.evo (not_hit hk (by decide)) he h.2.2.2.2.2.2.1, MpO.evo (not_hit hk (by decide)) he h.2.2.2.2.2.2.2.1, BlkO.evo (not_hit hk (by decide)) he h.2.2.2.2.2.2.2.2⟩)⟩,     ⟨[6, 11], [], [], Fct.cond (!(false || (!decide (n527 = 2)))) (some 111) (Fct.val 111 (.bool (!r632.1)))⟩,     ⟨[6, 12], [], [], Fct.val 112 (.bool x647)⟩]) (by kernel_rfl) hz630 hd630 (by simp only [List.forall_mem_cons]; exact ⟨b630_cA611, b630_cA612, b630_A613, b630_cA614, b630_A615, b630_A616, b630_A617, b630_cA618, b630_cA619, fun _ h => nomatch h⟩) ?_ ?_
    · refine sc (fun _ _ _ _ s _ => px (or_move (s.1.trans e630_16))) ?_
      refine sc (fun _ _ _ f _ _ => px (or_k [(99, .pointer (some ⟨cA611, 0, none⟩))] rfl rfl ⟨f.1, trivial⟩ (by kernel_rfl))) ?_
      refine sc (fun _ _ _ f _ _ => px (or_move f.1)) ?_
      refine sc (fun _ _ _ f s _ => sg_f rfl rfl rfl f.1 (fun hg => or_move (s.1.trans e630_14))) ?_
      refine sc (fun _ _ _ f _ _ => sg_f rfl rfl rfl f.1 (fun hg => or_neq (f.2.1.1 hg) rfl rfl)) ?_
      refine sc (fun _ _ _ f _ _ => px (or_or f.1 rfl (fun hx => f.2.1.1 hx) rfl)) ?_
      refine sc (fun _ _ _ f _ _ => px (or_move f.1)) ?_
      refine sc (fun _ _ _ f s _ => sg_f rfl rfl rfl f.1 (fun hg => or_move (s.1.trans e630_16))) ?_
      refine sc (fun _ _ _ f s hE => sg_f rfl rfl rfl f.1 (fun hg => or_load (l := [.int .i64 x468.1, .int .i64 x468.2]) ta25 (s.1.trans e630_11) (Blk.cellsFrom (be_ hE b630_g471).2 0 rfl) rfl)) ?_
      refine sc (fun _ _ _ f s hE => sg_f rfl rfl rfl f.1 (fun hg => or_load (l := [.int .i64 x469.1, .int .i64 x469.2]) ta25 (s.1.trans e630_12) (Blk.cellsFrom (be_ hE b630_g473).2 0 rfl) rfl)) ?_
      refine sc (fun _ _ _ f s hE => sg_f rfl rfl rfl f.1 (fun hg => or_load (l := [.int .i64 x470.1, .int .i64 x470.2]) ta25 (s.1.trans e630_13) (Blk.cellsFrom (be_ hE b630_g475).2 0 rfl) rfl)) ?_
      refine sc (fun own a wx hf hsl hE => ?_) ?_
      · obtain ⟨f_105, c_106, c_107, c_108, c_109, b_cA611, b_cA612, b_A613, b_cA614, b_A615, b_A616, b_A617, b_cA618, b_cA619, -⟩ := hf
        refine sgB_f rfl rfl f_105 (fun hg => memsB_y (fun _ _ _ => Iff.rfl) rfl rfl hg ?_) (fun hg => by obtain rfl := gd_f hr632 hg; exact memsB_n (mm := [(620, 637), (621, 638), (622, 639), (623, 640), (624, 641), (625, 642), (626, 643), (627, 644), (628, 645), (629, 646)]) (fun _ _ _ => Iff.rfl) rfl hg rfl ((A613, cA613), (A615, cA615), (A616, cA616), (A617, cA617)) ⟨(RwO.rl_ (mm := [(620, 637), (621, 638), (622, 639), (623, 640), (624, 641), (625, 642), (626, 643), (627, 644), (628, 645), (629, 646)]) b_A613), (MpN.rl_ (mm := [(620, 637), (621, 638), (622, 639), (623, 640), (624, 641), (625, 642), (626, 643), (627, 644), (628, 645), (629, 646)]) b_cA614), (RwO.rl_ (mm := [(620, 637), (621, 638), (622, 639), (623, 640), (624, 641), (625, 642), (626, 643), (627, 644), (628, 645), (629, 646)]) b_A615), (BlkO.rl_ (mm := [(620, 637), (621, 638), (622, 639), (623, 640), (624, 641), (625, 642), (626, 643), (627, 644), (628, 645), (629, 646)]) b_cA612), (RwO.rl_ (mm := [(620, 637), (621, 638), (622, 639), (623, 640), (624, 641), (625, 642), (626, 643), (627, 644), (628, 645), (629, 646)]) b_A616), (RwO.rl_ (mm := [(620, 637), (621, 638), (622, 639), (623, 640), (624, 641), (625, 642), (626, 643), (627, 644), (628, 645), (629, 646)]) b_A617), (MpO.rl_ (mm := [(620, 637), (621, 638), (622, 639), (623, 640), (624, 641), (625, 642), (626, 643), (627, 644), (628, 645), (629, 646)]) b_cA618), (MpO.rl_ (mm := [(620, 637), (621, 638), (622, 639), (623, 640), (624, 641), (625, 642), (626, 643), (627, 644), (628, 645), (629, 646)]) b_cA619), (BlkO.rl_ (mm := [(620, 637), (621, 638), (622, 639), (623, 640), (624, 641), (625, 642), (626, 643), (627, 644), (628, 645), (629, 646)]) b_cA611)⟩)
        have f_106 := c_106.1 hg
        have f_107 := c_107.1 hg
        have f_108 := c_108.1 hg
        have f_109 := c_109.1 hg
        exact or_call cf12 (args4 f_106 f_107 f_108 f_109) (guard_Guard_Drop_w _ (forth own (look0 [(620, 3), (621, 4), (622, 5), (623, 6), (624, 2), (625, 7), (626, 8), (627, 9), (628, 10), (629, 1)])) r610 cA611 77 cA612 106 A613 cA613 cA614 A615 cA615 A616 cA616 A617 cA617 cA618 cA619 x468 x469 x470 (look0_le rfl) (BlkO.forth_ (m := (look0 [(620, 3), (621, 4), (622, 5), (623, 6), (624, 2), (625, 7), (626, 8), (627, 9), (628, 10), (629, 1)])) b_cA611) (RwO.forth_ (m := (look0 [(620, 3), (621, 4), (622, 5), (623, 6), (624, 2), (625, 7), (626, 8), (627, 9), (628, 10), (629, 1)])) b_A616) (RwO.forth_ (m := (look0 [(620, 3), (621, 4), (622, 5), (623, 6), (624, 2), (625, 7), (626, 8), (627, 9), (628, 10), (629, 1)])) b_A617) (MpO.forth_ (m := (look0 [(620, 3), (621, 4), (622, 5), (623, 6), (624, 2), (625, 7), (626, 8), (627, 9), (628, 10), (629, 1)])) b_cA618) (MpO.forth_ (m := (look0 [(620, 3), (621, 4), (622, 5), (623, 6), (624, 2), (625, 7), (626, 8), (627, 9), (628, 10), (629, 1)])) b_cA619) (BlkO.forth_ (m := (look0 [(620, 3), (621, 4), (622, 5), (623, 6), (624, 2), (625, 7), (626, 8), (627, 9), (628, 10), (629, 1)])) b_cA612) (RwO.forth_ (m := (look0 [(620, 3), (621, 4), (622, 5), (623, 6), (624, 2), (625, 7), (626, 8), (627, 9), (628, 10), (629, 1)])) b_A613) (MpN.forth_ (m := (look0 [(620, 3), (621, 4), (622, 5), (623, 6), (624, 2), (625, 7), (626, 8), (627, 9), (628, 10), (629, 1)])) b_cA614) (RwO.forth_ (m := (look0 [(620, 3), (621, 4), (622, 5), (623, 6), (624, 2), (625, 7), (626, 8), (627, 9), (628, 10), (629, 1)])) b_A615) r632 (gd_t hr632 hg)) (post_mems (m := (look0 [(620, 3), (621, 4), (622, 5), (623, 6), (624, 2), (625, 7), (626, 8), (627, 9), (628, 10), (629, 1)])) (m' := (look0 [(1, 646), (2, 641), (3, 637), (4, 638), (5, 639), (6, 640), (7, 642), (8, 643), (9, 644), (10, 645)])) (hm_of rfl) (fun own' w' a' x h1 h => ⟨x, h1, ⟨RwO.back_ h.1 (by decide) (.inl (Rep.fl_flat _)), MpN.back_ h.2.1 (by decide) (by decide) (.inl (Rep.fl_flat _)), RwO.back_ h.2.2.1 (by decide) (.inl (Rep.fl_flat _)), BlkO.back_ h.2.2.2.1 (by decide), RwO.back_ h.2.2.2.2.1 (by decide) (.inl (Rep.fl_flat _)), RwO.back_ h.2.2.2.2.2.1 (by decide) (.inl (Rep.fl_flat _)), MpO.back_ h.2.2.2.2.2.2.1 (by decide), MpO.back_ h.2.2.2.2.2.2.2.1 (by decide), BlkO.back_ h.2.2.2.2.2.2.2.2 (by decide)⟩⟩))
      refine sc (fun own a wx hf hsl hE => ?_) ?_
      · obtain ⟨f_105, ⟨⟨⟨A633, cA633⟩, ⟨A634, cA634⟩, ⟨A635, cA635⟩, ⟨A636, cA636⟩⟩, c_110, b_A633, b_cA614, b_A634, b_cA612, b_A635, b_A636, b_cA618, b_cA619, b_cA611⟩, -⟩ := hf
        refine sg_f rfl rfl rfl f_105 (fun hg => ?_)
        have f_110 := c_110.1 hg
        exact or_not f_110 rfl
      refine sc (fun _ _ _ f _ _ => px (or_or f.1 rfl (fun hx => f.2.1.1 hx) (osome hx647).symm)) ?_
      exact steps_nil
    intro own648 a648 w648 hd648 hz648 hk648 hf648 hE648
    have e648_7 := (hk648 7 rfl).trans e630_7
    have e648_11 := (hk648 11 rfl).trans e630_11
    have e648_12 := (hk648 12 rfl).trans e630_12
    have e648_13 := (hk648 13 rfl).trans e630_13
    have e648_16 := (hk648 16 rfl).trans e630_16
    obtain ⟨(e648_112 : a648.eval (.tmp 112) = .bool x647), ⟨⟨⟨A633, cA633⟩, ⟨A634, cA634⟩, ⟨A635, cA635⟩, ⟨A636, cA636⟩⟩, c_110, (b648_A633 : RwO own648 637 [] w648 80 R80 A633 cA633 r632.2.1.1), (b648_cA614 : MpN own648 638 639 [] w648 cA614 vv111 3 R3 r632.2.1.2.1), (b648_A634 : RwO own648 640 [] w648 3 R3 A634 cA634 r632.2.1.2.2), (b648_cA612 : BlkO own648 641 w648 cA612 106 #[.slice A633 r632.2.1.1.length cA633, .map (some cA614), .slice A634 r632.2.1.2.2.length cA634]), (b648_A635 : RwO own648 642 [] w648 3 R3 A635 cA635 r632.2.2.1), (b648_A636 : RwO own648 643 [] w648 25 R25 A636 cA636 r632.2.2.2.1), (b648_cA618 : MpO own648 644 w648 cA618 vv25 vv4 r632.2.2.2.2.1), (b648_cA619 : MpO own648 645 w648 cA619 vv81 vv4 r632.2.2.2.2.2), (b648_cA611 : BlkO own648 646 w648 cA611 77 #[.pointer (some ⟨cA612, 0, none⟩), .slice A635 r632.2.2.1.length cA635, .slice A636 r632.2.2.2.1.length cA636, .map (some cA618), .map (some cA619)])⟩, -⟩ := hf648 [13, 11] rfl
    have hX648 := es_ hX630 hE648
    have b648_A447 := re_ hE648 b630_A447
    have b648_g471 := be_ hE648 b630_g471
    have b648_g473 := be_ hE648 b630_g473
    have b648_g475 := be_ hE648 b630_g475
    refine fl_cond e648_112 hs (fun c649 hs => ?_) (fun c649 hs => ?_)
    · obtain ⟨r650, hr650, hs⟩ := obind hs
      refine rg0_seq 186 own648 (bz 6) [⟨[], [], [], Fct.val 113 (.bool r650)⟩,     ⟨[0], [], [], Fct.val 114 (.bool r650)⟩,     ⟨[1], [16], [], Fct.cond r650 (some 115) (Fct.val 115 (.pointer (some ⟨cA611, 0, none⟩)))⟩,     ⟨[1, 2], [], [], Fct.cond r650 (some 116) (Fct.val 116 (.bool true))⟩,     ⟨[1, 3], [], [], Fct.val 117 (.bool (r650 && true))⟩,     ⟨[4], [], [], Fct.val 6 (.bool (r650 && true))⟩] hz648 hd648 (by kernel_rfl) ?_ ?_
      · refine sc (fun _ _ _ _ _ _ => px (or_call cf11 (args0) (law18_known_w _   r650 hr650) post_val)) ?_
        refine sc (fun _ _ _ f _ _ => px (or_move f.1)) ?_
        refine sc (fun _ _ _ f s _ => sg_t rfl rfl rfl f.1 (fun hg => or_move (s.1.trans e648_16))) ?_
        refine sc (fun _ _ _ f _ _ => sg_t rfl rfl rfl f.1 (fun hg => or_k [(115, .pointer (some ⟨cA611, 0, none⟩))] rfl rfl ⟨(f.2.1.1 hg), trivial⟩ (by kernel_rfl))) ?_
        refine sc (fun _ _ _ f _ _ => px (or_and f.1 (fun hx => f.2.1.1 hx) rfl rfl)) ?_
        refine sc (fun _ _ _ f _ _ => px (or_assign f.1)) ?_
        exact steps_nil
      intro own651 a651 w651 hd651 hz651 hk651 hf651 hE651
      obtain ⟨(e651_6 : a651.eval (.tmp 6) = .bool (r650 && true)), -⟩ := hf651 [5] rfl
      have hX651 := es_ hX648 hE651
      refine fl_ret ?_
      refine hp631 _ _ _ rfl ?_
      obtain rfl := osome hs
      exact hret _ _ _ _ (.inl rfl) hd651 (results1_ rfl (RVal.tmp_ e651_6)) ⟨own651, rfl, hX651⟩
    refine fl_skip ?_
    refine hn631 _ _ ?_
    refine fl_seq (fun Q652 hn652 hp652 => ?_)
    refine rg0_seq 186 own648 (bz 1) [⟨[], [], [], Fct.val 17 (.int .i64 0)⟩] hz648 hd648 (by kernel_rfl) ?_ ?_
    · refine sc (fun _ _ _ _ _ _ => px (or_assign rfl)) ?_
      exact steps_nil
    intro own653 a653 w653 hd653 hz653 hk653 hf653 hE653
    have e653_7 := (hk653 7 rfl).trans e648_7
    have e653_11 := (hk653 11 rfl).trans e648_11
    have e653_12 := (hk653 12 rfl).trans e648_12
    have e653_13 := (hk653 13 rfl).trans e648_13
    have e653_16 := (hk653 16 rfl).trans e648_16
    obtain ⟨(e653_17 : a653.eval (.tmp 17) = .int .i64 0), -⟩ := hf653 [0] rfl
    have hX653 := es_ hX648 hE653
    have b653_A447 := re_ hE653 b648_A447
    have b653_g471 := be_ hE653 b648_g471
    have b653_g473 := be_ hE653 b648_g473
    have b653_g475 := be_ hE653 b648_g475
    have b653_cA611 := be_ hE653 b648_cA611
    have b653_cA612 := be_ hE653 b648_cA612
    have b653_cA614 := MpN.evo rfl hE653 b648_cA614
    have b653_cA618 := MpO.evo (by decide) hE653 b648_cA618
    have b653_cA619 := MpO.evo (by decide) hE653 b648_cA619
    have b653_A633 := re_ hE653 b648_A633
    have b653_A634 := re_ hE653 b648_A634
    have b653_A635 := re_ hE653 b648_A635
    have b653_A636 := re_ hE653 b648_A636
    refine fl_block (fun Q654 hn654 hx654 hp654 => ?_)
    refine fl_loop (body := (fun s => law18_GuardKeeps_b3 r446 x468 x469 x470 r632 s)) (z := r) (show loopO _ _ = _ from hs) (fun (i723 : Int) a wx => ∃ (ox : Own), a.defers = [] ∧ a.tmps.size = 186 ∧ a.eval (.tmp 7) = .slice A447 r446.1.length cA447 ∧ a.eval (.tmp 11) = .pointer (some ⟨g471, 0, none⟩) ∧ a.eval (.tmp 12) = .pointer (some ⟨g473, 0, none⟩) ∧ a.eval (.tmp 13) = .pointer (some ⟨g475, 0, none⟩) ∧ a.eval (.tmp 16) = .pointer (some ⟨cA611, 0, none⟩) ∧ a.eval (.tmp 17) = .int .i64 i723 ∧ Evo [] (fun _ => 0) ox w wx ∧ RwO ox 448 [] wx 65 R65 A447 cA447 r446.1 ∧ BlkO ox 477 wx g471 25 #[.int .i64 x468.1, .int .i64 x468.2] ∧ BlkO ox 478 wx g473 25 #[.int .i64 x469.1, .int .i64 x469.2] ∧ BlkO ox 479 wx g475 25 #[.int .i64 x470.1, .int .i64 x470.2] ∧ BlkO ox 646 wx cA611 77 #[.pointer (some ⟨cA612, 0, none⟩), .slice A635 r632.2.2.1.length cA635, .slice A636 r632.2.2.2.1.length cA636, .map (some cA618), .map (some cA619)] ∧ BlkO ox 641 wx cA612 106 #[.slice A633 r632.2.1.1.length cA633, .map (some cA614), .slice A634 r632.2.1.2.2.length cA634] ∧ RwO ox 637 [] wx 80 R80 A633 cA633 r632.2.1.1 ∧ MpN ox 638 639 [] wx cA614 vv111 3 R3 r632.2.1.2.1 ∧ RwO ox 640 [] wx 3 R3 A634 cA634 r632.2.1.2.2 ∧ RwO ox 642 [] wx 3 R3 A635 cA635 r632.2.2.1 ∧ RwO ox 643 [] wx 25 R25 A636 cA636 r632.2.2.2.1 ∧ MpO ox 644 wx cA618 vv25 vv4 r632.2.2.2.2.1 ∧ MpO ox 645 wx cA619 vv81 vv4 r632.2.2.2.2.2) ?_ ?_
    · exact ⟨own653, hd653, hz653, e653_7, e653_11, e653_12, e653_13, e653_16, e653_17, hX653, b653_A447, b653_g471, b653_g473, b653_g475, b653_cA611, b653_cA612, b653_A633, b653_cA614, b653_A634, b653_A635, b653_A636, b653_cA618, b653_cA619⟩
    · rintro i723 zz792 a792 w792 ⟨own792, hd793, hz793, e793_7, e793_11, e793_12, e793_13, e793_16, e793_17, hE793, b793_A447, b793_g471, b793_g473, b793_g475, b793_cA611, b793_cA612, b793_A633, b793_cA614, b793_A634, b793_A635, b793_A636, b793_cA618, b793_cA619⟩ hs Q792 hn792 hp792 hz792
      have hs : law18_GuardKeeps_b3 r446 x468 x469 x470 r632 i723 = some zz792 := hs
      refine fl_seq (fun Q794 hn794 hp794 => ?_)
      refine rg0_seq 186 own792 [0, 0, 2, 7] [⟨[], [17], [], Fct.val 118 (.int .i64 i723)⟩,     ⟨[], [7], [], Fct.val 119 (.slice A447 r446.1.length cA447)⟩,     ⟨[1], [], [], Fct.val 120 (.int .i64 (r446.1.length : Int))⟩,     ⟨[0, 2], [], [], Fct.val 121 (.bool (decide (i723 < (r446.1.length : Int))))⟩] hz793 hd793 (by kernel_rfl) ?_ ?_
      · refine sc (fun _ _ _ _ s _ => px (or_move (s.1.trans e793_17))) ?_
        refine sc (fun _ _ _ _ s _ => px (or_move (s.1.trans e793_7))) ?_
        refine sc (fun _ _ _ f _ _ => px (or_len tu59 f.1 rfl)) ?_
        refine sc (fun _ _ _ f _ _ => px (or_lss f.1 f.2.1 rfl)) ?_
        exact steps_nil
      intro own795 a795 w795 hd795 hz795 hk795 hf795 hE795
      have e795_7 := (hk795 7 rfl).trans e793_7
      have e795_11 := (hk795 11 rfl).trans e793_11
      have e795_12 := (hk795 12 rfl).trans e793_12
      have e795_13 := (hk795 13 rfl).trans e793_13
      have e795_16 := (hk795 16 rfl).trans e793_16
      have e795_17 := (hk795 17 rfl).trans e793_17
      obtain ⟨(e795_121 : a795.eval (.tmp 121) = .bool (decide (i723 < (r446.1.length : Int)))), -⟩ := hf795 [3] rfl
      have hX795 := es_ hE793 hE795
      have b795_A447 := re_ hE795 b793_A447
      have b795_g471 := be_ hE795 b793_g471
      have b795_g473 := be_ hE795 b793_g473
      have b795_g475 := be_ hE795 b793_g475
      have b795_cA611 := be_ hE795 b793_cA611
      have b795_cA612 := be_ hE795 b793_cA612
      have b795_A633 := re_ hE795 b793_A633
      have b795_cA614 := MpN.evo rfl hE795 b793_cA614
      have b795_A634 := re_ hE795 b793_A634
      have b795_A635 := re_ hE795 b793_A635
      have b795_A636 := re_ hE795 b793_A636
      have b795_cA618 := MpO.evo (by decide) hE795 b793_cA618
      have b795_cA619 := MpO.evo (by decide) hE795 b793_cA619
      refine fl_cond e795_121 hs (fun c796 hs => ?_) (fun c796 hs => ?_)
      · refine fl_skip ?_
        refine hn794 _ _ ?_
        refine fl_seq (fun Q797 hn797 hp797 => ?_)
        refine fl_block (fun Q829 hn829 hx829 hp829 => ?_)
        have K844 : ∀ (a844 : Act) (w844 : World) (own844 : Own), a844.defers = [] → a844.tmps.size = 186 → a844.eval (.tmp 7) = .slice A447 r446.1.length cA447 → a844.eval (.tmp 11) = .pointer (some ⟨g471, 0, none⟩) → a844.eval (.tmp 12) = .pointer (some ⟨g473, 0, none⟩) → a844.eval (.tmp 13) = .pointer (some ⟨g475, 0, none⟩) → a844.eval (.tmp 16) = .pointer (some ⟨cA611, 0, none⟩) → a844.eval (.tmp 17) = .int .i64 i723 → Evo [] (fun _ => 0) own844 w w844 → RwO own844 448 [] w844 65 R65 A447 cA447 r446.1 → BlkO own844 477 w844 g471 25 #[.int .i64 x468.1, .int .i64 x468.2] → BlkO own844 478 w844 g473 25 #[.int .i64 x469.1, .int .i64 x469.2] → BlkO own844 479 w844 g475 25 #[.int .i64 x470.1, .int .i64 x470.2] → BlkO own844 646 w844 cA611 77 #[.pointer (some ⟨cA612, 0, none⟩), .slice A635 r632.2.2.1.length cA635, .slice A636 r632.2.2.2.1.length cA636, .map (some cA618), .map (some cA619)] → BlkO own844 641 w844 cA612 106 #[.slice A633 r632.2.1.1.length cA633, .map (some cA614), .slice A634 r632.2.1.2.2.length cA634] → RwO own844 637 [] w844 80 R80 A633 cA633 r632.2.1.1 → MpN own844 638 639 [] w844 cA614 vv111 3 R3 r632.2.1.2.1 → RwO own844 640 [] w844 3 R3 A634 cA634 r632.2.1.2.2 → RwO own844 642 [] w844 3 R3 A635 cA635 r632.2.2.1 → RwO own844 643 [] w844 25 R25 A636 cA636 r632.2.2.2.1 → MpO own844 644 w844 cA618 vv25 vv4 r632.2.2.2.2.1 → MpO own844 645 w844 cA619 vv81 vv4 r632.2.2.2.2.2 → law18_GuardKeeps_k4 i723 = some zz792 → (Q829 .normal a844 w844 ∧ Q829 (.exit 3) a844 w844) := by
          intro a844 w844 own844  hd845 hz845 e845_7 e845_11 e845_12 e845_13 e845_16 e845_17 hE845 b845_A447 b845_g471 b845_g473 b845_g475 b845_cA611 b845_cA612 b845_A633 b845_cA614 b845_A634 b845_A635 b845_A636 b845_cA618 b845_cA619 hs
          refine and_both (hn829 _ _) (hx829 _ _) ?_
          refine hn797 _ _ ?_
          refine rg0 186 own844 (bz 3) [⟨[], [17], [], Fct.val 122 (.int .i64 i723)⟩,     ⟨[0], [], [], Fct.val 123 (.int .i64 (ad i723 1))⟩,     ⟨[1], [], [], Fct.val 17 (.int .i64 (ad i723 1))⟩] hz845 hd845 (by kernel_rfl) ?_ ?_
          · refine sc (fun _ _ _ _ s _ => px (or_move (s.1.trans e845_17))) ?_
            refine sc (fun _ _ _ f _ _ => px (or_add f.1 rfl rfl)) ?_
            refine sc (fun _ _ _ f _ _ => px (or_assign f.1)) ?_
            exact steps_nil
          intro own846 a846 w846 hd846 hz846 hk846 hf846 hE846
          have e846_7 := (hk846 7 rfl).trans e845_7
          have e846_11 := (hk846 11 rfl).trans e845_11
          have e846_12 := (hk846 12 rfl).trans e845_12
          have e846_13 := (hk846 13 rfl).trans e845_13
          have e846_16 := (hk846 16 rfl).trans e845_16
          obtain ⟨(e846_17 : a846.eval (.tmp 17) = .int .i64 (ad i723 1)), -⟩ := hf846 [2] rfl
          have hX846 := es_ hE845 hE846
          have b846_A447 := re_ hE846 b845_A447
          have b846_g471 := be_ hE846 b845_g471
          have b846_g473 := be_ hE846 b845_g473
          have b846_g475 := be_ hE846 b845_g475
          have b846_cA611 := be_ hE846 b845_cA611
          have b846_cA612 := be_ hE846 b845_cA612
          have b846_A633 := re_ hE846 b845_A633
          have b846_cA614 := MpN.evo rfl hE846 b845_cA614
          have b846_A634 := re_ hE846 b845_A634
          have b846_A635 := re_ hE846 b845_A635
          have b846_A636 := re_ hE846 b845_A636
          have b846_cA618 := MpO.evo (by decide) hE846 b845_cA618
          have b846_cA619 := MpO.evo (by decide) hE846 b845_cA619
          exact hn792 _ _ _ hs ⟨own846, hd846, hz846, e846_7, e846_11, e846_12, e846_13, e846_16, e846_17, hX846, b846_A447, b846_g471, b846_g473, b846_g475, b846_cA611, b846_cA612, b846_A633, b846_cA614, b846_A634, b846_A635, b846_A636, b846_cA618, b846_cA619⟩
        refine fl_seq (fun Q847 hn847 hp847 => ?_)
        obtain ⟨x848, hx848, hs⟩ := obind hs
        obtain ⟨x849, hx849, hs⟩ := obind hs
        obtain ⟨x850, hx850, hs⟩ := obind hs
        refine rg_draw_seq g_mixed (n := 186) (rs := []) (own0 := own795) (K := []) (bs := [0, 0, 3, 7, 15, 0, 63, 127, 255, 255, 1023, 2047, 4095, 255, 16383, 32767]) (ds := [⟨[], [7], [], Fct.val 124 (.slice A447 r446.1.length cA447)⟩,     ⟨[], [17], [], Fct.val 125 (.int .i64 i723)⟩,     ⟨[0, 1], [], [], Fct.val 126 (.pointer (some ((adr A447).add ((i723 : Int).toNat * R65.s))))⟩,     ⟨[2], [], [], Fct.val 127 (.pointer (some ((adr A447).add ((i723 : Int).toNat * R65.s))))⟩,     ⟨[3], [], [], Fct.val 128 (.agg #[.int .i64 x848.1.1, .int .i64 x848.1.2])⟩,     ⟨[], [12], [], Fct.val 129 (.agg #[.int .i64 x469.1, .int .i64 x469.2])⟩,     ⟨[4, 5], [], [], Fct.val 130 (.bool (decide (x848.1 = x469)))⟩,     ⟨[6], [], [], Fct.val 131 (.bool (decide (x848.1 = x469)))⟩,     ⟨[7], [7], [], Fct.cond (!(decide (x848.1 = x469))) (some 132) (Fct.val 132 (.slice A447 r446.1.length cA447))⟩,     ⟨[7], [17], [], Fct.cond (!(decide (x848.1 = x469))) (some 133) (Fct.val 133 (.int .i64 i723))⟩,     ⟨[7, 8, 9], [], [], Fct.cond (!(decide (x848.1 = x469))) (some 134) (Fct.val 134 (.pointer (some ((adr A447).add ((i723 : Int).toNat * R65.s)))))⟩,     ⟨[7, 10], [], [], Fct.cond (!(decide (x848.1 = x469))) (some 135) (Fct.val 135 (.pointer (some (((adr A447).add ((i723 : Int).toNat * R65.s)).add 2))))⟩,     ⟨[7, 11], [], [], Fct.cond (!(decide (x848.1 = x469))) (some 136) (Fct.val 136 (.agg #[.int .i64 x849.2.1, .int .i64 x849.2.2]))⟩,     ⟨[7], [12], [], Fct.cond (!(decide (x848.1 = x469))) (some 137) (Fct.val 137 (.agg #[.int .i64 x469.1, .int .i64 x469.2]))⟩,     ⟨[7, 12, 13], [], [], Fct.cond (!(decide (x848.1 = x469))) (some 138) (Fct.val 138 (.bool (decide (x849.2 = x469))))⟩,     ⟨[7, 14], [], [], Fct.val 139 (.bool x850)⟩]) (by kernel_rfl) hz795 hd795 nm_ ?_ ?_
        · refine sc (fun _ _ _ _ s _ => px (or_move (s.1.trans e795_7))) ?_
          refine sc (fun _ _ _ _ s _ => px (or_move (s.1.trans e795_17))) ?_
          refine sc (fun _ _ _ f _ _ => px (or_index (R := R65) (l := r446.1) tl59 f.1 f.2.1 (RdO.some_ (RwO.rd b795_A447) hx848) hx848)) ?_
          refine sc (fun _ _ _ f s _ => px (or_indexArr (i := 0) (s := 2) tr65 ts25 f.1 rfl (by decide) (Addr.add_zero' _))) ?_
          refine sc (fun _ _ _ f _ hE => px (or_load (l := [.int .i64 x848.1.1, .int .i64 x848.1.2]) ta25 f.1 (CellsAt.head_ (RdO.cells (F := E65) (RwO.rd (re_ hE b795_A447)) hx848) rfl) rfl)) ?_
          refine sc (fun _ _ _ _ s hE => px (or_load (l := [.int .i64 x469.1, .int .i64 x469.2]) ta25 (s.1.trans e795_12) (Blk.cellsFrom (be_ hE b795_g473).2 0 rfl) rfl)) ?_
          refine sc (fun _ _ _ f _ _ => px (or_eqlA sg25 f.1 f.2.1 (se25 x848.1.1 x848.1.2 x469.1 x469.2 _) rfl)) ?_
          refine sc (fun _ _ _ f _ _ => px (or_move f.1)) ?_
          refine sc (fun _ _ _ f s _ => sg_f rfl rfl rfl f.1 (fun hg => or_move (s.1.trans e795_7))) ?_
          refine sc (fun _ _ _ f s _ => sg_f rfl rfl rfl f.1 (fun hg => or_move (s.1.trans e795_17))) ?_
          refine sc (fun _ _ _ f _ _ => sg_f rfl rfl rfl f.1 (fun hg => or_index (R := R65) (l := r446.1) tl59 (f.2.1.1 hg) (f.2.2.1.1 hg) (RdO.some_ (RwO.rd b795_A447) (gd_t hx849 hg)) (gd_t hx849 hg))) ?_
          refine sc (fun _ _ _ f s _ => sg_f rfl rfl rfl f.1 (fun hg => or_indexArr (i := 1) (s := 2) tr65 ts25 (f.2.1.1 hg) rfl (by decide) rfl)) ?_
          refine sc (fun _ _ _ f _ hE => sg_f rfl rfl rfl f.1 (fun hg => or_load (l := [.int .i64 x849.2.1, .int .i64 x849.2.2]) ta25 (f.2.1.1 hg) (CellsAt.part (RdO.cells (F := E65) (RwO.rd (re_ hE b795_A447)) (gd_t hx849 hg)) 2 rfl) rfl)) ?_
          refine sc (fun _ _ _ f s hE => sg_f rfl rfl rfl f.1 (fun hg => or_load (l := [.int .i64 x469.1, .int .i64 x469.2]) ta25 (s.1.trans e795_12) (Blk.cellsFrom (be_ hE b795_g473).2 0 rfl) rfl)) ?_
          refine sc (fun _ _ _ f _ _ => sg_f rfl rfl rfl f.1 (fun hg => or_eqlA sg25 (f.2.1.1 hg) (f.2.2.1.1 hg) (se25 x849.2.1 x849.2.2 x469.1 x469.2 _) rfl)) ?_
          refine sc (fun _ _ _ f _ _ => px (or_or f.1 rfl (fun hx => f.2.1.1 hx) (osome hx850).symm)) ?_
          exact steps_nil
        intro own851 a851 w851 hd851 hz851 hk851 hf851 hE851
        have e851_7 := (hk851 7 rfl).trans e795_7
        have e851_11 := (hk851 11 rfl).trans e795_11
        have e851_12 := (hk851 12 rfl).trans e795_12
        have e851_13 := (hk851 13 rfl).trans e795_13
        have e851_16 := (hk851 16 rfl).trans e795_16
        have e851_17 := (hk851 17 rfl).trans e795_17
        obtain ⟨(e851_139 : a851.eval (.tmp 139) = .bool x850), -⟩ := hf851 [15] rfl
        have hX851 := es_ hX795 hE851
        have b851_A447 := re_ hE851 b795_A447
        have b851_g471 := be_ hE851 b795_g471
        have b851_g473 := be_ hE851 b795_g473
        have b851_g475 := be_ hE851 b795_g475
        have b851_cA611 := be_ hE851 b795_cA611
        have b851_cA612 := be_ hE851 b795_cA612
        have b851_A633 := re_ hE851 b795_A633
        have b851_cA614 := MpN.evo rfl hE851 b795_cA614
        have b851_A634 := re_ hE851 b795_A634
        have b851_A635 := re_ hE851 b795_A635
        have b851_A636 := re_ hE851 b795_A636
        have b851_cA618 := MpO.evo (by decide) hE851 b795_cA618
        have b851_cA619 := MpO.evo (by decide) hE851 b795_cA619
        refine fl_cond e851_139 hs (fun c852 hs => ?_) (fun c852 hs => ?_)
        · refine fl_exit ?_
          refine hp847 _ _ _ rfl ?_
          exact (K844 _ _ own851  hd851 hz851 e851_7 e851_11 e851_12 e851_13 e851_16 e851_17 hX851 b851_A447 b851_g471 b851_g473 b851_g475 b851_cA611 b851_cA612 b851_A633 b851_cA614 b851_A634 b851_A635 b851_A636 b851_cA618 b851_cA619 hs).2
        refine fl_skip ?_
        refine hn847 _ _ ?_
        obtain ⟨x853, hx853, hs⟩ := obind hs
        obtain ⟨x854, hx854, hs⟩ := obind hs
        obtain ⟨r855, hr855, hs⟩ := obind hs
        refine rg_draw_seq g_mixed (n := 186) (rs := []) (own0 := own851) (K := []) (bs := [0, 0, 0, 0, 12, 28, 60, 0, 0, 384, 896, 1920, 4095, 8191, 16383, 16383, 32767, 131071]) (ds := [⟨[], [11], [], Fct.val 141 (.agg #[.int .i64 x468.1, .int .i64 x468.2])⟩,     ⟨[], [13], [], Fct.val 142 (.agg #[.int .i64 x470.1, .int .i64 x470.2])⟩,     ⟨[], [7], [], Fct.val 143 (.slice A447 r446.1.length cA447)⟩,     ⟨[], [17], [], Fct.val 144 (.int .i64 i723)⟩,     ⟨[2, 3], [], [], Fct.val 145 (.pointer (some ((adr A447).add ((i723 : Int).toNat * R65.s))))⟩,     ⟨[4], [], [], Fct.val 146 (.pointer (some ((adr A447).add ((i723 : Int).toNat * R65.s))))⟩,     ⟨[5], [], [], Fct.val 147 (.agg #[.int .i64 x853.1.1, .int .i64 x853.1.2])⟩,     ⟨[], [7], [], Fct.val 148 (.slice A447 r446.1.length cA447)⟩,     ⟨[], [17], [], Fct.val 149 (.int .i64 i723)⟩,     ⟨[7, 8], [], [], Fct.val 150 (.pointer (some ((adr A447).add ((i723 : Int).toNat * R65.s))))⟩,     ⟨[9], [], [], Fct.val 151 (.pointer (some (((adr A447).add ((i723 : Int).toNat * R65.s)).add 2)))⟩,     ⟨[10], [], [], Fct.val 152 (.agg #[.int .i64 x854.2.1, .int .i64 x854.2.2])⟩,     ⟨[0, 1, 6, 11], [], [], Fct.val 153 (.tuple #[.int .i64 r855.1, .int .i64 r855.2])⟩,     ⟨[12], [], [], Fct.val 140 (.tuple #[.int .i64 r855.1, .int .i64 r855.2])⟩,     ⟨[13], [], [], Fct.val 154 (.int .i64 r855.1)⟩,     ⟨[13], [], [], Fct.val 155 (.int .i64 r855.2)⟩,     ⟨[14], [], [], Fct.val 18 (.int .i64 r855.1)⟩,     ⟨[15], [], [], Fct.val 19 (.int .i64 r855.2)⟩]) (by kernel_rfl) hz851 hd851 nm_ ?_ ?_
        · refine sc (fun _ _ _ _ s hE => px (or_load (l := [.int .i64 x468.1, .int .i64 x468.2]) ta25 (s.1.trans e851_11) (Blk.cellsFrom (be_ hE b851_g471).2 0 rfl) rfl)) ?_
          refine sc (fun _ _ _ _ s hE => px (or_load (l := [.int .i64 x470.1, .int .i64 x470.2]) ta25 (s.1.trans e851_13) (Blk.cellsFrom (be_ hE b851_g475).2 0 rfl) rfl)) ?_
          refine sc (fun _ _ _ _ s _ => px (or_move (s.1.trans e851_7))) ?_
          refine sc (fun _ _ _ _ s _ => px (or_move (s.1.trans e851_17))) ?_
          refine sc (fun _ _ _ f _ _ => px (or_index (R := R65) (l := r446.1) tl59 f.1 f.2.1 (RdO.some_ (RwO.rd b851_A447) hx853) hx853)) ?_
          refine sc (fun _ _ _ f s _ => px (or_indexArr (i := 0) (s := 2) tr65 ts25 f.1 rfl (by decide) (Addr.add_zero' _))) ?_
          refine sc (fun _ _ _ f _ hE => px (or_load (l := [.int .i64 x853.1.1, .int .i64 x853.1.2]) ta25 f.1 (CellsAt.head_ (RdO.cells (F := E65) (RwO.rd (re_ hE b851_A447)) hx853) rfl) rfl)) ?_
          refine sc (fun _ _ _ _ s _ => px (or_move (s.1.trans e851_7))) ?_
          refine sc (fun _ _ _ _ s _ => px (or_move (s.1.trans e851_17))) ?_
          refine sc (fun _ _ _ f _ _ => px (or_index (R := R65) (l := r446.1) tl59 f.1 f.2.1 (RdO.some_ (RwO.rd b851_A447) hx854) hx854)) ?_
          refine sc (fun _ _ _ f s _ => px (or_indexArr (i := 1) (s := 2) tr65 ts25 f.1 rfl (by decide) rfl)) ?_
          refine sc (fun _ _ _ f _ hE => px (or_load (l := [.int .i64 x854.2.1, .int .i64 x854.2.2]) ta25 f.1 (CellsAt.part (RdO.cells (F := E65) (RwO.rd (re_ hE b851_A447)) hx854) 2 rfl) rfl)) ?_
          refine sc (fun _ _ _ f _ _ => px (or_call cf27 (args4 f.1 f.2.1 f.2.2.1 f.2.2.2.1) (seg_Class_w _ x468 x470 x853.1 x854.2  r855 hr855) post_val)) ?_
          refine sc (fun _ _ _ f _ _ => px (or_move f.1)) ?_
          refine sc (fun _ _ _ f _ _ => px (or_k [(140, .tuple #[.int .i64 r855.1, .int .i64 r855.2])] rfl rfl ⟨f.1, trivial⟩ (by kernel_rfl))) ?_
          refine sc (fun _ _ _ f _ _ => px (or_k [(140, .tuple #[.int .i64 r855.1, .int .i64 r855.2])] rfl rfl ⟨f.1, trivial⟩ (by kernel_rfl))) ?_
          refine sc (fun _ _ _ f _ _ => px (or_assign f.1)) ?_
          refine sc (fun _ _ _ f _ _ => px (or_assign f.1)) ?_
          exact steps_nil
        intro own856 a856 w856 hd856 hz856 hk856 hf856 hE856
        have e856_7 := (hk856 7 rfl).trans e851_7
        have e856_11 := (hk856 11 rfl).trans e851_11
        have e856_12 := (hk856 12 rfl).trans e851_12
        have e856_13 := (hk856 13 rfl).trans e851_13
        have e856_16 := (hk856 16 rfl).trans e851_16
        have e856_17 := (hk856 17 rfl).trans e851_17
        obtain ⟨(e856_18 : a856.eval (.tmp 18) = .int .i64 r855.1), (e856_19 : a856.eval (.tmp 19) = .int .i64 r855.2), -⟩ := hf856 [16, 17] rfl
        have hX856 := es_ hX851 hE856
        have b856_A447 := re_ hE856 b851_A447
        have b856_g471 := be_ hE856 b851_g471
        have b856_g473 := be_ hE856 b851_g473
        have b856_g475 := be_ hE856 b851_g475
        have b856_cA611 := be_ hE856 b851_cA611
        have b856_cA612 := be_ hE856 b851_cA612
        have b856_A633 := re_ hE856 b851_A633
        have b856_cA614 := MpN.evo rfl hE856 b851_cA614
        have b856_A634 := re_ hE856 b851_A634
        have b856_A635 := re_ hE856 b851_A635
        have b856_A636 := re_ hE856 b851_A636
        have b856_cA618 := MpO.evo (by decide) hE856 b851_cA618
        have b856_cA619 := MpO.evo (by decide) hE856 b851_cA619
        obtain ⟨x857, hx857, hs⟩ := obind hs
        refine rg0_seq 186 own856 (bz 10) [⟨[], [19], [], Fct.val 156 (.int .i64 r855.2)⟩,     ⟨[0], [], [], Fct.val 157 (.bool (!decide (r855.2 = 0)))⟩,     ⟨[1], [], [], Fct.val 158 (.bool (!decide (r855.2 = 0)))⟩,     ⟨[2], [18], [], Fct.cond (!(!decide (r855.2 = 0))) (some 159) (Fct.val 159 (.int .i64 r855.1))⟩,     ⟨[2, 3], [], [], Fct.cond (!(!decide (r855.2 = 0))) (some 160) (Fct.val 160 (.bool (!decide (r855.1 = 0))))⟩,     ⟨[2, 4], [], [], Fct.cond (!(!decide (r855.2 = 0))) (some 161) (Fct.val 161 (.bool (!decide (r855.1 = 0))))⟩,     ⟨[5], [18], [], Fct.cond ((!(!decide (r855.2 = 0))) && (!decide (r855.1 = 0))) (some 162) (Fct.val 162 (.int .i64 r855.1))⟩,     ⟨[5, 6], [], [], Fct.cond ((!(!decide (r855.2 = 0))) && (!decide (r855.1 = 0))) (some 163) (Fct.val 163 (.bool (!decide (r855.1 = 1))))⟩,     ⟨[2, 5, 7], [], [], Fct.cond (!(!decide (r855.2 = 0))) (some 164) (Fct.val 164 (.bool x857))⟩,     ⟨[2, 8], [], [], Fct.val 165 (.bool ((!decide (r855.2 = 0)) || x857))⟩] hz856 hd856 (by kernel_rfl) ?_ ?_
        · refine sc (fun _ _ _ _ s _ => px (or_move (s.1.trans e856_19))) ?_
          refine sc (fun _ _ _ f _ _ => px (or_neq f.1 rfl rfl)) ?_
          refine sc (fun _ _ _ f _ _ => px (or_move f.1)) ?_
          refine sc (fun _ _ _ f s _ => sg_f rfl rfl rfl f.1 (fun hg => or_move (s.1.trans e856_18))) ?_
          refine sc (fun _ _ _ f _ _ => sg_f rfl rfl rfl f.1 (fun hg => or_neq (f.2.1.1 hg) rfl rfl)) ?_
          refine sc (fun _ _ _ f _ _ => sg_f rfl rfl rfl f.1 (fun hg => or_move (f.2.1.1 hg))) ?_
          refine sc (fun _ _ _ f s _ => sg_tc rfl rfl rfl f.1 (fun hg => or_move (s.1.trans e856_18))) ?_
          refine sc (fun _ _ _ f _ _ => sg_tc rfl rfl rfl f.1 (fun hg => or_neq (f.2.1.1 hg) rfl rfl)) ?_
          refine sc (fun _ _ _ f _ _ => sg_f rfl rfl rfl f.1 (fun hg => or_and (f.2.1.1 hg) (fun hx => f.2.2.1.1 (gI hg hx)) rfl (osome hx857).symm)) ?_
          refine sc (fun _ _ _ f _ _ => px (or_or f.1 rfl (fun hx => f.2.1.1 hx) rfl)) ?_
          exact steps_nil
        intro own858 a858 w858 hd858 hz858 hk858 hf858 hE858
        have e858_7 := (hk858 7 rfl).trans e856_7
        have e858_11 := (hk858 11 rfl).trans e856_11
        have e858_12 := (hk858 12 rfl).trans e856_12
        have e858_13 := (hk858 13 rfl).trans e856_13
        have e858_16 := (hk858 16 rfl).trans e856_16
        have e858_17 := (hk858 17 rfl).trans e856_17
        obtain ⟨(e858_165 : a858.eval (.tmp 165) = .bool ((!decide (r855.2 = 0)) || x857)), -⟩ := hf858 [9] rfl
        have hX858 := es_ hX856 hE858
        have b858_A447 := re_ hE858 b856_A447
        have b858_g471 := be_ hE858 b856_g471
        have b858_g473 := be_ hE858 b856_g473
        have b858_g475 := be_ hE858 b856_g475
        have b858_cA611 := be_ hE858 b856_cA611
        have b858_cA612 := be_ hE858 b856_cA612
        have b858_A633 := re_ hE858 b856_A633
        have b858_cA614 := MpN.evo rfl hE858 b856_cA614
        have b858_A634 := re_ hE858 b856_A634
        have b858_A635 := re_ hE858 b856_A635
        have b858_A636 := re_ hE858 b856_A636
        have b858_cA618 := MpO.evo (by decide) hE858 b856_cA618
        have b858_cA619 := MpO.evo (by decide) hE858 b856_cA619
        refine fl_cond e858_165 hs (fun c859 hs => ?_) (fun c859 hs => ?_)
        · refine rg0_seq 186 own858 (bz 1) [⟨[], [], [], Fct.val 6 (.bool false)⟩] hz858 hd858 (by kernel_rfl) ?_ ?_
          · refine sc (fun _ _ _ _ _ _ => px (or_assign rfl)) ?_
            exact steps_nil
          intro own860 a860 w860 hd860 hz860 hk860 hf860 hE860
          obtain ⟨(e860_6 : a860.eval (.tmp 6) = .bool false), -⟩ := hf860 [0] rfl
          have hX860 := es_ hX858 hE860
          refine fl_ret ?_
          refine hp829 _ _ _ rfl ?_
          refine hp797 _ _ _ rfl ?_
          replace hs := hz792 _ hs
          refine hp792 _ _ _ rfl ?_
          refine hp654 _ _ _ rfl ?_
          refine hp652 _ _ _ rfl ?_
          obtain rfl := osome hs
          exact hret _ _ _ _ (.inl rfl) hd860 (results1_ rfl (RVal.tmp_ e860_6)) ⟨own860, rfl, hX860⟩
        refine fl_skip ?_
        exact (K844 _ _ own858  hd858 hz858 e858_7 e858_11 e858_12 e858_13 e858_16 e858_17 hX858 b858_A447 b858_g471 b858_g473 b858_g475 b858_cA611 b858_cA612 b858_A633 b858_cA614 b858_A634 b858_A635 b858_A636 b858_cA618 b858_cA619 hs).1
      refine fl_exit ?_
      refine hp794 _ _ _ rfl ?_
      replace hs := hz792 _ hs
      refine hp792 _ _ _ rfl ?_
      refine hx654 _ _ ?_
      refine hn652 _ _ ?_
      obtain ⟨r861, hr861, hs⟩ := obind hs
      obtain ⟨r862, hr862, hs⟩ := obind hs
      obtain ⟨r863, hr863, hs⟩ := obind hs
      obtain ⟨r864, hr864, hs⟩ := obind hs
      obtain ⟨x865, hx865, hs⟩ := obind hs
      refine rg0_seq 186 own795 [0, 1, 3, 3, 3, 31, 63, 127, 255, 255, 1023, 2047, 4095, 8191, 16383, 16383, 16383, 131071, 262143, 524287, 1048575] [⟨[], [], [], Fct.val 166 (.bool r861)⟩,     ⟨[0], [], [], Fct.val 167 (.bool r861)⟩,     ⟨[1], [16], [], Fct.cond r861 (some 168) (Fct.val 168 (.pointer (some ⟨cA611, 0, none⟩)))⟩,     ⟨[1], [11], [], Fct.cond r861 (some 169) (Fct.val 169 (.agg #[.int .i64 x468.1, .int .i64 x468.2]))⟩,     ⟨[1], [13], [], Fct.cond r861 (some 170) (Fct.val 170 (.agg #[.int .i64 x470.1, .int .i64 x470.2]))⟩,     ⟨[1, 2, 3, 4], [], [], Fct.cond r861 (some 171) (Fct.val 171 (.bool r862))⟩,     ⟨[1, 5], [], [], Fct.val 172 (.bool (r861 && r862))⟩,     ⟨[6], [], [], Fct.val 173 (.bool (r861 && r862))⟩,     ⟨[7], [16], [], Fct.cond (r861 && r862) (some 174) (Fct.val 174 (.pointer (some ⟨cA611, 0, none⟩)))⟩,     ⟨[7], [12], [], Fct.cond (r861 && r862) (some 175) (Fct.val 175 (.agg #[.int .i64 x469.1, .int .i64 x469.2]))⟩,     ⟨[7, 8, 9], [], [], Fct.cond (r861 && r862) (some 176) (Fct.val 176 (.bool r863))⟩,     ⟨[7, 10], [], [], Fct.cond (r861 && r862) (some 177) (Fct.val 177 (.bool (!r863)))⟩,     ⟨[7, 11], [], [], Fct.val 178 (.bool ((r861 && r862) && (!r863)))⟩,     ⟨[12], [], [], Fct.val 179 (.bool ((r861 && r862) && (!r863)))⟩,     ⟨[13], [16], [], Fct.cond ((r861 && r862) && (!r863)) (some 180) (Fct.val 180 (.pointer (some ⟨cA611, 0, none⟩)))⟩,     ⟨[13], [11], [], Fct.cond ((r861 && r862) && (!r863)) (some 181) (Fct.val 181 (.agg #[.int .i64 x468.1, .int .i64 x468.2]))⟩,     ⟨[13], [12], [], Fct.cond ((r861 && r862) && (!r863)) (some 182) (Fct.val 182 (.agg #[.int .i64 x469.1, .int .i64 x469.2]))⟩,     ⟨[13, 14, 15, 16], [], [], Fct.cond ((r861 && r862) && (!r863)) (some 183) (Fct.val 183 (.bool r864))⟩,     ⟨[13, 17], [], [], Fct.cond ((r861 && r862) && (!r863)) (some 184) (Fct.val 184 (.bool (!r864)))⟩,     ⟨[13, 18], [], [], Fct.val 185 (.bool x865)⟩,     ⟨[19], [], [], Fct.val 6 (.bool x865)⟩] hz795 hd795 (by kernel_rfl) ?_ ?_
      · refine sc (fun _ _ _ _ _ _ => px (or_call cf11 (args0) (law18_known_w _   r861 hr861) post_val)) ?_
        refine sc (fun _ _ _ f _ _ => px (or_move f.1)) ?_
        refine sc (fun _ _ _ f s _ => sg_t rfl rfl rfl f.1 (fun hg => or_move (s.1.trans e795_16))) ?_
        refine sc (fun _ _ _ f s hE => sg_t rfl rfl rfl f.1 (fun hg => or_load (l := [.int .i64 x468.1, .int .i64 x468.2]) ta25 (s.1.trans e795_11) (Blk.cellsFrom (be_ hE b795_g471).2 0 rfl) rfl)) ?_
        refine sc (fun _ _ _ f s hE => sg_t rfl rfl rfl f.1 (fun hg => or_load (l := [.int .i64 x470.1, .int .i64 x470.2]) ta25 (s.1.trans e795_13) (Blk.cellsFrom (be_ hE b795_g475).2 0 rfl) rfl)) ?_
        refine sc (fun _ _ _ f _ hE => sg_t rfl rfl rfl f.1 (fun hg => or_call cf19 (args3 (f.2.1.1 hg) (f.2.2.1.1 hg) (f.2.2.2.1.1 hg)) (guard_Guard_Joined_w _ r632.2 cA611 77 cA612 106 A633 cA633 cA614 A634 cA634 A635 cA635 A636 cA636 cA618 cA619 x468 x470 (BlkO.zero_ (be_ hE b795_cA611)) (RdO.zero (RwO.rd (re_ hE b795_A635))) (RdO.zero (RwO.rd (re_ hE b795_A636))) (MpO.zero_ (MpO.evo (by decide) hE b795_cA618)) (MpO.zero_ (MpO.evo (by decide) hE b795_cA619)) (BlkO.zero_ (be_ hE b795_cA612)) (RdO.zero (RwO.rd (re_ hE b795_A633))) (MpN.zero_ (MpN.evo rfl hE b795_cA614)) (RdO.zero (RwO.rd (re_ hE b795_A634))) r862 (gd_t hr862 hg)) post_val)) ?_
        refine sc (fun _ _ _ f _ _ => px (or_and f.1 (fun hx => f.2.1.1 hx) rfl rfl)) ?_
        refine sc (fun _ _ _ f _ _ => px (or_move f.1)) ?_
        refine sc (fun _ _ _ f s _ => sg_t rfl rfl rfl f.1 (fun hg => or_move (s.1.trans e795_16))) ?_
        refine sc (fun _ _ _ f s hE => sg_t rfl rfl rfl f.1 (fun hg => or_load (l := [.int .i64 x469.1, .int .i64 x469.2]) ta25 (s.1.trans e795_12) (Blk.cellsFrom (be_ hE b795_g473).2 0 rfl) rfl)) ?_
        refine sc (fun _ _ _ f _ hE => sg_t rfl rfl rfl f.1 (fun hg => or_call cf17 (args2 (f.2.1.1 hg) (f.2.2.1.1 hg)) (guard_Guard_Has_w _ r632.2 cA611 77 cA612 106 A633 cA633 cA614 A634 cA634 A635 cA635 A636 cA636 cA618 cA619 x469 (BlkO.zero_ (be_ hE b795_cA611)) (RdO.zero (RwO.rd (re_ hE b795_A635))) (RdO.zero (RwO.rd (re_ hE b795_A636))) (MpO.zero_ (MpO.evo (by decide) hE b795_cA618)) (MpO.zero_ (MpO.evo (by decide) hE b795_cA619)) (BlkO.zero_ (be_ hE b795_cA612)) (RdO.zero (RwO.rd (re_ hE b795_A633))) (MpN.zero_ (MpN.evo rfl hE b795_cA614)) (RdO.zero (RwO.rd (re_ hE b795_A634))) r863 (gd_t hr863 hg)) post_val)) ?_
        refine sc (fun _ _ _ f _ _ => sg_t rfl rfl rfl f.1 (fun hg => or_not (f.2.1.1 hg) rfl)) ?_
        refine sc (fun _ _ _ f _ _ => px (or_and f.1 (fun hx => f.2.1.1 hx) rfl rfl)) ?_
        refine sc (fun _ _ _ f _ _ => px (or_move f.1)) ?_
        refine sc (fun _ _ _ f s _ => sg_t rfl rfl rfl f.1 (fun hg => or_move (s.1.trans e795_16))) ?_
        refine sc (fun _ _ _ f s hE => sg_t rfl rfl rfl f.1 (fun hg => or_load (l := [.int .i64 x468.1, .int .i64 x468.2]) ta25 (s.1.trans e795_11) (Blk.cellsFrom (be_ hE b795_g471).2 0 rfl) rfl)) ?_
        refine sc (fun _ _ _ f s hE => sg_t rfl rfl rfl f.1 (fun hg => or_load (l := [.int .i64 x469.1, .int .i64 x469.2]) ta25 (s.1.trans e795_12) (Blk.cellsFrom (be_ hE b795_g473).2 0 rfl) rfl)) ?_
        refine sc (fun _ _ _ f _ hE => sg_t rfl rfl rfl f.1 (fun hg => or_call cf19 (args3 (f.2.1.1 hg) (f.2.2.1.1 hg) (f.2.2.2.1.1 hg)) (guard_Guard_Joined_w _ r632.2 cA611 77 cA612 106 A633 cA633 cA614 A634 cA634 A635 cA635 A636 cA636 cA618 cA619 x468 x469 (BlkO.zero_ (be_ hE b795_cA611)) (RdO.zero (RwO.rd (re_ hE b795_A635))) (RdO.zero (RwO.rd (re_ hE b795_A636))) (MpO.zero_ (MpO.evo (by decide) hE b795_cA618)) (MpO.zero_ (MpO.evo (by decide) hE b795_cA619)) (BlkO.zero_ (be_ hE b795_cA612)) (RdO.zero (RwO.rd (re_ hE b795_A633))) (MpN.zero_ (MpN.evo rfl hE b795_cA614)) (RdO.zero (RwO.rd (re_ hE b795_A634))) r864 (gd_t hr864 hg)) post_val)) ?_
        refine sc (fun _ _ _ f _ _ => sg_t rfl rfl rfl f.1 (fun hg => or_not (f.2.1.1 hg) rfl)) ?_
        refine sc (fun _ _ _ f _ _ => px (or_and f.1 (fun hx => f.2.1.1 hx) rfl (osome hx865).symm)) ?_
        refine sc (fun _ _ _ f _ _ => px (or_assign f.1)) ?_
        exact steps_nil
      intro own866 a866 w866 hd866 hz866 hk866 hf866 hE866
      obtain ⟨(e866_6 : a866.eval (.tmp 6) = .bool x865), -⟩ := hf866 [20] rfl
      have hX866 := es_ hX795 hE866
      refine fl_ret ?_
      obtain rfl := (osome hs).symm
      exact hret _ _ _ _ (.inl rfl) hd866 (results1_ rfl (RVal.tmp_ e866_6)) ⟨own866, rfl, hX866⟩
end Go.Proofs.Ytoccfdohlefifaa
