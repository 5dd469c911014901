import Derived.Test.YtoccfdohlefifaaWp1
import Derived.Test.YtoccfdohlefifaaSp2
namespace Go.Proofs.Ytoccfdohlefifaa
open Go.RowKit
set_option linter.unusedVariables false
set_option maxRecDepth 10000
theorem order_Find_w (w : World) (l1 : List Int) (Al1 : Option Addr) (cl1 : Nat) (n2 : Int) (hl1 : RdO (fun _ => 0) [0] w R3 Al1 cl1 l1) (r : Int × Bool) (hs : order_Find l1 n2 = some r) :
    Calls Try.prog 65 #[.slice Al1 l1.length cl1, .int .i64 n2] w fun e w' => ∃ own' : Own, e = .returned (.tuple #[.int .i64 r.1, .bool r.2]) ∧ Evo [] (fun _ => 0) own' w w' := by
  refine fl_enter (n := 42) rfl rfl rfl (Nat.le_of_ble_eq_true rfl) ?_
  intro a0 Q hd0 hz0 harg hret
  have ha0 := harg 0 _ rfl
  have ha1 := harg 1 _ rfl
  clear harg
  have hE0 : Evo [] (fun _ => 0) (fun _ => 0) w w := Evo.refl _ _ _
  refine rg0_seq 42 (fun _ => 0) (bz 2) [⟨[], [], [], Fct.val 4 (.int .i64 0)⟩,     ⟨[], [], [], Fct.val 5 (.bool false)⟩] hz0 hd0 (by kernel_rfl) ?_ ?_
  · refine sc (fun _ _ _ _ _ _ => px (or_assign rfl)) ?_
    refine sc (fun _ _ _ _ _ _ => px (or_assign rfl)) ?_
    exact steps_nil
  intro own124 a124 w124 hd124 hz124 hk124 hf124 hE124
  have e124_0 := (hk124 0 rfl).trans ha0
  have e124_1 := (hk124 1 rfl).trans ha1
  have hX124 := es_ hE0 hE124
  have b124_Al1 := RdO.evo rfl hE124 hl1
  refine fl_scope (S := (Int × Int)) (body := (fun s => order_Find_b1_0 l1 n2 s.1 s.2)) (z := r) (fun _ => 0) ?_ (fun s a wx => ((fun (s : Int × Int) => match s with | (low152, high153) => ∃ (ox : Own), a.defers = [] ∧ a.tmps.size = 42 ∧ a.eval (.tmp 0) = .slice Al1 l1.length cl1 ∧ a.eval (.tmp 1) = .int .i64 n2 ∧ a.eval (.tmp 6) = .int .i64 low152 ∧ a.eval (.tmp 7) = .int .i64 high153 ∧ Evo [] (fun _ => 0) ox w wx ∧ RdO ox [0] wx R3 Al1 cl1 l1) : ((Int × Int)) → Prop) s) ?_ ?_
  · intro s; rfl
  · intro Q181 hj181 hp181
    refine rg0_seq 42 own124 [0, 1, 0, 7] [⟨[], [0], [], Fct.val 9 (.slice Al1 l1.length cl1)⟩,     ⟨[0], [], [], Fct.val 10 (.int .i64 (l1.length : Int))⟩,     ⟨[], [], [], Fct.val 6 (.int .i64 0)⟩,     ⟨[1], [], [], Fct.val 7 (.int .i64 (l1.length : Int))⟩] hz124 hd124 (by kernel_rfl) ?_ ?_
    · refine sc (fun _ _ _ _ s _ => px (or_move (s.1.trans e124_0))) ?_
      refine sc (fun _ _ _ f _ _ => px (or_len tu22 f.1 rfl)) ?_
      refine sc (fun _ _ _ _ _ _ => px (or_assign rfl)) ?_
      refine sc (fun _ _ _ f _ _ => px (or_assign f.1)) ?_
      exact steps_nil
    intro own210 a210 w210 hd210 hz210 hk210 hf210 hE210
    have e210_0 := (hk210 0 rfl).trans e124_0
    have e210_1 := (hk210 1 rfl).trans e124_1
    obtain ⟨(e210_6 : a210.eval (.tmp 6) = .int .i64 0), (e210_7 : a210.eval (.tmp 7) = .int .i64 (l1.length : Int)), -⟩ := hf210 [2, 3] rfl
    have hX210 := es_ hX124 hE210
    have b210_Al1 := RdO.evo rfl hE210 b124_Al1
    refine fl_seq (fun Q211 hn211 hp211 => ?_)
    refine fl_label ?_
    refine hn211 _ _ ?_
    refine fl_seq (fun Q212 hn212 hp212 => ?_)
    refine rg0_seq 42 own210 [0, 0, 3] [⟨[], [6], [], Fct.val 11 (.int .i64 0)⟩,     ⟨[], [7], [], Fct.val 12 (.int .i64 (l1.length : Int))⟩,     ⟨[0, 1], [], [], Fct.val 13 (.bool (decide (0 = (l1.length : Int))))⟩] hz210 hd210 (by kernel_rfl) ?_ ?_
    · refine sc (fun _ _ _ _ s _ => px (or_move (s.1.trans e210_6))) ?_
      refine sc (fun _ _ _ _ s _ => px (or_move (s.1.trans e210_7))) ?_
      refine sc (fun _ _ _ f _ _ => px (or_eql f.1 f.2.1 rfl)) ?_
      exact steps_nil
    intro own213 a213 w213 hd213 hz213 hk213 hf213 hE213
    have e213_0 := (hk213 0 rfl).trans e210_0
    have e213_1 := (hk213 1 rfl).trans e210_1
    have e213_6 := (hk213 6 rfl).trans e210_6
    have e213_7 := (hk213 7 rfl).trans e210_7
    obtain ⟨(e213_13 : a213.eval (.tmp 13) = .bool (decide (0 = (l1.length : Int)))), -⟩ := hf213 [2] rfl
    have hX213 := es_ hX210 hE213
    have b213_Al1 := RdO.evo rfl hE213 b210_Al1
    refine fl_cond e213_13 hs (fun c214 hs => ?_) (fun c214 hs => ?_)
    · obtain ⟨x215, hx215, hs⟩ := obind hs
      obtain ⟨x216, hx216, hs⟩ := obind hs
      refine rg_draw_seq g_mixed (n := 42) (rs := []) (own0 := own213) (K := []) (bs := [0, 0, 0, 4, 14, 30, 62, 62, 254, 510, 62, 2046, 4094, 63, 16383]) (ds := [⟨[], [6], [], Fct.val 14 (.int .i64 0)⟩,     ⟨[], [6], [], Fct.val 15 (.int .i64 0)⟩,     ⟨[], [0], [], Fct.val 16 (.slice Al1 l1.length cl1)⟩,     ⟨[2], [], [], Fct.val 17 (.int .i64 (l1.length : Int))⟩,     ⟨[1, 3], [], [], Fct.val 18 (.bool (decide (0 < (l1.length : Int))))⟩,     ⟨[4], [], [], Fct.val 19 (.bool (decide (0 < (l1.length : Int))))⟩,     ⟨[5], [0], [], Fct.cond (decide (0 < (l1.length : Int))) (some 20) (Fct.val 20 (.slice Al1 l1.length cl1))⟩,     ⟨[5], [6], [], Fct.cond (decide (0 < (l1.length : Int))) (some 21) (Fct.val 21 (.int .i64 0))⟩,     ⟨[5, 6, 7], [], [], Fct.cond (decide (0 < (l1.length : Int))) (some 22) (Fct.val 22 (.pointer (some ((adr Al1).add ((0 : Int).toNat * R3.s)))))⟩,     ⟨[5, 8], [], [], Fct.cond (decide (0 < (l1.length : Int))) (some 23) (Fct.val 23 (.int .i64 x215))⟩,     ⟨[5], [1], [], Fct.cond (decide (0 < (l1.length : Int))) (some 24) (Fct.val 24 (.int .i64 n2))⟩,     ⟨[5, 9, 10], [], [], Fct.cond (decide (0 < (l1.length : Int))) (some 25) (Fct.val 25 (.bool (decide (x215 = n2))))⟩,     ⟨[5, 11], [], [], Fct.val 26 (.bool x216)⟩,     ⟨[0], [], [], Fct.val 4 (.int .i64 0)⟩,     ⟨[12], [], [], Fct.val 5 (.bool x216)⟩]) (by kernel_rfl) hz213 hd213 nm_ ?_ ?_
      · refine sc (fun _ _ _ _ s _ => px (or_move (s.1.trans e213_6))) ?_
        refine sc (fun _ _ _ _ s _ => px (or_move (s.1.trans e213_6))) ?_
        refine sc (fun _ _ _ _ s _ => px (or_move (s.1.trans e213_0))) ?_
        refine sc (fun _ _ _ f _ _ => px (or_len tu22 f.1 rfl)) ?_
        refine sc (fun _ _ _ f _ _ => px (or_lss f.1 f.2.1 rfl)) ?_
        refine sc (fun _ _ _ f _ _ => px (or_move f.1)) ?_
        refine sc (fun _ _ _ f s _ => sg_t rfl rfl rfl f.1 (fun hg => or_move (s.1.trans e213_0))) ?_
        refine sc (fun _ _ _ f s _ => sg_t rfl rfl rfl f.1 (fun hg => or_move (s.1.trans e213_6))) ?_
        refine sc (fun _ _ _ f _ _ => sg_t rfl rfl rfl f.1 (fun hg => or_index (R := R3) (l := l1) tl22 (f.2.1.1 hg) (f.2.2.1.1 hg) (RdO.some_ b213_Al1 (gd_t hx215 hg)) (gd_t hx215 hg))) ?_
        refine sc (fun _ _ _ f _ hE => sg_t rfl rfl rfl f.1 (fun hg => or_load1 to3 (f.2.1.1 hg) (CellsAt.zero (RdO.cells (F := E3) (RdO.evo rfl hE b213_Al1) (gd_t hx215 hg)) rfl))) ?_
        refine sc (fun _ _ _ f s _ => sg_t rfl rfl rfl f.1 (fun hg => or_move (s.1.trans e213_1))) ?_
        refine sc (fun _ _ _ f _ _ => sg_t rfl rfl rfl f.1 (fun hg => or_eql (f.2.1.1 hg) (f.2.2.1.1 hg) rfl)) ?_
        refine sc (fun _ _ _ f _ _ => px (or_and f.1 (fun hx => f.2.1.1 hx) rfl (osome hx216).symm)) ?_
        refine sc (fun _ _ _ f _ _ => px (or_assign f.1)) ?_
        refine sc (fun _ _ _ f _ _ => px (or_assign f.1)) ?_
        exact steps_nil
      intro own217 a217 w217 hd217 hz217 hk217 hf217 hE217
      obtain ⟨(e217_4 : a217.eval (.tmp 4) = .int .i64 0), (e217_5 : a217.eval (.tmp 5) = .bool x216), -⟩ := hf217 [13, 14] rfl
      have hX217 := es_ hX213 hE217
      refine fl_ret ?_
      refine hp212 _ _ _ rfl ?_
      refine hp181.leaves _ _ _ rfl ?_
      obtain rfl := osome hs
      exact hret _ _ _ _ (.inl rfl) hd217 (results2_ rfl (RVal.tmp_ e217_4) (RVal.tmp_ e217_5)) ⟨own217, rfl, hX217⟩
    refine fl_skip ?_
    refine hn212 _ _ ?_
    refine fl_seq (fun Q218 hn218 hp218 => ?_)
    have K228 : ∀ (a228 : Act) (w228 : World) (own228 : Own) (low226 : Int) (high227 : Int), a228.defers = [] → a228.tmps.size = 42 → a228.eval (.tmp 0) = .slice Al1 l1.length cl1 → a228.eval (.tmp 1) = .int .i64 n2 → a228.eval (.tmp 6) = .int .i64 low226 → a228.eval (.tmp 7) = .int .i64 high227 → Evo [] (fun _ => 0) own228 w w228 → RdO own228 [0] w228 R3 Al1 cl1 l1 → order_Find_k3 l1 n2 low226 high227 = some r → Q218 .normal a228 w228 := by
      intro a228 w228 own228 low226 high227 hd229 hz229 e229_0 e229_1 e229_6 e229_7 hE229 b229_Al1 hs
      refine hn218 _ _ ?_
      refine fl_goto ?_
      exact hj181 (low226, high227) _ _ (show loopO _ _ = _ from hs) ⟨own228, hd229, hz229, e229_0, e229_1, e229_6, e229_7, hE229, b229_Al1⟩
    obtain ⟨x230, hx230, hs⟩ := obind hs
    refine rg0_seq 42 own213 [0, 0, 0, 6, 14, 31, 63] [⟨[], [6], [], Fct.val 27 (.int .i64 0)⟩,     ⟨[], [7], [], Fct.val 28 (.int .i64 (l1.length : Int))⟩,     ⟨[], [6], [], Fct.val 29 (.int .i64 0)⟩,     ⟨[1, 2], [], [], Fct.val 30 (.int .i64 (sb (l1.length : Int) 0))⟩,     ⟨[3], [], [], Fct.val 31 (.int .i64 x230)⟩,     ⟨[0, 4], [], [], Fct.val 32 (.int .i64 (ad 0 x230))⟩,     ⟨[5], [], [], Fct.val 8 (.int .i64 (ad 0 x230))⟩] hz213 hd213 (by kernel_rfl) ?_ ?_
    · refine sc (fun _ _ _ _ s _ => px (or_move (s.1.trans e213_6))) ?_
      refine sc (fun _ _ _ _ s _ => px (or_move (s.1.trans e213_7))) ?_
      refine sc (fun _ _ _ _ s _ => px (or_move (s.1.trans e213_6))) ?_
      refine sc (fun _ _ _ f _ _ => px (or_sub f.1 f.2.1 rfl)) ?_
      refine sc (fun _ _ _ f _ _ => px (or_quo f.1 rfl hx230)) ?_
      refine sc (fun _ _ _ f _ _ => px (or_add f.1 f.2.1 rfl)) ?_
      refine sc (fun _ _ _ f _ _ => px (or_assign f.1)) ?_
      exact steps_nil
    intro own231 a231 w231 hd231 hz231 hk231 hf231 hE231
    have e231_0 := (hk231 0 rfl).trans e213_0
    have e231_1 := (hk231 1 rfl).trans e213_1
    have e231_6 := (hk231 6 rfl).trans e213_6
    have e231_7 := (hk231 7 rfl).trans e213_7
    obtain ⟨(e231_8 : a231.eval (.tmp 8) = .int .i64 (ad 0 x230)), -⟩ := hf231 [6] rfl
    have hX231 := es_ hX213 hE231
    have b231_Al1 := RdO.evo rfl hE231 b213_Al1
    obtain ⟨x232, hx232, hs⟩ := obind hs
    refine rg0_seq 42 own231 [0, 0, 3, 7, 0, 31] [⟨[], [0], [], Fct.val 33 (.slice Al1 l1.length cl1)⟩,     ⟨[], [8], [], Fct.val 34 (.int .i64 (ad 0 x230))⟩,     ⟨[0, 1], [], [], Fct.val 35 (.pointer (some ((adr Al1).add ((ad 0 x230 : Int).toNat * R3.s))))⟩,     ⟨[2], [], [], Fct.val 36 (.int .i64 x232)⟩,     ⟨[], [1], [], Fct.val 37 (.int .i64 n2)⟩,     ⟨[3, 4], [], [], Fct.val 38 (.bool (decide (x232 < n2)))⟩] hz231 hd231 (by kernel_rfl) ?_ ?_
    · refine sc (fun _ _ _ _ s _ => px (or_move (s.1.trans e231_0))) ?_
      refine sc (fun _ _ _ _ s _ => px (or_move (s.1.trans e231_8))) ?_
      refine sc (fun _ _ _ f _ _ => px (or_index (R := R3) (l := l1) tl22 f.1 f.2.1 (RdO.some_ b231_Al1 hx232) hx232)) ?_
      refine sc (fun _ _ _ f _ hE => px (or_load1 to3 f.1 (CellsAt.zero (RdO.cells (F := E3) (RdO.evo rfl hE b231_Al1) hx232) rfl))) ?_
      refine sc (fun _ _ _ _ s _ => px (or_move (s.1.trans e231_1))) ?_
      refine sc (fun _ _ _ f _ _ => px (or_lss f.1 f.2.1 rfl)) ?_
      exact steps_nil
    intro own233 a233 w233 hd233 hz233 hk233 hf233 hE233
    have e233_0 := (hk233 0 rfl).trans e231_0
    have e233_1 := (hk233 1 rfl).trans e231_1
    have e233_6 := (hk233 6 rfl).trans e231_6
    have e233_7 := (hk233 7 rfl).trans e231_7
    have e233_8 := (hk233 8 rfl).trans e231_8
    obtain ⟨(e233_38 : a233.eval (.tmp 38) = .bool (decide (x232 < n2))), -⟩ := hf233 [5] rfl
    have hX233 := es_ hX231 hE233
    have b233_Al1 := RdO.evo rfl hE233 b231_Al1
    refine fl_cond e233_38 hs (fun c234 hs => ?_) (fun c234 hs => ?_)
    · refine rg0 42 own233 (bz 3) [⟨[], [8], [], Fct.val 39 (.int .i64 (ad 0 x230))⟩,     ⟨[0], [], [], Fct.val 40 (.int .i64 (ad (ad 0 x230) 1))⟩,     ⟨[1], [], [], Fct.val 6 (.int .i64 (ad (ad 0 x230) 1))⟩] hz233 hd233 (by kernel_rfl) ?_ ?_
      · refine sc (fun _ _ _ _ s _ => px (or_move (s.1.trans e233_8))) ?_
        refine sc (fun _ _ _ f _ _ => px (or_add f.1 rfl rfl)) ?_
        refine sc (fun _ _ _ f _ _ => px (or_assign f.1)) ?_
        exact steps_nil
      intro own235 a235 w235 hd235 hz235 hk235 hf235 hE235
      have e235_0 := (hk235 0 rfl).trans e233_0
      have e235_1 := (hk235 1 rfl).trans e233_1
      have e235_7 := (hk235 7 rfl).trans e233_7
      obtain ⟨(e235_6 : a235.eval (.tmp 6) = .int .i64 (ad (ad 0 x230) 1)), -⟩ := hf235 [2] rfl
      have hX235 := es_ hX233 hE235
      have b235_Al1 := RdO.evo rfl hE235 b233_Al1
      exact (K228 _ _ own235 _ _ hd235 hz235 e235_0 e235_1 e235_6 e235_7 hX235 b235_Al1 hs)
    refine rg0 42 own233 (bz 2) [⟨[], [8], [], Fct.val 41 (.int .i64 (ad 0 x230))⟩,     ⟨[0], [], [], Fct.val 7 (.int .i64 (ad 0 x230))⟩] hz233 hd233 (by kernel_rfl) ?_ ?_
    · refine sc (fun _ _ _ _ s _ => px (or_move (s.1.trans e233_8))) ?_
      refine sc (fun _ _ _ f _ _ => px (or_assign f.1)) ?_
      exact steps_nil
    intro own236 a236 w236 hd236 hz236 hk236 hf236 hE236
    have e236_0 := (hk236 0 rfl).trans e233_0
    have e236_1 := (hk236 1 rfl).trans e233_1
    have e236_6 := (hk236 6 rfl).trans e233_6
    obtain ⟨(e236_7 : a236.eval (.tmp 7) = .int .i64 (ad 0 x230)), -⟩ := hf236 [1] rfl
    have hX236 := es_ hX233 hE236
    have b236_Al1 := RdO.evo rfl hE236 b233_Al1
    exact (K228 _ _ own236 _ _ hd236 hz236 e236_0 e236_1 e236_6 e236_7 hX236 b236_Al1 hs)
  · rintro ⟨low152, high153⟩
    rintro zz181 a182 w182 ⟨own182, hd183, hz183, e183_0, e183_1, e183_6, e183_7, hE183, b183_Al1⟩ hs Q182 hj182 hp182 hz182
    have hs : order_Find_b1_0 l1 n2 low152 high153 = some zz181 := hs
    conv => arg 4; whnf
    refine fl_seq (fun Q184 hn184 hp184 => ?_)
    refine fl_skip ?_
    refine hn184 _ _ ?_
    refine fl_seq (fun Q185 hn185 hp185 => ?_)
    refine rg0_seq 42 own182 [0, 0, 3] [⟨[], [6], [], Fct.val 11 (.int .i64 low152)⟩,     ⟨[], [7], [], Fct.val 12 (.int .i64 high153)⟩,     ⟨[0, 1], [], [], Fct.val 13 (.bool (decide (low152 = high153)))⟩] hz183 hd183 (by kernel_rfl) ?_ ?_
    · refine sc (fun _ _ _ _ s _ => px (or_move (s.1.trans e183_6))) ?_
      refine sc (fun _ _ _ _ s _ => px (or_move (s.1.trans e183_7))) ?_
      refine sc (fun _ _ _ f _ _ => px (or_eql f.1 f.2.1 rfl)) ?_
      exact steps_nil
    intro own186 a186 w186 hd186 hz186 hk186 hf186 hE186
    have e186_0 := (hk186 0 rfl).trans e183_0
    have e186_1 := (hk186 1 rfl).trans e183_1
    have e186_6 := (hk186 6 rfl).trans e183_6
    have e186_7 := (hk186 7 rfl).trans e183_7
    obtain ⟨(e186_13 : a186.eval (.tmp 13) = .bool (decide (low152 = high153))), -⟩ := hf186 [2] rfl
    have hX186 := es_ hE183 hE186
    have b186_Al1 := RdO.evo rfl hE186 b183_Al1
    refine fl_cond e186_13 hs (fun c187 hs => ?_) (fun c187 hs => ?_)
    · obtain ⟨x188, hx188, hs⟩ := obind hs
      obtain ⟨x189, hx189, hs⟩ := obind hs
      refine rg_draw_seq g_mixed (n := 42) (rs := []) (own0 := own186) (K := []) (bs := [0, 0, 0, 4, 14, 30, 62, 62, 254, 510, 62, 2046, 4094, 63, 16383]) (ds := [⟨[], [6], [], Fct.val 14 (.int .i64 low152)⟩,     ⟨[], [6], [], Fct.val 15 (.int .i64 low152)⟩,     ⟨[], [0], [], Fct.val 16 (.slice Al1 l1.length cl1)⟩,     ⟨[2], [], [], Fct.val 17 (.int .i64 (l1.length : Int))⟩,     ⟨[1, 3], [], [], Fct.val 18 (.bool (decide (low152 < (l1.length : Int))))⟩,     ⟨[4], [], [], Fct.val 19 (.bool (decide (low152 < (l1.length : Int))))⟩,     ⟨[5], [0], [], Fct.cond (decide (low152 < (l1.length : Int))) (some 20) (Fct.val 20 (.slice Al1 l1.length cl1))⟩,     ⟨[5], [6], [], Fct.cond (decide (low152 < (l1.length : Int))) (some 21) (Fct.val 21 (.int .i64 low152))⟩,     ⟨[5, 6, 7], [], [], Fct.cond (decide (low152 < (l1.length : Int))) (some 22) (Fct.val 22 (.pointer (some ((adr Al1).add ((low152 : Int).toNat * R3.s)))))⟩,     ⟨[5, 8], [], [], Fct.cond (decide (low152 < (l1.length : Int))) (some 23) (Fct.val 23 (.int .i64 x188))⟩,     ⟨[5], [1], [], Fct.cond (decide (low152 < (l1.length : Int))) (some 24) (Fct.val 24 (.int .i64 n2))⟩,     ⟨[5, 9, 10], [], [], Fct.cond (decide (low152 < (l1.length : Int))) (some 25) (Fct.val 25 (.bool (decide (x188 = n2))))⟩,     ⟨[5, 11], [], [], Fct.val 26 (.bool x189)⟩,     ⟨[0], [], [], Fct.val 4 (.int .i64 low152)⟩,     ⟨[12], [], [], Fct.val 5 (.bool x189)⟩]) (by kernel_rfl) hz186 hd186 nm_ ?_ ?_
      · refine sc (fun _ _ _ _ s _ => px (or_move (s.1.trans e186_6))) ?_
        refine sc (fun _ _ _ _ s _ => px (or_move (s.1.trans e186_6))) ?_
        refine sc (fun _ _ _ _ s _ => px (or_move (s.1.trans e186_0))) ?_
        refine sc (fun _ _ _ f _ _ => px (or_len tu22 f.1 rfl)) ?_
        refine sc (fun _ _ _ f _ _ => px (or_lss f.1 f.2.1 rfl)) ?_
        refine sc (fun _ _ _ f _ _ => px (or_move f.1)) ?_
        refine sc (fun _ _ _ f s _ => sg_t rfl rfl rfl f.1 (fun hg => or_move (s.1.trans e186_0))) ?_
        refine sc (fun _ _ _ f s _ => sg_t rfl rfl rfl f.1 (fun hg => or_move (s.1.trans e186_6))) ?_
        refine sc (fun _ _ _ f _ _ => sg_t rfl rfl rfl f.1 (fun hg => or_index (R := R3) (l := l1) tl22 (f.2.1.1 hg) (f.2.2.1.1 hg) (RdO.some_ b186_Al1 (gd_t hx188 hg)) (gd_t hx188 hg))) ?_
        refine sc (fun _ _ _ f _ hE => sg_t rfl rfl rfl f.1 (fun hg => or_load1 to3 (f.2.1.1 hg) (CellsAt.zero (RdO.cells (F := E3) (RdO.evo rfl hE b186_Al1) (gd_t hx188 hg)) rfl))) ?_
        refine sc (fun _ _ _ f s _ => sg_t rfl rfl rfl f.1 (fun hg => or_move (s.1.trans e186_1))) ?_
        refine sc (fun _ _ _ f _ _ => sg_t rfl rfl rfl f.1 (fun hg => or_eql (f.2.1.1 hg) (f.2.2.1.1 hg) rfl)) ?_
        refine sc (fun _ _ _ f _ _ => px (or_and f.1 (fun hx => f.2.1.1 hx) rfl (osome hx189).symm)) ?_
        refine sc (fun _ _ _ f _ _ => px (or_assign f.1)) ?_
        refine sc (fun _ _ _ f _ _ => px (or_assign f.1)) ?_
        exact steps_nil
      intro own190 a190 w190 hd190 hz190 hk190 hf190 hE190
      obtain ⟨(e190_4 : a190.eval (.tmp 4) = .int .i64 low152), (e190_5 : a190.eval (.tmp 5) = .bool x189), -⟩ := hf190 [13, 14] rfl
      have hX190 := es_ hX186 hE190
      refine fl_ret ?_
      refine hp185 _ _ _ rfl ?_
      replace hs := hz182 _ hs
      refine hp182.leaves _ _ _ rfl ?_
      obtain rfl := osome hs
      exact hret _ _ _ _ (.inl rfl) hd190 (results2_ rfl (RVal.tmp_ e190_4) (RVal.tmp_ e190_5)) ⟨own190, rfl, hX190⟩
    refine fl_skip ?_
    refine hn185 _ _ ?_
    refine fl_seq (fun Q191 hn191 hp191 => ?_)
    have K201 : ∀ (a201 : Act) (w201 : World) (own201 : Own) (low199 : Int) (high200 : Int), a201.defers = [] → a201.tmps.size = 42 → a201.eval (.tmp 0) = .slice Al1 l1.length cl1 → a201.eval (.tmp 1) = .int .i64 n2 → a201.eval (.tmp 6) = .int .i64 low199 → a201.eval (.tmp 7) = .int .i64 high200 → Evo [] (fun _ => 0) own201 w w201 → RdO own201 [0] w201 R3 Al1 cl1 l1 → order_Find_k2 low199 high200 = some zz181 → Q191 .normal a201 w201 := by
      intro a201 w201 own201 low199 high200 hd202 hz202 e202_0 e202_1 e202_6 e202_7 hE202 b202_Al1 hs
      refine hn191 _ _ ?_
      refine fl_goto ?_
      exact hj182 (low199, high200) _ _ hs ⟨own201, hd202, hz202, e202_0, e202_1, e202_6, e202_7, hE202, b202_Al1⟩
    obtain ⟨x203, hx203, hs⟩ := obind hs
    refine rg0_seq 42 own186 [0, 0, 0, 6, 14, 31, 63] [⟨[], [6], [], Fct.val 27 (.int .i64 low152)⟩,     ⟨[], [7], [], Fct.val 28 (.int .i64 high153)⟩,     ⟨[], [6], [], Fct.val 29 (.int .i64 low152)⟩,     ⟨[1, 2], [], [], Fct.val 30 (.int .i64 (sb high153 low152))⟩,     ⟨[3], [], [], Fct.val 31 (.int .i64 x203)⟩,     ⟨[0, 4], [], [], Fct.val 32 (.int .i64 (ad low152 x203))⟩,     ⟨[5], [], [], Fct.val 8 (.int .i64 (ad low152 x203))⟩] hz186 hd186 (by kernel_rfl) ?_ ?_
    · refine sc (fun _ _ _ _ s _ => px (or_move (s.1.trans e186_6))) ?_
      refine sc (fun _ _ _ _ s _ => px (or_move (s.1.trans e186_7))) ?_
      refine sc (fun _ _ _ _ s _ => px (or_move (s.1.trans e186_6))) ?_
      refine sc (fun _ _ _ f _ _ => px (or_sub f.1 f.2.1 rfl)) ?_
      refine sc (fun _ _ _ f _ _ => px (or_quo f.1 rfl hx203)) ?_
      refine sc (fun _ _ _ f _ _ => px (or_add f.1 f.2.1 rfl)) ?_
      refine sc (fun _ _ _ f _ _ => px (or_assign f.1)) ?_
      exact steps_nil
    intro own204 a204 w204 hd204 hz204 hk204 hf204 hE204
    have e204_0 := (hk204 0 rfl).trans e186_0
    have e204_1 := (hk204 1 rfl).trans e186_1
    have e204_6 := (hk204 6 rfl).trans e186_6
    have e204_7 := (hk204 7 rfl).trans e186_7
    obtain ⟨(e204_8 : a204.eval (.tmp 8) = .int .i64 (ad low152 x203)), -⟩ := hf204 [6] rfl
    have hX204 := es_ hX186 hE204
    have b204_Al1 := RdO.evo rfl hE204 b186_Al1
    obtain ⟨x205, hx205, hs⟩ := obind hs
    refine rg0_seq 42 own204 [0, 0, 3, 7, 0, 31] [⟨[], [0], [], Fct.val 33 (.slice Al1 l1.length cl1)⟩,     ⟨[], [8], [], Fct.val 34 (.int .i64 (ad low152 x203))⟩,     ⟨[0, 1], [], [], Fct.val 35 (.pointer (some ((adr Al1).add ((ad low152 x203 : Int).toNat * R3.s))))⟩,     ⟨[2], [], [], Fct.val 36 (.int .i64 x205)⟩,     ⟨[], [1], [], Fct.val 37 (.int .i64 n2)⟩,     ⟨[3, 4], [], [], Fct.val 38 (.bool (decide (x205 < n2)))⟩] hz204 hd204 (by kernel_rfl) ?_ ?_
    · refine sc (fun _ _ _ _ s _ => px (or_move (s.1.trans e204_0))) ?_
      refine sc (fun _ _ _ _ s _ => px (or_move (s.1.trans e204_8))) ?_
      refine sc (fun _ _ _ f _ _ => px (or_index (R := R3) (l := l1) tl22 f.1 f.2.1 (RdO.some_ b204_Al1 hx205) hx205)) ?_
      refine sc (fun _ _ _ f _ hE => px (or_load1 to3 f.1 (CellsAt.zero (RdO.cells (F := E3) (RdO.evo rfl hE b204_Al1) hx205) rfl))) ?_
      refine sc (fun _ _ _ _ s _ => px (or_move (s.1.trans e204_1))) ?_
      refine sc (fun _ _ _ f _ _ => px (or_lss f.1 f.2.1 rfl)) ?_
      exact steps_nil
    intro own206 a206 w206 hd206 hz206 hk206 hf206 hE206
    have e206_0 := (hk206 0 rfl).trans e204_0
    have e206_1 := (hk206 1 rfl).trans e204_1
    have e206_6 := (hk206 6 rfl).trans e204_6
    have e206_7 := (hk206 7 rfl).trans e204_7
    have e206_8 := (hk206 8 rfl).trans e204_8
    obtain ⟨(e206_38 : a206.eval (.tmp 38) = .bool (decide (x205 < n2))), -⟩ := hf206 [5] rfl
    have hX206 := es_ hX204 hE206
    have b206_Al1 := RdO.evo rfl hE206 b204_Al1
    refine fl_cond e206_38 hs (fun c207 hs => ?_) (fun c207 hs => ?_)
    · refine rg0 42 own206 (bz 3) [⟨[], [8], [], Fct.val 39 (.int .i64 (ad low152 x203))⟩,     ⟨[0], [], [], Fct.val 40 (.int .i64 (ad (ad low152 x203) 1))⟩,     ⟨[1], [], [], Fct.val 6 (.int .i64 (ad (ad low152 x203) 1))⟩] hz206 hd206 (by kernel_rfl) ?_ ?_
      · refine sc (fun _ _ _ _ s _ => px (or_move (s.1.trans e206_8))) ?_
        refine sc (fun _ _ _ f _ _ => px (or_add f.1 rfl rfl)) ?_
        refine sc (fun _ _ _ f _ _ => px (or_assign f.1)) ?_
        exact steps_nil
      intro own208 a208 w208 hd208 hz208 hk208 hf208 hE208
      have e208_0 := (hk208 0 rfl).trans e206_0
      have e208_1 := (hk208 1 rfl).trans e206_1
      have e208_7 := (hk208 7 rfl).trans e206_7
      obtain ⟨(e208_6 : a208.eval (.tmp 6) = .int .i64 (ad (ad low152 x203) 1)), -⟩ := hf208 [2] rfl
      have hX208 := es_ hX206 hE208
      have b208_Al1 := RdO.evo rfl hE208 b206_Al1
      exact (K201 _ _ own208 _ _ hd208 hz208 e208_0 e208_1 e208_6 e208_7 hX208 b208_Al1 hs)
    refine rg0 42 own206 (bz 2) [⟨[], [8], [], Fct.val 41 (.int .i64 (ad low152 x203))⟩,     ⟨[0], [], [], Fct.val 7 (.int .i64 (ad low152 x203))⟩] hz206 hd206 (by kernel_rfl) ?_ ?_
    · refine sc (fun _ _ _ _ s _ => px (or_move (s.1.trans e206_8))) ?_
      refine sc (fun _ _ _ f _ _ => px (or_assign f.1)) ?_
      exact steps_nil
    intro own209 a209 w209 hd209 hz209 hk209 hf209 hE209
    have e209_0 := (hk209 0 rfl).trans e206_0
    have e209_1 := (hk209 1 rfl).trans e206_1
    have e209_6 := (hk209 6 rfl).trans e206_6
    obtain ⟨(e209_7 : a209.eval (.tmp 7) = .int .i64 (ad low152 x203)), -⟩ := hf209 [1] rfl
    have hX209 := es_ hX206 hE209
    have b209_Al1 := RdO.evo rfl hE209 b206_Al1
    exact (K201 _ _ own209 _ _ hd209 hz209 e209_0 e209_1 e209_6 e209_7 hX209 b209_Al1 hs)
theorem order_Strips_w (w : World) (l1 : List Int) (Al1 : Option Addr) (cl1 : Nat) (n2 : Int) (hl1 : RdO (fun _ => 0) [0] w R3 Al1 cl1 l1) (r : Int × Int) (hs : order_Strips l1 n2 = some r) :
    Calls Try.prog 53 #[.slice Al1 l1.length cl1, .int .i64 n2] w fun e w' => ∃ own' : Own, e = .returned (.tuple #[.int .i64 r.1, .int .i64 r.2]) ∧ Evo [] (fun _ => 0) own' w w' := by
  refine fl_enter (n := 35) rfl rfl rfl (Nat.le_of_ble_eq_true rfl) ?_
  intro a0 Q hd0 hz0 harg hret
  have ha0 := harg 0 _ rfl
  have ha1 := harg 1 _ rfl
  clear harg
  have hE0 : Evo [] (fun _ => 0) (fun _ => 0) w w := Evo.refl _ _ _
  refine rg0_seq 35 (fun _ => 0) (bz 2) [⟨[], [], [], Fct.val 4 (.int .i64 0)⟩,     ⟨[], [], [], Fct.val 5 (.int .i64 0)⟩] hz0 hd0 (by kernel_rfl) ?_ ?_
  · refine sc (fun _ _ _ _ _ _ => px (or_assign rfl)) ?_
    refine sc (fun _ _ _ _ _ _ => px (or_assign rfl)) ?_
    exact steps_nil
  intro own44 a44 w44 hd44 hz44 hk44 hf44 hE44
  have e44_0 := (hk44 0 rfl).trans ha0
  have e44_1 := (hk44 1 rfl).trans ha1
  have hX44 := es_ hE0 hE44
  have b44_Al1 := RdO.evo rfl hE44 hl1
  obtain ⟨r45, hr45, hs⟩ := obind hs
  refine rg0_seq 35 own44 [0, 0, 3, 7, 15, 15, 31, 127] [⟨[], [0], [], Fct.val 10 (.slice Al1 l1.length cl1)⟩,     ⟨[], [1], [], Fct.val 11 (.int .i64 n2)⟩,     ⟨[0, 1], [], [], Fct.val 12 (.tuple #[.int .i64 r45.1, .bool r45.2])⟩,     ⟨[2], [], [], Fct.val 9 (.tuple #[.int .i64 r45.1, .bool r45.2])⟩,     ⟨[3], [], [], Fct.val 13 (.int .i64 r45.1)⟩,     ⟨[3], [], [], Fct.val 14 (.bool r45.2)⟩,     ⟨[4], [], [], Fct.val 6 (.int .i64 r45.1)⟩,     ⟨[5], [], [], Fct.val 7 (.bool r45.2)⟩] hz44 hd44 (by kernel_rfl) ?_ ?_
  · refine sc (fun _ _ _ _ s _ => px (or_move (s.1.trans e44_0))) ?_
    refine sc (fun _ _ _ _ s _ => px (or_move (s.1.trans e44_1))) ?_
    refine sc (fun _ _ _ f _ hE => px (or_call cf65 (args2 f.1 f.2.1) (order_Find_w _ l1 Al1 cl1 n2 (RdO.zero (RdO.evo rfl hE b44_Al1)) r45 hr45) post_val)) ?_
    refine sc (fun _ _ _ f _ _ => px (or_move f.1)) ?_
    refine sc (fun _ _ _ f _ _ => px (or_k [(9, .tuple #[.int .i64 r45.1, .bool r45.2])] rfl rfl ⟨f.1, trivial⟩ (by kernel_rfl))) ?_
    refine sc (fun _ _ _ f _ _ => px (or_k [(9, .tuple #[.int .i64 r45.1, .bool r45.2])] rfl rfl ⟨f.1, trivial⟩ (by kernel_rfl))) ?_
    refine sc (fun _ _ _ f _ _ => px (or_assign f.1)) ?_
    refine sc (fun _ _ _ f _ _ => px (or_assign f.1)) ?_
    exact steps_nil
  intro own46 a46 w46 hd46 hz46 hk46 hf46 hE46
  have e46_0 := (hk46 0 rfl).trans e44_0
  have e46_1 := (hk46 1 rfl).trans e44_1
  obtain ⟨(e46_6 : a46.eval (.tmp 6) = .int .i64 r45.1), (e46_7 : a46.eval (.tmp 7) = .bool r45.2), -⟩ := hf46 [6, 7] rfl
  have hX46 := es_ hX44 hE46
  have b46_Al1 := RdO.evo rfl hE46 b44_Al1
  refine rg0_seq 35 own46 (bz 2) [⟨[], [6], [], Fct.val 15 (.int .i64 r45.1)⟩,     ⟨[0], [], [], Fct.val 8 (.int .i64 r45.1)⟩] hz46 hd46 (by kernel_rfl) ?_ ?_
  · refine sc (fun _ _ _ _ s _ => px (or_move (s.1.trans e46_6))) ?_
    refine sc (fun _ _ _ f _ _ => px (or_assign f.1)) ?_
    exact steps_nil
  intro own47 a47 w47 hd47 hz47 hk47 hf47 hE47
  have e47_0 := (hk47 0 rfl).trans e46_0
  have e47_1 := (hk47 1 rfl).trans e46_1
  have e47_6 := (hk47 6 rfl).trans e46_6
  have e47_7 := (hk47 7 rfl).trans e46_7
  obtain ⟨(e47_8 : a47.eval (.tmp 8) = .int .i64 r45.1), -⟩ := hf47 [1] rfl
  have hX47 := es_ hX46 hE47
  have b47_Al1 := RdO.evo rfl hE47 b46_Al1
  refine fl_seq (fun Q48 hn48 hp48 => ?_)
  refine fl_block (fun Q49 hn49 hx49 hp49 => ?_)
  refine fl_loop (body := (fun s => order_Strips_b1 l1 n2 r45 s)) (z := r) (show loopO _ _ = _ from hs) (fun (last58 : Int) a wx => ∃ (ox : Own), a.defers = [] ∧ a.tmps.size = 35 ∧ a.eval (.tmp 0) = .slice Al1 l1.length cl1 ∧ a.eval (.tmp 1) = .int .i64 n2 ∧ a.eval (.tmp 6) = .int .i64 r45.1 ∧ a.eval (.tmp 7) = .bool r45.2 ∧ a.eval (.tmp 8) = .int .i64 last58 ∧ Evo [] (fun _ => 0) ox w wx ∧ RdO ox [0] wx R3 Al1 cl1 l1) ?_ ?_
  · exact ⟨own47, hd47, hz47, e47_0, e47_1, e47_6, e47_7, e47_8, hX47, b47_Al1⟩
  · rintro last58 zz67 a67 w67 ⟨own67, hd68, hz68, e68_0, e68_1, e68_6, e68_7, e68_8, hE68, b68_Al1⟩ hs Q67 hn67 hp67 hz67
    have hs : order_Strips_b1 l1 n2 r45 last58 = some zz67 := hs
    refine fl_seq (fun Q69 hn69 hp69 => ?_)
    obtain ⟨x70, hx70, hs⟩ := obind hs
    obtain ⟨x71, hx71, hs⟩ := obind hs
    refine rg0_seq 35 own67 [0, 1, 3, 3, 11, 31, 63, 127, 255, 255, 1023, 2047, 255, 8191, 16383] [⟨[], [7], [], Fct.val 16 (.bool r45.2)⟩,     ⟨[0], [], [], Fct.val 17 (.bool r45.2)⟩,     ⟨[1], [8], [], Fct.cond r45.2 (some 18) (Fct.val 18 (.int .i64 last58))⟩,     ⟨[1], [0], [], Fct.cond r45.2 (some 19) (Fct.val 19 (.slice Al1 l1.length cl1))⟩,     ⟨[1, 3], [], [], Fct.cond r45.2 (some 20) (Fct.val 20 (.int .i64 (l1.length : Int)))⟩,     ⟨[1, 2, 4], [], [], Fct.cond r45.2 (some 21) (Fct.val 21 (.bool (decide (last58 < (l1.length : Int)))))⟩,     ⟨[1, 5], [], [], Fct.val 22 (.bool x70)⟩,     ⟨[6], [], [], Fct.val 23 (.bool x70)⟩,     ⟨[7], [0], [], Fct.cond x70 (some 24) (Fct.val 24 (.slice Al1 l1.length cl1))⟩,     ⟨[7], [8], [], Fct.cond x70 (some 25) (Fct.val 25 (.int .i64 last58))⟩,     ⟨[7, 8, 9], [], [], Fct.cond x70 (some 26) (Fct.val 26 (.pointer (some ((adr Al1).add ((last58 : Int).toNat * R3.s)))))⟩,     ⟨[7, 10], [], [], Fct.cond x70 (some 27) (Fct.val 27 (.int .i64 x71))⟩,     ⟨[7], [1], [], Fct.cond x70 (some 28) (Fct.val 28 (.int .i64 n2))⟩,     ⟨[7, 11, 12], [], [], Fct.cond x70 (some 29) (Fct.val 29 (.bool (decide (x71 = n2))))⟩,     ⟨[7, 13], [], [], Fct.val 30 (.bool (x70 && (decide (x71 = n2))))⟩] hz68 hd68 (by kernel_rfl) ?_ ?_
    · refine sc (fun _ _ _ _ s _ => px (or_move (s.1.trans e68_7))) ?_
      refine sc (fun _ _ _ f _ _ => px (or_move f.1)) ?_
      refine sc (fun _ _ _ f s _ => sg_t rfl rfl rfl f.1 (fun hg => or_move (s.1.trans e68_8))) ?_
      refine sc (fun _ _ _ f s _ => sg_t rfl rfl rfl f.1 (fun hg => or_move (s.1.trans e68_0))) ?_
      refine sc (fun _ _ _ f _ _ => sg_t rfl rfl rfl f.1 (fun hg => or_len tu22 (f.2.1.1 hg) rfl)) ?_
      refine sc (fun _ _ _ f _ _ => sg_t rfl rfl rfl f.1 (fun hg => or_lss (f.2.1.1 hg) (f.2.2.1.1 hg) rfl)) ?_
      refine sc (fun _ _ _ f _ _ => px (or_and f.1 (fun hx => f.2.1.1 hx) rfl (osome hx70).symm)) ?_
      refine sc (fun _ _ _ f _ _ => px (or_move f.1)) ?_
      refine sc (fun _ _ _ f s _ => sg_t rfl rfl rfl f.1 (fun hg => or_move (s.1.trans e68_0))) ?_
      refine sc (fun _ _ _ f s _ => sg_t rfl rfl rfl f.1 (fun hg => or_move (s.1.trans e68_8))) ?_
      refine sc (fun _ _ _ f _ _ => sg_t rfl rfl rfl f.1 (fun hg => or_index (R := R3) (l := l1) tl22 (f.2.1.1 hg) (f.2.2.1.1 hg) (RdO.some_ b68_Al1 (gd_t hx71 hg)) (gd_t hx71 hg))) ?_
      refine sc (fun _ _ _ f _ hE => sg_t rfl rfl rfl f.1 (fun hg => or_load1 to3 (f.2.1.1 hg) (CellsAt.zero (RdO.cells (F := E3) (RdO.evo rfl hE b68_Al1) (gd_t hx71 hg)) rfl))) ?_
      refine sc (fun _ _ _ f s _ => sg_t rfl rfl rfl f.1 (fun hg => or_move (s.1.trans e68_1))) ?_
      refine sc (fun _ _ _ f _ _ => sg_t rfl rfl rfl f.1 (fun hg => or_eql (f.2.1.1 hg) (f.2.2.1.1 hg) rfl)) ?_
      refine sc (fun _ _ _ f _ _ => px (or_and f.1 (fun hx => f.2.1.1 hx) rfl rfl)) ?_
      exact steps_nil
    intro own72 a72 w72 hd72 hz72 hk72 hf72 hE72
    have e72_0 := (hk72 0 rfl).trans e68_0
    have e72_1 := (hk72 1 rfl).trans e68_1
    have e72_6 := (hk72 6 rfl).trans e68_6
    have e72_7 := (hk72 7 rfl).trans e68_7
    have e72_8 := (hk72 8 rfl).trans e68_8
    obtain ⟨(e72_30 : a72.eval (.tmp 30) = .bool (x70 && (decide (x71 = n2)))), -⟩ := hf72 [14] rfl
    have hX72 := es_ hE68 hE72
    have b72_Al1 := RdO.evo rfl hE72 b68_Al1
    refine fl_cond e72_30 hs (fun c73 hs => ?_) (fun c73 hs => ?_)
    · refine fl_skip ?_
      refine hn69 _ _ ?_
      refine fl_block (fun Q74 hn74 hx74 hp74 => ?_)
      refine rg0 35 own72 (bz 3) [⟨[], [8], [], Fct.val 31 (.int .i64 last58)⟩,     ⟨[0], [], [], Fct.val 32 (.int .i64 (ad last58 1))⟩,     ⟨[1], [], [], Fct.val 8 (.int .i64 (ad last58 1))⟩] hz72 hd72 (by kernel_rfl) ?_ ?_
      · refine sc (fun _ _ _ _ s _ => px (or_move (s.1.trans e72_8))) ?_
        refine sc (fun _ _ _ f _ _ => px (or_add f.1 rfl rfl)) ?_
        refine sc (fun _ _ _ f _ _ => px (or_assign f.1)) ?_
        exact steps_nil
      intro own75 a75 w75 hd75 hz75 hk75 hf75 hE75
      have e75_0 := (hk75 0 rfl).trans e72_0
      have e75_1 := (hk75 1 rfl).trans e72_1
      have e75_6 := (hk75 6 rfl).trans e72_6
      have e75_7 := (hk75 7 rfl).trans e72_7
      obtain ⟨(e75_8 : a75.eval (.tmp 8) = .int .i64 (ad last58 1)), -⟩ := hf75 [2] rfl
      have hX75 := es_ hX72 hE75
      have b75_Al1 := RdO.evo rfl hE75 b72_Al1
      refine hn74 _ _ ?_
      exact hn67 _ _ _ hs ⟨own75, hd75, hz75, e75_0, e75_1, e75_6, e75_7, e75_8, hX75, b75_Al1⟩
    refine fl_exit ?_
    refine hp69 _ _ _ rfl ?_
    replace hs := hz67 _ hs
    refine hp67 _ _ _ rfl ?_
    refine hx49 _ _ ?_
    refine hn48 _ _ ?_
    refine rg0_seq 35 own72 [0, 0, 1, 7] [⟨[], [6], [], Fct.val 33 (.int .i64 r45.1)⟩,     ⟨[], [8], [], Fct.val 34 (.int .i64 last58)⟩,     ⟨[0], [], [], Fct.val 4 (.int .i64 r45.1)⟩,     ⟨[1], [], [], Fct.val 5 (.int .i64 last58)⟩] hz72 hd72 (by kernel_rfl) ?_ ?_
    · refine sc (fun _ _ _ _ s _ => px (or_move (s.1.trans e72_6))) ?_
      refine sc (fun _ _ _ _ s _ => px (or_move (s.1.trans e72_8))) ?_
      refine sc (fun _ _ _ f _ _ => px (or_assign f.1)) ?_
      refine sc (fun _ _ _ f _ _ => px (or_assign f.1)) ?_
      exact steps_nil
    intro own76 a76 w76 hd76 hz76 hk76 hf76 hE76
    obtain ⟨(e76_4 : a76.eval (.tmp 4) = .int .i64 r45.1), (e76_5 : a76.eval (.tmp 5) = .int .i64 last58), -⟩ := hf76 [2, 3] rfl
    have hX76 := es_ hX72 hE76
    refine fl_ret ?_
    obtain rfl := osome hs
    exact hret _ _ _ _ (.inl rfl) hd76 (results2_ rfl (RVal.tmp_ e76_4) (RVal.tmp_ e76_5)) ⟨own76, rfl, hX76⟩
theorem order_Common_w (w : World) (l1 : List Int) (Al1 : Option Addr) (cl1 : Nat) (x2 : Int) (b3 : Int) (hl1 : RdO (fun _ => 0) [0] w R3 Al1 cl1 l1) (r : Bool) (hs : order_Common l1 x2 b3 = some r) :
    Calls Try.prog 33 #[.slice Al1 l1.length cl1, .int .i64 x2, .int .i64 b3] w fun e w' => ∃ own' : Own, e = .returned (.bool r) ∧ Evo [] (fun _ => 0) own' w w' := by
  refine fl_enter (n := 31) rfl rfl rfl (Nat.le_of_ble_eq_true rfl) ?_
  intro a0 Q hd0 hz0 harg hret
  have ha0 := harg 0 _ rfl
  have ha1 := harg 1 _ rfl
  have ha2 := harg 2 _ rfl
  clear harg
  have hE0 : Evo [] (fun _ => 0) (fun _ => 0) w w := Evo.refl _ _ _
  refine rg0_seq 31 (fun _ => 0) (bz 1) [⟨[], [], [], Fct.val 6 (.bool false)⟩] hz0 hd0 (by kernel_rfl) ?_ ?_
  · refine sc (fun _ _ _ _ _ _ => px (or_assign rfl)) ?_
    exact steps_nil
  intro own18 a18 w18 hd18 hz18 hk18 hf18 hE18
  have e18_0 := (hk18 0 rfl).trans ha0
  have e18_1 := (hk18 1 rfl).trans ha1
  have e18_2 := (hk18 2 rfl).trans ha2
  have hX18 := es_ hE0 hE18
  have b18_Al1 := RdO.evo rfl hE18 hl1
  obtain ⟨r19, hr19, hs⟩ := obind hs
  refine rg0_seq 31 own18 [0, 0, 3, 7, 15, 15, 31, 127] [⟨[], [0], [], Fct.val 12 (.slice Al1 l1.length cl1)⟩,     ⟨[], [1], [], Fct.val 13 (.int .i64 x2)⟩,     ⟨[0, 1], [], [], Fct.val 14 (.tuple #[.int .i64 r19.1, .int .i64 r19.2])⟩,     ⟨[2], [], [], Fct.val 11 (.tuple #[.int .i64 r19.1, .int .i64 r19.2])⟩,     ⟨[3], [], [], Fct.val 15 (.int .i64 r19.1)⟩,     ⟨[3], [], [], Fct.val 16 (.int .i64 r19.2)⟩,     ⟨[4], [], [], Fct.val 7 (.int .i64 r19.1)⟩,     ⟨[5], [], [], Fct.val 8 (.int .i64 r19.2)⟩] hz18 hd18 (by kernel_rfl) ?_ ?_
  · refine sc (fun _ _ _ _ s _ => px (or_move (s.1.trans e18_0))) ?_
    refine sc (fun _ _ _ _ s _ => px (or_move (s.1.trans e18_1))) ?_
    refine sc (fun _ _ _ f _ hE => px (or_call cf53 (args2 f.1 f.2.1) (order_Strips_w _ l1 Al1 cl1 x2 (RdO.zero (RdO.evo rfl hE b18_Al1)) r19 hr19) post_val)) ?_
    refine sc (fun _ _ _ f _ _ => px (or_move f.1)) ?_
    refine sc (fun _ _ _ f _ _ => px (or_k [(11, .tuple #[.int .i64 r19.1, .int .i64 r19.2])] rfl rfl ⟨f.1, trivial⟩ (by kernel_rfl))) ?_
    refine sc (fun _ _ _ f _ _ => px (or_k [(11, .tuple #[.int .i64 r19.1, .int .i64 r19.2])] rfl rfl ⟨f.1, trivial⟩ (by kernel_rfl))) ?_
    refine sc (fun _ _ _ f _ _ => px (or_assign f.1)) ?_
    refine sc (fun _ _ _ f _ _ => px (or_assign f.1)) ?_
    exact steps_nil
  intro own20 a20 w20 hd20 hz20 hk20 hf20 hE20
  have e20_0 := (hk20 0 rfl).trans e18_0
  have e20_2 := (hk20 2 rfl).trans e18_2
  obtain ⟨(e20_7 : a20.eval (.tmp 7) = .int .i64 r19.1), (e20_8 : a20.eval (.tmp 8) = .int .i64 r19.2), -⟩ := hf20 [6, 7] rfl
  have hX20 := es_ hX18 hE20
  have b20_Al1 := RdO.evo rfl hE20 b18_Al1
  obtain ⟨r21, hr21, hs⟩ := obind hs
  refine rg0_seq 31 own20 [0, 0, 3, 7, 15, 15, 31, 127] [⟨[], [0], [], Fct.val 18 (.slice Al1 l1.length cl1)⟩,     ⟨[], [2], [], Fct.val 19 (.int .i64 b3)⟩,     ⟨[0, 1], [], [], Fct.val 20 (.tuple #[.int .i64 r21.1, .int .i64 r21.2])⟩,     ⟨[2], [], [], Fct.val 17 (.tuple #[.int .i64 r21.1, .int .i64 r21.2])⟩,     ⟨[3], [], [], Fct.val 21 (.int .i64 r21.1)⟩,     ⟨[3], [], [], Fct.val 22 (.int .i64 r21.2)⟩,     ⟨[4], [], [], Fct.val 9 (.int .i64 r21.1)⟩,     ⟨[5], [], [], Fct.val 10 (.int .i64 r21.2)⟩] hz20 hd20 (by kernel_rfl) ?_ ?_
  · refine sc (fun _ _ _ _ s _ => px (or_move (s.1.trans e20_0))) ?_
    refine sc (fun _ _ _ _ s _ => px (or_move (s.1.trans e20_2))) ?_
    refine sc (fun _ _ _ f _ hE => px (or_call cf53 (args2 f.1 f.2.1) (order_Strips_w _ l1 Al1 cl1 b3 (RdO.zero (RdO.evo rfl hE b20_Al1)) r21 hr21) post_val)) ?_
    refine sc (fun _ _ _ f _ _ => px (or_move f.1)) ?_
    refine sc (fun _ _ _ f _ _ => px (or_k [(17, .tuple #[.int .i64 r21.1, .int .i64 r21.2])] rfl rfl ⟨f.1, trivial⟩ (by kernel_rfl))) ?_
    refine sc (fun _ _ _ f _ _ => px (or_k [(17, .tuple #[.int .i64 r21.1, .int .i64 r21.2])] rfl rfl ⟨f.1, trivial⟩ (by kernel_rfl))) ?_
    refine sc (fun _ _ _ f _ _ => px (or_assign f.1)) ?_
    refine sc (fun _ _ _ f _ _ => px (or_assign f.1)) ?_
    exact steps_nil
  intro own22 a22 w22 hd22 hz22 hk22 hf22 hE22
  have e22_7 := (hk22 7 rfl).trans e20_7
  have e22_8 := (hk22 8 rfl).trans e20_8
  obtain ⟨(e22_9 : a22.eval (.tmp 9) = .int .i64 r21.1), (e22_10 : a22.eval (.tmp 10) = .int .i64 r21.2), -⟩ := hf22 [6, 7] rfl
  have hX22 := es_ hX20 hE22
  obtain ⟨x23, hx23, hs⟩ := obind hs
  refine rg0_seq 31 own22 [0, 0, 3, 7, 15, 15, 63, 127, 255] [⟨[], [7], [], Fct.val 23 (.int .i64 r19.1)⟩,     ⟨[], [10], [], Fct.val 24 (.int .i64 r21.2)⟩,     ⟨[0, 1], [], [], Fct.val 25 (.bool (decide (r19.1 ≤ r21.2)))⟩,     ⟨[2], [], [], Fct.val 26 (.bool (decide (r19.1 ≤ r21.2)))⟩,     ⟨[3], [9], [], Fct.cond (decide (r19.1 ≤ r21.2)) (some 27) (Fct.val 27 (.int .i64 r21.1))⟩,     ⟨[3], [8], [], Fct.cond (decide (r19.1 ≤ r21.2)) (some 28) (Fct.val 28 (.int .i64 r19.2))⟩,     ⟨[3, 4, 5], [], [], Fct.cond (decide (r19.1 ≤ r21.2)) (some 29) (Fct.val 29 (.bool (decide (r21.1 ≤ r19.2))))⟩,     ⟨[3, 6], [], [], Fct.val 30 (.bool x23)⟩,     ⟨[7], [], [], Fct.val 6 (.bool x23)⟩] hz22 hd22 (by kernel_rfl) ?_ ?_
  · refine sc (fun _ _ _ _ s _ => px (or_move (s.1.trans e22_7))) ?_
    refine sc (fun _ _ _ _ s _ => px (or_move (s.1.trans e22_10))) ?_
    refine sc (fun _ _ _ f _ _ => px (or_leq f.1 f.2.1 rfl)) ?_
    refine sc (fun _ _ _ f _ _ => px (or_move f.1)) ?_
    refine sc (fun _ _ _ f s _ => sg_t rfl rfl rfl f.1 (fun hg => or_move (s.1.trans e22_9))) ?_
    refine sc (fun _ _ _ f s _ => sg_t rfl rfl rfl f.1 (fun hg => or_move (s.1.trans e22_8))) ?_
    refine sc (fun _ _ _ f _ _ => sg_t rfl rfl rfl f.1 (fun hg => or_leq (f.2.1.1 hg) (f.2.2.1.1 hg) rfl)) ?_
    refine sc (fun _ _ _ f _ _ => px (or_and f.1 (fun hx => f.2.1.1 hx) rfl (osome hx23).symm)) ?_
    refine sc (fun _ _ _ f _ _ => px (or_assign f.1)) ?_
    exact steps_nil
  intro own24 a24 w24 hd24 hz24 hk24 hf24 hE24
  obtain ⟨(e24_6 : a24.eval (.tmp 6) = .bool x23), -⟩ := hf24 [8] rfl
  have hX24 := es_ hX22 hE24
  refine fl_ret ?_
  obtain rfl := (osome hs).symm
  exact hret _ _ _ _ (.inl rfl) hd24 (results1_ rfl (RVal.tmp_ e24_6)) ⟨own24, rfl, hX24⟩
theorem exact_Box_w (w : World) (l1 : List (Int × Int)) (Al1 : Option Addr) (cl1 : Nat) (hl1 : RdO (fun _ => 0) [0] w R25 Al1 cl1 l1) (r : (Int × Int) × (Int × Int) × Bool) (hs : exact_Box l1 = some r) :
    Calls Try.prog 54 #[.slice Al1 l1.length cl1] w fun e w' => ∃ own' : Own, e = .returned (.tuple #[.agg #[.int .i64 r.1.1, .int .i64 r.1.2], .agg #[.int .i64 r.2.1.1, .int .i64 r.2.1.2], .bool r.2.2]) ∧ Evo [] (fun _ => 0) own' w w' := by
  refine fl_enter (n := 58) rfl rfl rfl (Nat.le_of_ble_eq_true rfl) ?_
  intro a0 Q hd0 hz0 harg hret
  have ha0 := harg 0 _ rfl
  clear harg
  have hE0 : Evo [] (fun _ => 0) (fun _ => 0) w w := Evo.refl _ _ _
  refine rg0_seq 58 (fun _ => 0) [0, 0, 0] [⟨[], [], [], Fct.blk 102 2 (fun g => .pointer (some ⟨g, 0, none⟩)) 25 #[.int .i64 0, .int .i64 0]⟩,     ⟨[], [], [], Fct.blk 104 3 (fun g => .pointer (some ⟨g, 0, none⟩)) 25 #[.int .i64 0, .int .i64 0]⟩,     ⟨[], [], [], Fct.val 4 (.bool false)⟩] hz0 hd0 (by kernel_rfl) ?_ ?_
  · refine sc (fun _ _ _ _ _ _ => px (or_new [] rfl rfl trivial (by kernel_rfl))) ?_
    refine sc (fun _ _ _ _ _ _ => px (or_new [] rfl rfl trivial (by kernel_rfl))) ?_
    refine sc (fun _ _ _ _ _ _ => px (or_assign rfl)) ?_
    exact steps_nil
  intro own105 a105 w105 hd105 hz105 hk105 hf105 hE105
  have e105_0 := (hk105 0 rfl).trans ha0
  obtain ⟨⟨g101, (e105_2 : a105.eval (.tmp 2) = .pointer (some ⟨g101, 0, none⟩)), (b105_g101 : BlkO own105 102 w105 g101 25 #[.int .i64 0, .int .i64 0])⟩, ⟨g103, (e105_3 : a105.eval (.tmp 3) = .pointer (some ⟨g103, 0, none⟩)), (b105_g103 : BlkO own105 104 w105 g103 25 #[.int .i64 0, .int .i64 0])⟩, -⟩ := hf105 [0, 1] rfl
  have hX105 := es_ hE0 hE105
  have b105_Al1 := RdO.evo rfl hE105 hl1
  refine fl_seq (fun Q106 hn106 hp106 => ?_)
  obtain ⟨r107, hr107, hs⟩ := obind hs
  obtain ⟨x108, hx108, hs⟩ := obind hs
  refine rg0_seq 58 own105 (bz 8) [⟨[], [0], [], Fct.val 9 (.slice Al1 l1.length cl1)⟩,     ⟨[0], [], [], Fct.val 10 (.int .i64 (l1.length : Int))⟩,     ⟨[1], [], [], Fct.val 11 (.bool (decide ((l1.length : Int) = 0)))⟩,     ⟨[2], [], [], Fct.val 12 (.bool (decide ((l1.length : Int) = 0)))⟩,     ⟨[3], [0], [], Fct.cond (!(decide ((l1.length : Int) = 0))) (some 13) (Fct.val 13 (.slice Al1 l1.length cl1))⟩,     ⟨[3, 4], [], [], Fct.cond (!(decide ((l1.length : Int) = 0))) (some 14) (Fct.val 14 (.bool r107))⟩,     ⟨[3, 5], [], [], Fct.cond (!(decide ((l1.length : Int) = 0))) (some 15) (Fct.val 15 (.bool (!r107)))⟩,     ⟨[3, 6], [], [], Fct.val 16 (.bool x108)⟩] hz105 hd105 (by kernel_rfl) ?_ ?_
  · refine sc (fun _ _ _ _ s _ => px (or_move (s.1.trans e105_0))) ?_
    refine sc (fun _ _ _ f _ _ => px (or_len tu55 f.1 rfl)) ?_
    refine sc (fun _ _ _ f _ _ => px (or_eql f.1 rfl rfl)) ?_
    refine sc (fun _ _ _ f _ _ => px (or_move f.1)) ?_
    refine sc (fun _ _ _ f s _ => sg_f rfl rfl rfl f.1 (fun hg => or_move (s.1.trans e105_0))) ?_
    refine sc (fun _ _ _ f _ hE => sg_f rfl rfl rfl f.1 (fun hg => or_call cf32 (args1 (f.2.1.1 hg)) (exact_Right_w _ l1 Al1 cl1 (RdO.zero (RdO.evo rfl hE b105_Al1)) r107 (gd_t hr107 hg)) post_val)) ?_
    refine sc (fun _ _ _ f _ _ => sg_f rfl rfl rfl f.1 (fun hg => or_not (f.2.1.1 hg) rfl)) ?_
    refine sc (fun _ _ _ f _ _ => px (or_or f.1 rfl (fun hx => f.2.1.1 hx) (osome hx108).symm)) ?_
    exact steps_nil
  intro own109 a109 w109 hd109 hz109 hk109 hf109 hE109
  have e109_0 := (hk109 0 rfl).trans e105_0
  have e109_2 := (hk109 2 rfl).trans e105_2
  have e109_3 := (hk109 3 rfl).trans e105_3
  obtain ⟨(e109_16 : a109.eval (.tmp 16) = .bool x108), -⟩ := hf109 [7] rfl
  have hX109 := es_ hX105 hE109
  have b109_Al1 := RdO.evo rfl hE109 b105_Al1
  have b109_g101 := be_ hE109 b105_g101
  have b109_g103 := be_ hE109 b105_g103
  refine fl_cond e109_16 hs (fun c110 hs => ?_) (fun c110 hs => ?_)
  · refine rg_plain_seq (n := 58) (rs := [Fct.at_ 102 g101 25 #[.int .i64 0, .int .i64 0], Fct.at_ 104 g103 25 #[.int .i64 0, .int .i64 0]]) (own0 := own109) (K := [102, 104]) (bs := [0, 0, 1, 7, 15]) (ds := [⟨[], [], [], Fct.val 17 (.agg #[.int .i64 0, .int .i64 0])⟩,     ⟨[], [], [], Fct.val 18 (.agg #[.int .i64 0, .int .i64 0])⟩,     ⟨[0, 5], [2], [102], Fct.at_ 112 g101 25 #[.int .i64 0, .int .i64 0]⟩,     ⟨[1, 6], [3], [104], Fct.at_ 113 g103 25 #[.int .i64 0, .int .i64 0]⟩,     ⟨[], [], [], Fct.val 4 (.bool false)⟩]) (by kernel_rfl) hz109 hd109 (by simp only [List.forall_mem_cons]; exact ⟨b109_g101, b109_g103, fun _ h => nomatch h⟩) ?_ ?_
    · refine sc (fun _ _ _ _ _ _ => px (or_k [] rfl rfl trivial (by kernel_rfl))) ?_
      refine sc (fun _ _ _ _ _ _ => px (or_k [] rfl rfl trivial (by kernel_rfl))) ?_
      refine sc (fun own a wx hf hsl hE => ?_) ?_
      · obtain ⟨f_17, b_g101, -⟩ := hf
        obtain ⟨s_2, -⟩ := hsl
        exact px (or_store (l := #[.int .i64 0, .int .i64 0]) (lab := 102) (lab2 := 112) ts25 (s_2.trans e109_2) f_17 b_g101 (by simp) (by kernel_rfl) (mem_of rfl) (by decide) (by kernel_rfl) (fun own' a' w' ha hb => hb))
      refine sc (fun own a wx hf hsl hE => ?_) ?_
      · obtain ⟨f_18, b_g103, -⟩ := hf
        obtain ⟨s_3, -⟩ := hsl
        exact px (or_store (l := #[.int .i64 0, .int .i64 0]) (lab := 104) (lab2 := 113) ts25 (s_3.trans e109_3) f_18 b_g103 (by simp) (by kernel_rfl) (mem_of rfl) (by decide) (by kernel_rfl) (fun own' a' w' ha hb => hb))
      refine sc (fun _ _ _ _ _ _ => px (or_assign rfl)) ?_
      exact steps_nil
    intro own114 a114 w114 hd114 hz114 hk114 hf114 hE114
    have e114_2 := (hk114 2 rfl).trans e109_2
    have e114_3 := (hk114 3 rfl).trans e109_3
    obtain ⟨(e114_4 : a114.eval (.tmp 4) = .bool false), (b114_g101 : BlkO own114 112 w114 g101 25 #[.int .i64 0, .int .i64 0]), (b114_g103 : BlkO own114 113 w114 g103 25 #[.int .i64 0, .int .i64 0]), -⟩ := hf114 [4, 2, 3] rfl
    have hX114 := es_ hX109 hE114
    refine fl_ret ?_
    refine hp106 _ _ _ rfl ?_
    obtain rfl := osome hs
    exact hret _ _ _ _ (.inl rfl) hd114 (results3_ rfl (RVal.cell_ e114_2 (run_loadVarAgg (l := [.int .i64 0, .int .i64 0]) ta25 (Blk.cellsFrom b114_g101.2 0 rfl) rfl)) (RVal.cell_ e114_3 (run_loadVarAgg (l := [.int .i64 0, .int .i64 0]) ta25 (Blk.cellsFrom b114_g103.2 0 rfl) rfl)) (RVal.tmp_ e114_4)) ⟨own114, rfl, hX114⟩
  refine fl_skip ?_
  refine hn106 _ _ ?_
  obtain ⟨x115, hx115, hs⟩ := obind hs
  obtain ⟨x116, hx116, hs⟩ := obind hs
  refine rg_draw_seq g_mixed (n := 58) (rs := []) (own0 := own109) (K := [118, 120]) (bs := [0, 1, 3, 0, 8, 24, 0, 0, 199, 511]) (ds := [⟨[], [0], [], Fct.val 19 (.slice Al1 l1.length cl1)⟩,     ⟨[0], [], [], Fct.val 20 (.pointer (some ((adr Al1).add ((0 : Int).toNat * R25.s))))⟩,     ⟨[1], [], [], Fct.val 21 (.agg #[.int .i64 x115.1, .int .i64 x115.2])⟩,     ⟨[], [0], [], Fct.val 22 (.slice Al1 l1.length cl1)⟩,     ⟨[3], [], [], Fct.val 23 (.pointer (some ((adr Al1).add ((0 : Int).toNat * R25.s))))⟩,     ⟨[4], [], [], Fct.val 24 (.agg #[.int .i64 x116.1, .int .i64 x116.2])⟩,     ⟨[], [], [], Fct.blk 118 5 (fun g => .pointer (some ⟨g, 0, none⟩)) 25 #[.int .i64 0, .int .i64 0]⟩,     ⟨[], [], [], Fct.blk 120 6 (fun g => .pointer (some ⟨g, 0, none⟩)) 25 #[.int .i64 0, .int .i64 0]⟩,     ⟨[6, 2], [], [118], Fct.blk 121 5 (fun g => .pointer (some ⟨g, 0, none⟩)) 25 #[.int .i64 x115.1, .int .i64 x115.2]⟩,     ⟨[7, 5], [], [120], Fct.blk 122 6 (fun g => .pointer (some ⟨g, 0, none⟩)) 25 #[.int .i64 x116.1, .int .i64 x116.2]⟩]) (by kernel_rfl) hz109 hd109 nm_ ?_ ?_
  · refine sc (fun _ _ _ _ s _ => px (or_move (s.1.trans e109_0))) ?_
    refine sc (fun _ _ _ f _ _ => px (or_index (R := R25) (l := l1) tl55 f.1 rfl (RdO.some_ b109_Al1 hx115) hx115)) ?_
    refine sc (fun _ _ _ f _ hE => px (or_load (l := E25.f x115) ta25 f.1 (RdO.cells (F := E25) (RdO.evo rfl hE b109_Al1) hx115) rfl)) ?_
    refine sc (fun _ _ _ _ s _ => px (or_move (s.1.trans e109_0))) ?_
    refine sc (fun _ _ _ f _ _ => px (or_index (R := R25) (l := l1) tl55 f.1 rfl (RdO.some_ b109_Al1 hx116) hx116)) ?_
    refine sc (fun _ _ _ f _ hE => px (or_load (l := E25.f x116) ta25 f.1 (RdO.cells (F := E25) (RdO.evo rfl hE b109_Al1) hx116) rfl)) ?_
    refine sc (fun _ _ _ _ _ _ => px (or_new [] rfl rfl trivial (by kernel_rfl))) ?_
    refine sc (fun _ _ _ _ _ _ => px (or_new [] rfl rfl trivial (by kernel_rfl))) ?_
    refine sc (fun own a wx hf hsl hE => ?_) ?_
    · obtain ⟨⟨g117, f_5, b_g117⟩, f_21, -⟩ := hf
      exact px (or_store (l := #[.int .i64 x115.1, .int .i64 x115.2]) (lab := 118) (lab2 := 121) ts25 f_5 f_21 b_g117 (by simp) (by kernel_rfl) (mem_of rfl) (by decide) (by kernel_rfl) (fun own' a' w' ha hb => ⟨_, (ha 5).trans f_5, hb⟩))
    refine sc (fun own a wx hf hsl hE => ?_) ?_
    · obtain ⟨⟨g119, f_6, b_g119⟩, f_24, -⟩ := hf
      exact px (or_store (l := #[.int .i64 x116.1, .int .i64 x116.2]) (lab := 120) (lab2 := 122) ts25 f_6 f_24 b_g119 (by simp) (by kernel_rfl) (mem_of rfl) (by decide) (by kernel_rfl) (fun own' a' w' ha hb => ⟨_, (ha 6).trans f_6, hb⟩))
    exact steps_nil
  intro own123 a123 w123 hd123 hz123 hk123 hf123 hE123
  have e123_0 := (hk123 0 rfl).trans e109_0
  have e123_2 := (hk123 2 rfl).trans e109_2
  have e123_3 := (hk123 3 rfl).trans e109_3
  obtain ⟨⟨g117, (e123_5 : a123.eval (.tmp 5) = .pointer (some ⟨g117, 0, none⟩)), (b123_g117 : BlkO own123 121 w123 g117 25 #[.int .i64 x115.1, .int .i64 x115.2])⟩, ⟨g119, (e123_6 : a123.eval (.tmp 6) = .pointer (some ⟨g119, 0, none⟩)), (b123_g119 : BlkO own123 122 w123 g119 25 #[.int .i64 x116.1, .int .i64 x116.2])⟩, -⟩ := hf123 [8, 9] rfl
  have hX123 := es_ hX109 hE123
  have b123_Al1 := RdO.evo rfl hE123 b109_Al1
  have b123_g101 := be_ hE123 b109_g101
  have b123_g103 := be_ hE123 b109_g103
  refine fl_seq (fun Q124 hn124 hp124 => ?_)
  refine rg0_seq 58 own123 [0, 1, 0] [⟨[], [0], [], Fct.val 25 (.slice Al1 l1.length cl1)⟩,     ⟨[0], [], [], Fct.val 26 (.int .i64 (l1.length : Int))⟩,     ⟨[], [], [], Fct.val 27 (.int .i64 0)⟩] hz123 hd123 (by kernel_rfl) ?_ ?_
  · refine sc (fun _ _ _ _ s _ => px (or_move (s.1.trans e123_0))) ?_
    refine sc (fun _ _ _ f _ _ => px (or_len tu55 f.1 rfl)) ?_
    refine sc (fun _ _ _ _ _ _ => px (or_move rfl)) ?_
    exact steps_nil
  intro own125 a125 w125 hd125 hz125 hk125 hf125 hE125
  have e125_2 := (hk125 2 rfl).trans e123_2
  have e125_3 := (hk125 3 rfl).trans e123_3
  have e125_5 := (hk125 5 rfl).trans e123_5
  have e125_6 := (hk125 6 rfl).trans e123_6
  obtain ⟨(e125_25 : a125.eval (.tmp 25) = .slice Al1 l1.length cl1), (e125_26 : a125.eval (.tmp 26) = .int .i64 (l1.length : Int)), (e125_27 : a125.eval (.tmp 27) = .int .i64 0), -⟩ := hf125 [0, 1, 2] rfl
  have hX125 := es_ hX123 hE125
  have b125_Al1 := RdO.evo rfl hE125 b123_Al1
  have b125_g101 := be_ hE125 b123_g101
  have b125_g103 := be_ hE125 b123_g103
  have b125_g117 := be_ hE125 b123_g117
  have b125_g119 := be_ hE125 b123_g119
  refine fl_block (fun Q126 hn126 hx126 hp126 => ?_)
  refine fl_loop (body := (fun s => exact_Box_b1 l1 s.1 s.2.1 s.2.2)) (z := r) (show loopO _ _ = _ from hs) (fun (s : (Int × Int) × (Int × Int) × Int) a wx => match s with | (low146, high148, x149) => ∃ (ox : Own), a.defers = [] ∧ a.tmps.size = 58 ∧ a.eval (.tmp 2) = .pointer (some ⟨g101, 0, none⟩) ∧ a.eval (.tmp 3) = .pointer (some ⟨g103, 0, none⟩) ∧ a.eval (.tmp 5) = .pointer (some ⟨g117, 0, none⟩) ∧ a.eval (.tmp 6) = .pointer (some ⟨g119, 0, none⟩) ∧ a.eval (.tmp 25) = .slice Al1 l1.length cl1 ∧ a.eval (.tmp 26) = .int .i64 (l1.length : Int) ∧ a.eval (.tmp 27) = .int .i64 x149 ∧ Evo [] (fun _ => 0) ox w wx ∧ BlkO ox 102 wx g101 25 #[.int .i64 0, .int .i64 0] ∧ BlkO ox 104 wx g103 25 #[.int .i64 0, .int .i64 0] ∧ BlkO ox 145 wx g117 25 #[.int .i64 low146.1, .int .i64 low146.2] ∧ BlkO ox 147 wx g119 25 #[.int .i64 high148.1, .int .i64 high148.2] ∧ RdO ox [0] wx R25 Al1 cl1 l1) ?_ ?_
  · exact ⟨(rl [(121, 145), (122, 147)] own125), hd125, hz125, e125_2, e125_3, e125_5, e125_6, e125_25, e125_26, e125_27, (Evo.rl_ hX125 (fun _ => Nat.le_refl 0) rfl), (BlkO.rl_ (mm := [(121, 145), (122, 147)]) b125_g101), (BlkO.rl_ (mm := [(121, 145), (122, 147)]) b125_g103), (BlkO.rl_ (mm := [(121, 145), (122, 147)]) b125_g117), (BlkO.rl_ (mm := [(121, 145), (122, 147)]) b125_g119), (RdO.rl_ (mm := [(121, 145), (122, 147)]) b125_Al1)⟩
  · rintro ⟨low146, high148, x149⟩ zz168 a168 w168 ⟨own168, hd169, hz169, e169_2, e169_3, e169_5, e169_6, e169_25, e169_26, e169_27, hE169, b169_g101, b169_g103, b169_g117, b169_g119, b169_Al1⟩ hs Q168 hn168 hp168 hz168
    have hs : exact_Box_b1 l1 low146 high148 x149 = some zz168 := hs
    refine rg0_seq 58 own168 (bz 1) [⟨[], [27, 26], [], Fct.val 28 (.bool (decide (x149 < (l1.length : Int))))⟩] hz169 hd169 (by kernel_rfl) ?_ ?_
    · refine sc (fun _ _ _ _ s _ => px (or_lss (s.1.trans e169_27) (s.2.1.trans e169_26) rfl)) ?_
      exact steps_nil
    intro own170 a170 w170 hd170 hz170 hk170 hf170 hE170
    have e170_2 := (hk170 2 rfl).trans e169_2
    have e170_3 := (hk170 3 rfl).trans e169_3
    have e170_5 := (hk170 5 rfl).trans e169_5
    have e170_6 := (hk170 6 rfl).trans e169_6
    have e170_25 := (hk170 25 rfl).trans e169_25
    have e170_26 := (hk170 26 rfl).trans e169_26
    have e170_27 := (hk170 27 rfl).trans e169_27
    obtain ⟨(e170_28 : a170.eval (.tmp 28) = .bool (decide (x149 < (l1.length : Int)))), -⟩ := hf170 [0] rfl
    have hX170 := es_ hE169 hE170
    have b170_g101 := be_ hE170 b169_g101
    have b170_g103 := be_ hE170 b169_g103
    have b170_g117 := be_ hE170 b169_g117
    have b170_g119 := be_ hE170 b169_g119
    have b170_Al1 := RdO.evo rfl hE170 b169_Al1
    refine fl_seq (fun Q171 hn171 hp171 => ?_)
    refine fl_cond e170_28 hs (fun c172 hs => ?_) (fun c172 hs => ?_)
    · refine fl_skip ?_
      refine hn171 _ _ ?_
      refine fl_seq (fun Q173 hn173 hp173 => ?_)
      refine fl_block (fun Q174 hn174 hx174 hp174 => ?_)
      obtain ⟨x175, hx175, hs⟩ := obind hs
      refine rg_plain_seq (n := 58) (rs := []) (own0 := own170) (K := [177]) (bs := [0, 1, 0, 7]) (ds := [⟨[], [25, 27], [], Fct.val 29 (.pointer (some ((adr Al1).add ((x149 : Int).toNat * R25.s))))⟩,     ⟨[0], [], [], Fct.val 30 (.agg #[.int .i64 x175.1, .int .i64 x175.2])⟩,     ⟨[], [], [], Fct.blk 177 8 (fun g => .pointer (some ⟨g, 0, none⟩)) 25 #[.int .i64 0, .int .i64 0]⟩,     ⟨[2, 1], [], [177], Fct.blk 178 8 (fun g => .pointer (some ⟨g, 0, none⟩)) 25 #[.int .i64 x175.1, .int .i64 x175.2]⟩]) (by kernel_rfl) hz170 hd170 nm_ ?_ ?_
      · refine sc (fun _ _ _ _ s _ => px (or_index (R := R25) (l := l1) tl55 (s.1.trans e170_25) (s.2.1.trans e170_27) (RdO.some_ b170_Al1 hx175) hx175)) ?_
        refine sc (fun _ _ _ f _ hE => px (or_load (l := E25.f x175) ta25 f.1 (RdO.cells (F := E25) (RdO.evo rfl hE b170_Al1) hx175) rfl)) ?_
        refine sc (fun _ _ _ _ _ _ => px (or_new [] rfl rfl trivial (by kernel_rfl))) ?_
        refine sc (fun own a wx hf hsl hE => ?_) ?_
        · obtain ⟨⟨g176, f_8, b_g176⟩, f_30, -⟩ := hf
          exact px (or_store (l := #[.int .i64 x175.1, .int .i64 x175.2]) (lab := 177) (lab2 := 178) ts25 f_8 f_30 b_g176 (by simp) (by kernel_rfl) (mem_of rfl) (by decide) (by kernel_rfl) (fun own' a' w' ha hb => ⟨_, (ha 8).trans f_8, hb⟩))
        exact steps_nil
      intro own179 a179 w179 hd179 hz179 hk179 hf179 hE179
      have e179_2 := (hk179 2 rfl).trans e170_2
      have e179_3 := (hk179 3 rfl).trans e170_3
      have e179_5 := (hk179 5 rfl).trans e170_5
      have e179_6 := (hk179 6 rfl).trans e170_6
      have e179_25 := (hk179 25 rfl).trans e170_25
      have e179_26 := (hk179 26 rfl).trans e170_26
      have e179_27 := (hk179 27 rfl).trans e170_27
      obtain ⟨⟨g176, (e179_8 : a179.eval (.tmp 8) = .pointer (some ⟨g176, 0, none⟩)), (b179_g176 : BlkO own179 178 w179 g176 25 #[.int .i64 x175.1, .int .i64 x175.2])⟩, -⟩ := hf179 [3] rfl
      have hX179 := es_ hX170 hE179
      have b179_g101 := be_ hE179 b170_g101
      have b179_g103 := be_ hE179 b170_g103
      have b179_g117 := be_ hE179 b170_g117
      have b179_g119 := be_ hE179 b170_g119
      have b179_Al1 := RdO.evo rfl hE179 b170_Al1
      refine rg_draw_seq g_mixed (n := 58) (rs := [Fct.at_ 145 g117 25 #[.int .i64 low146.1, .int .i64 low146.2]]) (own0 := own179) (K := [145, 180]) (bs := [0, 1, 0, 4, 15, 0, 32, 0, 128, 480, 127, 1151, 4095, 8191]) (ds := [⟨[], [5], [], Fct.val 31 (.pointer (some ⟨g117, 0, none⟩))⟩,     ⟨[0, 14], [], [], Fct.val 32 (.int .i64 low146.1)⟩,     ⟨[], [8], [], Fct.val 33 (.pointer (some ⟨g176, 0, none⟩))⟩,     ⟨[2], [], [], Fct.val 34 (.int .i64 x175.1)⟩,     ⟨[1, 3], [], [], Fct.val 35 (.int .i64 (mn low146.1 x175.1))⟩,     ⟨[], [5], [], Fct.val 36 (.pointer (some ⟨g117, 1, none⟩))⟩,     ⟨[5, 14], [], [], Fct.val 37 (.int .i64 low146.2)⟩,     ⟨[], [8], [], Fct.val 38 (.pointer (some ⟨g176, 1, none⟩))⟩,     ⟨[7], [], [], Fct.val 39 (.int .i64 x175.2)⟩,     ⟨[6, 8], [], [], Fct.val 40 (.int .i64 (mn low146.2 x175.2))⟩,     ⟨[], [5], [], Fct.val 41 (.pointer (some ⟨g117, 0, none⟩))⟩,     ⟨[10, 4, 14], [], [145], Fct.at_ 180 g117 25 #[.int .i64 (mn low146.1 x175.1), .int .i64 low146.2]⟩,     ⟨[], [5], [], Fct.val 42 (.pointer (some ⟨g117, 1, none⟩))⟩,     ⟨[12, 9, 11], [], [180], Fct.at_ 181 g117 25 #[.int .i64 (mn low146.1 x175.1), .int .i64 (mn low146.2 x175.2)]⟩]) (by kernel_rfl) hz179 hd179 (by simp only [List.forall_mem_cons]; exact ⟨b179_g117, fun _ h => nomatch h⟩) ?_ ?_
      · refine sc (fun _ _ _ _ s _ => px (or_field fo25_0 (s.1.trans e179_5) (by rfl))) ?_
        refine sc (fun own a wx hf hsl hE => ?_) ?_
        · obtain ⟨f_31, (b_g117 : BlkO own 145 wx g117 25 #[.int .i64 low146.1, .int .i64 low146.2]), -⟩ := hf
          exact px (or_load1 to3 f_31 (Blk.at_ b_g117.2 0 rfl))
        refine sc (fun _ _ _ _ s _ => px (or_field fo25_0 (s.1.trans e179_8) (by rfl))) ?_
        refine sc (fun _ _ _ f _ hE => px (or_load1 to3 f.1 (Blk.at_ (be_ hE b179_g176).2 0 rfl))) ?_
        refine sc (fun _ _ _ f _ _ => px (or_min f.1 f.2.1)) ?_
        refine sc (fun _ _ _ _ s _ => px (or_field fo25_1 (s.1.trans e179_5) (by rfl))) ?_
        refine sc (fun own a wx hf hsl hE => ?_) ?_
        · obtain ⟨f_36, (b_g117 : BlkO own 145 wx g117 25 #[.int .i64 low146.1, .int .i64 low146.2]), -⟩ := hf
          exact px (or_load1 to3 f_36 (Blk.at_ b_g117.2 1 rfl))
        refine sc (fun _ _ _ _ s _ => px (or_field fo25_1 (s.1.trans e179_8) (by rfl))) ?_
        refine sc (fun _ _ _ f _ hE => px (or_load1 to3 f.1 (Blk.at_ (be_ hE b179_g176).2 1 rfl))) ?_
        refine sc (fun _ _ _ f _ _ => px (or_min f.1 f.2.1)) ?_
        refine sc (fun _ _ _ _ s _ => px (or_field fo25_0 (s.1.trans e179_5) (by rfl))) ?_
        refine sc (fun own a wx hf hsl hE => ?_) ?_
        · obtain ⟨f_41, f_35, b_g117, -⟩ := hf
          exact px (or_store1 (lab := 145) (lab2 := 180) ts3 f_41 f_35 b_g117 (by simp) rfl (mem_of rfl) (by decide) rfl (fun own' a' w' ha hb => hb))
        refine sc (fun _ _ _ _ s _ => px (or_field fo25_1 (s.1.trans e179_5) (by rfl))) ?_
        refine sc (fun own a wx hf hsl hE => ?_) ?_
        · obtain ⟨f_42, f_40, b_g117, -⟩ := hf
          exact px (or_store1 (lab := 180) (lab2 := 181) ts3 f_42 f_40 b_g117 (by simp) rfl (mem_of rfl) (by decide) rfl (fun own' a' w' ha hb => hb))
        exact steps_nil
      intro own182 a182 w182 hd182 hz182 hk182 hf182 hE182
      have e182_2 := (hk182 2 rfl).trans e179_2
      have e182_3 := (hk182 3 rfl).trans e179_3
      have e182_5 := (hk182 5 rfl).trans e179_5
      have e182_6 := (hk182 6 rfl).trans e179_6
      have e182_8 := (hk182 8 rfl).trans e179_8
      have e182_25 := (hk182 25 rfl).trans e179_25
      have e182_26 := (hk182 26 rfl).trans e179_26
      have e182_27 := (hk182 27 rfl).trans e179_27
      obtain ⟨(b182_g117 : BlkO own182 181 w182 g117 25 #[.int .i64 (mn low146.1 x175.1), .int .i64 (mn low146.2 x175.2)]), -⟩ := hf182 [13] rfl
      have hX182 := es_ hX179 hE182
      have b182_g101 := be_ hE182 b179_g101
      have b182_g103 := be_ hE182 b179_g103
      have b182_g119 := be_ hE182 b179_g119
      have b182_Al1 := RdO.evo rfl hE182 b179_Al1
      have b182_g176 := be_ hE182 b179_g176
      refine rg_draw g_mixed (n := 58) (rs := [Fct.at_ 147 g119 25 #[.int .i64 high148.1, .int .i64 high148.2]]) (own0 := own182) (K := [147, 183]) (bs := [0, 1, 0, 4, 15, 0, 32, 0, 128, 480, 127, 1151, 4095, 8191]) (ds := [⟨[], [6], [], Fct.val 43 (.pointer (some ⟨g119, 0, none⟩))⟩,     ⟨[0, 14], [], [], Fct.val 44 (.int .i64 high148.1)⟩,     ⟨[], [8], [], Fct.val 45 (.pointer (some ⟨g176, 0, none⟩))⟩,     ⟨[2], [], [], Fct.val 46 (.int .i64 x175.1)⟩,     ⟨[1, 3], [], [], Fct.val 47 (.int .i64 (mx high148.1 x175.1))⟩,     ⟨[], [6], [], Fct.val 48 (.pointer (some ⟨g119, 1, none⟩))⟩,     ⟨[5, 14], [], [], Fct.val 49 (.int .i64 high148.2)⟩,     ⟨[], [8], [], Fct.val 50 (.pointer (some ⟨g176, 1, none⟩))⟩,     ⟨[7], [], [], Fct.val 51 (.int .i64 x175.2)⟩,     ⟨[6, 8], [], [], Fct.val 52 (.int .i64 (mx high148.2 x175.2))⟩,     ⟨[], [6], [], Fct.val 53 (.pointer (some ⟨g119, 0, none⟩))⟩,     ⟨[10, 4, 14], [], [147], Fct.at_ 183 g119 25 #[.int .i64 (mx high148.1 x175.1), .int .i64 high148.2]⟩,     ⟨[], [6], [], Fct.val 54 (.pointer (some ⟨g119, 1, none⟩))⟩,     ⟨[12, 9, 11], [], [183], Fct.at_ 184 g119 25 #[.int .i64 (mx high148.1 x175.1), .int .i64 (mx high148.2 x175.2)]⟩]) (by kernel_rfl) hz182 hd182 (by simp only [List.forall_mem_cons]; exact ⟨b182_g119, fun _ h => nomatch h⟩) ?_ ?_
      · refine sc (fun _ _ _ _ s _ => px (or_field fo25_0 (s.1.trans e182_6) (by rfl))) ?_
        refine sc (fun own a wx hf hsl hE => ?_) ?_
        · obtain ⟨f_43, (b_g119 : BlkO own 147 wx g119 25 #[.int .i64 high148.1, .int .i64 high148.2]), -⟩ := hf
          exact px (or_load1 to3 f_43 (Blk.at_ b_g119.2 0 rfl))
        refine sc (fun _ _ _ _ s _ => px (or_field fo25_0 (s.1.trans e182_8) (by rfl))) ?_
        refine sc (fun _ _ _ f _ hE => px (or_load1 to3 f.1 (Blk.at_ (be_ hE b182_g176).2 0 rfl))) ?_
        refine sc (fun _ _ _ f _ _ => px (or_max f.1 f.2.1)) ?_
        refine sc (fun _ _ _ _ s _ => px (or_field fo25_1 (s.1.trans e182_6) (by rfl))) ?_
        refine sc (fun own a wx hf hsl hE => ?_) ?_
        · obtain ⟨f_48, (b_g119 : BlkO own 147 wx g119 25 #[.int .i64 high148.1, .int .i64 high148.2]), -⟩ := hf
          exact px (or_load1 to3 f_48 (Blk.at_ b_g119.2 1 rfl))
        refine sc (fun _ _ _ _ s _ => px (or_field fo25_1 (s.1.trans e182_8) (by rfl))) ?_
        refine sc (fun _ _ _ f _ hE => px (or_load1 to3 f.1 (Blk.at_ (be_ hE b182_g176).2 1 rfl))) ?_
        refine sc (fun _ _ _ f _ _ => px (or_max f.1 f.2.1)) ?_
        refine sc (fun _ _ _ _ s _ => px (or_field fo25_0 (s.1.trans e182_6) (by rfl))) ?_
        refine sc (fun own a wx hf hsl hE => ?_) ?_
        · obtain ⟨f_53, f_47, b_g119, -⟩ := hf
          exact px (or_store1 (lab := 147) (lab2 := 183) ts3 f_53 f_47 b_g119 (by simp) rfl (mem_of rfl) (by decide) rfl (fun own' a' w' ha hb => hb))
        refine sc (fun _ _ _ _ s _ => px (or_field fo25_1 (s.1.trans e182_6) (by rfl))) ?_
        refine sc (fun own a wx hf hsl hE => ?_) ?_
        · obtain ⟨f_54, f_52, b_g119, -⟩ := hf
          exact px (or_store1 (lab := 183) (lab2 := 184) ts3 f_54 f_52 b_g119 (by simp) rfl (mem_of rfl) (by decide) rfl (fun own' a' w' ha hb => hb))
        exact steps_nil
      intro own185 a185 w185 hd185 hz185 hk185 hf185 hE185
      have e185_2 := (hk185 2 rfl).trans e182_2
      have e185_3 := (hk185 3 rfl).trans e182_3
      have e185_5 := (hk185 5 rfl).trans e182_5
      have e185_6 := (hk185 6 rfl).trans e182_6
      have e185_25 := (hk185 25 rfl).trans e182_25
      have e185_26 := (hk185 26 rfl).trans e182_26
      have e185_27 := (hk185 27 rfl).trans e182_27
      obtain ⟨(b185_g119 : BlkO own185 184 w185 g119 25 #[.int .i64 (mx high148.1 x175.1), .int .i64 (mx high148.2 x175.2)]), -⟩ := hf185 [13] rfl
      have hX185 := es_ hX182 hE185
      have b185_g101 := be_ hE185 b182_g101
      have b185_g103 := be_ hE185 b182_g103
      have b185_Al1 := RdO.evo rfl hE185 b182_Al1
      have b185_g117 := be_ hE185 b182_g117
      refine hn174 _ _ ?_
      refine hn173 _ _ ?_
      refine rg0 58 own185 (bz 2) [⟨[], [27], [], Fct.val 55 (.int .i64 (ad x149 1))⟩,     ⟨[0], [], [], Fct.val 27 (.int .i64 (ad x149 1))⟩] hz185 hd185 (by kernel_rfl) ?_ ?_
      · refine sc (fun _ _ _ _ s _ => px (or_add (s.1.trans e185_27) rfl rfl)) ?_
        refine sc (fun _ _ _ f _ _ => px (or_move f.1)) ?_
        exact steps_nil
      intro own186 a186 w186 hd186 hz186 hk186 hf186 hE186
      have e186_2 := (hk186 2 rfl).trans e185_2
      have e186_3 := (hk186 3 rfl).trans e185_3
      have e186_5 := (hk186 5 rfl).trans e185_5
      have e186_6 := (hk186 6 rfl).trans e185_6
      have e186_25 := (hk186 25 rfl).trans e185_25
      have e186_26 := (hk186 26 rfl).trans e185_26
      obtain ⟨(e186_27 : a186.eval (.tmp 27) = .int .i64 (ad x149 1)), -⟩ := hf186 [1] rfl
      have hX186 := es_ hX185 hE186
      have b186_g101 := be_ hE186 b185_g101
      have b186_g103 := be_ hE186 b185_g103
      have b186_Al1 := RdO.evo rfl hE186 b185_Al1
      have b186_g117 := be_ hE186 b185_g117
      have b186_g119 := be_ hE186 b185_g119
      exact hn168 _ _ _ hs ⟨(rl [(181, 145), (184, 147)] own186), hd186, hz186, e186_2, e186_3, e186_5, e186_6, e186_25, e186_26, e186_27, (Evo.rl_ hX186 (fun _ => Nat.le_refl 0) rfl), (BlkO.rl_ (mm := [(181, 145), (184, 147)]) b186_g101), (BlkO.rl_ (mm := [(181, 145), (184, 147)]) b186_g103), (BlkO.rl_ (mm := [(181, 145), (184, 147)]) b186_g117), (BlkO.rl_ (mm := [(181, 145), (184, 147)]) b186_g119), (RdO.rl_ (mm := [(181, 145), (184, 147)]) b186_Al1)⟩
    refine fl_exit ?_
    refine hp171 _ _ _ rfl ?_
    replace hs := hz168 _ hs
    refine hp168 _ _ _ rfl ?_
    refine hx126 _ _ ?_
    refine hn124 _ _ ?_
    refine rg_draw_seq g_mixed (n := 58) (rs := [Fct.at_ 102 g101 25 #[.int .i64 0, .int .i64 0], Fct.at_ 104 g103 25 #[.int .i64 0, .int .i64 0]]) (own0 := own170) (K := [102, 104]) (bs := [0, 0, 1, 7, 15]) (ds := [⟨[], [5], [], Fct.val 56 (.agg #[.int .i64 low146.1, .int .i64 low146.2])⟩,     ⟨[], [6], [], Fct.val 57 (.agg #[.int .i64 high148.1, .int .i64 high148.2])⟩,     ⟨[0, 5], [2], [102], Fct.at_ 188 g101 25 #[.int .i64 low146.1, .int .i64 low146.2]⟩,     ⟨[1, 6], [3], [104], Fct.at_ 189 g103 25 #[.int .i64 high148.1, .int .i64 high148.2]⟩,     ⟨[], [], [], Fct.val 4 (.bool true)⟩]) (by kernel_rfl) hz170 hd170 (by simp only [List.forall_mem_cons]; exact ⟨b170_g101, b170_g103, fun _ h => nomatch h⟩) ?_ ?_
    · refine sc (fun _ _ _ _ s hE => px (or_load (l := [.int .i64 low146.1, .int .i64 low146.2]) ta25 (s.1.trans e170_5) (Blk.cellsFrom (be_ hE b170_g117).2 0 rfl) rfl)) ?_
      refine sc (fun _ _ _ _ s hE => px (or_load (l := [.int .i64 high148.1, .int .i64 high148.2]) ta25 (s.1.trans e170_6) (Blk.cellsFrom (be_ hE b170_g119).2 0 rfl) rfl)) ?_
      refine sc (fun own a wx hf hsl hE => ?_) ?_
      · obtain ⟨f_56, b_g101, -⟩ := hf
        obtain ⟨s_2, -⟩ := hsl
        exact px (or_store (l := #[.int .i64 low146.1, .int .i64 low146.2]) (lab := 102) (lab2 := 188) ts25 (s_2.trans e170_2) f_56 b_g101 (by simp) (by kernel_rfl) (mem_of rfl) (by decide) (by kernel_rfl) (fun own' a' w' ha hb => hb))
      refine sc (fun own a wx hf hsl hE => ?_) ?_
      · obtain ⟨f_57, b_g103, -⟩ := hf
        obtain ⟨s_3, -⟩ := hsl
        exact px (or_store (l := #[.int .i64 high148.1, .int .i64 high148.2]) (lab := 104) (lab2 := 189) ts25 (s_3.trans e170_3) f_57 b_g103 (by simp) (by kernel_rfl) (mem_of rfl) (by decide) (by kernel_rfl) (fun own' a' w' ha hb => hb))
      refine sc (fun _ _ _ _ _ _ => px (or_assign rfl)) ?_
      exact steps_nil
    intro own190 a190 w190 hd190 hz190 hk190 hf190 hE190
    have e190_2 := (hk190 2 rfl).trans e170_2
    have e190_3 := (hk190 3 rfl).trans e170_3
    obtain ⟨(e190_4 : a190.eval (.tmp 4) = .bool true), (b190_g101 : BlkO own190 188 w190 g101 25 #[.int .i64 low146.1, .int .i64 low146.2]), (b190_g103 : BlkO own190 189 w190 g103 25 #[.int .i64 high148.1, .int .i64 high148.2]), -⟩ := hf190 [4, 2, 3] rfl
    have hX190 := es_ hX170 hE190
    refine fl_ret ?_
    obtain rfl := osome hs
    exact hret _ _ _ _ (.inl rfl) hd190 (results3_ rfl (RVal.cell_ e190_2 (run_loadVarAgg (l := [.int .i64 low146.1, .int .i64 low146.2]) ta25 (Blk.cellsFrom b190_g101.2 0 rfl) rfl)) (RVal.cell_ e190_3 (run_loadVarAgg (l := [.int .i64 high148.1, .int .i64 high148.2]) ta25 (Blk.cellsFrom b190_g103.2 0 rfl) rfl)) (RVal.tmp_ e190_4)) ⟨own190, rfl, hX190⟩
theorem rows_Of_w (w : World) (l1 : List (Int × Int)) (Al1 : Option Addr) (cl1 : Nat) (hl1 : RdO (fun _ => 0) [0] w R25 Al1 cl1 l1) (r : ((Int × Int) × (Int × Int)) × Bool) (hs : rows_Of l1 = some r) :
    Calls Try.prog 34 #[.slice Al1 l1.length cl1] w fun e w' => ∃ own' : Own, e = .returned (.tuple #[.agg #[.int .i64 r.1.1.1, .int .i64 r.1.1.2, .int .i64 r.1.2.1, .int .i64 r.1.2.2], .bool r.2]) ∧ Evo [] (fun _ => 0) own' w w' := by
  refine fl_enter (n := 17) rfl rfl rfl (Nat.le_of_ble_eq_true rfl) ?_
  intro a0 Q hd0 hz0 harg hret
  have ha0 := harg 0 _ rfl
  clear harg
  have hE0 : Evo [] (fun _ => 0) (fun _ => 0) w w := Evo.refl _ _ _
  refine rg0_seq 17 (fun _ => 0) [0, 0] [⟨[], [], [], Fct.blk 25 2 (fun g => .pointer (some ⟨g, 0, none⟩)) 80 #[.int .i64 0, .int .i64 0, .int .i64 0, .int .i64 0]⟩,     ⟨[], [], [], Fct.val 3 (.bool false)⟩] hz0 hd0 (by kernel_rfl) ?_ ?_
  · refine sc (fun _ _ _ _ _ _ => px (or_new [] rfl rfl trivial (by kernel_rfl))) ?_
    refine sc (fun _ _ _ _ _ _ => px (or_assign rfl)) ?_
    exact steps_nil
  intro own26 a26 w26 hd26 hz26 hk26 hf26 hE26
  have e26_0 := (hk26 0 rfl).trans ha0
  obtain ⟨⟨g24, (e26_2 : a26.eval (.tmp 2) = .pointer (some ⟨g24, 0, none⟩)), (b26_g24 : BlkO own26 25 w26 g24 80 #[.int .i64 0, .int .i64 0, .int .i64 0, .int .i64 0])⟩, -⟩ := hf26 [0] rfl
  have hX26 := es_ hE0 hE26
  have b26_Al1 := RdO.evo rfl hE26 hl1
  obtain ⟨r27, hr27, hs⟩ := obind hs
  refine rg_plain_seq (n := 17) (rs := []) (own0 := own26) (K := [29, 31]) (bs := [0, 1, 3, 7, 7, 7, 0, 0, 207, 479, 1023]) (ds := [⟨[], [0], [], Fct.val 8 (.slice Al1 l1.length cl1)⟩,     ⟨[0], [], [], Fct.val 9 (.tuple #[.agg #[.int .i64 r27.1.1, .int .i64 r27.1.2], .agg #[.int .i64 r27.2.1.1, .int .i64 r27.2.1.2], .bool r27.2.2])⟩,     ⟨[1], [], [], Fct.val 7 (.tuple #[.agg #[.int .i64 r27.1.1, .int .i64 r27.1.2], .agg #[.int .i64 r27.2.1.1, .int .i64 r27.2.1.2], .bool r27.2.2])⟩,     ⟨[2], [], [], Fct.val 10 (.agg #[.int .i64 r27.1.1, .int .i64 r27.1.2])⟩,     ⟨[2], [], [], Fct.val 11 (.agg #[.int .i64 r27.2.1.1, .int .i64 r27.2.1.2])⟩,     ⟨[2], [], [], Fct.val 12 (.bool r27.2.2)⟩,     ⟨[], [], [], Fct.blk 29 4 (fun g => .pointer (some ⟨g, 0, none⟩)) 25 #[.int .i64 0, .int .i64 0]⟩,     ⟨[], [], [], Fct.blk 31 5 (fun g => .pointer (some ⟨g, 0, none⟩)) 25 #[.int .i64 0, .int .i64 0]⟩,     ⟨[6, 3], [], [29], Fct.blk 32 4 (fun g => .pointer (some ⟨g, 0, none⟩)) 25 #[.int .i64 r27.1.1, .int .i64 r27.1.2]⟩,     ⟨[7, 4], [], [31], Fct.blk 33 5 (fun g => .pointer (some ⟨g, 0, none⟩)) 25 #[.int .i64 r27.2.1.1, .int .i64 r27.2.1.2]⟩,     ⟨[5], [], [], Fct.val 6 (.bool r27.2.2)⟩]) (by kernel_rfl) hz26 hd26 nm_ ?_ ?_
  · refine sc (fun _ _ _ _ s _ => px (or_move (s.1.trans e26_0))) ?_
    refine sc (fun _ _ _ f _ hE => px (or_call cf54 (args1 f.1) (exact_Box_w _ l1 Al1 cl1 (RdO.zero (RdO.evo rfl hE b26_Al1)) r27 hr27) post_val)) ?_
    refine sc (fun _ _ _ f _ _ => px (or_move f.1)) ?_
    refine sc (fun _ _ _ f _ _ => px (or_k [(7, .tuple #[.agg #[.int .i64 r27.1.1, .int .i64 r27.1.2], .agg #[.int .i64 r27.2.1.1, .int .i64 r27.2.1.2], .bool r27.2.2])] rfl rfl ⟨f.1, trivial⟩ (by kernel_rfl))) ?_
    refine sc (fun _ _ _ f _ _ => px (or_k [(7, .tuple #[.agg #[.int .i64 r27.1.1, .int .i64 r27.1.2], .agg #[.int .i64 r27.2.1.1, .int .i64 r27.2.1.2], .bool r27.2.2])] rfl rfl ⟨f.1, trivial⟩ (by kernel_rfl))) ?_
    refine sc (fun _ _ _ f _ _ => px (or_k [(7, .tuple #[.agg #[.int .i64 r27.1.1, .int .i64 r27.1.2], .agg #[.int .i64 r27.2.1.1, .int .i64 r27.2.1.2], .bool r27.2.2])] rfl rfl ⟨f.1, trivial⟩ (by kernel_rfl))) ?_
    refine sc (fun _ _ _ _ _ _ => px (or_new [] rfl rfl trivial (by kernel_rfl))) ?_
    refine sc (fun _ _ _ _ _ _ => px (or_new [] rfl rfl trivial (by kernel_rfl))) ?_
    refine sc (fun own a wx hf hsl hE => ?_) ?_
    · obtain ⟨⟨g28, f_4, b_g28⟩, f_10, -⟩ := hf
      exact px (or_store (l := #[.int .i64 r27.1.1, .int .i64 r27.1.2]) (lab := 29) (lab2 := 32) ts25 f_4 f_10 b_g28 (by simp) (by kernel_rfl) (mem_of rfl) (by decide) (by kernel_rfl) (fun own' a' w' ha hb => ⟨_, (ha 4).trans f_4, hb⟩))
    refine sc (fun own a wx hf hsl hE => ?_) ?_
    · obtain ⟨⟨g30, f_5, b_g30⟩, f_11, -⟩ := hf
      exact px (or_store (l := #[.int .i64 r27.2.1.1, .int .i64 r27.2.1.2]) (lab := 31) (lab2 := 33) ts25 f_5 f_11 b_g30 (by simp) (by kernel_rfl) (mem_of rfl) (by decide) (by kernel_rfl) (fun own' a' w' ha hb => ⟨_, (ha 5).trans f_5, hb⟩))
    refine sc (fun _ _ _ f _ _ => px (or_assign f.1)) ?_
    exact steps_nil
  intro own34 a34 w34 hd34 hz34 hk34 hf34 hE34
  have e34_2 := (hk34 2 rfl).trans e26_2
  obtain ⟨⟨g28, (e34_4 : a34.eval (.tmp 4) = .pointer (some ⟨g28, 0, none⟩)), (b34_g28 : BlkO own34 32 w34 g28 25 #[.int .i64 r27.1.1, .int .i64 r27.1.2])⟩, ⟨g30, (e34_5 : a34.eval (.tmp 5) = .pointer (some ⟨g30, 0, none⟩)), (b34_g30 : BlkO own34 33 w34 g30 25 #[.int .i64 r27.2.1.1, .int .i64 r27.2.1.2])⟩, (e34_6 : a34.eval (.tmp 6) = .bool r27.2.2), -⟩ := hf34 [8, 9, 10] rfl
  have hX34 := es_ hX26 hE34
  have b34_g24 := be_ hE34 b26_g24
  refine rg_plain_seq (n := 17) (rs := [Fct.at_ 25 g24 80 #[.int .i64 0, .int .i64 0, .int .i64 0, .int .i64 0]]) (own0 := own34) (K := [25]) (bs := [0, 0, 3, 0, 7, 31]) (ds := [⟨[], [4], [], Fct.val 13 (.agg #[.int .i64 r27.1.1, .int .i64 r27.1.2])⟩,     ⟨[], [5], [], Fct.val 14 (.agg #[.int .i64 r27.2.1.1, .int .i64 r27.2.1.2])⟩,     ⟨[0, 1], [], [], Fct.val 15 (.agg #[.int .i64 r27.1.1, .int .i64 r27.1.2, .int .i64 r27.2.1.1, .int .i64 r27.2.1.2])⟩,     ⟨[], [6], [], Fct.val 16 (.bool r27.2.2)⟩,     ⟨[2, 6], [2], [25], Fct.at_ 35 g24 80 #[.int .i64 r27.1.1, .int .i64 r27.1.2, .int .i64 r27.2.1.1, .int .i64 r27.2.1.2]⟩,     ⟨[3], [], [], Fct.val 3 (.bool r27.2.2)⟩]) (by kernel_rfl) hz34 hd34 (by simp only [List.forall_mem_cons]; exact ⟨b34_g24, fun _ h => nomatch h⟩) ?_ ?_
  · refine sc (fun _ _ _ _ s hE => px (or_load (l := [.int .i64 r27.1.1, .int .i64 r27.1.2]) ta25 (s.1.trans e34_4) (Blk.cellsFrom (be_ hE b34_g28).2 0 rfl) rfl)) ?_
    refine sc (fun _ _ _ _ s hE => px (or_load (l := [.int .i64 r27.2.1.1, .int .i64 r27.2.1.2]) ta25 (s.1.trans e34_5) (Blk.cellsFrom (be_ hE b34_g30).2 0 rfl) rfl)) ?_
    refine sc (fun _ _ _ f _ _ => px (or_k [(13, .agg #[.int .i64 r27.1.1, .int .i64 r27.1.2]), (14, .agg #[.int .i64 r27.2.1.1, .int .i64 r27.2.1.2])] rfl rfl ⟨f.1, f.2.1, trivial⟩ (by kernel_rfl))) ?_
    refine sc (fun _ _ _ _ s _ => px (or_move (s.1.trans e34_6))) ?_
    refine sc (fun own a wx hf hsl hE => ?_) ?_
    · obtain ⟨f_15, b_g24, -⟩ := hf
      obtain ⟨s_2, -⟩ := hsl
      exact px (or_store (l := #[.int .i64 r27.1.1, .int .i64 r27.1.2, .int .i64 r27.2.1.1, .int .i64 r27.2.1.2]) (lab := 25) (lab2 := 35) ts80 (s_2.trans e34_2) f_15 b_g24 (by simp) (by kernel_rfl) (mem_of rfl) (by decide) (by kernel_rfl) (fun own' a' w' ha hb => hb))
    refine sc (fun _ _ _ f _ _ => px (or_assign f.1)) ?_
    exact steps_nil
  intro own36 a36 w36 hd36 hz36 hk36 hf36 hE36
  have e36_2 := (hk36 2 rfl).trans e34_2
  obtain ⟨(e36_3 : a36.eval (.tmp 3) = .bool r27.2.2), (b36_g24 : BlkO own36 35 w36 g24 80 #[.int .i64 r27.1.1, .int .i64 r27.1.2, .int .i64 r27.2.1.1, .int .i64 r27.2.1.2]), -⟩ := hf36 [5, 4] rfl
  have hX36 := es_ hX34 hE36
  refine fl_ret ?_
  obtain rfl := osome hs
  exact hret _ _ _ _ (.inl rfl) hd36 (results2_ rfl (RVal.cell_ e36_2 (run_loadVarAgg (l := [.int .i64 r27.1.1, .int .i64 r27.1.2, .int .i64 r27.2.1.1, .int .i64 r27.2.1.2]) ta80 (Blk.cellsFrom b36_g24.2 0 rfl) rfl)) (RVal.tmp_ e36_3)) ⟨own36, rfl, hX36⟩
theorem rows_Meet_w (w : World) (x1 : (Int × Int) × (Int × Int)) (b2 : (Int × Int) × (Int × Int)) (r : Bool) (hs : rows_Meet x1 b2 = some r) :
    Calls Try.prog 55 #[.agg #[.int .i64 x1.1.1, .int .i64 x1.1.2, .int .i64 x1.2.1, .int .i64 x1.2.2], .agg #[.int .i64 b2.1.1, .int .i64 b2.1.2, .int .i64 b2.2.1, .int .i64 b2.2.2]] w fun e w' => ∃ own' : Own, e = .returned (.bool r) ∧ Evo [] (fun _ => 0) own' w w' := by
  refine fl_enter (n := 47) rfl rfl rfl (Nat.le_of_ble_eq_true rfl) ?_
  intro a0 Q hd0 hz0 harg hret
  have ha0 := harg 0 _ rfl
  have ha1 := harg 1 _ rfl
  clear harg
  have hE0 : Evo [] (fun _ => 0) (fun _ => 0) w w := Evo.refl _ _ _
  refine rg0_seq 47 (fun _ => 0) [0, 0, 0] [⟨[], [0], [], Fct.blk 22 2 (fun g => .pointer (some ⟨g, 0, none⟩)) 80 #[.int .i64 x1.1.1, .int .i64 x1.1.2, .int .i64 x1.2.1, .int .i64 x1.2.2]⟩,     ⟨[], [1], [], Fct.blk 24 3 (fun g => .pointer (some ⟨g, 0, none⟩)) 80 #[.int .i64 b2.1.1, .int .i64 b2.1.2, .int .i64 b2.2.1, .int .i64 b2.2.2]⟩,     ⟨[], [], [], Fct.val 4 (.bool false)⟩] hz0 hd0 (by kernel_rfl) ?_ ?_
  · refine sc (fun _ _ _ _ s _ => px (or_new [(0, .agg #[.int .i64 x1.1.1, .int .i64 x1.1.2, .int .i64 x1.2.1, .int .i64 x1.2.2])] rfl rfl ⟨(s.1.trans ha0), trivial⟩ (by kernel_rfl))) ?_
    refine sc (fun _ _ _ _ s _ => px (or_new [(1, .agg #[.int .i64 b2.1.1, .int .i64 b2.1.2, .int .i64 b2.2.1, .int .i64 b2.2.2])] rfl rfl ⟨(s.1.trans ha1), trivial⟩ (by kernel_rfl))) ?_
    refine sc (fun _ _ _ _ _ _ => px (or_assign rfl)) ?_
    exact steps_nil
  intro own25 a25 w25 hd25 hz25 hk25 hf25 hE25
  obtain ⟨⟨g21, (e25_2 : a25.eval (.tmp 2) = .pointer (some ⟨g21, 0, none⟩)), (b25_g21 : BlkO own25 22 w25 g21 80 #[.int .i64 x1.1.1, .int .i64 x1.1.2, .int .i64 x1.2.1, .int .i64 x1.2.2])⟩, ⟨g23, (e25_3 : a25.eval (.tmp 3) = .pointer (some ⟨g23, 0, none⟩)), (b25_g23 : BlkO own25 24 w25 g23 80 #[.int .i64 b2.1.1, .int .i64 b2.1.2, .int .i64 b2.2.1, .int .i64 b2.2.2])⟩, -⟩ := hf25 [0, 1] rfl
  have hX25 := es_ hE0 hE25
  obtain ⟨r26, hr26, hs⟩ := obind hs
  obtain ⟨r27, hr27, hs⟩ := obind hs
  obtain ⟨x28, hx28, hs⟩ := obind hs
  obtain ⟨x29, hx29, hs⟩ := obind hs
  refine rg0_seq 47 own25 [0, 1, 3, 7, 15, 31, 63, 127, 255, 511, 127, 1151, 3199, 8191, 16383, 32767, 65535, 131071, 262143, 65535, 589823, 1638399, 4194303, 8388607, 16777215, 33554431, 67108863, 134217727, 33554431, 301989887, 838860799, 2147483647, 4294967295, 8589934591, 17179869183, 34359738367, 68719476735, 17179869183, 154618822655, 429496729599, 1099511627775, 2199023255551, 4398046511103] [⟨[], [2], [], Fct.val 5 (.agg #[.int .i64 x1.1.1, .int .i64 x1.1.2, .int .i64 x1.2.1, .int .i64 x1.2.2])⟩,     ⟨[0], [], [], Fct.val 6 (.bool r26)⟩,     ⟨[1], [], [], Fct.val 7 (.bool r26)⟩,     ⟨[2], [3], [], Fct.cond r26 (some 8) (Fct.val 8 (.agg #[.int .i64 b2.1.1, .int .i64 b2.1.2, .int .i64 b2.2.1, .int .i64 b2.2.2]))⟩,     ⟨[2, 3], [], [], Fct.cond r26 (some 9) (Fct.val 9 (.bool r27))⟩,     ⟨[2, 4], [], [], Fct.val 10 (.bool (r26 && r27))⟩,     ⟨[5], [], [], Fct.val 11 (.bool (r26 && r27))⟩,     ⟨[6], [2], [], Fct.cond (r26 && r27) (some 12) (Fct.val 12 (.pointer (some ⟨g21, 0, none⟩)))⟩,     ⟨[6, 7], [], [], Fct.cond (r26 && r27) (some 13) (Fct.val 13 (.pointer (some ⟨g21, 0, none⟩)))⟩,     ⟨[6, 8], [], [], Fct.cond (r26 && r27) (some 14) (Fct.val 14 (.int .i64 x1.1.1))⟩,     ⟨[6], [3], [], Fct.cond (r26 && r27) (some 15) (Fct.val 15 (.pointer (some ⟨g23, 2, none⟩)))⟩,     ⟨[6, 10], [], [], Fct.cond (r26 && r27) (some 16) (Fct.val 16 (.pointer (some ⟨g23, 2, none⟩)))⟩,     ⟨[6, 11], [], [], Fct.cond (r26 && r27) (some 17) (Fct.val 17 (.int .i64 b2.2.1))⟩,     ⟨[6, 9, 12], [], [], Fct.cond (r26 && r27) (some 18) (Fct.val 18 (.bool (decide (x1.1.1 ≤ b2.2.1))))⟩,     ⟨[6, 13], [], [], Fct.val 19 (.bool x28)⟩,     ⟨[14], [], [], Fct.val 20 (.bool x28)⟩,     ⟨[15], [3], [], Fct.cond x28 (some 21) (Fct.val 21 (.pointer (some ⟨g23, 0, none⟩)))⟩,     ⟨[15, 16], [], [], Fct.cond x28 (some 22) (Fct.val 22 (.pointer (some ⟨g23, 0, none⟩)))⟩,     ⟨[15, 17], [], [], Fct.cond x28 (some 23) (Fct.val 23 (.int .i64 b2.1.1))⟩,     ⟨[15], [2], [], Fct.cond x28 (some 24) (Fct.val 24 (.pointer (some ⟨g21, 2, none⟩)))⟩,     ⟨[15, 19], [], [], Fct.cond x28 (some 25) (Fct.val 25 (.pointer (some ⟨g21, 2, none⟩)))⟩,     ⟨[15, 20], [], [], Fct.cond x28 (some 26) (Fct.val 26 (.int .i64 x1.2.1))⟩,     ⟨[15, 18, 21], [], [], Fct.cond x28 (some 27) (Fct.val 27 (.bool (decide (b2.1.1 ≤ x1.2.1))))⟩,     ⟨[15, 22], [], [], Fct.val 28 (.bool (x28 && (decide (b2.1.1 ≤ x1.2.1))))⟩,     ⟨[23], [], [], Fct.val 29 (.bool (x28 && (decide (b2.1.1 ≤ x1.2.1))))⟩,     ⟨[24], [2], [], Fct.cond (x28 && (decide (b2.1.1 ≤ x1.2.1))) (some 30) (Fct.val 30 (.pointer (some ⟨g21, 0, none⟩)))⟩,     ⟨[24, 25], [], [], Fct.cond (x28 && (decide (b2.1.1 ≤ x1.2.1))) (some 31) (Fct.val 31 (.pointer (some ⟨g21, 1, none⟩)))⟩,     ⟨[24, 26], [], [], Fct.cond (x28 && (decide (b2.1.1 ≤ x1.2.1))) (some 32) (Fct.val 32 (.int .i64 x1.1.2))⟩,     ⟨[24], [3], [], Fct.cond (x28 && (decide (b2.1.1 ≤ x1.2.1))) (some 33) (Fct.val 33 (.pointer (some ⟨g23, 2, none⟩)))⟩,     ⟨[24, 28], [], [], Fct.cond (x28 && (decide (b2.1.1 ≤ x1.2.1))) (some 34) (Fct.val 34 (.pointer (some ⟨g23, 3, none⟩)))⟩,     ⟨[24, 29], [], [], Fct.cond (x28 && (decide (b2.1.1 ≤ x1.2.1))) (some 35) (Fct.val 35 (.int .i64 b2.2.2))⟩,     ⟨[24, 27, 30], [], [], Fct.cond (x28 && (decide (b2.1.1 ≤ x1.2.1))) (some 36) (Fct.val 36 (.bool (decide (x1.1.2 ≤ b2.2.2))))⟩,     ⟨[24, 31], [], [], Fct.val 37 (.bool x29)⟩,     ⟨[32], [], [], Fct.val 38 (.bool x29)⟩,     ⟨[33], [3], [], Fct.cond x29 (some 39) (Fct.val 39 (.pointer (some ⟨g23, 0, none⟩)))⟩,     ⟨[33, 34], [], [], Fct.cond x29 (some 40) (Fct.val 40 (.pointer (some ⟨g23, 1, none⟩)))⟩,     ⟨[33, 35], [], [], Fct.cond x29 (some 41) (Fct.val 41 (.int .i64 b2.1.2))⟩,     ⟨[33], [2], [], Fct.cond x29 (some 42) (Fct.val 42 (.pointer (some ⟨g21, 2, none⟩)))⟩,     ⟨[33, 37], [], [], Fct.cond x29 (some 43) (Fct.val 43 (.pointer (some ⟨g21, 3, none⟩)))⟩,     ⟨[33, 38], [], [], Fct.cond x29 (some 44) (Fct.val 44 (.int .i64 x1.2.2))⟩,     ⟨[33, 36, 39], [], [], Fct.cond x29 (some 45) (Fct.val 45 (.bool (decide (b2.1.2 ≤ x1.2.2))))⟩,     ⟨[33, 40], [], [], Fct.val 46 (.bool (x29 && (decide (b2.1.2 ≤ x1.2.2))))⟩,     ⟨[41], [], [], Fct.val 4 (.bool (x29 && (decide (b2.1.2 ≤ x1.2.2))))⟩] hz25 hd25 (by kernel_rfl) ?_ ?_
  · refine sc (fun _ _ _ _ s hE => px (or_load (l := [.int .i64 x1.1.1, .int .i64 x1.1.2, .int .i64 x1.2.1, .int .i64 x1.2.2]) ta80 (s.1.trans e25_2) (Blk.cellsFrom (be_ hE b25_g21).2 0 rfl) rfl)) ?_
    refine sc (fun _ _ _ f _ _ => px (or_call cf48 (args1 f.1) (rows_Right_w _ x1  r26 hr26) post_val)) ?_
    refine sc (fun _ _ _ f _ _ => px (or_move f.1)) ?_
    refine sc (fun _ _ _ f s hE => sg_t rfl rfl rfl f.1 (fun hg => or_load (l := [.int .i64 b2.1.1, .int .i64 b2.1.2, .int .i64 b2.2.1, .int .i64 b2.2.2]) ta80 (s.1.trans e25_3) (Blk.cellsFrom (be_ hE b25_g23).2 0 rfl) rfl)) ?_
    refine sc (fun _ _ _ f _ _ => sg_t rfl rfl rfl f.1 (fun hg => or_call cf48 (args1 (f.2.1.1 hg)) (rows_Right_w _ b2  r27 (gd_t hr27 hg)) post_val)) ?_
    refine sc (fun _ _ _ f _ _ => px (or_and f.1 (fun hx => f.2.1.1 hx) rfl rfl)) ?_
    refine sc (fun _ _ _ f _ _ => px (or_move f.1)) ?_
    refine sc (fun _ _ _ f s _ => sg_t rfl rfl rfl f.1 (fun hg => or_field fo80_0 (s.1.trans e25_2) (by rfl))) ?_
    refine sc (fun _ _ _ f _ _ => sg_t rfl rfl rfl f.1 (fun hg => or_field fo25_0 (f.2.1.1 hg) (by rfl))) ?_
    refine sc (fun _ _ _ f _ hE => sg_t rfl rfl rfl f.1 (fun hg => or_load1 to3 (f.2.1.1 hg) (Blk.at_ (be_ hE b25_g21).2 0 rfl))) ?_
    refine sc (fun _ _ _ f s _ => sg_t rfl rfl rfl f.1 (fun hg => or_field fo80_1 (s.1.trans e25_3) (by rfl))) ?_
    refine sc (fun _ _ _ f _ _ => sg_t rfl rfl rfl f.1 (fun hg => or_field fo25_0 (f.2.1.1 hg) (by rfl))) ?_
    refine sc (fun _ _ _ f _ hE => sg_t rfl rfl rfl f.1 (fun hg => or_load1 to3 (f.2.1.1 hg) (Blk.at_ (be_ hE b25_g23).2 2 rfl))) ?_
    refine sc (fun _ _ _ f _ _ => sg_t rfl rfl rfl f.1 (fun hg => or_leq (f.2.1.1 hg) (f.2.2.1.1 hg) rfl)) ?_
    refine sc (fun _ _ _ f _ _ => px (or_and f.1 (fun hx => f.2.1.1 hx) rfl (osome hx28).symm)) ?_
    refine sc (fun _ _ _ f _ _ => px (or_move f.1)) ?_
    refine sc (fun _ _ _ f s _ => sg_t rfl rfl rfl f.1 (fun hg => or_field fo80_0 (s.1.trans e25_3) (by rfl))) ?_
    refine sc (fun _ _ _ f _ _ => sg_t rfl rfl rfl f.1 (fun hg => or_field fo25_0 (f.2.1.1 hg) (by rfl))) ?_
    refine sc (fun _ _ _ f _ hE => sg_t rfl rfl rfl f.1 (fun hg => or_load1 to3 (f.2.1.1 hg) (Blk.at_ (be_ hE b25_g23).2 0 rfl))) ?_
    refine sc (fun _ _ _ f s _ => sg_t rfl rfl rfl f.1 (fun hg => or_field fo80_1 (s.1.trans e25_2) (by rfl))) ?_
    refine sc (fun _ _ _ f _ _ => sg_t rfl rfl rfl f.1 (fun hg => or_field fo25_0 (f.2.1.1 hg) (by rfl))) ?_
    refine sc (fun _ _ _ f _ hE => sg_t rfl rfl rfl f.1 (fun hg => or_load1 to3 (f.2.1.1 hg) (Blk.at_ (be_ hE b25_g21).2 2 rfl))) ?_
    refine sc (fun _ _ _ f _ _ => sg_t rfl rfl rfl f.1 (fun hg => or_leq (f.2.1.1 hg) (f.2.2.1.1 hg) rfl)) ?_
    refine sc (fun _ _ _ f _ _ => px (or_and f.1 (fun hx => f.2.1.1 hx) rfl rfl)) ?_
    refine sc (fun _ _ _ f _ _ => px (or_move f.1)) ?_
    refine sc (fun _ _ _ f s _ => sg_t rfl rfl rfl f.1 (fun hg => or_field fo80_0 (s.1.trans e25_2) (by rfl))) ?_
    refine sc (fun _ _ _ f _ _ => sg_t rfl rfl rfl f.1 (fun hg => or_field fo25_1 (f.2.1.1 hg) (by rfl))) ?_
    refine sc (fun _ _ _ f _ hE => sg_t rfl rfl rfl f.1 (fun hg => or_load1 to3 (f.2.1.1 hg) (Blk.at_ (be_ hE b25_g21).2 1 rfl))) ?_
    refine sc (fun _ _ _ f s _ => sg_t rfl rfl rfl f.1 (fun hg => or_field fo80_1 (s.1.trans e25_3) (by rfl))) ?_
    refine sc (fun _ _ _ f _ _ => sg_t rfl rfl rfl f.1 (fun hg => or_field fo25_1 (f.2.1.1 hg) (by rfl))) ?_
    refine sc (fun _ _ _ f _ hE => sg_t rfl rfl rfl f.1 (fun hg => or_load1 to3 (f.2.1.1 hg) (Blk.at_ (be_ hE b25_g23).2 3 rfl))) ?_
    refine sc (fun _ _ _ f _ _ => sg_t rfl rfl rfl f.1 (fun hg => or_leq (f.2.1.1 hg) (f.2.2.1.1 hg) rfl)) ?_
    refine sc (fun _ _ _ f _ _ => px (or_and f.1 (fun hx => f.2.1.1 hx) rfl (osome hx29).symm)) ?_
    refine sc (fun _ _ _ f _ _ => px (or_move f.1)) ?_
    refine sc (fun _ _ _ f s _ => sg_t rfl rfl rfl f.1 (fun hg => or_field fo80_0 (s.1.trans e25_3) (by rfl))) ?_
    refine sc (fun _ _ _ f _ _ => sg_t rfl rfl rfl f.1 (fun hg => or_field fo25_1 (f.2.1.1 hg) (by rfl))) ?_
    refine sc (fun _ _ _ f _ hE => sg_t rfl rfl rfl f.1 (fun hg => or_load1 to3 (f.2.1.1 hg) (Blk.at_ (be_ hE b25_g23).2 1 rfl))) ?_
    refine sc (fun _ _ _ f s _ => sg_t rfl rfl rfl f.1 (fun hg => or_field fo80_1 (s.1.trans e25_2) (by rfl))) ?_
    refine sc (fun _ _ _ f _ _ => sg_t rfl rfl rfl f.1 (fun hg => or_field fo25_1 (f.2.1.1 hg) (by rfl))) ?_
    refine sc (fun _ _ _ f _ hE => sg_t rfl rfl rfl f.1 (fun hg => or_load1 to3 (f.2.1.1 hg) (Blk.at_ (be_ hE b25_g21).2 3 rfl))) ?_
    refine sc (fun _ _ _ f _ _ => sg_t rfl rfl rfl f.1 (fun hg => or_leq (f.2.1.1 hg) (f.2.2.1.1 hg) rfl)) ?_
    refine sc (fun _ _ _ f _ _ => px (or_and f.1 (fun hx => f.2.1.1 hx) rfl rfl)) ?_
    refine sc (fun _ _ _ f _ _ => px (or_assign f.1)) ?_
    exact steps_nil
  intro own30 a30 w30 hd30 hz30 hk30 hf30 hE30
  obtain ⟨(e30_4 : a30.eval (.tmp 4) = .bool (x29 && (decide (b2.1.2 ≤ x1.2.2)))), -⟩ := hf30 [42] rfl
  have hX30 := es_ hX25 hE30
  refine fl_ret ?_
  obtain rfl := osome hs
  exact hret _ _ _ _ (.inl rfl) hd30 (results1_ rfl (RVal.tmp_ e30_4)) ⟨own30, rfl, hX30⟩
theorem slices_Compact_int_int_w (w : World) (own : Own) (s1 : List Int) (As1 : Option Addr) (cs1 : Nat) (hown : ∀ b, own b ≤ 1) (hs1 : RwO own 1 [] w 3 R3 As1 cs1 s1) (r : List Int) (hs : slices_Compact_int_int s1 = some r) :
    Calls Try.prog 66 #[.slice As1 s1.length cs1] w fun e w' => ∃ (own' : Own) (x : Option Addr × Nat), e = .returned (.slice x.1 r.length x.2) ∧ Evo [1] own own' w w' ∧ RwO own' 2 [] w' 3 R3 x.1 x.2 r := by
  refine fl_enter (n := 61) rfl rfl rfl (Nat.le_of_ble_eq_true rfl) ?_
  intro a0 Q hd0 hz0 harg hret
  have ha0 := harg 0 _ rfl
  clear harg
  have hE0 : Evo [1] own own w w := Evo.refl _ _ _
  refine rg0_seq 61 own (bz 1) [⟨[], [], [], Fct.val 2 (.slice none 0 0)⟩] hz0 hd0 (by kernel_rfl) ?_ ?_
  · refine sc (fun _ _ _ _ _ _ => px (or_assign rfl)) ?_
    exact steps_nil
  intro own914 a914 w914 hd914 hz914 hk914 hf914 hE914
  have e914_0 := (hk914 0 rfl).trans ha0
  have hX914 := Evo.step hE0 hown hE914 rfl
  have b914_As1 := re_ hE914 hs1
  refine fl_seq (fun Q915 hn915 hp915 => ?_)
  refine rg0_seq 61 own914 (bz 3) [⟨[], [0], [], Fct.val 6 (.slice As1 s1.length cs1)⟩,     ⟨[0], [], [], Fct.val 7 (.int .i64 (s1.length : Int))⟩,     ⟨[1], [], [], Fct.val 8 (.bool (decide ((s1.length : Int) < 2)))⟩] hz914 hd914 (by kernel_rfl) ?_ ?_
  · refine sc (fun _ _ _ _ s _ => px (or_move (s.1.trans e914_0))) ?_
    refine sc (fun _ _ _ f _ _ => px (or_len tu22 f.1 rfl)) ?_
    refine sc (fun _ _ _ f _ _ => px (or_lss f.1 rfl rfl)) ?_
    exact steps_nil
  intro own916 a916 w916 hd916 hz916 hk916 hf916 hE916
  have e916_0 := (hk916 0 rfl).trans e914_0
  obtain ⟨(e916_8 : a916.eval (.tmp 8) = .bool (decide ((s1.length : Int) < 2))), -⟩ := hf916 [2] rfl
  have hX916 := Evo.step hX914 hown hE916 rfl
  have b916_As1 := re_ hE916 b914_As1
  refine fl_cond e916_8 hs (fun c917 hs => ?_) (fun c917 hs => ?_)
  · refine rg0_seq 61 own916 (bz 2) [⟨[], [0], [], Fct.val 9 (.slice As1 s1.length cs1)⟩,     ⟨[0], [], [], Fct.val 2 (.slice As1 s1.length cs1)⟩] hz916 hd916 (by kernel_rfl) ?_ ?_
    · refine sc (fun _ _ _ _ s _ => px (or_move (s.1.trans e916_0))) ?_
      refine sc (fun _ _ _ f _ _ => px (or_assign f.1)) ?_
      exact steps_nil
    intro own918 a918 w918 hd918 hz918 hk918 hf918 hE918
    obtain ⟨(e918_2 : a918.eval (.tmp 2) = .slice As1 s1.length cs1), -⟩ := hf918 [1] rfl
    have hX918 := Evo.step hX916 hown hE918 rfl
    have b918_As1 := re_ hE918 b916_As1
    refine fl_ret ?_
    refine hp915 _ _ _ rfl ?_
    obtain rfl := (osome hs).symm
    exact hret _ _ _ _ (.inl rfl) hd918 (results1_ rfl (RVal.tmp_ e918_2)) ⟨(rl [(1, 2)] own918), (As1, cs1), rfl, (Evo.rl_ hX918 hown rfl), (RwO.rl_ (mm := [(1, 2)]) b918_As1)⟩
  refine fl_skip ?_
  refine hn915 _ _ ?_
  refine fl_seq (fun Q919 hn919 hp919 => ?_)
  refine rg0_seq 61 own916 (bz 1) [⟨[], [], [], Fct.val 3 (.int .i64 1)⟩] hz916 hd916 (by kernel_rfl) ?_ ?_
  · refine sc (fun _ _ _ _ _ _ => px (or_assign rfl)) ?_
    exact steps_nil
  intro own920 a920 w920 hd920 hz920 hk920 hf920 hE920
  have e920_0 := (hk920 0 rfl).trans e916_0
  obtain ⟨(e920_3 : a920.eval (.tmp 3) = .int .i64 1), -⟩ := hf920 [0] rfl
  have hX920 := Evo.step hX916 hown hE920 rfl
  have b920_As1 := re_ hE920 b916_As1
  refine fl_block (fun Q921 hn921 hx921 hp921 => ?_)
  refine fl_loop (body := (fun s => slices_Compact_int_int_b1 s1 s)) (z := r) (show loopO _ _ = _ from hs) (fun (k1219 : Int) a wx => ∃ (ox : Own), a.defers = [] ∧ a.tmps.size = 61 ∧ a.eval (.tmp 0) = .slice As1 s1.length cs1 ∧ a.eval (.tmp 3) = .int .i64 k1219 ∧ Evo [1] own ox w wx ∧ RwO ox 1 [] wx 3 R3 As1 cs1 s1) ?_ ?_
  · exact ⟨own920, hd920, hz920, e920_0, e920_3, hX920, b920_As1⟩
  · rintro k1219 zz1517 a1517 w1517 ⟨own1517, hd1518, hz1518, e1518_0, e1518_3, hE1518, b1518_As1⟩ hs Q1517 hn1517 hp1517 hz1517
    have hs : slices_Compact_int_int_b1 s1 k1219 = some zz1517 := hs
    refine fl_seq (fun Q1519 hn1519 hp1519 => ?_)
    refine rg0_seq 61 own1517 [0, 0, 2, 7] [⟨[], [3], [], Fct.val 10 (.int .i64 k1219)⟩,     ⟨[], [0], [], Fct.val 11 (.slice As1 s1.length cs1)⟩,     ⟨[1], [], [], Fct.val 12 (.int .i64 (s1.length : Int))⟩,     ⟨[0, 2], [], [], Fct.val 13 (.bool (decide (k1219 < (s1.length : Int))))⟩] hz1518 hd1518 (by kernel_rfl) ?_ ?_
    · refine sc (fun _ _ _ _ s _ => px (or_move (s.1.trans e1518_3))) ?_
      refine sc (fun _ _ _ _ s _ => px (or_move (s.1.trans e1518_0))) ?_
      refine sc (fun _ _ _ f _ _ => px (or_len tu22 f.1 rfl)) ?_
      refine sc (fun _ _ _ f _ _ => px (or_lss f.1 f.2.1 rfl)) ?_
      exact steps_nil
    intro own1520 a1520 w1520 hd1520 hz1520 hk1520 hf1520 hE1520
    have e1520_0 := (hk1520 0 rfl).trans e1518_0
    have e1520_3 := (hk1520 3 rfl).trans e1518_3
    obtain ⟨(e1520_13 : a1520.eval (.tmp 13) = .bool (decide (k1219 < (s1.length : Int)))), -⟩ := hf1520 [3] rfl
    have hX1520 := Evo.step hE1518 hown hE1520 rfl
    have b1520_As1 := re_ hE1520 b1518_As1
    refine fl_cond e1520_13 hs (fun c1521 hs => ?_) (fun c1521 hs => ?_)
    · refine fl_skip ?_
      refine hn1519 _ _ ?_
      refine fl_seq (fun Q1522 hn1522 hp1522 => ?_)
      refine fl_block (fun Q1523 hn1523 hx1523 hp1523 => ?_)
      obtain ⟨x1524, hx1524, hs⟩ := obind hs
      obtain ⟨x1525, hx1525, hs⟩ := obind hs
      refine rg_draw_seq g_mixed (n := 61) (rs := []) (own0 := own1520) (K := []) (bs := [0, 0, 3, 7, 0, 0, 32, 112, 240, 511]) (ds := [⟨[], [0], [], Fct.val 16 (.slice As1 s1.length cs1)⟩,     ⟨[], [3], [], Fct.val 17 (.int .i64 k1219)⟩,     ⟨[0, 1], [], [], Fct.val 18 (.pointer (some ((adr As1).add ((k1219 : Int).toNat * R3.s))))⟩,     ⟨[2], [], [], Fct.val 19 (.int .i64 x1524)⟩,     ⟨[], [0], [], Fct.val 20 (.slice As1 s1.length cs1)⟩,     ⟨[], [3], [], Fct.val 21 (.int .i64 k1219)⟩,     ⟨[5], [], [], Fct.val 22 (.int .i64 (sb k1219 1))⟩,     ⟨[4, 6], [], [], Fct.val 23 (.pointer (some ((adr As1).add ((sb k1219 1 : Int).toNat * R3.s))))⟩,     ⟨[7], [], [], Fct.val 24 (.int .i64 x1525)⟩,     ⟨[3, 8], [], [], Fct.val 25 (.bool (decide (x1524 = x1525)))⟩]) (by kernel_rfl) hz1520 hd1520 nm_ ?_ ?_
      · refine sc (fun _ _ _ _ s _ => px (or_move (s.1.trans e1520_0))) ?_
        refine sc (fun _ _ _ _ s _ => px (or_move (s.1.trans e1520_3))) ?_
        refine sc (fun _ _ _ f _ _ => px (or_index (R := R3) (l := s1) tl22 f.1 f.2.1 (RdO.some_ (RwO.rd b1520_As1) hx1524) hx1524)) ?_
        refine sc (fun _ _ _ f _ hE => px (or_load1 to3 f.1 (CellsAt.zero (RdO.cells (F := E3) (RwO.rd (re_ hE b1520_As1)) hx1524) rfl))) ?_
        refine sc (fun _ _ _ _ s _ => px (or_move (s.1.trans e1520_0))) ?_
        refine sc (fun _ _ _ _ s _ => px (or_move (s.1.trans e1520_3))) ?_
        refine sc (fun _ _ _ f _ _ => px (or_sub f.1 rfl rfl)) ?_
        refine sc (fun _ _ _ f _ _ => px (or_index (R := R3) (l := s1) tl22 f.1 f.2.1 (RdO.some_ (RwO.rd b1520_As1) hx1525) hx1525)) ?_
        refine sc (fun _ _ _ f _ hE => px (or_load1 to3 f.1 (CellsAt.zero (RdO.cells (F := E3) (RwO.rd (re_ hE b1520_As1)) hx1525) rfl))) ?_
        refine sc (fun _ _ _ f _ _ => px (or_eql f.1 f.2.1 rfl)) ?_
        exact steps_nil
      intro own1526 a1526 w1526 hd1526 hz1526 hk1526 hf1526 hE1526
      have e1526_0 := (hk1526 0 rfl).trans e1520_0
      have e1526_3 := (hk1526 3 rfl).trans e1520_3
      obtain ⟨(e1526_25 : a1526.eval (.tmp 25) = .bool (decide (x1524 = x1525))), -⟩ := hf1526 [9] rfl
      have hX1526 := Evo.step hX1520 hown hE1526 rfl
      have b1526_As1 := re_ hE1526 b1520_As1
      refine fl_cond e1526_25 hs (fun c1527 hs => ?_) (fun c1527 hs => ?_)
      · obtain ⟨x1528, hx1528, hs⟩ := obind hs
        obtain ⟨n1530, hn1530, hs⟩ := obind hs
        refine rg0_seq 61 own1526 [0, 0, 3, 7] [⟨[], [0], [], Fct.val 26 (.slice As1 s1.length cs1)⟩,     ⟨[], [3], [], Fct.val 27 (.int .i64 k1219)⟩,     ⟨[0, 1], [], [], Fct.val 28 (pieceV As1 cs1 R3.s k1219 n1530)⟩,     ⟨[2], [], [], Fct.val 4 (pieceV As1 cs1 R3.s k1219 n1530)⟩] hz1526 hd1526 (by kernel_rfl) ?_ ?_
        · refine sc (fun _ _ _ _ s _ => px (or_move (s.1.trans e1526_0))) ?_
          refine sc (fun _ _ _ _ s _ => px (or_move (s.1.trans e1526_3))) ?_
          refine sc (fun _ _ _ f _ hE => px (or_pieceW (R := R3) tu22 ts3 f.1 (Bnd.some_ f.2.1) (Bnd.noneE (osome hn1530)) (RwO.rd (re_ hE b1526_As1)) (cut_toE hn1530 hx1528))) ?_
          refine sc (fun _ _ _ f _ _ => px (or_assign f.1)) ?_
          exact steps_nil
        intro own1531 a1531 w1531 hd1531 hz1531 hk1531 hf1531 hE1531
        have e1531_0 := (hk1531 0 rfl).trans e1526_0
        have e1531_3 := (hk1531 3 rfl).trans e1526_3
        obtain ⟨(e1531_4 : a1531.eval (.tmp 4) = pieceV As1 cs1 R3.s k1219 n1530), -⟩ := hf1531 [3] rfl
        have hX1531 := Evo.step hX1526 hown hE1531 rfl
        have b1531_As1 := re_ hE1531 b1526_As1
        refine fl_seq (fun Q1532 hn1532 hp1532 => ?_)
        refine rg0_seq 61 own1531 (bz 1) [⟨[], [], [], Fct.val 5 (.int .i64 1)⟩] hz1531 hd1531 (by kernel_rfl) ?_ ?_
        · refine sc (fun _ _ _ _ _ _ => px (or_assign rfl)) ?_
          exact steps_nil
        intro own1533 a1533 w1533 hd1533 hz1533 hk1533 hf1533 hE1533
        have e1533_0 := (hk1533 0 rfl).trans e1531_0
        have e1533_3 := (hk1533 3 rfl).trans e1531_3
        have e1533_4 := (hk1533 4 rfl).trans e1531_4
        obtain ⟨(e1533_5 : a1533.eval (.tmp 5) = .int .i64 1), -⟩ := hf1533 [0] rfl
        have hX1533 := Evo.step hX1531 hown hE1533 rfl
        have b1533_As1 := re_ hE1533 b1531_As1
        refine fl_block (fun Q1534 hn1534 hx1534 hp1534 => ?_)
        refine fl_loop (body := (fun s => slices_Compact_int_int_b2 k1219 n1530 s.1 s.2.1 s.2.2)) (z := zz1517) (show loopO _ _ = _ from hs) (fun (s : (List Int) × Int × Int) a wx => match s with | (s1621, k1623, k1624) => ∃ (ox : Own), a.defers = [] ∧ a.tmps.size = 61 ∧ a.eval (.tmp 0) = .slice As1 s1621.length cs1 ∧ a.eval (.tmp 3) = .int .i64 k1623 ∧ a.eval (.tmp 4) = pieceV As1 cs1 R3.s k1219 n1530 ∧ a.eval (.tmp 5) = .int .i64 k1624 ∧ Evo [1] own ox w wx ∧ RwO ox 1622 [] wx 3 R3 As1 cs1 s1621) ?_ ?_
        · exact ⟨(rl [(1, 1622)] own1533), hd1533, hz1533, e1533_0, e1533_3, e1533_4, e1533_5, (Evo.rl_ hX1533 hown rfl), (RwO.rl_ (mm := [(1, 1622)]) b1533_As1)⟩
        · rintro ⟨s1621, k1623, k1624⟩ zz1711 a1711 w1711 ⟨own1711, hd1712, hz1712, e1712_0, e1712_3, e1712_4, e1712_5, hE1712, b1712_As1⟩ hs Q1711 hn1711 hp1711 hz1711
          have hs : slices_Compact_int_int_b2 k1219 n1530 s1621 k1623 k1624 = some zz1711 := hs
          refine fl_seq (fun Q1713 hn1713 hp1713 => ?_)
          refine rg0_seq 61 own1711 [0, 0, 2, 7] [⟨[], [5], [], Fct.val 29 (.int .i64 k1624)⟩,     ⟨[], [4], [], Fct.val 30 (pieceV As1 cs1 R3.s k1219 n1530)⟩,     ⟨[1], [], [], Fct.val 31 (.int .i64 (n1530 - k1219))⟩,     ⟨[0, 2], [], [], Fct.val 32 (.bool (decide (k1624 < (n1530 - k1219))))⟩] hz1712 hd1712 (by kernel_rfl) ?_ ?_
          · refine sc (fun _ _ _ _ s _ => px (or_move (s.1.trans e1712_5))) ?_
            refine sc (fun _ _ _ _ s _ => px (or_move (s.1.trans e1712_4))) ?_
            refine sc (fun _ _ _ f _ _ => px (or_lenW (R := R3) tu22 f.1 (cut_some hx1528).1 (cut_lt hn1530 hx1528).1 rfl)) ?_
            refine sc (fun _ _ _ f _ _ => px (or_lss f.1 f.2.1 rfl)) ?_
            exact steps_nil
          intro own1714 a1714 w1714 hd1714 hz1714 hk1714 hf1714 hE1714
          have e1714_0 := (hk1714 0 rfl).trans e1712_0
          have e1714_3 := (hk1714 3 rfl).trans e1712_3
          have e1714_4 := (hk1714 4 rfl).trans e1712_4
          have e1714_5 := (hk1714 5 rfl).trans e1712_5
          obtain ⟨(e1714_32 : a1714.eval (.tmp 32) = .bool (decide (k1624 < (n1530 - k1219)))), -⟩ := hf1714 [3] rfl
          have hX1714 := Evo.step hE1712 hown hE1714 rfl
          have b1714_As1 := re_ hE1714 b1712_As1
          refine fl_cond e1714_32 hs (fun c1715 hs => ?_) (fun c1715 hs => ?_)
          · refine fl_skip ?_
            refine hn1713 _ _ ?_
            refine fl_seq (fun Q1716 hn1716 hp1716 => ?_)
            refine fl_block (fun Q1757 hn1757 hx1757 hp1757 => ?_)
            have K1778 : ∀ (a1778 : Act) (w1778 : World) (own1778 : Own) (s1775 : List Int) (k1777 : Int), a1778.defers = [] → a1778.tmps.size = 61 → a1778.eval (.tmp 0) = .slice As1 s1775.length cs1 → a1778.eval (.tmp 3) = .int .i64 k1777 → a1778.eval (.tmp 4) = pieceV As1 cs1 R3.s k1219 n1530 → a1778.eval (.tmp 5) = .int .i64 k1624 → Evo [1] own own1778 w w1778 → RwO own1778 1776 [] w1778 3 R3 As1 cs1 s1775 → slices_Compact_int_int_k3 k1624 s1775 k1777 = some zz1711 → (Q1757 .normal a1778 w1778 ∧ Q1757 (.exit 3) a1778 w1778) := by
              intro a1778 w1778 own1778 s1775 k1777 hd1779 hz1779 e1779_0 e1779_3 e1779_4 e1779_5 hE1779 b1779_As1 hs
              refine and_both (hn1757 _ _) (hx1757 _ _) ?_
              refine hn1716 _ _ ?_
              refine rg0 61 own1778 (bz 3) [⟨[], [5], [], Fct.val 33 (.int .i64 k1624)⟩,     ⟨[0], [], [], Fct.val 34 (.int .i64 (ad k1624 1))⟩,     ⟨[1], [], [], Fct.val 5 (.int .i64 (ad k1624 1))⟩] hz1779 hd1779 (by kernel_rfl) ?_ ?_
              · refine sc (fun _ _ _ _ s _ => px (or_move (s.1.trans e1779_5))) ?_
                refine sc (fun _ _ _ f _ _ => px (or_add f.1 rfl rfl)) ?_
                refine sc (fun _ _ _ f _ _ => px (or_assign f.1)) ?_
                exact steps_nil
              intro own1780 a1780 w1780 hd1780 hz1780 hk1780 hf1780 hE1780
              have e1780_0 := (hk1780 0 rfl).trans e1779_0
              have e1780_3 := (hk1780 3 rfl).trans e1779_3
              have e1780_4 := (hk1780 4 rfl).trans e1779_4
              obtain ⟨(e1780_5 : a1780.eval (.tmp 5) = .int .i64 (ad k1624 1)), -⟩ := hf1780 [2] rfl
              have hX1780 := Evo.step hE1779 hown hE1780 rfl
              have b1780_As1 := re_ hE1780 b1779_As1
              exact hn1711 _ _ _ hs ⟨(rl [(1776, 1622)] own1780), hd1780, hz1780, e1780_0, e1780_3, e1780_4, e1780_5, (Evo.rl_ hX1780 hown rfl), (RwO.rl_ (mm := [(1776, 1622)]) b1780_As1)⟩
            obtain ⟨q1781, hq1781, hs⟩ := obind hs
            obtain ⟨x1782, hx1782, hs⟩ := obind hs
            obtain ⟨q1783, hq1783, hs⟩ := obind hs
            obtain ⟨x1784, hx1784, hs⟩ := obind hs
            refine rg_draw_seq g_mixed (n := 61) (rs := []) (own0 := own1714) (K := []) (bs := [0, 0, 3, 7, 0, 0, 32, 112, 240, 511]) (ds := [⟨[], [4], [], Fct.val 35 (pieceV As1 cs1 R3.s k1219 n1530)⟩,     ⟨[], [5], [], Fct.val 36 (.int .i64 k1624)⟩,     ⟨[0, 1], [], [], Fct.val 37 (.pointer (some ((adr As1).add ((q1781 : Int).toNat * R3.s))))⟩,     ⟨[2], [], [], Fct.val 38 (.int .i64 x1782)⟩,     ⟨[], [4], [], Fct.val 39 (pieceV As1 cs1 R3.s k1219 n1530)⟩,     ⟨[], [5], [], Fct.val 40 (.int .i64 k1624)⟩,     ⟨[5], [], [], Fct.val 41 (.int .i64 (sb k1624 1))⟩,     ⟨[4, 6], [], [], Fct.val 42 (.pointer (some ((adr As1).add ((q1783 : Int).toNat * R3.s))))⟩,     ⟨[7], [], [], Fct.val 43 (.int .i64 x1784)⟩,     ⟨[3, 8], [], [], Fct.val 44 (.bool (!decide (x1782 = x1784)))⟩]) (by kernel_rfl) hz1714 hd1714 nm_ ?_ ?_
            · refine sc (fun _ _ _ _ s _ => px (or_move (s.1.trans e1714_4))) ?_
              refine sc (fun _ _ _ _ s _ => px (or_move (s.1.trans e1714_5))) ?_
              refine sc (fun _ _ _ f _ _ => px (or_indexW (R := R3) tl22 f.1 f.2.1 (RdO.some_ (RwO.rd b1714_As1) hx1782) (cut_some hx1528).1 (piece_le (cut_toE hn1530 hx1528) (RwO.rd b1526_As1)) hq1781)) ?_
              refine sc (fun _ _ _ f _ hE => px (or_load1 to3 f.1 (CellsAt.zero (RdO.cells (F := E3) (RwO.rd (re_ hE b1714_As1)) hx1782) rfl))) ?_
              refine sc (fun _ _ _ _ s _ => px (or_move (s.1.trans e1714_4))) ?_
              refine sc (fun _ _ _ _ s _ => px (or_move (s.1.trans e1714_5))) ?_
              refine sc (fun _ _ _ f _ _ => px (or_sub f.1 rfl rfl)) ?_
              refine sc (fun _ _ _ f _ _ => px (or_indexW (R := R3) tl22 f.1 f.2.1 (RdO.some_ (RwO.rd b1714_As1) hx1784) (cut_some hx1528).1 (piece_le (cut_toE hn1530 hx1528) (RwO.rd b1526_As1)) hq1783)) ?_
              refine sc (fun _ _ _ f _ hE => px (or_load1 to3 f.1 (CellsAt.zero (RdO.cells (F := E3) (RwO.rd (re_ hE b1714_As1)) hx1784) rfl))) ?_
              refine sc (fun _ _ _ f _ _ => px (or_neq f.1 f.2.1 rfl)) ?_
              exact steps_nil
            intro own1785 a1785 w1785 hd1785 hz1785 hk1785 hf1785 hE1785
            have e1785_0 := (hk1785 0 rfl).trans e1714_0
            have e1785_3 := (hk1785 3 rfl).trans e1714_3
            have e1785_4 := (hk1785 4 rfl).trans e1714_4
            have e1785_5 := (hk1785 5 rfl).trans e1714_5
            obtain ⟨(e1785_44 : a1785.eval (.tmp 44) = .bool (!decide (x1782 = x1784))), -⟩ := hf1785 [9] rfl
            have hX1785 := Evo.step hX1714 hown hE1785 rfl
            have b1785_As1 := re_ hE1785 b1714_As1
            refine fl_cond e1785_44 hs (fun c1786 hs => ?_) (fun c1786 hs => ?_)
            · obtain ⟨q1790, hq1790, hs⟩ := obind hs
              obtain ⟨x1791, hx1791, hs⟩ := obind hs
              obtain ⟨x1792, hx1792, hs⟩ := obind hs
              obtain ⟨l1793, hl1793, hs⟩ := obind hs
              refine rg_plain_seq (n := 61) (rs := [Fct.rowAt 1622 [] 3 R3 As1 cs1 s1621]) (own0 := own1785) (K := [1622]) (bs := [0, 0, 0, 0, 12, 28, 63, 127]) (ds := [⟨[], [0], [], Fct.val 45 (.slice As1 s1621.length cs1)⟩,     ⟨[], [3], [], Fct.val 46 (.int .i64 k1623)⟩,     ⟨[], [4], [], Fct.val 47 (pieceV As1 cs1 R3.s k1219 n1530)⟩,     ⟨[], [5], [], Fct.val 48 (.int .i64 k1624)⟩,     ⟨[2, 3, 8], [], [], Fct.val 49 (.pointer (some ((adr As1).add ((q1790 : Int).toNat * R3.s))))⟩,     ⟨[4, 8], [], [], Fct.val 50 (.int .i64 x1791)⟩,     ⟨[0, 1], [], [], Fct.val 51 (.pointer (some ((adr As1).add ((k1623 : Int).toNat * R3.s))))⟩,     ⟨[6, 5, 8], [], [1622], Fct.rowAt 1794 [] 3 R3 As1 cs1 l1793⟩]) (by kernel_rfl) hz1785 hd1785 (by simp only [List.forall_mem_cons]; exact ⟨b1785_As1, fun _ h => nomatch h⟩) ?_ ?_
              · refine sc (fun _ _ _ _ s _ => px (or_move (s.1.trans e1785_0))) ?_
                refine sc (fun _ _ _ _ s _ => px (or_move (s.1.trans e1785_3))) ?_
                refine sc (fun _ _ _ _ s _ => px (or_move (s.1.trans e1785_4))) ?_
                refine sc (fun _ _ _ _ s _ => px (or_move (s.1.trans e1785_5))) ?_
                refine sc (fun own a wx hf hsl hE => ?_) ?_
                · obtain ⟨f_47, f_48, b_As1, -⟩ := hf
                  exact px (or_indexW (R := R3) tl22 f_47 f_48 (RdO.some_ (RwO.rd b1785_As1) hx1791) (cut_some hx1528).1 (piece_le (cut_toE hn1530 hx1528) (RwO.rd b1526_As1)) hq1790)
                refine sc (fun own a wx hf hsl hE => ?_) ?_
                · obtain ⟨f_49, b_As1, -⟩ := hf
                  exact px (or_load1 to3 f_49 (CellsAt.zero (RdO.cells (F := E3) (RwO.rd b_As1) hx1791) rfl))
                refine sc (fun _ _ _ f _ _ => px (or_index (R := R3) (l := s1621) tl22 f.1 f.2.1 (RdO.some_ (RwO.rd b1785_As1) hx1792) hx1792)) ?_
                refine sc (fun own a wx hf hsl hE => ?_) ?_
                · obtain ⟨f_51, f_50, b_As1, -⟩ := hf
                  exact px (or_storeIx (R := R3) (lab := 1622) (lab2 := 1794) (cs := [.int .i64 x1791]) (v := x1791) ts3 f_51 f_50 rfl (Rep.fl_flat _) (fun _ _ => rfl) b_As1 hl1793 (mem_of rfl) (by decide) (fun own' a' w' ha hb => hb))
                exact steps_nil
              intro own1795 a1795 w1795 hd1795 hz1795 hk1795 hf1795 hE1795
              have e1795_0 := (hk1795 0 rfl).trans e1785_0
              have e1795_3 := (hk1795 3 rfl).trans e1785_3
              have e1795_4 := (hk1795 4 rfl).trans e1785_4
              have e1795_5 := (hk1795 5 rfl).trans e1785_5
              obtain ⟨(b1795_As1 : RwO own1795 1794 [] w1795 3 R3 As1 cs1 l1793), -⟩ := hf1795 [7] rfl
              have hX1795 := Evo.step hX1785 hown hE1795 rfl
              have m1796_0 : a1795.eval (.tmp 0) = .slice As1 l1793.length cs1 := e1795_0.trans (by rw [put_len hl1793])
              refine rg0 61 own1795 (bz 3) [⟨[], [3], [], Fct.val 52 (.int .i64 k1623)⟩,     ⟨[0], [], [], Fct.val 53 (.int .i64 (ad k1623 1))⟩,     ⟨[1], [], [], Fct.val 3 (.int .i64 (ad k1623 1))⟩] hz1795 hd1795 (by kernel_rfl) ?_ ?_
              · refine sc (fun _ _ _ _ s _ => px (or_move (s.1.trans e1795_3))) ?_
                refine sc (fun _ _ _ f _ _ => px (or_add f.1 rfl rfl)) ?_
                refine sc (fun _ _ _ f _ _ => px (or_assign f.1)) ?_
                exact steps_nil
              intro own1797 a1797 w1797 hd1797 hz1797 hk1797 hf1797 hE1797
              have e1797_0 := (hk1797 0 rfl).trans m1796_0
              have e1797_4 := (hk1797 4 rfl).trans e1795_4
              have e1797_5 := (hk1797 5 rfl).trans e1795_5
              obtain ⟨(e1797_3 : a1797.eval (.tmp 3) = .int .i64 (ad k1623 1)), -⟩ := hf1797 [2] rfl
              have hX1797 := Evo.step hX1795 hown hE1797 rfl
              have b1797_As1 := re_ hE1797 b1795_As1
              exact (K1778 _ _ (rl [(1794, 1776)] own1797) _ _ hd1797 hz1797 e1797_0 e1797_3 e1797_4 e1797_5 (Evo.rl_ hX1797 hown rfl) (RwO.rl_ (mm := [(1794, 1776)]) b1797_As1) hs).1
            refine fl_skip ?_
            exact (K1778 _ _ (rl [(1622, 1776)] own1785) _ _ hd1785 hz1785 e1785_0 e1785_3 e1785_4 e1785_5 (Evo.rl_ hX1785 hown rfl) (RwO.rl_ (mm := [(1622, 1776)]) b1785_As1) hs).1
          refine fl_exit ?_
          refine hp1713 _ _ _ rfl ?_
          replace hs := hz1711 _ hs
          refine hp1711 _ _ _ rfl ?_
          refine hx1534 _ _ ?_
          refine hn1532 _ _ ?_
          obtain ⟨x1801, hx1801, hs⟩ := obind hs
          obtain ⟨n1803, hn1803, hs⟩ := obind hs
          obtain ⟨l1804, hl1804, hs⟩ := obind hs
          refine rg_plain_seq (n := 61) (rs := [Fct.rowAt 1622 [] 3 R3 As1 cs1 s1621]) (own0 := own1714) (K := [1622]) (bs := [0, 0, 3, 7]) (ds := [⟨[], [0], [], Fct.val 54 (.slice As1 s1621.length cs1)⟩,     ⟨[], [3], [], Fct.val 55 (.int .i64 k1623)⟩,     ⟨[0, 1, 4], [], [], Fct.val 56 (pieceV As1 cs1 R3.s k1623 n1803)⟩,     ⟨[2, 4], [], [1622], Fct.rowAt 1805 [] 3 R3 As1 cs1 l1804⟩]) (by kernel_rfl) hz1714 hd1714 (by simp only [List.forall_mem_cons]; exact ⟨b1714_As1, fun _ h => nomatch h⟩) ?_ ?_
          · refine sc (fun _ _ _ _ s _ => px (or_move (s.1.trans e1714_0))) ?_
            refine sc (fun _ _ _ _ s _ => px (or_move (s.1.trans e1714_3))) ?_
            refine sc (fun own a wx hf hsl hE => ?_) ?_
            · obtain ⟨f_54, f_55, b_As1, -⟩ := hf
              exact px (or_pieceW (R := R3) tu22 ts3 f_54 (Bnd.some_ f_55) (Bnd.noneE (osome hn1803)) (RwO.rd b_As1) (cut_toE hn1803 hx1801))
            refine sc (fun own a wx hf hsl hE => ?_) ?_
            · obtain ⟨f_56, b_As1, -⟩ := hf
              exact px (or_clear (R := R3) (lab := 1622) (lab2 := 1805) (z := .int .i64 0) (dv := 0) tu22 (by kernel_rfl) rfl f_56 b_As1 hl1804 (Rep.fl_flat _) (fun _ _ => rfl) (mem_of rfl) (by decide) (fun own' a' w' hb => hb))
            exact steps_nil
          intro own1806 a1806 w1806 hd1806 hz1806 hk1806 hf1806 hE1806
          have e1806_0 := (hk1806 0 rfl).trans e1714_0
          have e1806_3 := (hk1806 3 rfl).trans e1714_3
          obtain ⟨(b1806_As1 : RwO own1806 1805 [] w1806 3 R3 As1 cs1 l1804), -⟩ := hf1806 [3] rfl
          have hX1806 := Evo.step hX1714 hown hE1806 rfl
          have m1807_0 : a1806.eval (.tmp 0) = .slice As1 l1804.length cs1 := e1806_0.trans (by rw [clr_len hl1804])
          obtain ⟨x1810, hx1810, hs⟩ := obind hs
          refine rg_plain_seq (n := 61) (rs := [Fct.rowAt 1805 [] 3 R3 As1 cs1 l1804]) (own0 := own1806) (K := [1805]) (bs := [0, 0, 3, 7]) (ds := [⟨[], [0], [], Fct.val 57 (.slice As1 l1804.length cs1)⟩,     ⟨[], [3], [], Fct.val 58 (.int .i64 k1623)⟩,     ⟨[0, 1, 4], [], [1805], Fct.row 1812 [] 59 3 R3 x1810⟩,     ⟨[2], [], [], Fct.rel [2, 59] (fun l => ∀ (A1811 : Option Addr) (cA1811 : Nat), l.getD 1 undef = .slice A1811 x1810.length cA1811 → l.getD 0 undef = .slice A1811 x1810.length cA1811)⟩]) (by kernel_rfl) hz1806 hd1806 (by simp only [List.forall_mem_cons]; exact ⟨b1806_As1, fun _ h => nomatch h⟩) ?_ ?_
          · refine sc (fun _ _ _ _ s _ => px (or_move (s.1.trans m1807_0))) ?_
            refine sc (fun _ _ _ _ s _ => px (or_move (s.1.trans e1806_3))) ?_
            refine sc (fun own a wx hf hsl hE => ?_) ?_
            · obtain ⟨f_57, f_58, b_As1, -⟩ := hf
              exact px (or_keep (R := R3) (lab := 1805) (lab2 := 1812) tu22 ts3 f_57 (Bnd.some_ f_58) b_As1 hx1810 (mem_of rfl) (by decide) (.inl (Rep.fl_flat _)))
            refine sc (fun own a wx hf hsl hE => ?_) ?_
            · obtain ⟨⟨⟨A1811, cA1811⟩, (f_59 : a.eval (.tmp 59) = .slice A1811 x1810.length cA1811), b_A1811⟩, -⟩ := hf
              exact px (or_mono (f := Fct.val 2 (.slice A1811 x1810.length cA1811)) (or_assign f_59) (fun own' a' w' v' hp h => fun _ _ h0' => by cases (f_59.symm.trans ((hp.2 59 (by decide)).symm.trans h0')); exact h))
            exact steps_nil
          intro own1813 a1813 w1813 hd1813 hz1813 hk1813 hf1813 hE1813
          obtain ⟨⟨⟨A1811, cA1811⟩, (f_59 : a1813.eval (.tmp 59) = .slice A1811 x1810.length cA1811), (b1813_A1811 : RwO own1813 1812 [] w1813 3 R3 A1811 cA1811 x1810)⟩, (q_2 : ∀ (A1811 : Option Addr) (cA1811 : Nat), a1813.eval (.tmp 59) = .slice A1811 x1810.length cA1811 → a1813.eval (.tmp 2) = .slice A1811 x1810.length cA1811), -⟩ := hf1813 [2, 3] rfl
          have e1813_2 := q_2 _ _ f_59
          have hX1813 := Evo.step hX1806 hown hE1813 rfl
          refine fl_ret ?_
          refine hp1523 _ _ _ rfl ?_
          refine hp1522 _ _ _ rfl ?_
          replace hs := hz1517 _ hs
          refine hp1517 _ _ _ rfl ?_
          refine hp921 _ _ _ rfl ?_
          refine hp919 _ _ _ rfl ?_
          obtain rfl := (osome hs).symm
          exact hret _ _ _ _ (.inl rfl) hd1813 (results1_ rfl (RVal.tmp_ e1813_2)) ⟨(rl [(1812, 2)] own1813), (A1811, cA1811), rfl, (Evo.rl_ hX1813 hown rfl), (RwO.rl_ (mm := [(1812, 2)]) b1813_A1811)⟩
      refine fl_skip ?_
      refine hn1523 _ _ ?_
      refine hn1522 _ _ ?_
      refine rg0 61 own1526 (bz 3) [⟨[], [3], [], Fct.val 14 (.int .i64 k1219)⟩,     ⟨[0], [], [], Fct.val 15 (.int .i64 (ad k1219 1))⟩,     ⟨[1], [], [], Fct.val 3 (.int .i64 (ad k1219 1))⟩] hz1526 hd1526 (by kernel_rfl) ?_ ?_
      · refine sc (fun _ _ _ _ s _ => px (or_move (s.1.trans e1526_3))) ?_
        refine sc (fun _ _ _ f _ _ => px (or_add f.1 rfl rfl)) ?_
        refine sc (fun _ _ _ f _ _ => px (or_assign f.1)) ?_
        exact steps_nil
      intro own1814 a1814 w1814 hd1814 hz1814 hk1814 hf1814 hE1814
      have e1814_0 := (hk1814 0 rfl).trans e1526_0
      obtain ⟨(e1814_3 : a1814.eval (.tmp 3) = .int .i64 (ad k1219 1)), -⟩ := hf1814 [2] rfl
      have hX1814 := Evo.step hX1526 hown hE1814 rfl
      have b1814_As1 := re_ hE1814 b1526_As1
      exact hn1517 _ _ _ hs ⟨own1814, hd1814, hz1814, e1814_0, e1814_3, hX1814, b1814_As1⟩
    refine fl_exit ?_
    refine hp1519 _ _ _ rfl ?_
    replace hs := hz1517 _ hs
    refine hp1517 _ _ _ rfl ?_
    refine hx921 _ _ ?_
    refine hn919 _ _ ?_
    refine rg0_seq 61 own1520 (bz 2) [⟨[], [0], [], Fct.val 60 (.slice As1 s1.length cs1)⟩,     ⟨[0], [], [], Fct.val 2 (.slice As1 s1.length cs1)⟩] hz1520 hd1520 (by kernel_rfl) ?_ ?_
    · refine sc (fun _ _ _ _ s _ => px (or_move (s.1.trans e1520_0))) ?_
      refine sc (fun _ _ _ f _ _ => px (or_assign f.1)) ?_
      exact steps_nil
    intro own1815 a1815 w1815 hd1815 hz1815 hk1815 hf1815 hE1815
    obtain ⟨(e1815_2 : a1815.eval (.tmp 2) = .slice As1 s1.length cs1), -⟩ := hf1815 [1] rfl
    have hX1815 := Evo.step hX1520 hown hE1815 rfl
    have b1815_As1 := re_ hE1815 b1520_As1
    refine fl_ret ?_
    obtain rfl := (osome hs).symm
    exact hret _ _ _ _ (.inl rfl) hd1815 (results1_ rfl (RVal.tmp_ e1815_2)) ⟨(rl [(1, 2)] own1815), (As1, cs1), rfl, (Evo.rl_ hX1815 hown rfl), (RwO.rl_ (mm := [(1, 2)]) b1815_As1)⟩
theorem slices_Clone_int_int_w (w : World) (s1 : List Int) (As1 : Option Addr) (cs1 : Nat) (hs1 : RdO (fun _ => 0) [0] w R3 As1 cs1 s1) (r : List Int) (hs : slices_Clone_int_int s1 = some r) :
    Calls Try.prog 72 #[.slice As1 s1.length cs1] w fun e w' => ∃ (own' : Own) (x : Option Addr × Nat), e = .returned (.slice x.1 r.length x.2) ∧ Evo [] (fun _ => 0) own' w w' ∧ RwO own' 1 [] w' 3 R3 x.1 x.2 r := by
  refine fl_enter (n := 8) rfl rfl rfl (Nat.le_of_ble_eq_true rfl) ?_
  intro a0 Q hd0 hz0 harg hret
  have ha0 := harg 0 _ rfl
  clear harg
  have hE0 : Evo [] (fun _ => 0) (fun _ => 0) w w := Evo.refl _ _ _
  refine rg0_seq 8 (fun _ => 0) (bz 1) [⟨[], [], [], Fct.val 2 (.slice none 0 0)⟩] hz0 hd0 (by kernel_rfl) ?_ ?_
  · refine sc (fun _ _ _ _ _ _ => px (or_assign rfl)) ?_
    exact steps_nil
  intro own22 a22 w22 hd22 hz22 hk22 hf22 hE22
  have e22_0 := (hk22 0 rfl).trans ha0
  have hX22 := es_ hE0 hE22
  have b22_As1 := RdO.evo rfl hE22 hs1
  refine fl_seq (fun Q23 hn23 hp23 => ?_)
  refine rg0_seq 8 own22 (bz 2) [⟨[], [0], [], Fct.val 3 (.slice As1 s1.length cs1)⟩,     ⟨[0], [], [], Fct.val 4 (.bool As1.isNone)⟩] hz22 hd22 (by kernel_rfl) ?_ ?_
  · refine sc (fun _ _ _ _ s _ => px (or_move (s.1.trans e22_0))) ?_
    refine sc (fun _ _ _ f _ _ => px (or_eqlNil tu22 f.1 rfl)) ?_
    exact steps_nil
  intro own24 a24 w24 hd24 hz24 hk24 hf24 hE24
  have e24_0 := (hk24 0 rfl).trans e22_0
  obtain ⟨(e24_4 : a24.eval (.tmp 4) = .bool As1.isNone), -⟩ := hf24 [1] rfl
  have hX24 := es_ hX22 hE24
  have b24_As1 := RdO.evo rfl hE24 b22_As1
  refine wpIn_cond_split e24_4 (fun hA25 => ?_) (fun hA25 => ?_)
  · have hl25 : s1 = [] := RdO.nil_of b24_As1 hA25
    have hs0 : ((app ([] : List Int) s1).bind fun x28 => some x28) = some r := hs
    have hs : (some ([] : List Int)) = some r := by simpa [hl25, app, cut, capB] using hs0
    refine rg0_seq 8 own24 (bz 1) [⟨[], [], [], Fct.val 2 (.slice none 0 0)⟩] hz24 hd24 (by kernel_rfl) ?_ ?_
    · refine sc (fun _ _ _ _ _ _ => px (or_assign rfl)) ?_
      exact steps_nil
    intro own32 a32 w32 hd32 hz32 hk32 hf32 hE32
    obtain ⟨(e32_2 : a32.eval (.tmp 2) = .slice none 0 0), -⟩ := hf32 [0] rfl
    have hX32 := es_ hX24 hE32
    refine fl_ret ?_
    refine hp23 _ _ _ rfl ?_
    obtain rfl := osome hs
    exact hret _ _ _ _ (.inl rfl) hd32 (results1_ rfl (RVal.tmp_ e32_2)) ⟨own32, (none, 0), rfl, hX32, RwO.nil_⟩
  refine fl_skip ?_
  refine hn23 _ _ ?_
  obtain ⟨x28, hx28, hs⟩ := obind hs
  refine rg_plain_seq (n := 8) (rs := []) (own0 := own24) (K := [27]) (bs := [0, 0, 3, 7]) (ds := [⟨[], [], [], Fct.row 27 [] 5 3 R3 ([] : List Int)⟩,     ⟨[], [0], [], Fct.val 6 (.slice As1 s1.length cs1)⟩,     ⟨[0, 1], [], [27], Fct.row 29 [] 7 3 R3 x28⟩,     ⟨[2], [], [], Fct.rel [2, 7] (fun l => ∀ (A30 : Option Addr) (cA30 : Nat), l.getD 1 undef = .slice A30 x28.length cA30 → l.getD 0 undef = .slice A30 x28.length cA30)⟩]) (by kernel_rfl) hz24 hd24 nm_ ?_ ?_
  · refine sc (fun _ _ _ _ _ _ => px (or_lit (lab := 27) (e := 3) (cs := #[]) (F := E3) (or_new [] rfl rfl trivial (by kernel_rfl)) rfl rfl (show 0 ≤ maxLen by decide))) ?_
    refine sc (fun _ _ _ _ s _ => px (or_move (s.1.trans e24_0))) ?_
    refine sc (fun own a wx hf hsl hE => ?_) ?_
    · obtain ⟨⟨⟨A26, cA26⟩, f_5, b_A26⟩, f_6, -⟩ := hf
      exact px (or_append (R := R3) (lab := 27) (lab2 := 29) (L := []) (L3 := []) tp22 f_5 b_A26 (by decide) f_6 (RdO.evo rfl hE b24_As1) hx28 (by decide) (by decide) (mem_of rfl) (.inl (Rep.fl_flat _)))
    refine sc (fun own a wx hf hsl hE => ?_) ?_
    · obtain ⟨⟨⟨A30, cA30⟩, (f_7 : a.eval (.tmp 7) = .slice A30 x28.length cA30), b_A30⟩, -⟩ := hf
      exact px (or_mono (f := Fct.val 2 (.slice A30 x28.length cA30)) (or_assign f_7) (fun own' a' w' v' hp h => fun _ _ h0' => by cases (f_7.symm.trans ((hp.2 7 (by decide)).symm.trans h0')); exact h))
    exact steps_nil
  intro own31 a31 w31 hd31 hz31 hk31 hf31 hE31
  obtain ⟨⟨⟨A30, cA30⟩, (f_7 : a31.eval (.tmp 7) = .slice A30 x28.length cA30), (b31_A30 : RwO own31 29 [] w31 3 R3 A30 cA30 x28)⟩, (q_2 : ∀ (A30 : Option Addr) (cA30 : Nat), a31.eval (.tmp 7) = .slice A30 x28.length cA30 → a31.eval (.tmp 2) = .slice A30 x28.length cA30), -⟩ := hf31 [2, 3] rfl
  have e31_2 := q_2 _ _ f_7
  have hX31 := es_ hX24 hE31
  refine fl_ret ?_
  obtain rfl := (osome hs).symm
  exact hret _ _ _ _ (.inl rfl) hd31 (results1_ rfl (RVal.tmp_ e31_2)) ⟨(rl [(29, 1)] own31), (A30, cA30), rfl, (Evo.rl_ hX31 (fun _ => Nat.le_refl 0) rfl), (RwO.rl_ (mm := [(29, 1)]) b31_A30)⟩
theorem order_Uniq_1_w (w : World) (x1 : Int) (y2 : Int) (r : Bool) (hs : order_Uniq_1 x1 y2 = some r) :
    Calls Try.prog 68 #[.int .i64 x1, .int .i64 y2] w fun e w' => ∃ own' : Own, e = .returned (.bool r) ∧ Evo [] (fun _ => 0) own' w w' := by
  refine fl_enter (n := 8) rfl rfl rfl (Nat.le_of_ble_eq_true rfl) ?_
  intro a0 Q hd0 hz0 harg hret
  have ha0 := harg 0 _ rfl
  have ha1 := harg 1 _ rfl
  clear harg
  have hE0 : Evo [] (fun _ => 0) (fun _ => 0) w w := Evo.refl _ _ _
  refine rg0_seq 8 (fun _ => 0) (bz 1) [⟨[], [], [], Fct.val 4 (.bool false)⟩] hz0 hd0 (by kernel_rfl) ?_ ?_
  · refine sc (fun _ _ _ _ _ _ => px (or_assign rfl)) ?_
    exact steps_nil
  intro own13 a13 w13 hd13 hz13 hk13 hf13 hE13
  have e13_0 := (hk13 0 rfl).trans ha0
  have e13_1 := (hk13 1 rfl).trans ha1
  have hX13 := es_ hE0 hE13
  refine rg0_seq 8 own13 [0, 0, 3, 7] [⟨[], [0], [], Fct.val 5 (.int .i64 x1)⟩,     ⟨[], [1], [], Fct.val 6 (.int .i64 y2)⟩,     ⟨[0, 1], [], [], Fct.val 7 (.bool (decide (x1 < y2)))⟩,     ⟨[2], [], [], Fct.val 4 (.bool (decide (x1 < y2)))⟩] hz13 hd13 (by kernel_rfl) ?_ ?_
  · refine sc (fun _ _ _ _ s _ => px (or_move (s.1.trans e13_0))) ?_
    refine sc (fun _ _ _ _ s _ => px (or_move (s.1.trans e13_1))) ?_
    refine sc (fun _ _ _ f _ _ => px (or_lss f.1 f.2.1 rfl)) ?_
    refine sc (fun _ _ _ f _ _ => px (or_assign f.1)) ?_
    exact steps_nil
  intro own14 a14 w14 hd14 hz14 hk14 hf14 hE14
  obtain ⟨(e14_4 : a14.eval (.tmp 4) = .bool (decide (x1 < y2))), -⟩ := hf14 [3] rfl
  have hX14 := es_ hX13 hE14
  refine fl_ret ?_
  obtain rfl := osome hs
  exact hret _ _ _ _ (.inl rfl) hd14 (results1_ rfl (RVal.tmp_ e14_4)) ⟨own14, rfl, hX14⟩
theorem order_merged_int_Uniq_1_w (w : World) (x1 : List Int) (Ax1 : Option Addr) (cx1 : Nat) (b2 : List Int) (Ab2 : Option Addr) (cb2 : Nat) (hx1 : RdO (fun _ => 0) [0] w R3 Ax1 cx1 x1) (hb2 : RdO (fun _ => 0) [0] w R3 Ab2 cb2 b2) (r : List Int) (hs : order_merged_int_Uniq_1 x1 b2 = some r) :
    Calls Try.prog 73 #[.slice Ax1 x1.length cx1, .slice Ab2 b2.length cb2, .func (.func 68) #[] #[]] w fun e w' => ∃ (own' : Own) (x : Option Addr × Nat), e = .returned (.slice x.1 r.length x.2) ∧ Evo [] (fun _ => 0) own' w w' ∧ RwO own' 1 [] w' 3 R3 x.1 x.2 r := by
  refine fl_enter (n := 51) rfl rfl rfl (Nat.le_of_ble_eq_true rfl) ?_
  intro a0 Q hd0 hz0 harg hret
  have ha0 := harg 0 _ rfl
  have ha1 := harg 1 _ rfl
  have ha2 := harg 2 _ rfl
  clear harg
  have hE0 : Evo [] (fun _ => 0) (fun _ => 0) w w := Evo.refl _ _ _
  refine rg0_seq 51 (fun _ => 0) (bz 1) [⟨[], [], [], Fct.val 6 (.slice none 0 0)⟩] hz0 hd0 (by kernel_rfl) ?_ ?_
  · refine sc (fun _ _ _ _ _ _ => px (or_assign rfl)) ?_
    exact steps_nil
  intro own204 a204 w204 hd204 hz204 hk204 hf204 hE204
  have e204_0 := (hk204 0 rfl).trans ha0
  have e204_1 := (hk204 1 rfl).trans ha1
  have e204_2 := (hk204 2 rfl).trans ha2
  have hX204 := es_ hE0 hE204
  have b204_Ax1 := RdO.evo rfl hE204 hx1
  have b204_Ab2 := RdO.evo rfl hE204 hb2
  refine fl_scope (S := ((List Int) × (List Int) × (List Int))) (body := (fun s => order_merged_int_Uniq_1_b1_0 s.1 s.2.1 s.2.2)) (z := r) (fun _ => 0) ?_ (fun s a wx => ((fun (s : (List Int) × (List Int) × (List Int)) => match s with | (x254, b257, out260) => ∃ (ox : Own) (A252 : Option Addr) (c253 : Nat) (A255 : Option Addr) (c256 : Nat) (A258 : Option Addr) (c259 : Nat), a.defers = [] ∧ a.tmps.size = 51 ∧ a.eval (.tmp 0) = .slice A252 x254.length c253 ∧ a.eval (.tmp 1) = .slice A255 b257.length c256 ∧ a.eval (.tmp 2) = .func (.func 68) #[] #[] ∧ a.eval (.tmp 7) = .slice A258 out260.length c259 ∧ Evo [] (fun _ => 0) ox w wx ∧ RdO ox [0] wx R3 A252 c253 x254 ∧ RdO ox [0] wx R3 A255 c256 b257 ∧ RwO ox 261 [] wx 3 R3 A258 c259 out260) : (((List Int) × (List Int) × (List Int))) → Prop) s) ?_ ?_
  · intro s; rfl
  · intro Q305 hj305 hp305
    obtain ⟨x350, hx350, hs⟩ := obind hs
    obtain ⟨x351, hx351, hs⟩ := obind hs
    refine rg0_seq 51 own204 [0, 1, 0, 4, 15, 31, 63] [⟨[], [0], [], Fct.val 8 (.slice Ax1 x1.length cx1)⟩,     ⟨[0], [], [], Fct.val 9 (.int .i64 (x1.length : Int))⟩,     ⟨[], [1], [], Fct.val 10 (.slice Ab2 b2.length cb2)⟩,     ⟨[2], [], [], Fct.val 11 (.int .i64 (b2.length : Int))⟩,     ⟨[1, 3], [], [], Fct.val 12 (.int .i64 x350)⟩,     ⟨[4], [], [], Fct.row 353 [] 13 3 R3 x351⟩,     ⟨[5], [], [], Fct.rel [7, 13] (fun l => ∀ (A352 : Option Addr) (cA352 : Nat), l.getD 1 undef = .slice A352 x351.length cA352 → l.getD 0 undef = .slice A352 x351.length cA352)⟩] hz204 hd204 (by kernel_rfl) ?_ ?_
    · refine sc (fun _ _ _ _ s _ => px (or_move (s.1.trans e204_0))) ?_
      refine sc (fun _ _ _ f _ _ => px (or_len tu22 f.1 rfl)) ?_
      refine sc (fun _ _ _ _ s _ => px (or_move (s.1.trans e204_1))) ?_
      refine sc (fun _ _ _ f _ _ => px (or_len tu22 f.1 rfl)) ?_
      refine sc (fun _ _ _ f _ _ => px (or_add f.1 f.2.1 (osome hx350).symm)) ?_
      refine sc (fun _ _ _ f _ _ => px (or_make (R := R3) (lab := 353) tp22 rfl f.1 hx351 (by decide))) ?_
      refine sc (fun own a wx hf hsl hE => ?_) ?_
      · obtain ⟨⟨⟨A352, cA352⟩, (f_13 : a.eval (.tmp 13) = .slice A352 x351.length cA352), b_A352⟩, -⟩ := hf
        exact px (or_mono (f := Fct.val 7 (.slice A352 x351.length cA352)) (or_assign f_13) (fun own' a' w' v' hp h => fun _ _ h0' => by cases (f_13.symm.trans ((hp.2 13 (by decide)).symm.trans h0')); exact h))
      exact steps_nil
    intro own354 a354 w354 hd354 hz354 hk354 hf354 hE354
    have e354_0 := (hk354 0 rfl).trans e204_0
    have e354_1 := (hk354 1 rfl).trans e204_1
    have e354_2 := (hk354 2 rfl).trans e204_2
    obtain ⟨⟨⟨A352, cA352⟩, (f_13 : a354.eval (.tmp 13) = .slice A352 x351.length cA352), (b354_A352 : RwO own354 353 [] w354 3 R3 A352 cA352 x351)⟩, (q_7 : ∀ (A352 : Option Addr) (cA352 : Nat), a354.eval (.tmp 13) = .slice A352 x351.length cA352 → a354.eval (.tmp 7) = .slice A352 x351.length cA352), -⟩ := hf354 [5, 6] rfl
    have e354_7 := q_7 _ _ f_13
    have hX354 := es_ hX204 hE354
    have b354_Ax1 := RdO.evo rfl hE354 b204_Ax1
    have b354_Ab2 := RdO.evo rfl hE354 b204_Ab2
    refine fl_seq (fun Q355 hn355 hp355 => ?_)
    refine fl_label ?_
    refine hn355 _ _ ?_
    refine fl_seq (fun Q356 hn356 hp356 => ?_)
    obtain ⟨x357, hx357, hs⟩ := obind hs
    refine rg0_seq 51 own354 (bz 8) [⟨[], [0], [], Fct.val 14 (.slice Ax1 x1.length cx1)⟩,     ⟨[0], [], [], Fct.val 15 (.int .i64 (x1.length : Int))⟩,     ⟨[1], [], [], Fct.val 16 (.bool (decide ((x1.length : Int) = 0)))⟩,     ⟨[2], [], [], Fct.val 17 (.bool (decide ((x1.length : Int) = 0)))⟩,     ⟨[3], [1], [], Fct.cond (!(decide ((x1.length : Int) = 0))) (some 18) (Fct.val 18 (.slice Ab2 b2.length cb2))⟩,     ⟨[3, 4], [], [], Fct.cond (!(decide ((x1.length : Int) = 0))) (some 19) (Fct.val 19 (.int .i64 (b2.length : Int)))⟩,     ⟨[3, 5], [], [], Fct.cond (!(decide ((x1.length : Int) = 0))) (some 20) (Fct.val 20 (.bool (decide ((b2.length : Int) = 0))))⟩,     ⟨[3, 6], [], [], Fct.val 21 (.bool x357)⟩] hz354 hd354 (by kernel_rfl) ?_ ?_
    · refine sc (fun _ _ _ _ s _ => px (or_move (s.1.trans e354_0))) ?_
      refine sc (fun _ _ _ f _ _ => px (or_len tu22 f.1 rfl)) ?_
      refine sc (fun _ _ _ f _ _ => px (or_eql f.1 rfl rfl)) ?_
      refine sc (fun _ _ _ f _ _ => px (or_move f.1)) ?_
      refine sc (fun _ _ _ f s _ => sg_f rfl rfl rfl f.1 (fun hg => or_move (s.1.trans e354_1))) ?_
      refine sc (fun _ _ _ f _ _ => sg_f rfl rfl rfl f.1 (fun hg => or_len tu22 (f.2.1.1 hg) rfl)) ?_
      refine sc (fun _ _ _ f _ _ => sg_f rfl rfl rfl f.1 (fun hg => or_eql (f.2.1.1 hg) rfl rfl)) ?_
      refine sc (fun _ _ _ f _ _ => px (or_or f.1 rfl (fun hx => f.2.1.1 hx) (osome hx357).symm)) ?_
      exact steps_nil
    intro own358 a358 w358 hd358 hz358 hk358 hf358 hE358
    have e358_0 := (hk358 0 rfl).trans e354_0
    have e358_1 := (hk358 1 rfl).trans e354_1
    have e358_2 := (hk358 2 rfl).trans e354_2
    have e358_7 := (hk358 7 rfl).trans e354_7
    obtain ⟨(e358_21 : a358.eval (.tmp 21) = .bool x357), -⟩ := hf358 [7] rfl
    have hX358 := es_ hX354 hE358
    have b358_Ax1 := RdO.evo rfl hE358 b354_Ax1
    have b358_Ab2 := RdO.evo rfl hE358 b354_Ab2
    have b358_A352 := re_ hE358 b354_A352
    refine fl_cond e358_21 hs (fun c359 hs => ?_) (fun c359 hs => ?_)
    · obtain ⟨x360, hx360, hs⟩ := obind hs
      obtain ⟨x363, hx363, hs⟩ := obind hs
      refine rg_plain_seq (n := 51) (rs := [Fct.rowAt 353 [] 3 R3 A352 cA352 x351]) (own0 := own358) (K := [353, 361]) (bs := [0, 0, 3, 0, 15, 31]) (ds := [⟨[], [7], [], Fct.val 22 (.slice A352 x351.length cA352)⟩,     ⟨[], [0], [], Fct.val 23 (.slice Ax1 x1.length cx1)⟩,     ⟨[0, 1, 6], [], [353], Fct.row 361 [] 24 3 R3 x360⟩,     ⟨[], [1], [], Fct.val 25 (.slice Ab2 b2.length cb2)⟩,     ⟨[2, 3], [], [361], Fct.row 364 [] 26 3 R3 x363⟩,     ⟨[4], [], [], Fct.rel [6, 26] (fun l => ∀ (A365 : Option Addr) (cA365 : Nat), l.getD 1 undef = .slice A365 x363.length cA365 → l.getD 0 undef = .slice A365 x363.length cA365)⟩]) (by kernel_rfl) hz358 hd358 (by simp only [List.forall_mem_cons]; exact ⟨b358_A352, fun _ h => nomatch h⟩) ?_ ?_
      · refine sc (fun _ _ _ _ s _ => px (or_move (s.1.trans e358_7))) ?_
        refine sc (fun _ _ _ _ s _ => px (or_move (s.1.trans e358_0))) ?_
        refine sc (fun own a wx hf hsl hE => ?_) ?_
        · obtain ⟨f_22, f_23, b_A352, -⟩ := hf
          exact px (or_append (R := R3) (lab := 353) (lab2 := 361) (L := []) (L3 := []) tp22 f_22 b_A352 (by decide) f_23 (RdO.evo rfl hE b358_Ax1) hx360 (by decide) (by decide) (mem_of rfl) (.inl (Rep.fl_flat _)))
        refine sc (fun _ _ _ _ s _ => px (or_move (s.1.trans e358_1))) ?_
        refine sc (fun own a wx hf hsl hE => ?_) ?_
        · obtain ⟨⟨⟨A362, cA362⟩, f_24, b_A362⟩, f_25, -⟩ := hf
          exact px (or_append (R := R3) (lab := 361) (lab2 := 364) (L := []) (L3 := []) tp22 f_24 b_A362 (by decide) f_25 (RdO.evo rfl hE b358_Ab2) hx363 (by decide) (by decide) (mem_of rfl) (.inl (Rep.fl_flat _)))
        refine sc (fun own a wx hf hsl hE => ?_) ?_
        · obtain ⟨⟨⟨A365, cA365⟩, (f_26 : a.eval (.tmp 26) = .slice A365 x363.length cA365), b_A365⟩, -⟩ := hf
          exact px (or_mono (f := Fct.val 6 (.slice A365 x363.length cA365)) (or_assign f_26) (fun own' a' w' v' hp h => fun _ _ h0' => by cases (f_26.symm.trans ((hp.2 26 (by decide)).symm.trans h0')); exact h))
        exact steps_nil
      intro own366 a366 w366 hd366 hz366 hk366 hf366 hE366
      obtain ⟨⟨⟨A365, cA365⟩, (f_26 : a366.eval (.tmp 26) = .slice A365 x363.length cA365), (b366_A365 : RwO own366 364 [] w366 3 R3 A365 cA365 x363)⟩, (q_6 : ∀ (A365 : Option Addr) (cA365 : Nat), a366.eval (.tmp 26) = .slice A365 x363.length cA365 → a366.eval (.tmp 6) = .slice A365 x363.length cA365), -⟩ := hf366 [4, 5] rfl
      have e366_6 := q_6 _ _ f_26
      have hX366 := es_ hX358 hE366
      refine fl_ret ?_
      refine hp356 _ _ _ rfl ?_
      refine hp305.leaves _ _ _ rfl ?_
      obtain rfl := (osome hs).symm
      exact hret _ _ _ _ (.inl rfl) hd366 (results1_ rfl (RVal.tmp_ e366_6)) ⟨(rl [(364, 1)] own366), (A365, cA365), rfl, (Evo.rl_ hX366 (fun _ => Nat.le_refl 0) rfl), (RwO.rl_ (mm := [(364, 1)]) b366_A365)⟩
    refine fl_skip ?_
    refine hn356 _ _ ?_
    refine fl_seq (fun Q367 hn367 hp367 => ?_)
    obtain ⟨x368, hx368, hs⟩ := obind hs
    obtain ⟨x369, hx369, hs⟩ := obind hs
    obtain ⟨r370, hr370, hs⟩ := obind hs
    refine rg_draw_seq g_mixed (n := 51) (rs := []) (own0 := own358) (K := []) (bs := [0, 0, 2, 6, 0, 16, 48, 127]) (ds := [⟨[], [2], [], Fct.val 27 (.func (.func 68) #[] #[])⟩,     ⟨[], [1], [], Fct.val 28 (.slice Ab2 b2.length cb2)⟩,     ⟨[1], [], [], Fct.val 29 (.pointer (some ((adr Ab2).add ((0 : Int).toNat * R3.s))))⟩,     ⟨[2], [], [], Fct.val 30 (.int .i64 x368)⟩,     ⟨[], [0], [], Fct.val 31 (.slice Ax1 x1.length cx1)⟩,     ⟨[4], [], [], Fct.val 32 (.pointer (some ((adr Ax1).add ((0 : Int).toNat * R3.s))))⟩,     ⟨[5], [], [], Fct.val 33 (.int .i64 x369)⟩,     ⟨[0, 3, 6], [], [], Fct.val 34 (.bool r370)⟩]) (by kernel_rfl) hz358 hd358 nm_ ?_ ?_
    · refine sc (fun _ _ _ _ s _ => px (or_move (s.1.trans e358_2))) ?_
      refine sc (fun _ _ _ _ s _ => px (or_move (s.1.trans e358_1))) ?_
      refine sc (fun _ _ _ f _ _ => px (or_index (R := R3) (l := b2) tl22 f.1 rfl (RdO.some_ b358_Ab2 hx368) hx368)) ?_
      refine sc (fun _ _ _ f _ hE => px (or_load1 to3 f.1 (CellsAt.zero (RdO.cells (F := E3) (RdO.evo rfl hE b358_Ab2) hx368) rfl))) ?_
      refine sc (fun _ _ _ _ s _ => px (or_move (s.1.trans e358_0))) ?_
      refine sc (fun _ _ _ f _ _ => px (or_index (R := R3) (l := x1) tl22 f.1 rfl (RdO.some_ b358_Ax1 hx369) hx369)) ?_
      refine sc (fun _ _ _ f _ hE => px (or_load1 to3 f.1 (CellsAt.zero (RdO.cells (F := E3) (RdO.evo rfl hE b358_Ax1) hx369) rfl))) ?_
      refine sc (fun _ _ _ f _ _ => px (or_callf cf68 f.1 (args2 f.2.1 f.2.2.1) rfl (order_Uniq_1_w _ x368 x369  r370 hr370) post_val)) ?_
      exact steps_nil
    intro own371 a371 w371 hd371 hz371 hk371 hf371 hE371
    have e371_0 := (hk371 0 rfl).trans e358_0
    have e371_1 := (hk371 1 rfl).trans e358_1
    have e371_2 := (hk371 2 rfl).trans e358_2
    have e371_7 := (hk371 7 rfl).trans e358_7
    obtain ⟨(e371_34 : a371.eval (.tmp 34) = .bool r370), -⟩ := hf371 [7] rfl
    have hX371 := es_ hX358 hE371
    have b371_Ax1 := RdO.evo rfl hE371 b358_Ax1
    have b371_Ab2 := RdO.evo rfl hE371 b358_Ab2
    have b371_A352 := re_ hE371 b358_A352
    refine fl_cond e371_34 hs (fun c372 hs => ?_) (fun c372 hs => ?_)
    · obtain ⟨x376, hx376, hs⟩ := obind hs
      obtain ⟨x379, hx379, hs⟩ := obind hs
      obtain ⟨x382, hx382, hs⟩ := obind hs
      refine rg_draw_seq g_mixed (n := 51) (rs := [Fct.rowAt 353 [] 3 R3 A352 cA352 x351]) (own0 := own371) (K := [353]) (bs := [0, 0, 2, 6, 14, 31, 0, 64, 63, 511]) (ds := [⟨[], [7], [], Fct.val 35 (.slice A352 x351.length cA352)⟩,     ⟨[], [1], [], Fct.val 36 (.slice Ab2 b2.length cb2)⟩,     ⟨[1], [], [], Fct.val 37 (.pointer (some ((adr Ab2).add ((0 : Int).toNat * R3.s))))⟩,     ⟨[2], [], [], Fct.val 38 (.int .i64 x376)⟩,     ⟨[3], [], [], Fct.row 378 [] 39 3 R3 [x376]⟩,     ⟨[0, 4, 10], [], [353], Fct.row 380 [] 40 3 R3 x379⟩,     ⟨[], [1], [], Fct.val 41 (.slice Ab2 b2.length cb2)⟩,     ⟨[6], [], [], Fct.view [0] 42 R3 x382⟩,     ⟨[5], [], [], Fct.rel [7, 40] (fun l => ∀ (A381 : Option Addr) (cA381 : Nat), l.getD 1 undef = .slice A381 x379.length cA381 → l.getD 0 undef = .slice A381 x379.length cA381)⟩,     ⟨[7], [], [], Fct.rel [1, 42] (fun l => ∀ (A383 : Option Addr) (cA383 : Nat), l.getD 1 undef = .slice A383 x382.length cA383 → l.getD 0 undef = .slice A383 x382.length cA383)⟩]) (by kernel_rfl) hz371 hd371 (by simp only [List.forall_mem_cons]; exact ⟨b371_A352, fun _ h => nomatch h⟩) ?_ ?_
      · refine sc (fun _ _ _ _ s _ => px (or_move (s.1.trans e371_7))) ?_
        refine sc (fun _ _ _ _ s _ => px (or_move (s.1.trans e371_1))) ?_
        refine sc (fun _ _ _ f _ _ => px (or_index (R := R3) (l := b2) tl22 f.1 rfl (RdO.some_ b371_Ab2 hx376) hx376)) ?_
        refine sc (fun _ _ _ f _ hE => px (or_load1 to3 f.1 (CellsAt.zero (RdO.cells (F := E3) (RdO.evo rfl hE b371_Ab2) hx376) rfl))) ?_
        refine sc (fun _ _ _ f _ _ => px (or_lit (lab := 378) (e := 3) (cs := #[.int .i64 x376]) (F := E3) (or_new [(38, .int .i64 x376)] rfl rfl ⟨f.1, trivial⟩ (by kernel_rfl)) rfl rfl (show 1 ≤ maxLen by decide))) ?_
        refine sc (fun own a wx hf hsl hE => ?_) ?_
        · obtain ⟨f_35, ⟨⟨A377, cA377⟩, f_39, b_A377⟩, b_A352, -⟩ := hf
          exact px (or_append (R := R3) (lab := 353) (lab2 := 380) (L := []) (L3 := []) tp22 f_35 b_A352 (by decide) f_39 (RwO.rd b_A377) hx379 (by decide) (by decide) (mem_of rfl) (.inl (Rep.fl_flat _)))
        refine sc (fun _ _ _ _ s _ => px (or_move (s.1.trans e371_1))) ?_
        refine sc (fun _ _ _ f _ hE => px (or_view (R := R3) (l := b2) (L := [0]) tu22 ts3 f.1 (Bnd.some_ rfl) Bnd.none_ Bnd.none_ (RdO.evo rfl hE b371_Ab2) hx382 (.inl rfl) (by simp))) ?_
        refine sc (fun own a wx hf hsl hE => ?_) ?_
        · obtain ⟨⟨⟨A381, cA381⟩, (f_40 : a.eval (.tmp 40) = .slice A381 x379.length cA381), b_A381⟩, -⟩ := hf
          exact px (or_mono (f := Fct.val 7 (.slice A381 x379.length cA381)) (or_assign f_40) (fun own' a' w' v' hp h => fun _ _ h0' => by cases (f_40.symm.trans ((hp.2 40 (by decide)).symm.trans h0')); exact h))
        refine sc (fun own a wx hf hsl hE => ?_) ?_
        · obtain ⟨⟨⟨A383, cA383⟩, (f_42 : a.eval (.tmp 42) = .slice A383 x382.length cA383), b_A383⟩, -⟩ := hf
          exact px (or_mono (f := Fct.val 1 (.slice A383 x382.length cA383)) (or_assign f_42) (fun own' a' w' v' hp h => fun _ _ h0' => by cases (f_42.symm.trans ((hp.2 42 (by decide)).symm.trans h0')); exact h))
        exact steps_nil
      intro own384 a384 w384 hd384 hz384 hk384 hf384 hE384
      have e384_0 := (hk384 0 rfl).trans e371_0
      have e384_2 := (hk384 2 rfl).trans e371_2
      obtain ⟨⟨⟨A381, cA381⟩, (f_40 : a384.eval (.tmp 40) = .slice A381 x379.length cA381), (b384_A381 : RwO own384 380 [] w384 3 R3 A381 cA381 x379)⟩, (q_7 : ∀ (A381 : Option Addr) (cA381 : Nat), a384.eval (.tmp 40) = .slice A381 x379.length cA381 → a384.eval (.tmp 7) = .slice A381 x379.length cA381), ⟨⟨A383, cA383⟩, (f_42 : a384.eval (.tmp 42) = .slice A383 x382.length cA383), (b384_A383 : RdO own384 [0] w384 R3 A383 cA383 x382)⟩, (q_1 : ∀ (A383 : Option Addr) (cA383 : Nat), a384.eval (.tmp 42) = .slice A383 x382.length cA383 → a384.eval (.tmp 1) = .slice A383 x382.length cA383), -⟩ := hf384 [5, 8, 7, 9] rfl
      have e384_7 := q_7 _ _ f_40
      have e384_1 := q_1 _ _ f_42
      have hX384 := es_ hX371 hE384
      have b384_Ax1 := RdO.evo rfl hE384 b371_Ax1
      refine fl_goto ?_
      refine hp367 _ _ _ rfl ?_
      exact hj305 (x1, x382, x379) _ _ (show loopO _ _ = _ from hs) ⟨(rl [(380, 261)] own384), Ax1, cx1, A383, cA383, A381, cA381, hd384, hz384, e384_0, e384_1, e384_2, e384_7, (Evo.rl_ hX384 (fun _ => Nat.le_refl 0) rfl), (RdO.rl_ (mm := [(380, 261)]) b384_Ax1), (RdO.rl_ (mm := [(380, 261)]) b384_A383), (RwO.rl_ (mm := [(380, 261)]) b384_A381)⟩
    refine fl_skip ?_
    refine hn367 _ _ ?_
    obtain ⟨x388, hx388, hs⟩ := obind hs
    obtain ⟨x391, hx391, hs⟩ := obind hs
    obtain ⟨x394, hx394, hs⟩ := obind hs
    refine rg_draw_seq g_mixed (n := 51) (rs := [Fct.rowAt 353 [] 3 R3 A352 cA352 x351]) (own0 := own371) (K := [353]) (bs := [0, 0, 2, 6, 14, 31, 0, 64, 63, 511]) (ds := [⟨[], [7], [], Fct.val 43 (.slice A352 x351.length cA352)⟩,     ⟨[], [0], [], Fct.val 44 (.slice Ax1 x1.length cx1)⟩,     ⟨[1], [], [], Fct.val 45 (.pointer (some ((adr Ax1).add ((0 : Int).toNat * R3.s))))⟩,     ⟨[2], [], [], Fct.val 46 (.int .i64 x388)⟩,     ⟨[3], [], [], Fct.row 390 [] 47 3 R3 [x388]⟩,     ⟨[0, 4, 10], [], [353], Fct.row 392 [] 48 3 R3 x391⟩,     ⟨[], [0], [], Fct.val 49 (.slice Ax1 x1.length cx1)⟩,     ⟨[6], [], [], Fct.view [0] 50 R3 x394⟩,     ⟨[5], [], [], Fct.rel [7, 48] (fun l => ∀ (A393 : Option Addr) (cA393 : Nat), l.getD 1 undef = .slice A393 x391.length cA393 → l.getD 0 undef = .slice A393 x391.length cA393)⟩,     ⟨[7], [], [], Fct.rel [0, 50] (fun l => ∀ (A395 : Option Addr) (cA395 : Nat), l.getD 1 undef = .slice A395 x394.length cA395 → l.getD 0 undef = .slice A395 x394.length cA395)⟩]) (by kernel_rfl) hz371 hd371 (by simp only [List.forall_mem_cons]; exact ⟨b371_A352, fun _ h => nomatch h⟩) ?_ ?_
    · refine sc (fun _ _ _ _ s _ => px (or_move (s.1.trans e371_7))) ?_
      refine sc (fun _ _ _ _ s _ => px (or_move (s.1.trans e371_0))) ?_
      refine sc (fun _ _ _ f _ _ => px (or_index (R := R3) (l := x1) tl22 f.1 rfl (RdO.some_ b371_Ax1 hx388) hx388)) ?_
      refine sc (fun _ _ _ f _ hE => px (or_load1 to3 f.1 (CellsAt.zero (RdO.cells (F := E3) (RdO.evo rfl hE b371_Ax1) hx388) rfl))) ?_
      refine sc (fun _ _ _ f _ _ => px (or_lit (lab := 390) (e := 3) (cs := #[.int .i64 x388]) (F := E3) (or_new [(46, .int .i64 x388)] rfl rfl ⟨f.1, trivial⟩ (by kernel_rfl)) rfl rfl (show 1 ≤ maxLen by decide))) ?_
      refine sc (fun own a wx hf hsl hE => ?_) ?_
      · obtain ⟨f_43, ⟨⟨A389, cA389⟩, f_47, b_A389⟩, b_A352, -⟩ := hf
        exact px (or_append (R := R3) (lab := 353) (lab2 := 392) (L := []) (L3 := []) tp22 f_43 b_A352 (by decide) f_47 (RwO.rd b_A389) hx391 (by decide) (by decide) (mem_of rfl) (.inl (Rep.fl_flat _)))
      refine sc (fun _ _ _ _ s _ => px (or_move (s.1.trans e371_0))) ?_
      refine sc (fun _ _ _ f _ hE => px (or_view (R := R3) (l := x1) (L := [0]) tu22 ts3 f.1 (Bnd.some_ rfl) Bnd.none_ Bnd.none_ (RdO.evo rfl hE b371_Ax1) hx394 (.inl rfl) (by simp))) ?_
      refine sc (fun own a wx hf hsl hE => ?_) ?_
      · obtain ⟨⟨⟨A393, cA393⟩, (f_48 : a.eval (.tmp 48) = .slice A393 x391.length cA393), b_A393⟩, -⟩ := hf
        exact px (or_mono (f := Fct.val 7 (.slice A393 x391.length cA393)) (or_assign f_48) (fun own' a' w' v' hp h => fun _ _ h0' => by cases (f_48.symm.trans ((hp.2 48 (by decide)).symm.trans h0')); exact h))
      refine sc (fun own a wx hf hsl hE => ?_) ?_
      · obtain ⟨⟨⟨A395, cA395⟩, (f_50 : a.eval (.tmp 50) = .slice A395 x394.length cA395), b_A395⟩, -⟩ := hf
        exact px (or_mono (f := Fct.val 0 (.slice A395 x394.length cA395)) (or_assign f_50) (fun own' a' w' v' hp h => fun _ _ h0' => by cases (f_50.symm.trans ((hp.2 50 (by decide)).symm.trans h0')); exact h))
      exact steps_nil
    intro own396 a396 w396 hd396 hz396 hk396 hf396 hE396
    have e396_1 := (hk396 1 rfl).trans e371_1
    have e396_2 := (hk396 2 rfl).trans e371_2
    obtain ⟨⟨⟨A393, cA393⟩, (f_48 : a396.eval (.tmp 48) = .slice A393 x391.length cA393), (b396_A393 : RwO own396 392 [] w396 3 R3 A393 cA393 x391)⟩, (q_7 : ∀ (A393 : Option Addr) (cA393 : Nat), a396.eval (.tmp 48) = .slice A393 x391.length cA393 → a396.eval (.tmp 7) = .slice A393 x391.length cA393), ⟨⟨A395, cA395⟩, (f_50 : a396.eval (.tmp 50) = .slice A395 x394.length cA395), (b396_A395 : RdO own396 [0] w396 R3 A395 cA395 x394)⟩, (q_0 : ∀ (A395 : Option Addr) (cA395 : Nat), a396.eval (.tmp 50) = .slice A395 x394.length cA395 → a396.eval (.tmp 0) = .slice A395 x394.length cA395), -⟩ := hf396 [5, 8, 7, 9] rfl
    have e396_7 := q_7 _ _ f_48
    have e396_0 := q_0 _ _ f_50
    have hX396 := es_ hX371 hE396
    have b396_Ab2 := RdO.evo rfl hE396 b371_Ab2
    refine fl_goto ?_
    exact hj305 (x394, b2, x391) _ _ (show loopO _ _ = _ from hs) ⟨(rl [(392, 261)] own396), A395, cA395, Ab2, cb2, A393, cA393, hd396, hz396, e396_0, e396_1, e396_2, e396_7, (Evo.rl_ hX396 (fun _ => Nat.le_refl 0) rfl), (RdO.rl_ (mm := [(392, 261)]) b396_A395), (RdO.rl_ (mm := [(392, 261)]) b396_Ab2), (RwO.rl_ (mm := [(392, 261)]) b396_A393)⟩
  · rintro ⟨x254, b257, out260⟩
    rintro zz305 a306 w306 ⟨own306, A252, c253, A255, c256, A258, c259, hd307, hz307, e307_0, e307_1, e307_2, e307_7, hE307, b307_A252, b307_A255, b307_A258⟩ hs Q306 hj306 hp306 hz306
    have hs : order_merged_int_Uniq_1_b1_0 x254 b257 out260 = some zz305 := hs
    conv => arg 4; whnf
    refine fl_seq (fun Q308 hn308 hp308 => ?_)
    refine fl_skip ?_
    refine hn308 _ _ ?_
    refine fl_seq (fun Q309 hn309 hp309 => ?_)
    obtain ⟨x310, hx310, hs⟩ := obind hs
    refine rg0_seq 51 own306 (bz 8) [⟨[], [0], [], Fct.val 14 (.slice A252 x254.length c253)⟩,     ⟨[0], [], [], Fct.val 15 (.int .i64 (x254.length : Int))⟩,     ⟨[1], [], [], Fct.val 16 (.bool (decide ((x254.length : Int) = 0)))⟩,     ⟨[2], [], [], Fct.val 17 (.bool (decide ((x254.length : Int) = 0)))⟩,     ⟨[3], [1], [], Fct.cond (!(decide ((x254.length : Int) = 0))) (some 18) (Fct.val 18 (.slice A255 b257.length c256))⟩,     ⟨[3, 4], [], [], Fct.cond (!(decide ((x254.length : Int) = 0))) (some 19) (Fct.val 19 (.int .i64 (b257.length : Int)))⟩,     ⟨[3, 5], [], [], Fct.cond (!(decide ((x254.length : Int) = 0))) (some 20) (Fct.val 20 (.bool (decide ((b257.length : Int) = 0))))⟩,     ⟨[3, 6], [], [], Fct.val 21 (.bool x310)⟩] hz307 hd307 (by kernel_rfl) ?_ ?_
    · refine sc (fun _ _ _ _ s _ => px (or_move (s.1.trans e307_0))) ?_
      refine sc (fun _ _ _ f _ _ => px (or_len tu22 f.1 rfl)) ?_
      refine sc (fun _ _ _ f _ _ => px (or_eql f.1 rfl rfl)) ?_
      refine sc (fun _ _ _ f _ _ => px (or_move f.1)) ?_
      refine sc (fun _ _ _ f s _ => sg_f rfl rfl rfl f.1 (fun hg => or_move (s.1.trans e307_1))) ?_
      refine sc (fun _ _ _ f _ _ => sg_f rfl rfl rfl f.1 (fun hg => or_len tu22 (f.2.1.1 hg) rfl)) ?_
      refine sc (fun _ _ _ f _ _ => sg_f rfl rfl rfl f.1 (fun hg => or_eql (f.2.1.1 hg) rfl rfl)) ?_
      refine sc (fun _ _ _ f _ _ => px (or_or f.1 rfl (fun hx => f.2.1.1 hx) (osome hx310).symm)) ?_
      exact steps_nil
    intro own311 a311 w311 hd311 hz311 hk311 hf311 hE311
    have e311_0 := (hk311 0 rfl).trans e307_0
    have e311_1 := (hk311 1 rfl).trans e307_1
    have e311_2 := (hk311 2 rfl).trans e307_2
    have e311_7 := (hk311 7 rfl).trans e307_7
    obtain ⟨(e311_21 : a311.eval (.tmp 21) = .bool x310), -⟩ := hf311 [7] rfl
    have hX311 := es_ hE307 hE311
    have b311_A252 := RdO.evo rfl hE311 b307_A252
    have b311_A255 := RdO.evo rfl hE311 b307_A255
    have b311_A258 := re_ hE311 b307_A258
    refine fl_cond e311_21 hs (fun c312 hs => ?_) (fun c312 hs => ?_)
    · obtain ⟨x313, hx313, hs⟩ := obind hs
      obtain ⟨x316, hx316, hs⟩ := obind hs
      refine rg_plain_seq (n := 51) (rs := [Fct.rowAt 261 [] 3 R3 A258 c259 out260]) (own0 := own311) (K := [261, 314]) (bs := [0, 0, 3, 0, 15, 31]) (ds := [⟨[], [7], [], Fct.val 22 (.slice A258 out260.length c259)⟩,     ⟨[], [0], [], Fct.val 23 (.slice A252 x254.length c253)⟩,     ⟨[0, 1, 6], [], [261], Fct.row 314 [] 24 3 R3 x313⟩,     ⟨[], [1], [], Fct.val 25 (.slice A255 b257.length c256)⟩,     ⟨[2, 3], [], [314], Fct.row 317 [] 26 3 R3 x316⟩,     ⟨[4], [], [], Fct.rel [6, 26] (fun l => ∀ (A318 : Option Addr) (cA318 : Nat), l.getD 1 undef = .slice A318 x316.length cA318 → l.getD 0 undef = .slice A318 x316.length cA318)⟩]) (by kernel_rfl) hz311 hd311 (by simp only [List.forall_mem_cons]; exact ⟨b311_A258, fun _ h => nomatch h⟩) ?_ ?_
      · refine sc (fun _ _ _ _ s _ => px (or_move (s.1.trans e311_7))) ?_
        refine sc (fun _ _ _ _ s _ => px (or_move (s.1.trans e311_0))) ?_
        refine sc (fun own a wx hf hsl hE => ?_) ?_
        · obtain ⟨f_22, f_23, b_A258, -⟩ := hf
          exact px (or_append (R := R3) (lab := 261) (lab2 := 314) (L := []) (L3 := []) tp22 f_22 b_A258 (by decide) f_23 (RdO.evo rfl hE b311_A252) hx313 (by decide) (by decide) (mem_of rfl) (.inl (Rep.fl_flat _)))
        refine sc (fun _ _ _ _ s _ => px (or_move (s.1.trans e311_1))) ?_
        refine sc (fun own a wx hf hsl hE => ?_) ?_
        · obtain ⟨⟨⟨A315, cA315⟩, f_24, b_A315⟩, f_25, -⟩ := hf
          exact px (or_append (R := R3) (lab := 314) (lab2 := 317) (L := []) (L3 := []) tp22 f_24 b_A315 (by decide) f_25 (RdO.evo rfl hE b311_A255) hx316 (by decide) (by decide) (mem_of rfl) (.inl (Rep.fl_flat _)))
        refine sc (fun own a wx hf hsl hE => ?_) ?_
        · obtain ⟨⟨⟨A318, cA318⟩, (f_26 : a.eval (.tmp 26) = .slice A318 x316.length cA318), b_A318⟩, -⟩ := hf
          exact px (or_mono (f := Fct.val 6 (.slice A318 x316.length cA318)) (or_assign f_26) (fun own' a' w' v' hp h => fun _ _ h0' => by cases (f_26.symm.trans ((hp.2 26 (by decide)).symm.trans h0')); exact h))
        exact steps_nil
      intro own319 a319 w319 hd319 hz319 hk319 hf319 hE319
      obtain ⟨⟨⟨A318, cA318⟩, (f_26 : a319.eval (.tmp 26) = .slice A318 x316.length cA318), (b319_A318 : RwO own319 317 [] w319 3 R3 A318 cA318 x316)⟩, (q_6 : ∀ (A318 : Option Addr) (cA318 : Nat), a319.eval (.tmp 26) = .slice A318 x316.length cA318 → a319.eval (.tmp 6) = .slice A318 x316.length cA318), -⟩ := hf319 [4, 5] rfl
      have e319_6 := q_6 _ _ f_26
      have hX319 := es_ hX311 hE319
      refine fl_ret ?_
      refine hp309 _ _ _ rfl ?_
      replace hs := hz306 _ hs
      refine hp306.leaves _ _ _ rfl ?_
      obtain rfl := (osome hs).symm
      exact hret _ _ _ _ (.inl rfl) hd319 (results1_ rfl (RVal.tmp_ e319_6)) ⟨(rl [(317, 1)] own319), (A318, cA318), rfl, (Evo.rl_ hX319 (fun _ => Nat.le_refl 0) rfl), (RwO.rl_ (mm := [(317, 1)]) b319_A318)⟩
    refine fl_skip ?_
    refine hn309 _ _ ?_
    refine fl_seq (fun Q320 hn320 hp320 => ?_)
    obtain ⟨x321, hx321, hs⟩ := obind hs
    obtain ⟨x322, hx322, hs⟩ := obind hs
    obtain ⟨r323, hr323, hs⟩ := obind hs
    refine rg_draw_seq g_mixed (n := 51) (rs := []) (own0 := own311) (K := []) (bs := [0, 0, 2, 6, 0, 16, 48, 127]) (ds := [⟨[], [2], [], Fct.val 27 (.func (.func 68) #[] #[])⟩,     ⟨[], [1], [], Fct.val 28 (.slice A255 b257.length c256)⟩,     ⟨[1], [], [], Fct.val 29 (.pointer (some ((adr A255).add ((0 : Int).toNat * R3.s))))⟩,     ⟨[2], [], [], Fct.val 30 (.int .i64 x321)⟩,     ⟨[], [0], [], Fct.val 31 (.slice A252 x254.length c253)⟩,     ⟨[4], [], [], Fct.val 32 (.pointer (some ((adr A252).add ((0 : Int).toNat * R3.s))))⟩,     ⟨[5], [], [], Fct.val 33 (.int .i64 x322)⟩,     ⟨[0, 3, 6], [], [], Fct.val 34 (.bool r323)⟩]) (by kernel_rfl) hz311 hd311 nm_ ?_ ?_
    · refine sc (fun _ _ _ _ s _ => px (or_move (s.1.trans e311_2))) ?_
      refine sc (fun _ _ _ _ s _ => px (or_move (s.1.trans e311_1))) ?_
      refine sc (fun _ _ _ f _ _ => px (or_index (R := R3) (l := b257) tl22 f.1 rfl (RdO.some_ b311_A255 hx321) hx321)) ?_
      refine sc (fun _ _ _ f _ hE => px (or_load1 to3 f.1 (CellsAt.zero (RdO.cells (F := E3) (RdO.evo rfl hE b311_A255) hx321) rfl))) ?_
      refine sc (fun _ _ _ _ s _ => px (or_move (s.1.trans e311_0))) ?_
      refine sc (fun _ _ _ f _ _ => px (or_index (R := R3) (l := x254) tl22 f.1 rfl (RdO.some_ b311_A252 hx322) hx322)) ?_
      refine sc (fun _ _ _ f _ hE => px (or_load1 to3 f.1 (CellsAt.zero (RdO.cells (F := E3) (RdO.evo rfl hE b311_A252) hx322) rfl))) ?_
      refine sc (fun _ _ _ f _ _ => px (or_callf cf68 f.1 (args2 f.2.1 f.2.2.1) rfl (order_Uniq_1_w _ x321 x322  r323 hr323) post_val)) ?_
      exact steps_nil
    intro own324 a324 w324 hd324 hz324 hk324 hf324 hE324
    have e324_0 := (hk324 0 rfl).trans e311_0
    have e324_1 := (hk324 1 rfl).trans e311_1
    have e324_2 := (hk324 2 rfl).trans e311_2
    have e324_7 := (hk324 7 rfl).trans e311_7
    obtain ⟨(e324_34 : a324.eval (.tmp 34) = .bool r323), -⟩ := hf324 [7] rfl
    have hX324 := es_ hX311 hE324
    have b324_A252 := RdO.evo rfl hE324 b311_A252
    have b324_A255 := RdO.evo rfl hE324 b311_A255
    have b324_A258 := re_ hE324 b311_A258
    refine fl_cond e324_34 hs (fun c325 hs => ?_) (fun c325 hs => ?_)
    · obtain ⟨x329, hx329, hs⟩ := obind hs
      obtain ⟨x332, hx332, hs⟩ := obind hs
      obtain ⟨x335, hx335, hs⟩ := obind hs
      refine rg_draw_seq g_mixed (n := 51) (rs := [Fct.rowAt 261 [] 3 R3 A258 c259 out260]) (own0 := own324) (K := [261]) (bs := [0, 0, 2, 6, 14, 31, 0, 64, 63, 511]) (ds := [⟨[], [7], [], Fct.val 35 (.slice A258 out260.length c259)⟩,     ⟨[], [1], [], Fct.val 36 (.slice A255 b257.length c256)⟩,     ⟨[1], [], [], Fct.val 37 (.pointer (some ((adr A255).add ((0 : Int).toNat * R3.s))))⟩,     ⟨[2], [], [], Fct.val 38 (.int .i64 x329)⟩,     ⟨[3], [], [], Fct.row 331 [] 39 3 R3 [x329]⟩,     ⟨[0, 4, 10], [], [261], Fct.row 333 [] 40 3 R3 x332⟩,     ⟨[], [1], [], Fct.val 41 (.slice A255 b257.length c256)⟩,     ⟨[6], [], [], Fct.view [0] 42 R3 x335⟩,     ⟨[5], [], [], Fct.rel [7, 40] (fun l => ∀ (A334 : Option Addr) (cA334 : Nat), l.getD 1 undef = .slice A334 x332.length cA334 → l.getD 0 undef = .slice A334 x332.length cA334)⟩,     ⟨[7], [], [], Fct.rel [1, 42] (fun l => ∀ (A336 : Option Addr) (cA336 : Nat), l.getD 1 undef = .slice A336 x335.length cA336 → l.getD 0 undef = .slice A336 x335.length cA336)⟩]) (by kernel_rfl) hz324 hd324 (by simp only [List.forall_mem_cons]; exact ⟨b324_A258, fun _ h => nomatch h⟩) ?_ ?_
      · refine sc (fun _ _ _ _ s _ => px (or_move (s.1.trans e324_7))) ?_
        refine sc (fun _ _ _ _ s _ => px (or_move (s.1.trans e324_1))) ?_
        refine sc (fun _ _ _ f _ _ => px (or_index (R := R3) (l := b257) tl22 f.1 rfl (RdO.some_ b324_A255 hx329) hx329)) ?_
        refine sc (fun _ _ _ f _ hE => px (or_load1 to3 f.1 (CellsAt.zero (RdO.cells (F := E3) (RdO.evo rfl hE b324_A255) hx329) rfl))) ?_
        refine sc (fun _ _ _ f _ _ => px (or_lit (lab := 331) (e := 3) (cs := #[.int .i64 x329]) (F := E3) (or_new [(38, .int .i64 x329)] rfl rfl ⟨f.1, trivial⟩ (by kernel_rfl)) rfl rfl (show 1 ≤ maxLen by decide))) ?_
        refine sc (fun own a wx hf hsl hE => ?_) ?_
        · obtain ⟨f_35, ⟨⟨A330, cA330⟩, f_39, b_A330⟩, b_A258, -⟩ := hf
          exact px (or_append (R := R3) (lab := 261) (lab2 := 333) (L := []) (L3 := []) tp22 f_35 b_A258 (by decide) f_39 (RwO.rd b_A330) hx332 (by decide) (by decide) (mem_of rfl) (.inl (Rep.fl_flat _)))
        refine sc (fun _ _ _ _ s _ => px (or_move (s.1.trans e324_1))) ?_
        refine sc (fun _ _ _ f _ hE => px (or_view (R := R3) (l := b257) (L := [0]) tu22 ts3 f.1 (Bnd.some_ rfl) Bnd.none_ Bnd.none_ (RdO.evo rfl hE b324_A255) hx335 (.inl rfl) (by simp))) ?_
        refine sc (fun own a wx hf hsl hE => ?_) ?_
        · obtain ⟨⟨⟨A334, cA334⟩, (f_40 : a.eval (.tmp 40) = .slice A334 x332.length cA334), b_A334⟩, -⟩ := hf
          exact px (or_mono (f := Fct.val 7 (.slice A334 x332.length cA334)) (or_assign f_40) (fun own' a' w' v' hp h => fun _ _ h0' => by cases (f_40.symm.trans ((hp.2 40 (by decide)).symm.trans h0')); exact h))
        refine sc (fun own a wx hf hsl hE => ?_) ?_
        · obtain ⟨⟨⟨A336, cA336⟩, (f_42 : a.eval (.tmp 42) = .slice A336 x335.length cA336), b_A336⟩, -⟩ := hf
          exact px (or_mono (f := Fct.val 1 (.slice A336 x335.length cA336)) (or_assign f_42) (fun own' a' w' v' hp h => fun _ _ h0' => by cases (f_42.symm.trans ((hp.2 42 (by decide)).symm.trans h0')); exact h))
        exact steps_nil
      intro own337 a337 w337 hd337 hz337 hk337 hf337 hE337
      have e337_0 := (hk337 0 rfl).trans e324_0
      have e337_2 := (hk337 2 rfl).trans e324_2
      obtain ⟨⟨⟨A334, cA334⟩, (f_40 : a337.eval (.tmp 40) = .slice A334 x332.length cA334), (b337_A334 : RwO own337 333 [] w337 3 R3 A334 cA334 x332)⟩, (q_7 : ∀ (A334 : Option Addr) (cA334 : Nat), a337.eval (.tmp 40) = .slice A334 x332.length cA334 → a337.eval (.tmp 7) = .slice A334 x332.length cA334), ⟨⟨A336, cA336⟩, (f_42 : a337.eval (.tmp 42) = .slice A336 x335.length cA336), (b337_A336 : RdO own337 [0] w337 R3 A336 cA336 x335)⟩, (q_1 : ∀ (A336 : Option Addr) (cA336 : Nat), a337.eval (.tmp 42) = .slice A336 x335.length cA336 → a337.eval (.tmp 1) = .slice A336 x335.length cA336), -⟩ := hf337 [5, 8, 7, 9] rfl
      have e337_7 := q_7 _ _ f_40
      have e337_1 := q_1 _ _ f_42
      have hX337 := es_ hX324 hE337
      have b337_A252 := RdO.evo rfl hE337 b324_A252
      refine fl_goto ?_
      refine hp320 _ _ _ rfl ?_
      exact hj306 (x254, x335, x332) _ _ hs ⟨(rl [(333, 261)] own337), A252, c253, A336, cA336, A334, cA334, hd337, hz337, e337_0, e337_1, e337_2, e337_7, (Evo.rl_ hX337 (fun _ => Nat.le_refl 0) rfl), (RdO.rl_ (mm := [(333, 261)]) b337_A252), (RdO.rl_ (mm := [(333, 261)]) b337_A336), (RwO.rl_ (mm := [(333, 261)]) b337_A334)⟩
    refine fl_skip ?_
    refine hn320 _ _ ?_
    obtain ⟨x341, hx341, hs⟩ := obind hs
    obtain ⟨x344, hx344, hs⟩ := obind hs
    obtain ⟨x347, hx347, hs⟩ := obind hs
    refine rg_draw_seq g_mixed (n := 51) (rs := [Fct.rowAt 261 [] 3 R3 A258 c259 out260]) (own0 := own324) (K := [261]) (bs := [0, 0, 2, 6, 14, 31, 0, 64, 63, 511]) (ds := [⟨[], [7], [], Fct.val 43 (.slice A258 out260.length c259)⟩,     ⟨[], [0], [], Fct.val 44 (.slice A252 x254.length c253)⟩,     ⟨[1], [], [], Fct.val 45 (.pointer (some ((adr A252).add ((0 : Int).toNat * R3.s))))⟩,     ⟨[2], [], [], Fct.val 46 (.int .i64 x341)⟩,     ⟨[3], [], [], Fct.row 343 [] 47 3 R3 [x341]⟩,     ⟨[0, 4, 10], [], [261], Fct.row 345 [] 48 3 R3 x344⟩,     ⟨[], [0], [], Fct.val 49 (.slice A252 x254.length c253)⟩,     ⟨[6], [], [], Fct.view [0] 50 R3 x347⟩,     ⟨[5], [], [], Fct.rel [7, 48] (fun l => ∀ (A346 : Option Addr) (cA346 : Nat), l.getD 1 undef = .slice A346 x344.length cA346 → l.getD 0 undef = .slice A346 x344.length cA346)⟩,     ⟨[7], [], [], Fct.rel [0, 50] (fun l => ∀ (A348 : Option Addr) (cA348 : Nat), l.getD 1 undef = .slice A348 x347.length cA348 → l.getD 0 undef = .slice A348 x347.length cA348)⟩]) (by kernel_rfl) hz324 hd324 (by simp only [List.forall_mem_cons]; exact ⟨b324_A258, fun _ h => nomatch h⟩) ?_ ?_
    · refine sc (fun _ _ _ _ s _ => px (or_move (s.1.trans e324_7))) ?_
      refine sc (fun _ _ _ _ s _ => px (or_move (s.1.trans e324_0))) ?_
      refine sc (fun _ _ _ f _ _ => px (or_index (R := R3) (l := x254) tl22 f.1 rfl (RdO.some_ b324_A252 hx341) hx341)) ?_
      refine sc (fun _ _ _ f _ hE => px (or_load1 to3 f.1 (CellsAt.zero (RdO.cells (F := E3) (RdO.evo rfl hE b324_A252) hx341) rfl))) ?_
      refine sc (fun _ _ _ f _ _ => px (or_lit (lab := 343) (e := 3) (cs := #[.int .i64 x341]) (F := E3) (or_new [(46, .int .i64 x341)] rfl rfl ⟨f.1, trivial⟩ (by kernel_rfl)) rfl rfl (show 1 ≤ maxLen by decide))) ?_
      refine sc (fun own a wx hf hsl hE => ?_) ?_
      · obtain ⟨f_43, ⟨⟨A342, cA342⟩, f_47, b_A342⟩, b_A258, -⟩ := hf
        exact px (or_append (R := R3) (lab := 261) (lab2 := 345) (L := []) (L3 := []) tp22 f_43 b_A258 (by decide) f_47 (RwO.rd b_A342) hx344 (by decide) (by decide) (mem_of rfl) (.inl (Rep.fl_flat _)))
      refine sc (fun _ _ _ _ s _ => px (or_move (s.1.trans e324_0))) ?_
      refine sc (fun _ _ _ f _ hE => px (or_view (R := R3) (l := x254) (L := [0]) tu22 ts3 f.1 (Bnd.some_ rfl) Bnd.none_ Bnd.none_ (RdO.evo rfl hE b324_A252) hx347 (.inl rfl) (by simp))) ?_
      refine sc (fun own a wx hf hsl hE => ?_) ?_
      · obtain ⟨⟨⟨A346, cA346⟩, (f_48 : a.eval (.tmp 48) = .slice A346 x344.length cA346), b_A346⟩, -⟩ := hf
        exact px (or_mono (f := Fct.val 7 (.slice A346 x344.length cA346)) (or_assign f_48) (fun own' a' w' v' hp h => fun _ _ h0' => by cases (f_48.symm.trans ((hp.2 48 (by decide)).symm.trans h0')); exact h))
      refine sc (fun own a wx hf hsl hE => ?_) ?_
      · obtain ⟨⟨⟨A348, cA348⟩, (f_50 : a.eval (.tmp 50) = .slice A348 x347.length cA348), b_A348⟩, -⟩ := hf
        exact px (or_mono (f := Fct.val 0 (.slice A348 x347.length cA348)) (or_assign f_50) (fun own' a' w' v' hp h => fun _ _ h0' => by cases (f_50.symm.trans ((hp.2 50 (by decide)).symm.trans h0')); exact h))
      exact steps_nil
    intro own349 a349 w349 hd349 hz349 hk349 hf349 hE349
    have e349_1 := (hk349 1 rfl).trans e324_1
    have e349_2 := (hk349 2 rfl).trans e324_2
    obtain ⟨⟨⟨A346, cA346⟩, (f_48 : a349.eval (.tmp 48) = .slice A346 x344.length cA346), (b349_A346 : RwO own349 345 [] w349 3 R3 A346 cA346 x344)⟩, (q_7 : ∀ (A346 : Option Addr) (cA346 : Nat), a349.eval (.tmp 48) = .slice A346 x344.length cA346 → a349.eval (.tmp 7) = .slice A346 x344.length cA346), ⟨⟨A348, cA348⟩, (f_50 : a349.eval (.tmp 50) = .slice A348 x347.length cA348), (b349_A348 : RdO own349 [0] w349 R3 A348 cA348 x347)⟩, (q_0 : ∀ (A348 : Option Addr) (cA348 : Nat), a349.eval (.tmp 50) = .slice A348 x347.length cA348 → a349.eval (.tmp 0) = .slice A348 x347.length cA348), -⟩ := hf349 [5, 8, 7, 9] rfl
    have e349_7 := q_7 _ _ f_48
    have e349_0 := q_0 _ _ f_50
    have hX349 := es_ hX324 hE349
    have b349_A255 := RdO.evo rfl hE349 b324_A255
    refine fl_goto ?_
    exact hj306 (x347, b257, x344) _ _ hs ⟨(rl [(345, 261)] own349), A348, cA348, A255, c256, A346, cA346, hd349, hz349, e349_0, e349_1, e349_2, e349_7, (Evo.rl_ hX349 (fun _ => Nat.le_refl 0) rfl), (RdO.rl_ (mm := [(345, 261)]) b349_A348), (RdO.rl_ (mm := [(345, 261)]) b349_A255), (RwO.rl_ (mm := [(345, 261)]) b349_A346)⟩
theorem order_sorted_int_Uniq_1_w (w : World) (l1 : List Int) (Al1 : Option Addr) (cl1 : Nat) (hl1 : RdO (fun _ => 0) [0] w R3 Al1 cl1 l1) (r : List Int) (hs : order_sorted_int_Uniq_1 l1 = some r) :
    Calls Try.prog 67 #[.slice Al1 l1.length cl1, .func (.func 68) #[] #[]] w fun e w' => ∃ (own' : Own) (x : Option Addr × Nat), e = .returned (.slice x.1 r.length x.2) ∧ Evo [] (fun _ => 0) own' w w' ∧ RwO own' 1 [] w' 3 R3 x.1 x.2 r := by
  refine fl_enter (n := 54) rfl rfl rfl (Nat.le_of_ble_eq_true rfl) ?_
  intro a0 Q hd0 hz0 harg hret
  have ha0 := harg 0 _ rfl
  have ha1 := harg 1 _ rfl
  clear harg
  have hE0 : Evo [] (fun _ => 0) (fun _ => 0) w w := Evo.refl _ _ _
  refine rg0_seq 54 (fun _ => 0) (bz 1) [⟨[], [], [], Fct.val 4 (.slice none 0 0)⟩] hz0 hd0 (by kernel_rfl) ?_ ?_
  · refine sc (fun _ _ _ _ _ _ => px (or_assign rfl)) ?_
    exact steps_nil
  intro own339 a339 w339 hd339 hz339 hk339 hf339 hE339
  have e339_0 := (hk339 0 rfl).trans ha0
  have e339_1 := (hk339 1 rfl).trans ha1
  have hX339 := es_ hE0 hE339
  have b339_Al1 := RdO.evo rfl hE339 hl1
  obtain ⟨r340, hr340, hs⟩ := obind hs
  refine rg0_seq 54 own339 (bz 3) [⟨[], [0], [], Fct.val 9 (.slice Al1 l1.length cl1)⟩,     ⟨[0], [], [], Fct.row 342 [] 10 3 R3 r340⟩,     ⟨[1], [], [], Fct.rel [5, 10] (fun l => ∀ (A341 : Option Addr) (cA341 : Nat), l.getD 1 undef = .slice A341 r340.length cA341 → l.getD 0 undef = .slice A341 r340.length cA341)⟩] hz339 hd339 (by kernel_rfl) ?_ ?_
  · refine sc (fun _ _ _ _ s _ => px (or_move (s.1.trans e339_0))) ?_
    refine sc (fun _ _ _ f _ hE => px (or_call cf72 (args1 f.1) (slices_Clone_int_int_w _ l1 Al1 cl1 (RdO.zero (RdO.evo rfl hE b339_Al1)) r340 hr340) (post_row (m' := (look0 [(1, 342)])) (.inl (Rep.fl_flat _)) rfl rfl (fun _ => rfl)))) ?_
    refine sc (fun own a wx hf hsl hE => ?_) ?_
    · obtain ⟨⟨⟨A341, cA341⟩, (f_10 : a.eval (.tmp 10) = .slice A341 r340.length cA341), b_A341⟩, -⟩ := hf
      exact px (or_mono (f := Fct.val 5 (.slice A341 r340.length cA341)) (or_assign f_10) (fun own' a' w' v' hp h => fun _ _ h0' => by cases (f_10.symm.trans ((hp.2 10 (by decide)).symm.trans h0')); exact h))
    exact steps_nil
  intro own343 a343 w343 hd343 hz343 hk343 hf343 hE343
  have e343_1 := (hk343 1 rfl).trans e339_1
  obtain ⟨⟨⟨A341, cA341⟩, (f_10 : a343.eval (.tmp 10) = .slice A341 r340.length cA341), (b343_A341 : RwO own343 342 [] w343 3 R3 A341 cA341 r340)⟩, (q_5 : ∀ (A341 : Option Addr) (cA341 : Nat), a343.eval (.tmp 10) = .slice A341 r340.length cA341 → a343.eval (.tmp 5) = .slice A341 r340.length cA341), -⟩ := hf343 [1, 2] rfl
  have e343_5 := q_5 _ _ f_10
  have hX343 := es_ hX339 hE343
  refine fl_seq (fun Q344 hn344 hp344 => ?_)
  refine rg0_seq 54 own343 (bz 1) [⟨[], [], [], Fct.val 6 (.int .i64 1)⟩] hz343 hd343 (by kernel_rfl) ?_ ?_
  · refine sc (fun _ _ _ _ _ _ => px (or_assign rfl)) ?_
    exact steps_nil
  intro own345 a345 w345 hd345 hz345 hk345 hf345 hE345
  have e345_1 := (hk345 1 rfl).trans e343_1
  have e345_5 := (hk345 5 rfl).trans e343_5
  obtain ⟨(e345_6 : a345.eval (.tmp 6) = .int .i64 1), -⟩ := hf345 [0] rfl
  have hX345 := es_ hX343 hE345
  have b345_A341 := re_ hE345 b343_A341
  refine fl_block (fun Q346 hn346 hx346 hp346 => ?_)
  refine fl_loop (body := (fun s => order_sorted_int_Uniq_1_b1 s.1 s.2)) (z := r) (show loopO _ _ = _ from hs) (fun (s : (List Int) × Int) a wx => match s with | (out450, run452) => ∃ (ox : Own), a.defers = [] ∧ a.tmps.size = 54 ∧ a.eval (.tmp 1) = .func (.func 68) #[] #[] ∧ a.eval (.tmp 5) = .slice A341 out450.length cA341 ∧ a.eval (.tmp 6) = .int .i64 run452 ∧ Evo [] (fun _ => 0) ox w wx ∧ RwO ox 451 [] wx 3 R3 A341 cA341 out450) ?_ ?_
  · exact ⟨(rl [(342, 451)] own345), hd345, hz345, e345_1, e345_5, e345_6, (Evo.rl_ hX345 (fun _ => Nat.le_refl 0) rfl), (RwO.rl_ (mm := [(342, 451)]) b345_A341)⟩
  · rintro ⟨out450, run452⟩ zz559 a559 w559 ⟨own559, hd560, hz560, e560_1, e560_5, e560_6, hE560, b560_A341⟩ hs Q559 hn559 hp559 hz559
    have hs : order_sorted_int_Uniq_1_b1 out450 run452 = some zz559 := hs
    refine fl_seq (fun Q561 hn561 hp561 => ?_)
    refine rg0_seq 54 own559 [0, 0, 2, 7] [⟨[], [6], [], Fct.val 11 (.int .i64 run452)⟩,     ⟨[], [5], [], Fct.val 12 (.slice A341 out450.length cA341)⟩,     ⟨[1], [], [], Fct.val 13 (.int .i64 (out450.length : Int))⟩,     ⟨[0, 2], [], [], Fct.val 14 (.bool (decide (run452 < (out450.length : Int))))⟩] hz560 hd560 (by kernel_rfl) ?_ ?_
    · refine sc (fun _ _ _ _ s _ => px (or_move (s.1.trans e560_6))) ?_
      refine sc (fun _ _ _ _ s _ => px (or_move (s.1.trans e560_5))) ?_
      refine sc (fun _ _ _ f _ _ => px (or_len tu22 f.1 rfl)) ?_
      refine sc (fun _ _ _ f _ _ => px (or_lss f.1 f.2.1 rfl)) ?_
      exact steps_nil
    intro own562 a562 w562 hd562 hz562 hk562 hf562 hE562
    have e562_1 := (hk562 1 rfl).trans e560_1
    have e562_5 := (hk562 5 rfl).trans e560_5
    have e562_6 := (hk562 6 rfl).trans e560_6
    obtain ⟨(e562_14 : a562.eval (.tmp 14) = .bool (decide (run452 < (out450.length : Int)))), -⟩ := hf562 [3] rfl
    have hX562 := es_ hE560 hE562
    have b562_A341 := re_ hE562 b560_A341
    refine fl_cond e562_14 hs (fun c563 hs => ?_) (fun c563 hs => ?_)
    · refine fl_skip ?_
      refine hn561 _ _ ?_
      refine fl_seq (fun Q564 hn564 hp564 => ?_)
      refine fl_block (fun Q565 hn565 hx565 hp565 => ?_)
      refine rg0_seq 54 own562 (bz 1) [⟨[], [], [], Fct.val 7 (.int .i64 0)⟩] hz562 hd562 (by kernel_rfl) ?_ ?_
      · refine sc (fun _ _ _ _ _ _ => px (or_assign rfl)) ?_
        exact steps_nil
      intro own566 a566 w566 hd566 hz566 hk566 hf566 hE566
      have e566_1 := (hk566 1 rfl).trans e562_1
      have e566_5 := (hk566 5 rfl).trans e562_5
      have e566_6 := (hk566 6 rfl).trans e562_6
      obtain ⟨(e566_7 : a566.eval (.tmp 7) = .int .i64 0), -⟩ := hf566 [0] rfl
      have hX566 := es_ hX562 hE566
      have b566_A341 := re_ hE566 b562_A341
      refine fl_block (fun Q567 hn567 hx567 hp567 => ?_)
      refine fl_loop (body := (fun s => order_sorted_int_Uniq_1_b2 run452 s.1 s.2)) (z := zz559) (show loopO _ _ = _ from hs) (fun (s : (List Int) × Int) a wx => match s with | (out599, x601) => ∃ (ox : Own), a.defers = [] ∧ a.tmps.size = 54 ∧ a.eval (.tmp 1) = .func (.func 68) #[] #[] ∧ a.eval (.tmp 5) = .slice A341 out599.length cA341 ∧ a.eval (.tmp 6) = .int .i64 run452 ∧ a.eval (.tmp 7) = .int .i64 x601 ∧ Evo [] (fun _ => 0) ox w wx ∧ RwO ox 600 [] wx 3 R3 A341 cA341 out599) ?_ ?_
      · exact ⟨(rl [(451, 600)] own566), hd566, hz566, e566_1, e566_5, e566_6, e566_7, (Evo.rl_ hX566 (fun _ => Nat.le_refl 0) rfl), (RwO.rl_ (mm := [(451, 600)]) b566_A341)⟩
      · rintro ⟨out599, x601⟩ zz633 a633 w633 ⟨own633, hd634, hz634, e634_1, e634_5, e634_6, e634_7, hE634, b634_A341⟩ hs Q633 hn633 hp633 hz633
        have hs : order_sorted_int_Uniq_1_b2 run452 out599 x601 = some zz633 := hs
        refine fl_seq (fun Q635 hn635 hp635 => ?_)
        refine rg0_seq 54 own633 [0, 0, 3, 0, 8, 31] [⟨[], [7], [], Fct.val 17 (.int .i64 x601)⟩,     ⟨[], [6], [], Fct.val 18 (.int .i64 run452)⟩,     ⟨[0, 1], [], [], Fct.val 19 (.int .i64 (ad x601 run452))⟩,     ⟨[], [5], [], Fct.val 20 (.slice A341 out599.length cA341)⟩,     ⟨[3], [], [], Fct.val 21 (.int .i64 (out599.length : Int))⟩,     ⟨[2, 4], [], [], Fct.val 22 (.bool (decide ((ad x601 run452) < (out599.length : Int))))⟩] hz634 hd634 (by kernel_rfl) ?_ ?_
        · refine sc (fun _ _ _ _ s _ => px (or_move (s.1.trans e634_7))) ?_
          refine sc (fun _ _ _ _ s _ => px (or_move (s.1.trans e634_6))) ?_
          refine sc (fun _ _ _ f _ _ => px (or_add f.1 f.2.1 rfl)) ?_
          refine sc (fun _ _ _ _ s _ => px (or_move (s.1.trans e634_5))) ?_
          refine sc (fun _ _ _ f _ _ => px (or_len tu22 f.1 rfl)) ?_
          refine sc (fun _ _ _ f _ _ => px (or_lss f.1 f.2.1 rfl)) ?_
          exact steps_nil
        intro own636 a636 w636 hd636 hz636 hk636 hf636 hE636
        have e636_1 := (hk636 1 rfl).trans e634_1
        have e636_5 := (hk636 5 rfl).trans e634_5
        have e636_6 := (hk636 6 rfl).trans e634_6
        have e636_7 := (hk636 7 rfl).trans e634_7
        obtain ⟨(e636_22 : a636.eval (.tmp 22) = .bool (decide ((ad x601 run452) < (out599.length : Int)))), -⟩ := hf636 [5] rfl
        have hX636 := es_ hE634 hE636
        have b636_A341 := re_ hE636 b634_A341
        refine fl_cond e636_22 hs (fun c637 hs => ?_) (fun c637 hs => ?_)
        · refine fl_skip ?_
          refine hn635 _ _ ?_
          refine fl_seq (fun Q638 hn638 hp638 => ?_)
          refine fl_block (fun Q639 hn639 hx639 hp639 => ?_)
          obtain ⟨x640, hx640, hs⟩ := obind hs
          refine rg0_seq 54 own636 [0, 0, 2, 7, 0, 16, 63, 127] [⟨[], [7], [], Fct.val 27 (.int .i64 x601)⟩,     ⟨[], [6], [], Fct.val 28 (.int .i64 run452)⟩,     ⟨[1], [], [], Fct.val 29 (.int .i64 (ml 2 run452))⟩,     ⟨[0, 2], [], [], Fct.val 30 (.int .i64 (ad x601 (ml 2 run452)))⟩,     ⟨[], [5], [], Fct.val 31 (.slice A341 out599.length cA341)⟩,     ⟨[4], [], [], Fct.val 32 (.int .i64 (out599.length : Int))⟩,     ⟨[3, 5], [], [], Fct.val 33 (.int .i64 x640)⟩,     ⟨[6], [], [], Fct.val 8 (.int .i64 x640)⟩] hz636 hd636 (by kernel_rfl) ?_ ?_
          · refine sc (fun _ _ _ _ s _ => px (or_move (s.1.trans e636_7))) ?_
            refine sc (fun _ _ _ _ s _ => px (or_move (s.1.trans e636_6))) ?_
            refine sc (fun _ _ _ f _ _ => px (or_mul rfl f.1 rfl)) ?_
            refine sc (fun _ _ _ f _ _ => px (or_add f.1 f.2.1 rfl)) ?_
            refine sc (fun _ _ _ _ s _ => px (or_move (s.1.trans e636_5))) ?_
            refine sc (fun _ _ _ f _ _ => px (or_len tu22 f.1 rfl)) ?_
            refine sc (fun _ _ _ f _ _ => px (or_eq_ (osome hx640).symm (or_min f.1 f.2.1))) ?_
            refine sc (fun _ _ _ f _ _ => px (or_assign f.1)) ?_
            exact steps_nil
          intro own641 a641 w641 hd641 hz641 hk641 hf641 hE641
          have e641_1 := (hk641 1 rfl).trans e636_1
          have e641_5 := (hk641 5 rfl).trans e636_5
          have e641_6 := (hk641 6 rfl).trans e636_6
          have e641_7 := (hk641 7 rfl).trans e636_7
          obtain ⟨(e641_8 : a641.eval (.tmp 8) = .int .i64 x640), -⟩ := hf641 [7] rfl
          have hX641 := es_ hX636 hE641
          have b641_A341 := re_ hE641 b636_A341
          obtain ⟨x651, hx651, hs⟩ := obind hs
          obtain ⟨x653, hx653, hs⟩ := obind hs
          obtain ⟨x655, hx655, hs⟩ := obind hs
          obtain ⟨r657, hr657, hs⟩ := obind hs
          obtain ⟨l660, hl660, hs⟩ := obind hs
          refine rg_draw g_mixed (n := 54) (rs := [Fct.rowAt 600 [] 3 R3 A341 cA341 out599]) (own0 := own641) (K := [600]) (bs := [0, 0, 0, 7, 0, 0, 0, 0, 192, 496, 0, 0, 0, 6144, 0, 31744, 0, 131056, 262143]) (ds := [⟨[], [5], [], Fct.val 34 (.slice A341 out599.length cA341)⟩,     ⟨[], [7], [], Fct.val 35 (.int .i64 x601)⟩,     ⟨[], [8], [], Fct.val 36 (.int .i64 x640)⟩,     ⟨[0, 1, 2, 19], [], [], Fct.val 37 (.slice (if (cA341 : Int).toNat = (x601 : Int).toNat then A341 else A341.map (·.add ((x601 : Int).toNat * R3.s))) ((x640 : Int).toNat - (x601 : Int).toNat) ((cA341 : Int).toNat - (x601 : Int).toNat))⟩,     ⟨[], [5], [], Fct.val 38 (.slice A341 out599.length cA341)⟩,     ⟨[], [7], [], Fct.val 39 (.int .i64 x601)⟩,     ⟨[], [7], [], Fct.val 40 (.int .i64 x601)⟩,     ⟨[], [6], [], Fct.val 41 (.int .i64 run452)⟩,     ⟨[6, 7], [], [], Fct.val 42 (.int .i64 (ad x601 run452))⟩,     ⟨[4, 5, 8, 19], [], [], Fct.view [600] 43 R3 x653⟩,     ⟨[], [5], [], Fct.val 44 (.slice A341 out599.length cA341)⟩,     ⟨[], [7], [], Fct.val 45 (.int .i64 x601)⟩,     ⟨[], [6], [], Fct.val 46 (.int .i64 run452)⟩,     ⟨[11, 12], [], [], Fct.val 47 (.int .i64 (ad x601 run452))⟩,     ⟨[], [8], [], Fct.val 48 (.int .i64 x640)⟩,     ⟨[10, 13, 14, 19], [], [], Fct.view [600] 49 R3 x655⟩,     ⟨[], [1], [], Fct.val 50 (.func (.func 68) #[] #[])⟩,     ⟨[9, 15, 16], [], [], Fct.row 659 [] 51 3 R3 r657⟩,     ⟨[3, 17, 19], [], [600], Fct.rowAt 661 [] 3 R3 A341 cA341 l660⟩]) (by kernel_rfl) hz641 hd641 (by simp only [List.forall_mem_cons]; exact ⟨b641_A341, fun _ h => nomatch h⟩) ?_ ?_
          · refine sc (fun _ _ _ _ s _ => px (or_move (s.1.trans e641_5))) ?_
            refine sc (fun _ _ _ _ s _ => px (or_move (s.1.trans e641_7))) ?_
            refine sc (fun _ _ _ _ s _ => px (or_move (s.1.trans e641_8))) ?_
            refine sc (fun own a wx hf hsl hE => ?_) ?_
            · obtain ⟨f_34, f_35, f_36, b_A341, -⟩ := hf
              exact px (or_piece (R := R3) tu22 ts3 f_34 (Bnd.some_ f_35) (Bnd.some_ f_36) b_A341 (cut_some hx651).1 (cut_some hx651).2.1 (cut_some hx651).2.2.1)
            refine sc (fun _ _ _ _ s _ => px (or_move (s.1.trans e641_5))) ?_
            refine sc (fun _ _ _ _ s _ => px (or_move (s.1.trans e641_7))) ?_
            refine sc (fun _ _ _ _ s _ => px (or_move (s.1.trans e641_7))) ?_
            refine sc (fun _ _ _ _ s _ => px (or_move (s.1.trans e641_6))) ?_
            refine sc (fun _ _ _ f _ _ => px (or_add f.1 f.2.1 rfl)) ?_
            refine sc (fun own a wx hf hsl hE => ?_) ?_
            · obtain ⟨f_38, f_39, f_42, b_A341, -⟩ := hf
              exact px (or_view (R := R3) (l := out599) (L := [600]) tu22 ts3 f_38 (Bnd.some_ f_39) (Bnd.some_ f_42) Bnd.none_ (RwO.rd b_A341) hx653 (.inl rfl) (by simp))
            refine sc (fun _ _ _ _ s _ => px (or_move (s.1.trans e641_5))) ?_
            refine sc (fun _ _ _ _ s _ => px (or_move (s.1.trans e641_7))) ?_
            refine sc (fun _ _ _ _ s _ => px (or_move (s.1.trans e641_6))) ?_
            refine sc (fun _ _ _ f _ _ => px (or_add f.1 f.2.1 rfl)) ?_
            refine sc (fun _ _ _ _ s _ => px (or_move (s.1.trans e641_8))) ?_
            refine sc (fun own a wx hf hsl hE => ?_) ?_
            · obtain ⟨f_44, f_47, f_48, b_A341, -⟩ := hf
              exact px (or_view (R := R3) (l := out599) (L := [600]) tu22 ts3 f_44 (Bnd.some_ f_47) (Bnd.some_ f_48) Bnd.none_ (RwO.rd b_A341) hx655 (.inl rfl) (by simp))
            refine sc (fun _ _ _ _ s _ => px (or_move (s.1.trans e641_1))) ?_
            refine sc (fun own a wx hf hsl hE => ?_) ?_
            · obtain ⟨⟨⟨A654, cA654⟩, f_43, b_A654⟩, ⟨⟨A656, cA656⟩, f_49, b_A656⟩, f_50, -⟩ := hf
              exact px (or_call cf73 (args3 f_43 f_49 f_50) (order_merged_int_Uniq_1_w _ x653 A654 cA654 x655 A656 cA656 (RdO.zero b_A654) (RdO.zero b_A656) r657 hr657) (post_row (m' := (look0 [(1, 659)])) (.inl (Rep.fl_flat _)) rfl rfl (fun _ => rfl)))
            refine sc (fun own a wx hf hsl hE => ?_) ?_
            · obtain ⟨f_37, ⟨⟨A658, cA658⟩, f_51, b_A658⟩, b_A341, -⟩ := hf
              exact px (or_copy (R := R3) (lab := 600) (lab2 := 661) tu22 rfl f_37 f_51 b_A341 (RwO.rd b_A658) hl660 (Rep.fl_flat _) (mem_of rfl) (by decide) (fun own' a' w' hb => hb))
            exact steps_nil
          intro own662 a662 w662 hd662 hz662 hk662 hf662 hE662
          have e662_1 := (hk662 1 rfl).trans e641_1
          have e662_5 := (hk662 5 rfl).trans e641_5
          have e662_6 := (hk662 6 rfl).trans e641_6
          have e662_7 := (hk662 7 rfl).trans e641_7
          obtain ⟨(b662_A341 : RwO own662 661 [] w662 3 R3 A341 cA341 l660), -⟩ := hf662 [18] rfl
          have hX662 := es_ hX641 hE662
          have m663_5 : a662.eval (.tmp 5) = .slice A341 l660.length cA341 := e662_5.trans (by rw [cpy_len hl660])
          refine hn639 _ _ ?_
          refine hn638 _ _ ?_
          refine rg0 54 own662 [0, 0, 2, 7, 15] [⟨[], [7], [], Fct.val 23 (.int .i64 x601)⟩,     ⟨[], [6], [], Fct.val 24 (.int .i64 run452)⟩,     ⟨[1], [], [], Fct.val 25 (.int .i64 (ml 2 run452))⟩,     ⟨[0, 2], [], [], Fct.val 26 (.int .i64 (ad x601 (ml 2 run452)))⟩,     ⟨[3], [], [], Fct.val 7 (.int .i64 (ad x601 (ml 2 run452)))⟩] hz662 hd662 (by kernel_rfl) ?_ ?_
          · refine sc (fun _ _ _ _ s _ => px (or_move (s.1.trans e662_7))) ?_
            refine sc (fun _ _ _ _ s _ => px (or_move (s.1.trans e662_6))) ?_
            refine sc (fun _ _ _ f _ _ => px (or_mul rfl f.1 rfl)) ?_
            refine sc (fun _ _ _ f _ _ => px (or_add f.1 f.2.1 rfl)) ?_
            refine sc (fun _ _ _ f _ _ => px (or_assign f.1)) ?_
            exact steps_nil
          intro own664 a664 w664 hd664 hz664 hk664 hf664 hE664
          have e664_1 := (hk664 1 rfl).trans e662_1
          have e664_5 := (hk664 5 rfl).trans m663_5
          have e664_6 := (hk664 6 rfl).trans e662_6
          obtain ⟨(e664_7 : a664.eval (.tmp 7) = .int .i64 (ad x601 (ml 2 run452))), -⟩ := hf664 [4] rfl
          have hX664 := es_ hX662 hE664
          have b664_A341 := re_ hE664 b662_A341
          exact hn633 _ _ _ hs ⟨(rl [(661, 600)] own664), hd664, hz664, e664_1, e664_5, e664_6, e664_7, (Evo.rl_ hX664 (fun _ => Nat.le_refl 0) rfl), (RwO.rl_ (mm := [(661, 600)]) b664_A341)⟩
        refine fl_exit ?_
        refine hp635 _ _ _ rfl ?_
        replace hs := hz633 _ hs
        refine hp633 _ _ _ rfl ?_
        refine hx567 _ _ ?_
        refine hn565 _ _ ?_
        refine hn564 _ _ ?_
        refine rg0 54 own636 (bz 3) [⟨[], [6], [], Fct.val 15 (.int .i64 run452)⟩,     ⟨[0], [], [], Fct.val 16 (.int .i64 (ml run452 2))⟩,     ⟨[1], [], [], Fct.val 6 (.int .i64 (ml run452 2))⟩] hz636 hd636 (by kernel_rfl) ?_ ?_
        · refine sc (fun _ _ _ _ s _ => px (or_move (s.1.trans e636_6))) ?_
          refine sc (fun _ _ _ f _ _ => px (or_mul f.1 rfl rfl)) ?_
          refine sc (fun _ _ _ f _ _ => px (or_assign f.1)) ?_
          exact steps_nil
        intro own665 a665 w665 hd665 hz665 hk665 hf665 hE665
        have e665_1 := (hk665 1 rfl).trans e636_1
        have e665_5 := (hk665 5 rfl).trans e636_5
        obtain ⟨(e665_6 : a665.eval (.tmp 6) = .int .i64 (ml run452 2)), -⟩ := hf665 [2] rfl
        have hX665 := es_ hX636 hE665
        have b665_A341 := re_ hE665 b636_A341
        exact hn559 _ _ _ hs ⟨(rl [(600, 451)] own665), hd665, hz665, e665_1, e665_5, e665_6, (Evo.rl_ hX665 (fun _ => Nat.le_refl 0) rfl), (RwO.rl_ (mm := [(600, 451)]) b665_A341)⟩
    refine fl_exit ?_
    refine hp561 _ _ _ rfl ?_
    replace hs := hz559 _ hs
    refine hp559 _ _ _ rfl ?_
    refine hx346 _ _ ?_
    refine hn344 _ _ ?_
    refine rg0_seq 54 own562 (bz 2) [⟨[], [5], [], Fct.val 53 (.slice A341 out450.length cA341)⟩,     ⟨[0], [], [], Fct.val 4 (.slice A341 out450.length cA341)⟩] hz562 hd562 (by kernel_rfl) ?_ ?_
    · refine sc (fun _ _ _ _ s _ => px (or_move (s.1.trans e562_5))) ?_
      refine sc (fun _ _ _ f _ _ => px (or_assign f.1)) ?_
      exact steps_nil
    intro own666 a666 w666 hd666 hz666 hk666 hf666 hE666
    obtain ⟨(e666_4 : a666.eval (.tmp 4) = .slice A341 out450.length cA341), -⟩ := hf666 [1] rfl
    have hX666 := es_ hX562 hE666
    have b666_A341 := re_ hE666 b562_A341
    refine fl_ret ?_
    obtain rfl := (osome hs).symm
    exact hret _ _ _ _ (.inl rfl) hd666 (results1_ rfl (RVal.tmp_ e666_4)) ⟨(rl [(451, 1)] own666), (A341, cA341), rfl, (Evo.rl_ hX666 (fun _ => Nat.le_refl 0) rfl), (RwO.rl_ (mm := [(451, 1)]) b666_A341)⟩
theorem order_Uniq_w (w : World) (l1 : List Int) (Al1 : Option Addr) (cl1 : Nat) (hl1 : RdO (fun _ => 0) [0] w R3 Al1 cl1 l1) (r : List Int) (hs : order_Uniq l1 = some r) :
    Calls Try.prog 56 #[.slice Al1 l1.length cl1] w fun e w' => ∃ (own' : Own) (x : Option Addr × Nat), e = .returned (.slice x.1 r.length x.2) ∧ Evo [] (fun _ => 0) own' w w' ∧ RwO own' 1 [] w' 3 R3 x.1 x.2 r := by
  refine fl_enter (n := 6) rfl rfl rfl (Nat.le_of_ble_eq_true rfl) ?_
  intro a0 Q hd0 hz0 harg hret
  have ha0 := harg 0 _ rfl
  clear harg
  have hE0 : Evo [] (fun _ => 0) (fun _ => 0) w w := Evo.refl _ _ _
  refine rg0_seq 6 (fun _ => 0) (bz 1) [⟨[], [], [], Fct.val 2 (.slice none 0 0)⟩] hz0 hd0 (by kernel_rfl) ?_ ?_
  · refine sc (fun _ _ _ _ _ _ => px (or_assign rfl)) ?_
    exact steps_nil
  intro own19 a19 w19 hd19 hz19 hk19 hf19 hE19
  have e19_0 := (hk19 0 rfl).trans ha0
  have hX19 := es_ hE0 hE19
  have b19_Al1 := RdO.evo rfl hE19 hl1
  obtain ⟨r20, hr20, hs⟩ := obind hs
  obtain ⟨r23, hr23, hs⟩ := obind hs
  refine rg_plain_seq (n := 6) (rs := []) (own0 := own19) (K := [22]) (bs := (bz 4)) (ds := [⟨[], [0], [], Fct.val 3 (.slice Al1 l1.length cl1)⟩,     ⟨[0], [], [], Fct.row 22 [] 4 3 R3 r20⟩,     ⟨[1], [], [22], Fct.mems [25] 5 (fun (x : Option Addr × Nat) => .slice x.1 r23.length x.2) (fun (x : Option Addr × Nat) own w => RwO own 25 [] w 3 R3 x.1 x.2 r23) (fun hk he h => RwO.evo (hits_sub hk (by decide)) he h)⟩,     ⟨[2], [], [], Fct.rel [2, 5] (fun l => ∀ (A24 : Option Addr) (cA24 : Nat), l.getD 1 undef = .slice A24 r23.length cA24 → l.getD 0 undef = .slice A24 r23.length cA24)⟩]) (by kernel_rfl) hz19 hd19 nm_ ?_ ?_
  · refine sc (fun _ _ _ _ s _ => px (or_move (s.1.trans e19_0))) ?_
    refine sc (fun _ _ _ f _ hE => px (or_call cf67 (args2 f.1 rfl) (order_sorted_int_Uniq_1_w _ l1 Al1 cl1 (RdO.zero (RdO.evo rfl hE b19_Al1)) r20 hr20) (post_row (m' := (look0 [(1, 22)])) (.inl (Rep.fl_flat _)) rfl rfl (fun _ => rfl)))) ?_
    refine sc (fun own a wx hf hsl hE => ?_) ?_
    · obtain ⟨⟨⟨A21, cA21⟩, f_4, b_A21⟩, -⟩ := hf
      exact px (or_call cf66 (args1 f_4) (slices_Compact_int_int_w _ (forth own (look0 [(22, 1)])) r20 A21 cA21 (look0_le rfl) (RwO.forth_ (m := (look0 [(22, 1)])) b_A21) r23 hr23) (post_mems (m := (look0 [(22, 1)])) (m' := (look0 [(2, 25)])) (hm_of rfl) (fun own' w' a' x h1 h => ⟨x, h1, RwO.back_ h (by decide) (.inl (Rep.fl_flat _))⟩)))
    refine sc (fun own a wx hf hsl hE => ?_) ?_
    · obtain ⟨⟨⟨A24, cA24⟩, (f_5 : a.eval (.tmp 5) = .slice A24 r23.length cA24), b_A24⟩, -⟩ := hf
      exact px (or_mono (f := Fct.val 2 (.slice A24 r23.length cA24)) (or_assign f_5) (fun own' a' w' v' hp h => fun _ _ h0' => by cases (f_5.symm.trans ((hp.2 5 (by decide)).symm.trans h0')); exact h))
    exact steps_nil
  intro own26 a26 w26 hd26 hz26 hk26 hf26 hE26
  obtain ⟨⟨⟨A24, cA24⟩, (f_5 : a26.eval (.tmp 5) = .slice A24 r23.length cA24), (b26_A24 : RwO own26 25 [] w26 3 R3 A24 cA24 r23)⟩, (q_2 : ∀ (A24 : Option Addr) (cA24 : Nat), a26.eval (.tmp 5) = .slice A24 r23.length cA24 → a26.eval (.tmp 2) = .slice A24 r23.length cA24), -⟩ := hf26 [2, 3] rfl
  have e26_2 := q_2 _ _ f_5
  have hX26 := es_ hX19 hE26
  refine fl_ret ?_
  obtain rfl := (osome hs).symm
  exact hret _ _ _ _ (.inl rfl) hd26 (results1_ rfl (RVal.tmp_ e26_2)) ⟨(rl [(25, 1)] own26), (A24, cA24), rfl, (Evo.rl_ hX26 (fun _ => Nat.le_refl 0) rfl), (RwO.rl_ (mm := [(25, 1)]) b26_A24)⟩
end Go.Proofs.Ytoccfdohlefifaa
