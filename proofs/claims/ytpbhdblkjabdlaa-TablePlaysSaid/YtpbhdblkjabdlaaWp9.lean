import Derived.Test.YtpbhdblkjabdlaaWp8
import Derived.Test.YtpbhdblkjabdlaaSp9
namespace Go.Proofs.Ytpbhdblkjabdlaa
open Go.RowKit
set_option linter.unusedVariables false
set_option maxRecDepth 10000
theorem ref11_Check_w (w : World) (l1 : List (ByteArray × (Int × ByteArray × Int))) (Al1 : Option Addr) (cl1 : Nat) (hl1 : RdO (fun _ => 0) [0] w R77 Al1 cl1 l1) (r : Int) (hs : ref11_Check l1 = some r) :
    Calls Try.prog 15 #[.slice Al1 l1.length cl1] w fun e w' => ∃ own' : Own, e = .returned (.int .i64 r) ∧ Evo [] (fun _ => 0) own' w w' := by
  refine fl_enter (n := 47) rfl rfl rfl (Nat.le_of_ble_eq_true rfl) ?_
  intro a0 Q hd0 hz0 harg hret
  have ha0 := harg 0 _ rfl
  clear harg
  have hE0 : Evo [] (fun _ => 0) (fun _ => 0) w w := Evo.refl _ _ _
  refine rg0_seq 47 (fun _ => 0) (bz 1) [⟨[], [], [], Fct.val 2 (.int .i64 0)⟩] hz0 hd0 (by kernel_rfl) ?_ ?_
  · refine sc (fun _ _ _ _ _ _ => px (or_assign rfl)) ?_
    exact steps_nil
  intro own171 a171 w171 hd171 hz171 hk171 hf171 hE171
  have e171_0 := (hk171 0 rfl).trans ha0
  have hX171 := es_ hE0 hE171
  have b171_Al1 := RdO.evo rfl hE171 hl1
  refine fl_seq (fun Q172 hn172 hp172 => ?_)
  refine rg0_seq 47 own171 (bz 3) [⟨[], [0], [], Fct.val 6 (.slice Al1 l1.length cl1)⟩, ⟨[0], [], [], Fct.val 7 (.int .i64 (l1.length : Int))⟩, ⟨[1], [], [], Fct.val 8 (.bool (decide (8 < (l1.length : Int))))⟩] hz171 hd171 (by kernel_rfl) ?_ ?_
  · refine sc (fun _ _ _ _ s _ => px (or_move (s.1.trans e171_0))) ?_
    refine sc (fun _ _ _ f _ _ => px (or_len tu31 f.1 rfl)) ?_
    refine sc (fun _ _ _ f _ _ => px (or_gtr f.1 rfl rfl)) ?_
    exact steps_nil
  intro own173 a173 w173 hd173 hz173 hk173 hf173 hE173
  have e173_0 := (hk173 0 rfl).trans e171_0
  obtain ⟨(e173_8 : a173.eval (.tmp 8) = .bool (decide (8 < (l1.length : Int)))), -⟩ := hf173 [2] rfl
  have hX173 := es_ hX171 hE173
  have b173_Al1 := RdO.evo rfl hE173 b171_Al1
  refine fl_cond e173_8 hs (fun c174 hs => ?_) (fun c174 hs => ?_)
  · refine rg0_seq 47 own173 (bz 1) [⟨[], [], [], Fct.val 2 (.int .i64 6)⟩] hz173 hd173 (by kernel_rfl) ?_ ?_
    · refine sc (fun _ _ _ _ _ _ => px (or_assign rfl)) ?_
      exact steps_nil
    intro own175 a175 w175 hd175 hz175 hk175 hf175 hE175
    obtain ⟨(e175_2 : a175.eval (.tmp 2) = .int .i64 6), -⟩ := hf175 [0] rfl
    have hX175 := es_ hX173 hE175
    refine fl_ret ?_
    refine hp172 _ _ _ rfl ?_
    obtain rfl := osome hs
    exact hret _ _ _ _ (.inl rfl) hd175 (results1_ rfl (RVal.tmp_ e175_2)) ⟨own175, rfl, hX175⟩
  refine fl_skip ?_
  refine hn172 _ _ ?_
  refine fl_seq (fun Q176 hn176 hp176 => ?_)
  refine rg0_seq 47 own173 (bz 1) [⟨[], [], [], Fct.val 3 (.int .i64 0)⟩] hz173 hd173 (by kernel_rfl) ?_ ?_
  · refine sc (fun _ _ _ _ _ _ => px (or_assign rfl)) ?_
    exact steps_nil
  intro own177 a177 w177 hd177 hz177 hk177 hf177 hE177
  have e177_0 := (hk177 0 rfl).trans e173_0
  obtain ⟨(e177_3 : a177.eval (.tmp 3) = .int .i64 0), -⟩ := hf177 [0] rfl
  have hX177 := es_ hX173 hE177
  have b177_Al1 := RdO.evo rfl hE177 b173_Al1
  refine fl_block (fun Q178 hn178 hx178 hp178 => ?_)
  refine fl_loop (body := (fun s => ref11_Check_b1 l1 s)) (z := r) (show loopO _ _ = _ from hs) (fun (i208 : Int) a wx => ∃ (ox : Own), a.defers = [] ∧ a.tmps.size = 47 ∧ a.eval (.tmp 0) = .slice Al1 l1.length cl1 ∧ a.eval (.tmp 3) = .int .i64 i208 ∧ Evo [] (fun _ => 0) ox w wx ∧ RdO ox [0] wx R77 Al1 cl1 l1) ?_ ?_
  · exact ⟨own177, hd177, hz177, e177_0, e177_3, hX177, b177_Al1⟩
  · rintro i208 zz269 a269 w269 ⟨own269, hd270, hz270, e270_0, e270_3, hE270, b270_Al1⟩ hs Q269 hn269 hp269 hz269
    have hs : ref11_Check_b1 l1 i208 = some zz269 := hs
    refine fl_seq (fun Q271 hn271 hp271 => ?_)
    refine rg0_seq 47 own269 [0, 0, 2, 7] [⟨[], [3], [], Fct.val 9 (.int .i64 i208)⟩, ⟨[], [0], [], Fct.val 10 (.slice Al1 l1.length cl1)⟩, ⟨[1], [], [], Fct.val 11 (.int .i64 (l1.length : Int))⟩, ⟨[0, 2], [], [], Fct.val 12 (.bool (decide (i208 < (l1.length : Int))))⟩] hz270 hd270 (by kernel_rfl) ?_ ?_
    · refine sc (fun _ _ _ _ s _ => px (or_move (s.1.trans e270_3))) ?_
      refine sc (fun _ _ _ _ s _ => px (or_move (s.1.trans e270_0))) ?_
      refine sc (fun _ _ _ f _ _ => px (or_len tu31 f.1 rfl)) ?_
      refine sc (fun _ _ _ f _ _ => px (or_lss f.1 f.2.1 rfl)) ?_
      exact steps_nil
    intro own272 a272 w272 hd272 hz272 hk272 hf272 hE272
    have e272_0 := (hk272 0 rfl).trans e270_0
    have e272_3 := (hk272 3 rfl).trans e270_3
    obtain ⟨(e272_12 : a272.eval (.tmp 12) = .bool (decide (i208 < (l1.length : Int)))), -⟩ := hf272 [3] rfl
    have hX272 := es_ hE270 hE272
    have b272_Al1 := RdO.evo rfl hE272 b270_Al1
    refine fl_cond e272_12 hs (fun c273 hs => ?_) (fun c273 hs => ?_)
    · refine fl_skip ?_
      refine hn271 _ _ ?_
      refine fl_seq (fun Q274 hn274 hp274 => ?_)
      refine fl_block (fun Q275 hn275 hx275 hp275 => ?_)
      refine fl_seq (fun Q276 hn276 hp276 => ?_)
      obtain ⟨x277, hx277, hs⟩ := obind hs
      obtain ⟨r278, hr278, hs⟩ := obind hs
      refine rg0_seq 47 own272 [0, 0, 3, 7, 15, 31, 63] [⟨[], [0], [], Fct.val 15 (.slice Al1 l1.length cl1)⟩, ⟨[], [3], [], Fct.val 16 (.int .i64 i208)⟩, ⟨[0, 1], [], [], Fct.val 17 (.pointer (some ((adr Al1).add ((i208 : Int).toNat * R77.s))))⟩, ⟨[2], [], [], Fct.val 18 (.pointer (some ((adr Al1).add ((i208 : Int).toNat * R77.s))))⟩, ⟨[3], [], [], Fct.val 19 (.string x277.1)⟩, ⟨[4], [], [], Fct.val 20 (.bool r278)⟩, ⟨[5], [], [], Fct.val 21 (.bool (!r278))⟩] hz272 hd272 (by kernel_rfl) ?_ ?_
      · refine sc (fun _ _ _ _ s _ => px (or_move (s.1.trans e272_0))) ?_
        refine sc (fun _ _ _ _ s _ => px (or_move (s.1.trans e272_3))) ?_
        refine sc (fun _ _ _ f _ _ => px (or_index (R := R77) (l := l1) tl31 f.1 f.2.1 (RdO.some_ b272_Al1 hx277) hx277)) ?_
        refine sc (fun _ _ _ f _ _ => px (or_field fo77_0 f.1 (Addr.add_zero' _))) ?_
        refine sc (fun _ _ _ f _ hE => px (or_load1 to9 f.1 (CellsAt.zero (RdO.cells (F := E77) (RdO.evo rfl hE b272_Al1) hx277) rfl))) ?_
        refine sc (fun _ _ _ f _ _ => px (or_call cf34 (args1 f.1) (ref09_Name_w _ x277.1  r278 hr278) post_val)) ?_
        refine sc (fun _ _ _ f _ _ => px (or_not f.1 rfl)) ?_
        exact steps_nil
      intro own279 a279 w279 hd279 hz279 hk279 hf279 hE279
      have e279_0 := (hk279 0 rfl).trans e272_0
      have e279_3 := (hk279 3 rfl).trans e272_3
      obtain ⟨(e279_21 : a279.eval (.tmp 21) = .bool (!r278)), -⟩ := hf279 [6] rfl
      have hX279 := es_ hX272 hE279
      have b279_Al1 := RdO.evo rfl hE279 b272_Al1
      refine fl_cond e279_21 hs (fun c280 hs => ?_) (fun c280 hs => ?_)
      · refine rg0_seq 47 own279 (bz 1) [⟨[], [], [], Fct.val 2 (.int .i64 13)⟩] hz279 hd279 (by kernel_rfl) ?_ ?_
        · refine sc (fun _ _ _ _ _ _ => px (or_assign rfl)) ?_
          exact steps_nil
        intro own281 a281 w281 hd281 hz281 hk281 hf281 hE281
        obtain ⟨(e281_2 : a281.eval (.tmp 2) = .int .i64 13), -⟩ := hf281 [0] rfl
        have hX281 := es_ hX279 hE281
        refine fl_ret ?_
        refine hp276 _ _ _ rfl ?_
        refine hp275 _ _ _ rfl ?_
        refine hp274 _ _ _ rfl ?_
        replace hs := hz269 _ hs
        refine hp269 _ _ _ rfl ?_
        refine hp178 _ _ _ rfl ?_
        refine hp176 _ _ _ rfl ?_
        obtain rfl := osome hs
        exact hret _ _ _ _ (.inl rfl) hd281 (results1_ rfl (RVal.tmp_ e281_2)) ⟨own281, rfl, hX281⟩
      refine fl_skip ?_
      refine hn276 _ _ ?_
      obtain ⟨x282, hx282, hs⟩ := obind hs
      obtain ⟨r283, hr283, hs⟩ := obind hs
      refine rg0_seq 47 own279 [0, 0, 3, 7, 15, 31, 63] [⟨[], [0], [], Fct.val 22 (.slice Al1 l1.length cl1)⟩, ⟨[], [3], [], Fct.val 23 (.int .i64 i208)⟩, ⟨[0, 1], [], [], Fct.val 24 (.pointer (some ((adr Al1).add ((i208 : Int).toNat * R77.s))))⟩, ⟨[2], [], [], Fct.val 25 (.pointer (some (((adr Al1).add ((i208 : Int).toNat * R77.s)).add 1)))⟩, ⟨[3], [], [], Fct.val 26 (.agg #[.int .i64 x282.2.1, .string x282.2.2.1, .int .i64 x282.2.2.2])⟩, ⟨[4], [], [], Fct.val 27 (.int .i64 r283)⟩, ⟨[5], [], [], Fct.val 4 (.int .i64 r283)⟩] hz279 hd279 (by kernel_rfl) ?_ ?_
      · refine sc (fun _ _ _ _ s _ => px (or_move (s.1.trans e279_0))) ?_
        refine sc (fun _ _ _ _ s _ => px (or_move (s.1.trans e279_3))) ?_
        refine sc (fun _ _ _ f _ _ => px (or_index (R := R77) (l := l1) tl31 f.1 f.2.1 (RdO.some_ b279_Al1 hx282) hx282)) ?_
        refine sc (fun _ _ _ f _ _ => px (or_field fo77_1 f.1 rfl)) ?_
        refine sc (fun _ _ _ f _ hE => px (or_load (l := [.int .i64 x282.2.1, .string x282.2.2.1, .int .i64 x282.2.2.2]) ta75 f.1 (CellsAt.part (RdO.cells (F := E77) (RdO.evo rfl hE b279_Al1) hx282) 1 rfl) rfl)) ?_
        refine sc (fun _ _ _ f _ _ => px (or_call cf36 (args1 f.1) (ref10_Check_w _ x282.2  r283 hr283) post_val)) ?_
        refine sc (fun _ _ _ f _ _ => px (or_assign f.1)) ?_
        exact steps_nil
      intro own284 a284 w284 hd284 hz284 hk284 hf284 hE284
      have e284_0 := (hk284 0 rfl).trans e279_0
      have e284_3 := (hk284 3 rfl).trans e279_3
      obtain ⟨(e284_4 : a284.eval (.tmp 4) = .int .i64 r283), -⟩ := hf284 [6] rfl
      have hX284 := es_ hX279 hE284
      have b284_Al1 := RdO.evo rfl hE284 b279_Al1
      refine fl_seq (fun Q285 hn285 hp285 => ?_)
      refine rg0_seq 47 own284 (bz 2) [⟨[], [4], [], Fct.val 28 (.int .i64 r283)⟩, ⟨[0], [], [], Fct.val 29 (.bool (!decide (r283 = 0)))⟩] hz284 hd284 (by kernel_rfl) ?_ ?_
      · refine sc (fun _ _ _ _ s _ => px (or_move (s.1.trans e284_4))) ?_
        refine sc (fun _ _ _ f _ _ => px (or_neq f.1 rfl rfl)) ?_
        exact steps_nil
      intro own286 a286 w286 hd286 hz286 hk286 hf286 hE286
      have e286_0 := (hk286 0 rfl).trans e284_0
      have e286_3 := (hk286 3 rfl).trans e284_3
      have e286_4 := (hk286 4 rfl).trans e284_4
      obtain ⟨(e286_29 : a286.eval (.tmp 29) = .bool (!decide (r283 = 0))), -⟩ := hf286 [1] rfl
      have hX286 := es_ hX284 hE286
      have b286_Al1 := RdO.evo rfl hE286 b284_Al1
      refine fl_cond e286_29 hs (fun c287 hs => ?_) (fun c287 hs => ?_)
      · refine rg0_seq 47 own286 (bz 2) [⟨[], [4], [], Fct.val 30 (.int .i64 r283)⟩, ⟨[0], [], [], Fct.val 2 (.int .i64 r283)⟩] hz286 hd286 (by kernel_rfl) ?_ ?_
        · refine sc (fun _ _ _ _ s _ => px (or_move (s.1.trans e286_4))) ?_
          refine sc (fun _ _ _ f _ _ => px (or_assign f.1)) ?_
          exact steps_nil
        intro own288 a288 w288 hd288 hz288 hk288 hf288 hE288
        obtain ⟨(e288_2 : a288.eval (.tmp 2) = .int .i64 r283), -⟩ := hf288 [1] rfl
        have hX288 := es_ hX286 hE288
        refine fl_ret ?_
        refine hp285 _ _ _ rfl ?_
        refine hp275 _ _ _ rfl ?_
        refine hp274 _ _ _ rfl ?_
        replace hs := hz269 _ hs
        refine hp269 _ _ _ rfl ?_
        refine hp178 _ _ _ rfl ?_
        refine hp176 _ _ _ rfl ?_
        obtain rfl := (osome hs).symm
        exact hret _ _ _ _ (.inl rfl) hd288 (results1_ rfl (RVal.tmp_ e288_2)) ⟨own288, rfl, hX288⟩
      refine fl_skip ?_
      refine hn285 _ _ ?_
      refine rg0_seq 47 own286 (bz 1) [⟨[], [], [], Fct.val 5 (.int .i64 0)⟩] hz286 hd286 (by kernel_rfl) ?_ ?_
      · refine sc (fun _ _ _ _ _ _ => px (or_assign rfl)) ?_
        exact steps_nil
      intro own289 a289 w289 hd289 hz289 hk289 hf289 hE289
      have e289_0 := (hk289 0 rfl).trans e286_0
      have e289_3 := (hk289 3 rfl).trans e286_3
      obtain ⟨(e289_5 : a289.eval (.tmp 5) = .int .i64 0), -⟩ := hf289 [0] rfl
      have hX289 := es_ hX286 hE289
      have b289_Al1 := RdO.evo rfl hE289 b286_Al1
      refine fl_block (fun Q290 hn290 hx290 hp290 => ?_)
      refine fl_loop (body := (fun s => ref11_Check_b2 l1 i208 s)) (z := zz269) (show loopO _ _ = _ from hs) (fun (k303 : Int) a wx => ∃ (ox : Own), a.defers = [] ∧ a.tmps.size = 47 ∧ a.eval (.tmp 0) = .slice Al1 l1.length cl1 ∧ a.eval (.tmp 3) = .int .i64 i208 ∧ a.eval (.tmp 5) = .int .i64 k303 ∧ Evo [] (fun _ => 0) ox w wx ∧ RdO ox [0] wx R77 Al1 cl1 l1) ?_ ?_
      · exact ⟨own289, hd289, hz289, e289_0, e289_3, e289_5, hX289, b289_Al1⟩
      · rintro k303 zz316 a316 w316 ⟨own316, hd317, hz317, e317_0, e317_3, e317_5, hE317, b317_Al1⟩ hs Q316 hn316 hp316 hz316
        have hs : ref11_Check_b2 l1 i208 k303 = some zz316 := hs
        refine fl_seq (fun Q318 hn318 hp318 => ?_)
        refine rg0_seq 47 own316 [0, 0, 3] [⟨[], [5], [], Fct.val 31 (.int .i64 k303)⟩, ⟨[], [3], [], Fct.val 32 (.int .i64 i208)⟩, ⟨[0, 1], [], [], Fct.val 33 (.bool (decide (k303 < i208)))⟩] hz317 hd317 (by kernel_rfl) ?_ ?_
        · refine sc (fun _ _ _ _ s _ => px (or_move (s.1.trans e317_5))) ?_
          refine sc (fun _ _ _ _ s _ => px (or_move (s.1.trans e317_3))) ?_
          refine sc (fun _ _ _ f _ _ => px (or_lss f.1 f.2.1 rfl)) ?_
          exact steps_nil
        intro own319 a319 w319 hd319 hz319 hk319 hf319 hE319
        have e319_0 := (hk319 0 rfl).trans e317_0
        have e319_3 := (hk319 3 rfl).trans e317_3
        have e319_5 := (hk319 5 rfl).trans e317_5
        obtain ⟨(e319_33 : a319.eval (.tmp 33) = .bool (decide (k303 < i208))), -⟩ := hf319 [2] rfl
        have hX319 := es_ hE317 hE319
        have b319_Al1 := RdO.evo rfl hE319 b317_Al1
        refine fl_cond e319_33 hs (fun c320 hs => ?_) (fun c320 hs => ?_)
        · refine fl_skip ?_
          refine hn318 _ _ ?_
          refine fl_seq (fun Q321 hn321 hp321 => ?_)
          refine fl_block (fun Q322 hn322 hx322 hp322 => ?_)
          obtain ⟨x323, hx323, hs⟩ := obind hs
          obtain ⟨x324, hx324, hs⟩ := obind hs
          refine rg_draw_seq g_mixed (n := 47) (rs := []) (own0 := own319) (K := []) (bs := [0, 0, 3, 7, 15, 0, 0, 96, 224, 480, 1023]) (ds := [⟨[], [0], [], Fct.val 36 (.slice Al1 l1.length cl1)⟩, ⟨[], [5], [], Fct.val 37 (.int .i64 k303)⟩, ⟨[0, 1], [], [], Fct.val 38 (.pointer (some ((adr Al1).add ((k303 : Int).toNat * R77.s))))⟩, ⟨[2], [], [], Fct.val 39 (.pointer (some ((adr Al1).add ((k303 : Int).toNat * R77.s))))⟩, ⟨[3], [], [], Fct.val 40 (.string x323.1)⟩, ⟨[], [0], [], Fct.val 41 (.slice Al1 l1.length cl1)⟩, ⟨[], [3], [], Fct.val 42 (.int .i64 i208)⟩, ⟨[5, 6], [], [], Fct.val 43 (.pointer (some ((adr Al1).add ((i208 : Int).toNat * R77.s))))⟩, ⟨[7], [], [], Fct.val 44 (.pointer (some ((adr Al1).add ((i208 : Int).toNat * R77.s))))⟩, ⟨[8], [], [], Fct.val 45 (.string x324.1)⟩, ⟨[4, 9], [], [], Fct.val 46 (.bool (eqS x323.1 x324.1))⟩]) (by kernel_rfl) hz319 hd319 nm_ ?_ ?_
          · refine sc (fun _ _ _ _ s _ => px (or_move (s.1.trans e319_0))) ?_
            refine sc (fun _ _ _ _ s _ => px (or_move (s.1.trans e319_5))) ?_
            refine sc (fun _ _ _ f _ _ => px (or_index (R := R77) (l := l1) tl31 f.1 f.2.1 (RdO.some_ b319_Al1 hx323) hx323)) ?_
            refine sc (fun _ _ _ f _ _ => px (or_field fo77_0 f.1 (Addr.add_zero' _))) ?_
            refine sc (fun _ _ _ f _ hE => px (or_load1 to9 f.1 (CellsAt.zero (RdO.cells (F := E77) (RdO.evo rfl hE b319_Al1) hx323) rfl))) ?_
            refine sc (fun _ _ _ _ s _ => px (or_move (s.1.trans e319_0))) ?_
            refine sc (fun _ _ _ _ s _ => px (or_move (s.1.trans e319_3))) ?_
            refine sc (fun _ _ _ f _ _ => px (or_index (R := R77) (l := l1) tl31 f.1 f.2.1 (RdO.some_ b319_Al1 hx324) hx324)) ?_
            refine sc (fun _ _ _ f _ _ => px (or_field fo77_0 f.1 (Addr.add_zero' _))) ?_
            refine sc (fun _ _ _ f _ hE => px (or_load1 to9 f.1 (CellsAt.zero (RdO.cells (F := E77) (RdO.evo rfl hE b319_Al1) hx324) rfl))) ?_
            refine sc (fun _ _ _ f _ _ => px (or_eqlS tS9 f.1 f.2.1 rfl)) ?_
            exact steps_nil
          intro own325 a325 w325 hd325 hz325 hk325 hf325 hE325
          have e325_0 := (hk325 0 rfl).trans e319_0
          have e325_3 := (hk325 3 rfl).trans e319_3
          have e325_5 := (hk325 5 rfl).trans e319_5
          obtain ⟨(e325_46 : a325.eval (.tmp 46) = .bool (eqS x323.1 x324.1)), -⟩ := hf325 [10] rfl
          have hX325 := es_ hX319 hE325
          have b325_Al1 := RdO.evo rfl hE325 b319_Al1
          refine fl_cond e325_46 hs (fun c326 hs => ?_) (fun c326 hs => ?_)
          · refine rg0_seq 47 own325 (bz 1) [⟨[], [], [], Fct.val 2 (.int .i64 8)⟩] hz325 hd325 (by kernel_rfl) ?_ ?_
            · refine sc (fun _ _ _ _ _ _ => px (or_assign rfl)) ?_
              exact steps_nil
            intro own327 a327 w327 hd327 hz327 hk327 hf327 hE327
            obtain ⟨(e327_2 : a327.eval (.tmp 2) = .int .i64 8), -⟩ := hf327 [0] rfl
            have hX327 := es_ hX325 hE327
            refine fl_ret ?_
            refine hp322 _ _ _ rfl ?_
            refine hp321 _ _ _ rfl ?_
            replace hs := hz316 _ hs
            refine hp316 _ _ _ rfl ?_
            refine hp290 _ _ _ rfl ?_
            refine hp275 _ _ _ rfl ?_
            refine hp274 _ _ _ rfl ?_
            replace hs := hz269 _ hs
            refine hp269 _ _ _ rfl ?_
            refine hp178 _ _ _ rfl ?_
            refine hp176 _ _ _ rfl ?_
            obtain rfl := osome hs
            exact hret _ _ _ _ (.inl rfl) hd327 (results1_ rfl (RVal.tmp_ e327_2)) ⟨own327, rfl, hX327⟩
          refine fl_skip ?_
          refine hn322 _ _ ?_
          refine hn321 _ _ ?_
          refine rg0 47 own325 (bz 3) [⟨[], [5], [], Fct.val 34 (.int .i64 k303)⟩, ⟨[0], [], [], Fct.val 35 (.int .i64 (ad k303 1))⟩, ⟨[1], [], [], Fct.val 5 (.int .i64 (ad k303 1))⟩] hz325 hd325 (by kernel_rfl) ?_ ?_
          · refine sc (fun _ _ _ _ s _ => px (or_move (s.1.trans e325_5))) ?_
            refine sc (fun _ _ _ f _ _ => px (or_add f.1 rfl rfl)) ?_
            refine sc (fun _ _ _ f _ _ => px (or_assign f.1)) ?_
            exact steps_nil
          intro own328 a328 w328 hd328 hz328 hk328 hf328 hE328
          have e328_0 := (hk328 0 rfl).trans e325_0
          have e328_3 := (hk328 3 rfl).trans e325_3
          obtain ⟨(e328_5 : a328.eval (.tmp 5) = .int .i64 (ad k303 1)), -⟩ := hf328 [2] rfl
          have hX328 := es_ hX325 hE328
          have b328_Al1 := RdO.evo rfl hE328 b325_Al1
          exact hn316 _ _ _ hs ⟨own328, hd328, hz328, e328_0, e328_3, e328_5, hX328, b328_Al1⟩
        refine fl_exit ?_
        refine hp318 _ _ _ rfl ?_
        replace hs := hz316 _ hs
        refine hp316 _ _ _ rfl ?_
        refine hx290 _ _ ?_
        refine hn275 _ _ ?_
        refine hn274 _ _ ?_
        refine rg0 47 own319 (bz 3) [⟨[], [3], [], Fct.val 13 (.int .i64 i208)⟩, ⟨[0], [], [], Fct.val 14 (.int .i64 (ad i208 1))⟩, ⟨[1], [], [], Fct.val 3 (.int .i64 (ad i208 1))⟩] hz319 hd319 (by kernel_rfl) ?_ ?_
        · refine sc (fun _ _ _ _ s _ => px (or_move (s.1.trans e319_3))) ?_
          refine sc (fun _ _ _ f _ _ => px (or_add f.1 rfl rfl)) ?_
          refine sc (fun _ _ _ f _ _ => px (or_assign f.1)) ?_
          exact steps_nil
        intro own329 a329 w329 hd329 hz329 hk329 hf329 hE329
        have e329_0 := (hk329 0 rfl).trans e319_0
        obtain ⟨(e329_3 : a329.eval (.tmp 3) = .int .i64 (ad i208 1)), -⟩ := hf329 [2] rfl
        have hX329 := es_ hX319 hE329
        have b329_Al1 := RdO.evo rfl hE329 b319_Al1
        exact hn269 _ _ _ hs ⟨own329, hd329, hz329, e329_0, e329_3, hX329, b329_Al1⟩
    refine fl_exit ?_
    refine hp271 _ _ _ rfl ?_
    replace hs := hz269 _ hs
    refine hp269 _ _ _ rfl ?_
    refine hx178 _ _ ?_
    refine hn176 _ _ ?_
    refine rg0_seq 47 own272 (bz 1) [⟨[], [], [], Fct.val 2 (.int .i64 0)⟩] hz272 hd272 (by kernel_rfl) ?_ ?_
    · refine sc (fun _ _ _ _ _ _ => px (or_assign rfl)) ?_
      exact steps_nil
    intro own330 a330 w330 hd330 hz330 hk330 hf330 hE330
    obtain ⟨(e330_2 : a330.eval (.tmp 2) = .int .i64 0), -⟩ := hf330 [0] rfl
    have hX330 := es_ hX272 hE330
    refine fl_ret ?_
    obtain rfl := osome hs
    exact hret _ _ _ _ (.inl rfl) hd330 (results1_ rfl (RVal.tmp_ e330_2)) ⟨own330, rfl, hX330⟩
theorem law11_same_w (w : World) (t1 : (List ByteArray) × (List (Int × ByteArray × Int))) (At1_0 : Option Addr) (ct1_0 : Nat) (At1_1 : Option Addr) (ct1_1 : Nat) (x2 : (List ByteArray) × (List (Int × ByteArray × Int))) (Ax2_0 : Option Addr) (cx2_0 : Nat) (Ax2_1 : Option Addr) (cx2_1 : Nat) (hAt1_0 : RdO (fun _ => 0) [0] w R9 At1_0 ct1_0 t1.1) (hAt1_1 : RdO (fun _ => 0) [0] w R60 At1_1 ct1_1 t1.2) (hAx2_0 : RdO (fun _ => 0) [0] w R9 Ax2_0 cx2_0 x2.1) (hAx2_1 : RdO (fun _ => 0) [0] w R75 Ax2_1 cx2_1 x2.2) (r : Bool) (hs : law11_same t1 x2 = some r) :
    Calls Try.prog 18 #[.agg #[.slice At1_0 t1.1.length ct1_0, .slice At1_1 t1.2.length ct1_1], .agg #[.slice Ax2_0 x2.1.length cx2_0, .slice Ax2_1 x2.2.length cx2_1]] w fun e w' => ∃ own' : Own, e = .returned (.bool r) ∧ Evo [] (fun _ => 0) own' w w' := by
  refine fl_enter (n := 59) rfl rfl rfl (Nat.le_of_ble_eq_true rfl) ?_
  intro a0 Q hd0 hz0 harg hret
  have ha0 := harg 0 _ rfl
  have ha1 := harg 1 _ rfl
  clear harg
  have hE0 : Evo [] (fun _ => 0) (fun _ => 0) w w := Evo.refl _ _ _
  refine rg0_seq 59 (fun _ => 0) [0, 0, 0] [⟨[], [0], [], Fct.blk 105 2 (fun g => .pointer (some ⟨g, 0, none⟩)) 43 #[.slice At1_0 t1.1.length ct1_0, .slice At1_1 t1.2.length ct1_1]⟩, ⟨[], [1], [], Fct.blk 107 3 (fun g => .pointer (some ⟨g, 0, none⟩)) 37 #[.slice Ax2_0 x2.1.length cx2_0, .slice Ax2_1 x2.2.length cx2_1]⟩, ⟨[], [], [], Fct.val 4 (.bool false)⟩] hz0 hd0 (by kernel_rfl) ?_ ?_
  · refine sc (fun _ _ _ _ s _ => px (or_new [(0, .agg #[.slice At1_0 t1.1.length ct1_0, .slice At1_1 t1.2.length ct1_1])] rfl rfl ⟨(s.1.trans ha0), trivial⟩ (by kernel_rfl))) ?_
    refine sc (fun _ _ _ _ s _ => px (or_new [(1, .agg #[.slice Ax2_0 x2.1.length cx2_0, .slice Ax2_1 x2.2.length cx2_1])] rfl rfl ⟨(s.1.trans ha1), trivial⟩ (by kernel_rfl))) ?_
    refine sc (fun _ _ _ _ _ _ => px (or_assign rfl)) ?_
    exact steps_nil
  intro own108 a108 w108 hd108 hz108 hk108 hf108 hE108
  obtain ⟨⟨g104, (e108_2 : a108.eval (.tmp 2) = .pointer (some ⟨g104, 0, none⟩)), (b108_g104 : BlkO own108 105 w108 g104 43 #[.slice At1_0 t1.1.length ct1_0, .slice At1_1 t1.2.length ct1_1])⟩, ⟨g106, (e108_3 : a108.eval (.tmp 3) = .pointer (some ⟨g106, 0, none⟩)), (b108_g106 : BlkO own108 107 w108 g106 37 #[.slice Ax2_0 x2.1.length cx2_0, .slice Ax2_1 x2.2.length cx2_1])⟩, -⟩ := hf108 [0, 1] rfl
  have hX108 := es_ hE0 hE108
  have b108_At1_0 := RdO.evo rfl hE108 hAt1_0
  have b108_At1_1 := RdO.evo rfl hE108 hAt1_1
  have b108_Ax2_0 := RdO.evo rfl hE108 hAx2_0
  have b108_Ax2_1 := RdO.evo rfl hE108 hAx2_1
  refine fl_seq (fun Q109 hn109 hp109 => ?_)
  obtain ⟨x110, hx110, hs⟩ := obind hs
  refine rg0_seq 59 own108 [0, 1, 3, 0, 8, 24, 63, 127, 255, 511, 1023, 255, 2303, 6399, 16383, 32767] [⟨[], [2], [], Fct.val 7 (.pointer (some ⟨g104, 0, none⟩))⟩, ⟨[0], [], [], Fct.val 8 (.slice At1_0 t1.1.length ct1_0)⟩, ⟨[1], [], [], Fct.val 9 (.int .i64 (t1.1.length : Int))⟩, ⟨[], [3], [], Fct.val 10 (.pointer (some ⟨g106, 0, none⟩))⟩, ⟨[3], [], [], Fct.val 11 (.slice Ax2_0 x2.1.length cx2_0)⟩, ⟨[4], [], [], Fct.val 12 (.int .i64 (x2.1.length : Int))⟩, ⟨[2, 5], [], [], Fct.val 13 (.bool (!decide ((t1.1.length : Int) = (x2.1.length : Int))))⟩, ⟨[6], [], [], Fct.val 14 (.bool (!decide ((t1.1.length : Int) = (x2.1.length : Int))))⟩, ⟨[7], [2], [], Fct.cond (!(!decide ((t1.1.length : Int) = (x2.1.length : Int)))) (some 15) (Fct.val 15 (.pointer (some ⟨g104, 1, none⟩)))⟩, ⟨[7, 8], [], [], Fct.cond (!(!decide ((t1.1.length : Int) = (x2.1.length : Int)))) (some 16) (Fct.val 16 (.slice At1_1 t1.2.length ct1_1))⟩, ⟨[7, 9], [], [], Fct.cond (!(!decide ((t1.1.length : Int) = (x2.1.length : Int)))) (some 17) (Fct.val 17 (.int .i64 (t1.2.length : Int)))⟩, ⟨[7], [3], [], Fct.cond (!(!decide ((t1.1.length : Int) = (x2.1.length : Int)))) (some 18) (Fct.val 18 (.pointer (some ⟨g106, 1, none⟩)))⟩, ⟨[7, 11], [], [], Fct.cond (!(!decide ((t1.1.length : Int) = (x2.1.length : Int)))) (some 19) (Fct.val 19 (.slice Ax2_1 x2.2.length cx2_1))⟩, ⟨[7, 12], [], [], Fct.cond (!(!decide ((t1.1.length : Int) = (x2.1.length : Int)))) (some 20) (Fct.val 20 (.int .i64 (x2.2.length : Int)))⟩, ⟨[7, 10, 13], [], [], Fct.cond (!(!decide ((t1.1.length : Int) = (x2.1.length : Int)))) (some 21) (Fct.val 21 (.bool (!decide ((t1.2.length : Int) = (x2.2.length : Int)))))⟩, ⟨[7, 14], [], [], Fct.val 22 (.bool x110)⟩] hz108 hd108 (by kernel_rfl) ?_ ?_
  · refine sc (fun _ _ _ _ s _ => px (or_field fo43_0 (s.1.trans e108_2) (by rfl))) ?_
    refine sc (fun _ _ _ f _ hE => px (or_load1 to34 f.1 (Blk.at_ (be_ hE b108_g104).2 0 rfl))) ?_
    refine sc (fun _ _ _ f _ _ => px (or_len tu34 f.1 rfl)) ?_
    refine sc (fun _ _ _ _ s _ => px (or_field fo37_0 (s.1.trans e108_3) (by rfl))) ?_
    refine sc (fun _ _ _ f _ hE => px (or_load1 to34 f.1 (Blk.at_ (be_ hE b108_g106).2 0 rfl))) ?_
    refine sc (fun _ _ _ f _ _ => px (or_len tu34 f.1 rfl)) ?_
    refine sc (fun _ _ _ f _ _ => px (or_neq f.1 f.2.1 rfl)) ?_
    refine sc (fun _ _ _ f _ _ => px (or_move f.1)) ?_
    refine sc (fun _ _ _ f s _ => sg_f rfl rfl rfl f.1 (fun hg => or_field fo43_1 (s.1.trans e108_2) (by rfl))) ?_
    refine sc (fun _ _ _ f _ hE => sg_f rfl rfl rfl f.1 (fun hg => or_load1 to41 (f.2.1.1 hg) (Blk.at_ (be_ hE b108_g104).2 1 rfl))) ?_
    refine sc (fun _ _ _ f _ _ => sg_f rfl rfl rfl f.1 (fun hg => or_len tu41 (f.2.1.1 hg) rfl)) ?_
    refine sc (fun _ _ _ f s _ => sg_f rfl rfl rfl f.1 (fun hg => or_field fo37_1 (s.1.trans e108_3) (by rfl))) ?_
    refine sc (fun _ _ _ f _ hE => sg_f rfl rfl rfl f.1 (fun hg => or_load1 to35 (f.2.1.1 hg) (Blk.at_ (be_ hE b108_g106).2 1 rfl))) ?_
    refine sc (fun _ _ _ f _ _ => sg_f rfl rfl rfl f.1 (fun hg => or_len tu35 (f.2.1.1 hg) rfl)) ?_
    refine sc (fun _ _ _ f _ _ => sg_f rfl rfl rfl f.1 (fun hg => or_neq (f.2.1.1 hg) (f.2.2.1.1 hg) rfl)) ?_
    refine sc (fun _ _ _ f _ _ => px (or_or f.1 rfl (fun hx => f.2.1.1 hx) (osome hx110).symm)) ?_
    exact steps_nil
  intro own111 a111 w111 hd111 hz111 hk111 hf111 hE111
  have e111_2 := (hk111 2 rfl).trans e108_2
  have e111_3 := (hk111 3 rfl).trans e108_3
  obtain ⟨(e111_22 : a111.eval (.tmp 22) = .bool x110), -⟩ := hf111 [15] rfl
  have hX111 := es_ hX108 hE111
  have b111_At1_0 := RdO.evo rfl hE111 b108_At1_0
  have b111_At1_1 := RdO.evo rfl hE111 b108_At1_1
  have b111_Ax2_0 := RdO.evo rfl hE111 b108_Ax2_0
  have b111_Ax2_1 := RdO.evo rfl hE111 b108_Ax2_1
  have b111_g104 := be_ hE111 b108_g104
  have b111_g106 := be_ hE111 b108_g106
  refine fl_cond e111_22 hs (fun c112 hs => ?_) (fun c112 hs => ?_)
  · refine rg0_seq 59 own111 (bz 1) [⟨[], [], [], Fct.val 4 (.bool false)⟩] hz111 hd111 (by kernel_rfl) ?_ ?_
    · refine sc (fun _ _ _ _ _ _ => px (or_assign rfl)) ?_
      exact steps_nil
    intro own113 a113 w113 hd113 hz113 hk113 hf113 hE113
    obtain ⟨(e113_4 : a113.eval (.tmp 4) = .bool false), -⟩ := hf113 [0] rfl
    have hX113 := es_ hX111 hE113
    refine fl_ret ?_
    refine hp109 _ _ _ rfl ?_
    obtain rfl := osome hs
    exact hret _ _ _ _ (.inl rfl) hd113 (results1_ rfl (RVal.tmp_ e113_4)) ⟨own113, rfl, hX113⟩
  refine fl_skip ?_
  refine hn109 _ _ ?_
  refine fl_seq (fun Q114 hn114 hp114 => ?_)
  refine rg0_seq 59 own111 (bz 1) [⟨[], [], [], Fct.val 5 (.int .i64 0)⟩] hz111 hd111 (by kernel_rfl) ?_ ?_
  · refine sc (fun _ _ _ _ _ _ => px (or_assign rfl)) ?_
    exact steps_nil
  intro own115 a115 w115 hd115 hz115 hk115 hf115 hE115
  have e115_2 := (hk115 2 rfl).trans e111_2
  have e115_3 := (hk115 3 rfl).trans e111_3
  obtain ⟨(e115_5 : a115.eval (.tmp 5) = .int .i64 0), -⟩ := hf115 [0] rfl
  have hX115 := es_ hX111 hE115
  have b115_At1_0 := RdO.evo rfl hE115 b111_At1_0
  have b115_At1_1 := RdO.evo rfl hE115 b111_At1_1
  have b115_Ax2_0 := RdO.evo rfl hE115 b111_Ax2_0
  have b115_Ax2_1 := RdO.evo rfl hE115 b111_Ax2_1
  have b115_g104 := be_ hE115 b111_g104
  have b115_g106 := be_ hE115 b111_g106
  refine fl_block (fun Q116 hn116 hx116 hp116 => ?_)
  refine fl_loop (body := (fun s => law11_same_b1 t1 x2 s)) (z := r) (show loopO _ _ = _ from hs) (fun (i129 : Int) a wx => ∃ (ox : Own), a.defers = [] ∧ a.tmps.size = 59 ∧ a.eval (.tmp 2) = .pointer (some ⟨g104, 0, none⟩) ∧ a.eval (.tmp 3) = .pointer (some ⟨g106, 0, none⟩) ∧ a.eval (.tmp 5) = .int .i64 i129 ∧ Evo [] (fun _ => 0) ox w wx ∧ BlkO ox 105 wx g104 43 #[.slice At1_0 t1.1.length ct1_0, .slice At1_1 t1.2.length ct1_1] ∧ RdO ox [0] wx R9 At1_0 ct1_0 t1.1 ∧ RdO ox [0] wx R60 At1_1 ct1_1 t1.2 ∧ BlkO ox 107 wx g106 37 #[.slice Ax2_0 x2.1.length cx2_0, .slice Ax2_1 x2.2.length cx2_1] ∧ RdO ox [0] wx R9 Ax2_0 cx2_0 x2.1 ∧ RdO ox [0] wx R75 Ax2_1 cx2_1 x2.2) ?_ ?_
  · exact ⟨own115, hd115, hz115, e115_2, e115_3, e115_5, hX115, b115_g104, b115_At1_0, b115_At1_1, b115_g106, b115_Ax2_0, b115_Ax2_1⟩
  · rintro i129 zz142 a142 w142 ⟨own142, hd143, hz143, e143_2, e143_3, e143_5, hE143, b143_g104, b143_At1_0, b143_At1_1, b143_g106, b143_Ax2_0, b143_Ax2_1⟩ hs Q142 hn142 hp142 hz142
    have hs : law11_same_b1 t1 x2 i129 = some zz142 := hs
    refine fl_seq (fun Q144 hn144 hp144 => ?_)
    refine rg0_seq 59 own142 [0, 0, 2, 6, 15] [⟨[], [5], [], Fct.val 23 (.int .i64 i129)⟩, ⟨[], [2], [], Fct.val 24 (.pointer (some ⟨g104, 0, none⟩))⟩, ⟨[1], [], [], Fct.val 25 (.slice At1_0 t1.1.length ct1_0)⟩, ⟨[2], [], [], Fct.val 26 (.int .i64 (t1.1.length : Int))⟩, ⟨[0, 3], [], [], Fct.val 27 (.bool (decide (i129 < (t1.1.length : Int))))⟩] hz143 hd143 (by kernel_rfl) ?_ ?_
    · refine sc (fun _ _ _ _ s _ => px (or_move (s.1.trans e143_5))) ?_
      refine sc (fun _ _ _ _ s _ => px (or_field fo43_0 (s.1.trans e143_2) (by rfl))) ?_
      refine sc (fun _ _ _ f _ hE => px (or_load1 to34 f.1 (Blk.at_ (be_ hE b143_g104).2 0 rfl))) ?_
      refine sc (fun _ _ _ f _ _ => px (or_len tu34 f.1 rfl)) ?_
      refine sc (fun _ _ _ f _ _ => px (or_lss f.1 f.2.1 rfl)) ?_
      exact steps_nil
    intro own145 a145 w145 hd145 hz145 hk145 hf145 hE145
    have e145_2 := (hk145 2 rfl).trans e143_2
    have e145_3 := (hk145 3 rfl).trans e143_3
    have e145_5 := (hk145 5 rfl).trans e143_5
    obtain ⟨(e145_27 : a145.eval (.tmp 27) = .bool (decide (i129 < (t1.1.length : Int)))), -⟩ := hf145 [4] rfl
    have hX145 := es_ hE143 hE145
    have b145_g104 := be_ hE145 b143_g104
    have b145_At1_0 := RdO.evo rfl hE145 b143_At1_0
    have b145_At1_1 := RdO.evo rfl hE145 b143_At1_1
    have b145_g106 := be_ hE145 b143_g106
    have b145_Ax2_0 := RdO.evo rfl hE145 b143_Ax2_0
    have b145_Ax2_1 := RdO.evo rfl hE145 b143_Ax2_1
    refine fl_cond e145_27 hs (fun c146 hs => ?_) (fun c146 hs => ?_)
    · refine fl_skip ?_
      refine hn144 _ _ ?_
      refine fl_seq (fun Q147 hn147 hp147 => ?_)
      refine fl_block (fun Q148 hn148 hx148 hp148 => ?_)
      obtain ⟨x149, hx149, hs⟩ := obind hs
      obtain ⟨x150, hx150, hs⟩ := obind hs
      refine rg_draw_seq g_mixed (n := 59) (rs := []) (own0 := own145) (K := []) (bs := [0, 1, 0, 7, 15, 0, 32, 0, 224, 480, 1023]) (ds := [⟨[], [2], [], Fct.val 30 (.pointer (some ⟨g104, 0, none⟩))⟩, ⟨[0], [], [], Fct.val 31 (.slice At1_0 t1.1.length ct1_0)⟩, ⟨[], [5], [], Fct.val 32 (.int .i64 i129)⟩, ⟨[1, 2], [], [], Fct.val 33 (.pointer (some ((adr At1_0).add ((i129 : Int).toNat * R9.s))))⟩, ⟨[3], [], [], Fct.val 34 (.string x149)⟩, ⟨[], [3], [], Fct.val 35 (.pointer (some ⟨g106, 0, none⟩))⟩, ⟨[5], [], [], Fct.val 36 (.slice Ax2_0 x2.1.length cx2_0)⟩, ⟨[], [5], [], Fct.val 37 (.int .i64 i129)⟩, ⟨[6, 7], [], [], Fct.val 38 (.pointer (some ((adr Ax2_0).add ((i129 : Int).toNat * R9.s))))⟩, ⟨[8], [], [], Fct.val 39 (.string x150)⟩, ⟨[4, 9], [], [], Fct.val 40 (.bool (!eqS x149 x150))⟩]) (by kernel_rfl) hz145 hd145 nm_ ?_ ?_
      · refine sc (fun _ _ _ _ s _ => px (or_field fo43_0 (s.1.trans e145_2) (by rfl))) ?_
        refine sc (fun _ _ _ f _ hE => px (or_load1 to34 f.1 (Blk.at_ (be_ hE b145_g104).2 0 rfl))) ?_
        refine sc (fun _ _ _ _ s _ => px (or_move (s.1.trans e145_5))) ?_
        refine sc (fun _ _ _ f _ _ => px (or_index (R := R9) (l := t1.1) tl34 f.1 f.2.1 (RdO.some_ b145_At1_0 hx149) hx149)) ?_
        refine sc (fun _ _ _ f _ hE => px (or_load1 to9 f.1 (CellsAt.zero (RdO.cells (F := E9) (RdO.evo rfl hE b145_At1_0) hx149) rfl))) ?_
        refine sc (fun _ _ _ _ s _ => px (or_field fo37_0 (s.1.trans e145_3) (by rfl))) ?_
        refine sc (fun _ _ _ f _ hE => px (or_load1 to34 f.1 (Blk.at_ (be_ hE b145_g106).2 0 rfl))) ?_
        refine sc (fun _ _ _ _ s _ => px (or_move (s.1.trans e145_5))) ?_
        refine sc (fun _ _ _ f _ _ => px (or_index (R := R9) (l := x2.1) tl34 f.1 f.2.1 (RdO.some_ b145_Ax2_0 hx150) hx150)) ?_
        refine sc (fun _ _ _ f _ hE => px (or_load1 to9 f.1 (CellsAt.zero (RdO.cells (F := E9) (RdO.evo rfl hE b145_Ax2_0) hx150) rfl))) ?_
        refine sc (fun _ _ _ f _ _ => px (or_neqS tS9 f.1 f.2.1 rfl)) ?_
        exact steps_nil
      intro own151 a151 w151 hd151 hz151 hk151 hf151 hE151
      have e151_2 := (hk151 2 rfl).trans e145_2
      have e151_3 := (hk151 3 rfl).trans e145_3
      have e151_5 := (hk151 5 rfl).trans e145_5
      obtain ⟨(e151_40 : a151.eval (.tmp 40) = .bool (!eqS x149 x150)), -⟩ := hf151 [10] rfl
      have hX151 := es_ hX145 hE151
      have b151_g104 := be_ hE151 b145_g104
      have b151_At1_0 := RdO.evo rfl hE151 b145_At1_0
      have b151_At1_1 := RdO.evo rfl hE151 b145_At1_1
      have b151_g106 := be_ hE151 b145_g106
      have b151_Ax2_0 := RdO.evo rfl hE151 b145_Ax2_0
      have b151_Ax2_1 := RdO.evo rfl hE151 b145_Ax2_1
      refine fl_cond e151_40 hs (fun c152 hs => ?_) (fun c152 hs => ?_)
      · refine rg0_seq 59 own151 (bz 1) [⟨[], [], [], Fct.val 4 (.bool false)⟩] hz151 hd151 (by kernel_rfl) ?_ ?_
        · refine sc (fun _ _ _ _ _ _ => px (or_assign rfl)) ?_
          exact steps_nil
        intro own153 a153 w153 hd153 hz153 hk153 hf153 hE153
        obtain ⟨(e153_4 : a153.eval (.tmp 4) = .bool false), -⟩ := hf153 [0] rfl
        have hX153 := es_ hX151 hE153
        refine fl_ret ?_
        refine hp148 _ _ _ rfl ?_
        refine hp147 _ _ _ rfl ?_
        replace hs := hz142 _ hs
        refine hp142 _ _ _ rfl ?_
        refine hp116 _ _ _ rfl ?_
        refine hp114 _ _ _ rfl ?_
        obtain rfl := osome hs
        exact hret _ _ _ _ (.inl rfl) hd153 (results1_ rfl (RVal.tmp_ e153_4)) ⟨own153, rfl, hX153⟩
      refine fl_skip ?_
      refine hn148 _ _ ?_
      refine hn147 _ _ ?_
      refine rg0 59 own151 (bz 3) [⟨[], [5], [], Fct.val 28 (.int .i64 i129)⟩, ⟨[0], [], [], Fct.val 29 (.int .i64 (ad i129 1))⟩, ⟨[1], [], [], Fct.val 5 (.int .i64 (ad i129 1))⟩] hz151 hd151 (by kernel_rfl) ?_ ?_
      · refine sc (fun _ _ _ _ s _ => px (or_move (s.1.trans e151_5))) ?_
        refine sc (fun _ _ _ f _ _ => px (or_add f.1 rfl rfl)) ?_
        refine sc (fun _ _ _ f _ _ => px (or_assign f.1)) ?_
        exact steps_nil
      intro own154 a154 w154 hd154 hz154 hk154 hf154 hE154
      have e154_2 := (hk154 2 rfl).trans e151_2
      have e154_3 := (hk154 3 rfl).trans e151_3
      obtain ⟨(e154_5 : a154.eval (.tmp 5) = .int .i64 (ad i129 1)), -⟩ := hf154 [2] rfl
      have hX154 := es_ hX151 hE154
      have b154_g104 := be_ hE154 b151_g104
      have b154_At1_0 := RdO.evo rfl hE154 b151_At1_0
      have b154_At1_1 := RdO.evo rfl hE154 b151_At1_1
      have b154_g106 := be_ hE154 b151_g106
      have b154_Ax2_0 := RdO.evo rfl hE154 b151_Ax2_0
      have b154_Ax2_1 := RdO.evo rfl hE154 b151_Ax2_1
      exact hn142 _ _ _ hs ⟨own154, hd154, hz154, e154_2, e154_3, e154_5, hX154, b154_g104, b154_At1_0, b154_At1_1, b154_g106, b154_Ax2_0, b154_Ax2_1⟩
    refine fl_exit ?_
    refine hp144 _ _ _ rfl ?_
    replace hs := hz142 _ hs
    refine hp142 _ _ _ rfl ?_
    refine hx116 _ _ ?_
    refine hn114 _ _ ?_
    refine fl_seq (fun Q155 hn155 hp155 => ?_)
    refine rg0_seq 59 own145 (bz 1) [⟨[], [], [], Fct.val 6 (.int .i64 0)⟩] hz145 hd145 (by kernel_rfl) ?_ ?_
    · refine sc (fun _ _ _ _ _ _ => px (or_assign rfl)) ?_
      exact steps_nil
    intro own156 a156 w156 hd156 hz156 hk156 hf156 hE156
    have e156_2 := (hk156 2 rfl).trans e145_2
    have e156_3 := (hk156 3 rfl).trans e145_3
    obtain ⟨(e156_6 : a156.eval (.tmp 6) = .int .i64 0), -⟩ := hf156 [0] rfl
    have hX156 := es_ hX145 hE156
    have b156_g104 := be_ hE156 b145_g104
    have b156_At1_0 := RdO.evo rfl hE156 b145_At1_0
    have b156_At1_1 := RdO.evo rfl hE156 b145_At1_1
    have b156_g106 := be_ hE156 b145_g106
    have b156_Ax2_0 := RdO.evo rfl hE156 b145_Ax2_0
    have b156_Ax2_1 := RdO.evo rfl hE156 b145_Ax2_1
    refine fl_block (fun Q157 hn157 hx157 hp157 => ?_)
    refine fl_loop (body := (fun s => law11_same_b2 t1 x2 s)) (z := r) (show loopO _ _ = _ from hs) (fun (i170 : Int) a wx => ∃ (ox : Own), a.defers = [] ∧ a.tmps.size = 59 ∧ a.eval (.tmp 2) = .pointer (some ⟨g104, 0, none⟩) ∧ a.eval (.tmp 3) = .pointer (some ⟨g106, 0, none⟩) ∧ a.eval (.tmp 6) = .int .i64 i170 ∧ Evo [] (fun _ => 0) ox w wx ∧ BlkO ox 105 wx g104 43 #[.slice At1_0 t1.1.length ct1_0, .slice At1_1 t1.2.length ct1_1] ∧ RdO ox [0] wx R9 At1_0 ct1_0 t1.1 ∧ RdO ox [0] wx R60 At1_1 ct1_1 t1.2 ∧ BlkO ox 107 wx g106 37 #[.slice Ax2_0 x2.1.length cx2_0, .slice Ax2_1 x2.2.length cx2_1] ∧ RdO ox [0] wx R9 Ax2_0 cx2_0 x2.1 ∧ RdO ox [0] wx R75 Ax2_1 cx2_1 x2.2) ?_ ?_
    · exact ⟨own156, hd156, hz156, e156_2, e156_3, e156_6, hX156, b156_g104, b156_At1_0, b156_At1_1, b156_g106, b156_Ax2_0, b156_Ax2_1⟩
    · rintro i170 zz183 a183 w183 ⟨own183, hd184, hz184, e184_2, e184_3, e184_6, hE184, b184_g104, b184_At1_0, b184_At1_1, b184_g106, b184_Ax2_0, b184_Ax2_1⟩ hs Q183 hn183 hp183 hz183
      have hs : law11_same_b2 t1 x2 i170 = some zz183 := hs
      refine fl_seq (fun Q185 hn185 hp185 => ?_)
      refine rg0_seq 59 own183 [0, 0, 2, 6, 15] [⟨[], [6], [], Fct.val 41 (.int .i64 i170)⟩, ⟨[], [2], [], Fct.val 42 (.pointer (some ⟨g104, 1, none⟩))⟩, ⟨[1], [], [], Fct.val 43 (.slice At1_1 t1.2.length ct1_1)⟩, ⟨[2], [], [], Fct.val 44 (.int .i64 (t1.2.length : Int))⟩, ⟨[0, 3], [], [], Fct.val 45 (.bool (decide (i170 < (t1.2.length : Int))))⟩] hz184 hd184 (by kernel_rfl) ?_ ?_
      · refine sc (fun _ _ _ _ s _ => px (or_move (s.1.trans e184_6))) ?_
        refine sc (fun _ _ _ _ s _ => px (or_field fo43_1 (s.1.trans e184_2) (by rfl))) ?_
        refine sc (fun _ _ _ f _ hE => px (or_load1 to41 f.1 (Blk.at_ (be_ hE b184_g104).2 1 rfl))) ?_
        refine sc (fun _ _ _ f _ _ => px (or_len tu41 f.1 rfl)) ?_
        refine sc (fun _ _ _ f _ _ => px (or_lss f.1 f.2.1 rfl)) ?_
        exact steps_nil
      intro own186 a186 w186 hd186 hz186 hk186 hf186 hE186
      have e186_2 := (hk186 2 rfl).trans e184_2
      have e186_3 := (hk186 3 rfl).trans e184_3
      have e186_6 := (hk186 6 rfl).trans e184_6
      obtain ⟨(e186_45 : a186.eval (.tmp 45) = .bool (decide (i170 < (t1.2.length : Int)))), -⟩ := hf186 [4] rfl
      have hX186 := es_ hE184 hE186
      have b186_g104 := be_ hE186 b184_g104
      have b186_At1_0 := RdO.evo rfl hE186 b184_At1_0
      have b186_At1_1 := RdO.evo rfl hE186 b184_At1_1
      have b186_g106 := be_ hE186 b184_g106
      have b186_Ax2_0 := RdO.evo rfl hE186 b184_Ax2_0
      have b186_Ax2_1 := RdO.evo rfl hE186 b184_Ax2_1
      refine fl_cond e186_45 hs (fun c187 hs => ?_) (fun c187 hs => ?_)
      · refine fl_skip ?_
        refine hn185 _ _ ?_
        refine fl_seq (fun Q188 hn188 hp188 => ?_)
        refine fl_block (fun Q189 hn189 hx189 hp189 => ?_)
        obtain ⟨x190, hx190, hs⟩ := obind hs
        obtain ⟨x191, hx191, hs⟩ := obind hs
        refine rg_draw_seq g_mixed (n := 59) (rs := []) (own0 := own186) (K := []) (bs := [0, 1, 0, 7, 15, 0, 32, 0, 224, 480, 1023]) (ds := [⟨[], [2], [], Fct.val 48 (.pointer (some ⟨g104, 1, none⟩))⟩, ⟨[0], [], [], Fct.val 49 (.slice At1_1 t1.2.length ct1_1)⟩, ⟨[], [6], [], Fct.val 50 (.int .i64 i170)⟩, ⟨[1, 2], [], [], Fct.val 51 (.pointer (some ((adr At1_1).add ((i170 : Int).toNat * R60.s))))⟩, ⟨[3], [], [], Fct.val 52 (.agg #[.int .i64 x190.1, .string x190.2.1, .int .i64 x190.2.2])⟩, ⟨[], [3], [], Fct.val 53 (.pointer (some ⟨g106, 1, none⟩))⟩, ⟨[5], [], [], Fct.val 54 (.slice Ax2_1 x2.2.length cx2_1)⟩, ⟨[], [6], [], Fct.val 55 (.int .i64 i170)⟩, ⟨[6, 7], [], [], Fct.val 56 (.pointer (some ((adr Ax2_1).add ((i170 : Int).toNat * R75.s))))⟩, ⟨[8], [], [], Fct.val 57 (.agg #[.int .i64 x191.1, .string x191.2.1, .int .i64 x191.2.2])⟩, ⟨[4, 9], [], [], Fct.val 58 (.bool (!decide (x190 = x191)))⟩]) (by kernel_rfl) hz186 hd186 nm_ ?_ ?_
        · refine sc (fun _ _ _ _ s _ => px (or_field fo43_1 (s.1.trans e186_2) (by rfl))) ?_
          refine sc (fun _ _ _ f _ hE => px (or_load1 to41 f.1 (Blk.at_ (be_ hE b186_g104).2 1 rfl))) ?_
          refine sc (fun _ _ _ _ s _ => px (or_move (s.1.trans e186_6))) ?_
          refine sc (fun _ _ _ f _ _ => px (or_index (R := R60) (l := t1.2) tl41 f.1 f.2.1 (RdO.some_ b186_At1_1 hx190) hx190)) ?_
          refine sc (fun _ _ _ f _ hE => px (or_load (l := E60.f x190) ta60 f.1 (RdO.cells (F := E60) (RdO.evo rfl hE b186_At1_1) hx190) rfl)) ?_
          refine sc (fun _ _ _ _ s _ => px (or_field fo37_1 (s.1.trans e186_3) (by rfl))) ?_
          refine sc (fun _ _ _ f _ hE => px (or_load1 to35 f.1 (Blk.at_ (be_ hE b186_g106).2 1 rfl))) ?_
          refine sc (fun _ _ _ _ s _ => px (or_move (s.1.trans e186_6))) ?_
          refine sc (fun _ _ _ f _ _ => px (or_index (R := R75) (l := x2.2) tl35 f.1 f.2.1 (RdO.some_ b186_Ax2_1 hx191) hx191)) ?_
          refine sc (fun _ _ _ f _ hE => px (or_load (l := E75.f x191) ta75 f.1 (RdO.cells (F := E75) (RdO.evo rfl hE b186_Ax2_1) hx191) rfl)) ?_
          refine sc (fun _ _ _ f _ _ => px (or_neqA sg75 f.1 f.2.1 (sn75 x190.1 x190.2.1 x190.2.2 x191.1 x191.2.1 x191.2.2 _) rfl)) ?_
          exact steps_nil
        intro own192 a192 w192 hd192 hz192 hk192 hf192 hE192
        have e192_2 := (hk192 2 rfl).trans e186_2
        have e192_3 := (hk192 3 rfl).trans e186_3
        have e192_6 := (hk192 6 rfl).trans e186_6
        obtain ⟨(e192_58 : a192.eval (.tmp 58) = .bool (!decide (x190 = x191))), -⟩ := hf192 [10] rfl
        have hX192 := es_ hX186 hE192
        have b192_g104 := be_ hE192 b186_g104
        have b192_At1_0 := RdO.evo rfl hE192 b186_At1_0
        have b192_At1_1 := RdO.evo rfl hE192 b186_At1_1
        have b192_g106 := be_ hE192 b186_g106
        have b192_Ax2_0 := RdO.evo rfl hE192 b186_Ax2_0
        have b192_Ax2_1 := RdO.evo rfl hE192 b186_Ax2_1
        refine fl_cond e192_58 hs (fun c193 hs => ?_) (fun c193 hs => ?_)
        · refine rg0_seq 59 own192 (bz 1) [⟨[], [], [], Fct.val 4 (.bool false)⟩] hz192 hd192 (by kernel_rfl) ?_ ?_
          · refine sc (fun _ _ _ _ _ _ => px (or_assign rfl)) ?_
            exact steps_nil
          intro own194 a194 w194 hd194 hz194 hk194 hf194 hE194
          obtain ⟨(e194_4 : a194.eval (.tmp 4) = .bool false), -⟩ := hf194 [0] rfl
          have hX194 := es_ hX192 hE194
          refine fl_ret ?_
          refine hp189 _ _ _ rfl ?_
          refine hp188 _ _ _ rfl ?_
          replace hs := hz183 _ hs
          refine hp183 _ _ _ rfl ?_
          refine hp157 _ _ _ rfl ?_
          refine hp155 _ _ _ rfl ?_
          obtain rfl := osome hs
          exact hret _ _ _ _ (.inl rfl) hd194 (results1_ rfl (RVal.tmp_ e194_4)) ⟨own194, rfl, hX194⟩
        refine fl_skip ?_
        refine hn189 _ _ ?_
        refine hn188 _ _ ?_
        refine rg0 59 own192 (bz 3) [⟨[], [6], [], Fct.val 46 (.int .i64 i170)⟩, ⟨[0], [], [], Fct.val 47 (.int .i64 (ad i170 1))⟩, ⟨[1], [], [], Fct.val 6 (.int .i64 (ad i170 1))⟩] hz192 hd192 (by kernel_rfl) ?_ ?_
        · refine sc (fun _ _ _ _ s _ => px (or_move (s.1.trans e192_6))) ?_
          refine sc (fun _ _ _ f _ _ => px (or_add f.1 rfl rfl)) ?_
          refine sc (fun _ _ _ f _ _ => px (or_assign f.1)) ?_
          exact steps_nil
        intro own195 a195 w195 hd195 hz195 hk195 hf195 hE195
        have e195_2 := (hk195 2 rfl).trans e192_2
        have e195_3 := (hk195 3 rfl).trans e192_3
        obtain ⟨(e195_6 : a195.eval (.tmp 6) = .int .i64 (ad i170 1)), -⟩ := hf195 [2] rfl
        have hX195 := es_ hX192 hE195
        have b195_g104 := be_ hE195 b192_g104
        have b195_At1_0 := RdO.evo rfl hE195 b192_At1_0
        have b195_At1_1 := RdO.evo rfl hE195 b192_At1_1
        have b195_g106 := be_ hE195 b192_g106
        have b195_Ax2_0 := RdO.evo rfl hE195 b192_Ax2_0
        have b195_Ax2_1 := RdO.evo rfl hE195 b192_Ax2_1
        exact hn183 _ _ _ hs ⟨own195, hd195, hz195, e195_2, e195_3, e195_6, hX195, b195_g104, b195_At1_0, b195_At1_1, b195_g106, b195_Ax2_0, b195_Ax2_1⟩
      refine fl_exit ?_
      refine hp185 _ _ _ rfl ?_
      replace hs := hz183 _ hs
      refine hp183 _ _ _ rfl ?_
      refine hx157 _ _ ?_
      refine hn155 _ _ ?_
      refine rg0_seq 59 own186 (bz 1) [⟨[], [], [], Fct.val 4 (.bool true)⟩] hz186 hd186 (by kernel_rfl) ?_ ?_
      · refine sc (fun _ _ _ _ _ _ => px (or_assign rfl)) ?_
        exact steps_nil
      intro own196 a196 w196 hd196 hz196 hk196 hf196 hE196
      obtain ⟨(e196_4 : a196.eval (.tmp 4) = .bool true), -⟩ := hf196 [0] rfl
      have hX196 := es_ hX186 hE196
      refine fl_ret ?_
      obtain rfl := osome hs
      exact hret _ _ _ _ (.inl rfl) hd196 (results1_ rfl (RVal.tmp_ e196_4)) ⟨own196, rfl, hX196⟩
theorem ref11_Add_w (w : World) (own : Own) (t1 : (List ByteArray) × (List (Int × ByteArray × Int))) (At1_0 : Option Addr) (ct1_0 : Nat) (At1_1 : Option Addr) (ct1_1 : Nat) (l2 : List (ByteArray × (Int × ByteArray × Int))) (Al2 : Option Addr) (cl2 : Nat) (hown : ∀ b, own b ≤ 1) (hAt1_0 : RdO own [1] w R9 At1_0 ct1_0 t1.1) (hAt1_1 : RdO own [1] w R75 At1_1 ct1_1 t1.2) (hl2 : RdO own [1] w R77 Al2 cl2 l2) (r : ((List ByteArray) × (List (Int × ByteArray × Int))) × (List Int)) (hs : ref11_Add t1 l2 = some r) :
    Calls Try.prog 19 #[.agg #[.slice At1_0 t1.1.length ct1_0, .slice At1_1 t1.2.length ct1_1], .slice Al2 l2.length cl2] w fun e w' => ∃ (own' : Own) (x : (Option Addr × Nat) × (Option Addr × Nat) × (Option Addr × Nat)), e = .returned (.tuple #[.agg #[.slice x.1.1 r.1.1.length x.1.2, .slice x.2.1.1 r.1.2.length x.2.1.2], .slice x.2.2.1 r.2.length x.2.2.2]) ∧ Evo [] own own' w w' ∧ RdO own' [1, 2] w' R9 x.1.1 x.1.2 r.1.1 ∧ RdO own' [1, 3] w' R75 x.2.1.1 x.2.1.2 r.1.2 ∧ RwO own' 4 [] w' 3 R3 x.2.2.1 x.2.2.2 r.2 := by
  refine fl_enter (n := 73) rfl rfl rfl (Nat.le_of_ble_eq_true rfl) ?_
  intro a0 Q hd0 hz0 harg hret
  have ha0 := harg 0 _ rfl
  have ha1 := harg 1 _ rfl
  clear harg
  have hE0 : Evo [] own own w w := Evo.refl _ _ _
  refine rg0_seq 73 own [0, 0, 0] [⟨[], [0], [], Fct.blk 458 2 (fun g => .pointer (some ⟨g, 0, none⟩)) 37 #[.slice At1_0 t1.1.length ct1_0, .slice At1_1 t1.2.length ct1_1]⟩, ⟨[], [], [], Fct.blk 460 4 (fun g => .pointer (some ⟨g, 0, none⟩)) 37 #[.slice none 0 0, .slice none 0 0]⟩, ⟨[], [], [], Fct.val 5 (.slice none 0 0)⟩] hz0 hd0 (by kernel_rfl) ?_ ?_
  · refine sc (fun _ _ _ _ s _ => px (or_new [(0, .agg #[.slice At1_0 t1.1.length ct1_0, .slice At1_1 t1.2.length ct1_1])] rfl rfl ⟨(s.1.trans ha0), trivial⟩ (by kernel_rfl))) ?_
    refine sc (fun _ _ _ _ _ _ => px (or_new [] rfl rfl trivial (by kernel_rfl))) ?_
    refine sc (fun _ _ _ _ _ _ => px (or_assign rfl)) ?_
    exact steps_nil
  intro own461 a461 w461 hd461 hz461 hk461 hf461 hE461
  have e461_1 := (hk461 1 rfl).trans ha1
  obtain ⟨⟨g457, (e461_2 : a461.eval (.tmp 2) = .pointer (some ⟨g457, 0, none⟩)), (b461_g457 : BlkO own461 458 w461 g457 37 #[.slice At1_0 t1.1.length ct1_0, .slice At1_1 t1.2.length ct1_1])⟩, ⟨g459, (e461_4 : a461.eval (.tmp 4) = .pointer (some ⟨g459, 0, none⟩)), (b461_g459 : BlkO own461 460 w461 g459 37 #[.slice none 0 0, .slice none 0 0])⟩, -⟩ := hf461 [0, 1] rfl
  have hX461 := Evo.step hE0 hown hE461 rfl
  have b461_At1_0 := RdO.evo rfl hE461 hAt1_0
  have b461_At1_1 := RdO.evo rfl hE461 hAt1_1
  have b461_Al2 := RdO.evo rfl hE461 hl2
  refine rg0_seq 73 own461 (bz 1) [⟨[], [], [], Fct.val 6 (.slice none 0 0)⟩] hz461 hd461 (by kernel_rfl) ?_ ?_
  · refine sc (fun _ _ _ _ _ _ => px (or_assign rfl)) ?_
    exact steps_nil
  intro own462 a462 w462 hd462 hz462 hk462 hf462 hE462
  have e462_1 := (hk462 1 rfl).trans e461_1
  have e462_2 := (hk462 2 rfl).trans e461_2
  have e462_4 := (hk462 4 rfl).trans e461_4
  obtain ⟨(e462_6 : a462.eval (.tmp 6) = .slice none 0 0), -⟩ := hf462 [0] rfl
  have hX462 := Evo.step hX461 hown hE462 rfl
  have b462_At1_0 := RdO.evo rfl hE462 b461_At1_0
  have b462_At1_1 := RdO.evo rfl hE462 b461_At1_1
  have b462_Al2 := RdO.evo rfl hE462 b461_Al2
  have b462_g457 := be_ hE462 b461_g457
  have b462_g459 := be_ hE462 b461_g459
  refine fl_seq (fun Q463 hn463 hp463 => ?_)
  refine rg0_seq 73 own462 (bz 1) [⟨[], [], [], Fct.val 7 (.int .i64 0)⟩] hz462 hd462 (by kernel_rfl) ?_ ?_
  · refine sc (fun _ _ _ _ _ _ => px (or_assign rfl)) ?_
    exact steps_nil
  intro own464 a464 w464 hd464 hz464 hk464 hf464 hE464
  have e464_1 := (hk464 1 rfl).trans e462_1
  have e464_2 := (hk464 2 rfl).trans e462_2
  have e464_4 := (hk464 4 rfl).trans e462_4
  have e464_6 := (hk464 6 rfl).trans e462_6
  obtain ⟨(e464_7 : a464.eval (.tmp 7) = .int .i64 0), -⟩ := hf464 [0] rfl
  have hX464 := Evo.step hX462 hown hE464 rfl
  have b464_At1_0 := RdO.evo rfl hE464 b462_At1_0
  have b464_At1_1 := RdO.evo rfl hE464 b462_At1_1
  have b464_Al2 := RdO.evo rfl hE464 b462_Al2
  have b464_g457 := be_ hE464 b462_g457
  have b464_g459 := be_ hE464 b462_g459
  refine fl_block (fun Q465 hn465 hx465 hp465 => ?_)
  refine fl_loop (body := (fun s => ref11_Add_b1 l2 s.1 s.2.1 s.2.2.1 s.2.2.2)) (z := r) (show loopO _ _ = _ from hs) (fun (s : (List ByteArray) × (List (Int × ByteArray × Int)) × (List Int) × Int) a wx => match s with | (t608, t612, out616, i618) => ∃ (ox : Own) (A606 : Option Addr) (c607 : Nat) (A610 : Option Addr) (c611 : Nat) (A614 : Option Addr) (c615 : Nat), a.defers = [] ∧ a.tmps.size = 73 ∧ a.eval (.tmp 1) = .slice Al2 l2.length cl2 ∧ a.eval (.tmp 2) = .pointer (some ⟨g457, 0, none⟩) ∧ a.eval (.tmp 4) = .pointer (some ⟨g459, 0, none⟩) ∧ a.eval (.tmp 6) = .slice A614 out616.length c615 ∧ a.eval (.tmp 7) = .int .i64 i618 ∧ Evo [] own ox w wx ∧ RdO ox [1] wx R77 Al2 cl2 l2 ∧ BlkO ox 605 wx g457 37 #[.slice A606 t608.length c607, .slice A610 t612.length c611] ∧ RdO ox [1, 609] wx R9 A606 c607 t608 ∧ RdO ox [1, 613] wx R75 A610 c611 t612 ∧ BlkO ox 460 wx g459 37 #[.slice none 0 0, .slice none 0 0] ∧ RwO ox 617 [] wx 3 R3 A614 c615 out616) ?_ ?_
  · exact ⟨(rl [(458, 605)] own464), At1_0, ct1_0, At1_1, ct1_1, none, 0, hd464, hz464, e464_1, e464_2, e464_4, e464_6, e464_7, (Evo.rl_ hX464 hown rfl), (RdO.rl_ (mm := [(458, 605)]) b464_Al2), (BlkO.rl_ (mm := [(458, 605)]) b464_g457), (RdO.more (RdO.rl_ (mm := [(458, 605)]) b464_At1_0) (by decide)), (RdO.more (RdO.rl_ (mm := [(458, 605)]) b464_At1_1) (by decide)), (BlkO.rl_ (mm := [(458, 605)]) b464_g459), RwO.nil_⟩
  · rintro ⟨t608, t612, out616, i618⟩ zz759 a759 w759 ⟨own759, A606, c607, A610, c611, A614, c615, hd760, hz760, e760_1, e760_2, e760_4, e760_6, e760_7, hE760, b760_Al2, b760_g457, b760_A606, b760_A610, b760_g459, b760_A614⟩ hs Q759 hn759 hp759 hz759
    have hs : ref11_Add_b1 l2 t608 t612 out616 i618 = some zz759 := hs
    refine fl_seq (fun Q761 hn761 hp761 => ?_)
    refine rg0_seq 73 own759 [0, 0, 2, 7] [⟨[], [7], [], Fct.val 10 (.int .i64 i618)⟩, ⟨[], [1], [], Fct.val 11 (.slice Al2 l2.length cl2)⟩, ⟨[1], [], [], Fct.val 12 (.int .i64 (l2.length : Int))⟩, ⟨[0, 2], [], [], Fct.val 13 (.bool (decide (i618 < (l2.length : Int))))⟩] hz760 hd760 (by kernel_rfl) ?_ ?_
    · refine sc (fun _ _ _ _ s _ => px (or_move (s.1.trans e760_7))) ?_
      refine sc (fun _ _ _ _ s _ => px (or_move (s.1.trans e760_1))) ?_
      refine sc (fun _ _ _ f _ _ => px (or_len tu31 f.1 rfl)) ?_
      refine sc (fun _ _ _ f _ _ => px (or_lss f.1 f.2.1 rfl)) ?_
      exact steps_nil
    intro own762 a762 w762 hd762 hz762 hk762 hf762 hE762
    have e762_1 := (hk762 1 rfl).trans e760_1
    have e762_2 := (hk762 2 rfl).trans e760_2
    have e762_4 := (hk762 4 rfl).trans e760_4
    have e762_6 := (hk762 6 rfl).trans e760_6
    have e762_7 := (hk762 7 rfl).trans e760_7
    obtain ⟨(e762_13 : a762.eval (.tmp 13) = .bool (decide (i618 < (l2.length : Int)))), -⟩ := hf762 [3] rfl
    have hX762 := Evo.step hE760 hown hE762 rfl
    have b762_Al2 := RdO.evo rfl hE762 b760_Al2
    have b762_g457 := be_ hE762 b760_g457
    have b762_A606 := RdO.evo rfl hE762 b760_A606
    have b762_A610 := RdO.evo rfl hE762 b760_A610
    have b762_g459 := be_ hE762 b760_g459
    have b762_A614 := re_ hE762 b760_A614
    refine fl_cond e762_13 hs (fun c763 hs => ?_) (fun c763 hs => ?_)
    · refine fl_skip ?_
      refine hn761 _ _ ?_
      refine fl_seq (fun Q764 hn764 hp764 => ?_)
      refine fl_block (fun Q765 hn765 hx765 hp765 => ?_)
      obtain ⟨x766, hx766, hs⟩ := obind hs
      obtain ⟨r767, hr767, hs⟩ := obind hs
      obtain ⟨x768, hx768, hs⟩ := obind hs
      obtain ⟨r769, hr769, hs⟩ := obind hs
      refine rg_draw_seq g_mixed (n := 73) (rs := []) (own0 := own762) (K := []) (bs := [0, 1, 0, 0, 12, 28, 60, 127, 0, 256, 0, 0, 3072, 7168, 15360, 32767, 65535, 131071]) (ds := [⟨[], [2], [], Fct.val 16 (.pointer (some ⟨g457, 0, none⟩))⟩, ⟨[0], [], [], Fct.val 17 (.slice A606 t608.length c607)⟩, ⟨[], [1], [], Fct.val 18 (.slice Al2 l2.length cl2)⟩, ⟨[], [7], [], Fct.val 19 (.int .i64 i618)⟩, ⟨[2, 3], [], [], Fct.val 20 (.pointer (some ((adr Al2).add ((i618 : Int).toNat * R77.s))))⟩, ⟨[4], [], [], Fct.val 21 (.pointer (some ((adr Al2).add ((i618 : Int).toNat * R77.s))))⟩, ⟨[5], [], [], Fct.val 22 (.string x766.1)⟩, ⟨[1, 6], [], [], Fct.val 23 (.int .i64 r767)⟩, ⟨[], [2], [], Fct.val 24 (.pointer (some ⟨g457, 1, none⟩))⟩, ⟨[8], [], [], Fct.val 25 (.slice A610 t612.length c611)⟩, ⟨[], [1], [], Fct.val 26 (.slice Al2 l2.length cl2)⟩, ⟨[], [7], [], Fct.val 27 (.int .i64 i618)⟩, ⟨[10, 11], [], [], Fct.val 28 (.pointer (some ((adr Al2).add ((i618 : Int).toNat * R77.s))))⟩, ⟨[12], [], [], Fct.val 29 (.pointer (some (((adr Al2).add ((i618 : Int).toNat * R77.s)).add 1)))⟩, ⟨[13], [], [], Fct.val 30 (.agg #[.int .i64 x768.2.1, .string x768.2.2.1, .int .i64 x768.2.2.2])⟩, ⟨[9, 14], [], [], Fct.val 31 (.int .i64 r769)⟩, ⟨[7], [], [], Fct.val 8 (.int .i64 r767)⟩, ⟨[15], [], [], Fct.val 9 (.int .i64 r769)⟩]) (by kernel_rfl) hz762 hd762 nm_ ?_ ?_
      · refine sc (fun _ _ _ _ s _ => px (or_field fo37_0 (s.1.trans e762_2) (by rfl))) ?_
        refine sc (fun _ _ _ f _ hE => px (or_load1 to34 f.1 (Blk.at_ (be_ hE b762_g457).2 0 rfl))) ?_
        refine sc (fun _ _ _ _ s _ => px (or_move (s.1.trans e762_1))) ?_
        refine sc (fun _ _ _ _ s _ => px (or_move (s.1.trans e762_7))) ?_
        refine sc (fun _ _ _ f _ _ => px (or_index (R := R77) (l := l2) tl31 f.1 f.2.1 (RdO.some_ b762_Al2 hx766) hx766)) ?_
        refine sc (fun _ _ _ f _ _ => px (or_field fo77_0 f.1 (Addr.add_zero' _))) ?_
        refine sc (fun _ _ _ f _ hE => px (or_load1 to9 f.1 (CellsAt.zero (RdO.cells (F := E77) (RdO.evo rfl hE b762_Al2) hx766) rfl))) ?_
        refine sc (fun _ _ _ f _ hE => px (or_call cf35 (args2 f.1 f.2.1) (ref11_Key_w _ t608 A606 c607 x766.1 (RdO.zero (RdO.evo rfl hE b762_A606)) r767 hr767) post_val)) ?_
        refine sc (fun _ _ _ _ s _ => px (or_field fo37_1 (s.1.trans e762_2) (by rfl))) ?_
        refine sc (fun _ _ _ f _ hE => px (or_load1 to35 f.1 (Blk.at_ (be_ hE b762_g457).2 1 rfl))) ?_
        refine sc (fun _ _ _ _ s _ => px (or_move (s.1.trans e762_1))) ?_
        refine sc (fun _ _ _ _ s _ => px (or_move (s.1.trans e762_7))) ?_
        refine sc (fun _ _ _ f _ _ => px (or_index (R := R77) (l := l2) tl31 f.1 f.2.1 (RdO.some_ b762_Al2 hx768) hx768)) ?_
        refine sc (fun _ _ _ f _ _ => px (or_field fo77_1 f.1 rfl)) ?_
        refine sc (fun _ _ _ f _ hE => px (or_load (l := [.int .i64 x768.2.1, .string x768.2.2.1, .int .i64 x768.2.2.2]) ta75 f.1 (CellsAt.part (RdO.cells (F := E77) (RdO.evo rfl hE b762_Al2) hx768) 1 rfl) rfl)) ?_
        refine sc (fun _ _ _ f _ hE => px (or_call cf37 (args2 f.1 f.2.1) (ref11_Value_w _ t612 A610 c611 x768.2 (RdO.zero (RdO.evo rfl hE b762_A610)) r769 hr769) post_val)) ?_
        refine sc (fun _ _ _ f _ _ => px (or_assign f.1)) ?_
        refine sc (fun _ _ _ f _ _ => px (or_assign f.1)) ?_
        exact steps_nil
      intro own770 a770 w770 hd770 hz770 hk770 hf770 hE770
      have e770_1 := (hk770 1 rfl).trans e762_1
      have e770_2 := (hk770 2 rfl).trans e762_2
      have e770_4 := (hk770 4 rfl).trans e762_4
      have e770_6 := (hk770 6 rfl).trans e762_6
      have e770_7 := (hk770 7 rfl).trans e762_7
      obtain ⟨(e770_8 : a770.eval (.tmp 8) = .int .i64 r767), (e770_9 : a770.eval (.tmp 9) = .int .i64 r769), -⟩ := hf770 [16, 17] rfl
      have hX770 := Evo.step hX762 hown hE770 rfl
      have b770_Al2 := RdO.evo rfl hE770 b762_Al2
      have b770_g457 := be_ hE770 b762_g457
      have b770_A606 := RdO.evo rfl hE770 b762_A606
      have b770_A610 := RdO.evo rfl hE770 b762_A610
      have b770_g459 := be_ hE770 b762_g459
      have b770_A614 := re_ hE770 b762_A614
      refine fl_seq (fun Q771 hn771 hp771 => ?_)
      have K803 : ∀ (a803 : Act) (w803 : World) (own803 : Own) (t801 : List ByteArray) (A799 : Option Addr) (c800 : Nat), a803.defers = [] → a803.tmps.size = 73 → a803.eval (.tmp 1) = .slice Al2 l2.length cl2 → a803.eval (.tmp 2) = .pointer (some ⟨g457, 0, none⟩) → a803.eval (.tmp 4) = .pointer (some ⟨g459, 0, none⟩) → a803.eval (.tmp 6) = .slice A614 out616.length c615 → a803.eval (.tmp 7) = .int .i64 i618 → a803.eval (.tmp 8) = .int .i64 r767 → a803.eval (.tmp 9) = .int .i64 r769 → Evo [] own own803 w w803 → RdO own803 [1] w803 R77 Al2 cl2 l2 → BlkO own803 798 w803 g457 37 #[.slice A799 t801.length c800, .slice A610 t612.length c611] → RdO own803 [1, 802] w803 R9 A799 c800 t801 → RdO own803 [1, 613] w803 R75 A610 c611 t612 → BlkO own803 460 w803 g459 37 #[.slice none 0 0, .slice none 0 0] → RwO own803 617 [] w803 3 R3 A614 c615 out616 → ref11_Add_k2 l2 t612 out616 i618 r767 r769 t801 = some zz759 → Q771 .normal a803 w803 := by
        intro a803 w803 own803 t801 A799 c800 hd804 hz804 e804_1 e804_2 e804_4 e804_6 e804_7 e804_8 e804_9 hE804 b804_Al2 b804_g457 b804_A799 b804_A610 b804_g459 b804_A614 hs
        refine hn771 _ _ ?_
        refine fl_seq (fun Q805 hn805 hp805 => ?_)
        have K837 : ∀ (a837 : Act) (w837 : World) (own837 : Own) (t835 : List (Int × ByteArray × Int)) (A833 : Option Addr) (c834 : Nat), a837.defers = [] → a837.tmps.size = 73 → a837.eval (.tmp 1) = .slice Al2 l2.length cl2 → a837.eval (.tmp 2) = .pointer (some ⟨g457, 0, none⟩) → a837.eval (.tmp 4) = .pointer (some ⟨g459, 0, none⟩) → a837.eval (.tmp 6) = .slice A614 out616.length c615 → a837.eval (.tmp 7) = .int .i64 i618 → a837.eval (.tmp 8) = .int .i64 r767 → a837.eval (.tmp 9) = .int .i64 r769 → Evo [] own own837 w w837 → RdO own837 [1] w837 R77 Al2 cl2 l2 → BlkO own837 832 w837 g457 37 #[.slice A799 t801.length c800, .slice A833 t835.length c834] → RdO own837 [1, 802] w837 R9 A799 c800 t801 → RdO own837 [1, 836] w837 R75 A833 c834 t835 → BlkO own837 460 w837 g459 37 #[.slice none 0 0, .slice none 0 0] → RwO own837 617 [] w837 3 R3 A614 c615 out616 → ref11_Add_k3 out616 i618 r767 r769 t801 t835 = some zz759 → Q805 .normal a837 w837 := by
          intro a837 w837 own837 t835 A833 c834 hd838 hz838 e838_1 e838_2 e838_4 e838_6 e838_7 e838_8 e838_9 hE838 b838_Al2 b838_g457 b838_A799 b838_A833 b838_g459 b838_A614 hs
          refine hn805 _ _ ?_
          obtain ⟨x843, hx843, hs⟩ := obind hs
          refine rg_plain (n := 73) (rs := [Fct.rowAt 617 [] 3 R3 A614 c615 out616]) (own0 := own837) (K := [617]) (bs := [0, 0, 0, 6, 15, 31]) (ds := [⟨[], [6], [], Fct.val 66 (.slice A614 out616.length c615)⟩, ⟨[], [8], [], Fct.val 67 (.int .i64 r767)⟩, ⟨[], [9], [], Fct.val 68 (.int .i64 r769)⟩, ⟨[1, 2], [], [], Fct.row 842 [] 69 3 R3 [r767, r769]⟩, ⟨[0, 3, 6], [], [617], Fct.row 844 [] 70 3 R3 x843⟩, ⟨[4], [], [], Fct.rel [6, 70] (fun l => ∀ (A845 : Option Addr) (cA845 : Nat), l.getD 1 undef = .slice A845 x843.length cA845 → l.getD 0 undef = .slice A845 x843.length cA845)⟩]) (by kernel_rfl) hz838 hd838 (by simp only [List.forall_mem_cons]; exact ⟨b838_A614, fun _ h => nomatch h⟩) ?_ ?_
          · refine sc (fun _ _ _ _ s _ => px (or_move (s.1.trans e838_6))) ?_
            refine sc (fun _ _ _ _ s _ => px (or_move (s.1.trans e838_8))) ?_
            refine sc (fun _ _ _ _ s _ => px (or_move (s.1.trans e838_9))) ?_
            refine sc (fun _ _ _ f _ _ => px (or_lit (lab := 842) (e := 3) (cs := #[.int .i64 r767, .int .i64 r769]) (F := E3) (or_new [(67, .int .i64 r767), (68, .int .i64 r769)] rfl rfl ⟨f.1, f.2.1, trivial⟩ (by kernel_rfl)) rfl rfl (show 2 ≤ maxLen by decide))) ?_
            refine sc (fun own a wx hf hsl hE => ?_) ?_
            · obtain ⟨f_66, ⟨⟨A841, cA841⟩, f_69, b_A841⟩, b_A614, -⟩ := hf
              exact px (or_append (R := R3) (lab := 617) (lab2 := 844) (L := []) (L3 := []) tp23 f_66 b_A614 (by decide) f_69 (RwO.rd b_A841) hx843 (by decide) (by decide) (mem_of rfl) (.inl (Rep.fl_flat _)))
            refine sc (fun own a wx hf hsl hE => ?_) ?_
            · obtain ⟨⟨⟨A845, cA845⟩, (f_70 : a.eval (.tmp 70) = .slice A845 x843.length cA845), b_A845⟩, -⟩ := hf
              exact px (or_mono (f := Fct.val 6 (.slice A845 x843.length cA845)) (or_assign f_70) (fun own' a' w' v' hp h => fun _ _ h0' => by cases (f_70.symm.trans ((hp.2 70 (by decide)).symm.trans h0')); exact h))
            exact steps_nil
          intro own846 a846 w846 hd846 hz846 hk846 hf846 hE846
          have e846_1 := (hk846 1 rfl).trans e838_1
          have e846_2 := (hk846 2 rfl).trans e838_2
          have e846_4 := (hk846 4 rfl).trans e838_4
          have e846_7 := (hk846 7 rfl).trans e838_7
          obtain ⟨⟨⟨A845, cA845⟩, (f_70 : a846.eval (.tmp 70) = .slice A845 x843.length cA845), (b846_A845 : RwO own846 844 [] w846 3 R3 A845 cA845 x843)⟩, (q_6 : ∀ (A845 : Option Addr) (cA845 : Nat), a846.eval (.tmp 70) = .slice A845 x843.length cA845 → a846.eval (.tmp 6) = .slice A845 x843.length cA845), -⟩ := hf846 [4, 5] rfl
          have e846_6 := q_6 _ _ f_70
          have hX846 := Evo.step hE838 hown hE846 rfl
          have b846_Al2 := RdO.evo rfl hE846 b838_Al2
          have b846_g457 := be_ hE846 b838_g457
          have b846_A799 := RdO.evo rfl hE846 b838_A799
          have b846_A833 := RdO.evo rfl hE846 b838_A833
          have b846_g459 := be_ hE846 b838_g459
          refine hn765 _ _ ?_
          refine hn764 _ _ ?_
          refine rg0 73 own846 (bz 3) [⟨[], [7], [], Fct.val 14 (.int .i64 i618)⟩, ⟨[0], [], [], Fct.val 15 (.int .i64 (ad i618 1))⟩, ⟨[1], [], [], Fct.val 7 (.int .i64 (ad i618 1))⟩] hz846 hd846 (by kernel_rfl) ?_ ?_
          · refine sc (fun _ _ _ _ s _ => px (or_move (s.1.trans e846_7))) ?_
            refine sc (fun _ _ _ f _ _ => px (or_add f.1 rfl rfl)) ?_
            refine sc (fun _ _ _ f _ _ => px (or_assign f.1)) ?_
            exact steps_nil
          intro own847 a847 w847 hd847 hz847 hk847 hf847 hE847
          have e847_1 := (hk847 1 rfl).trans e846_1
          have e847_2 := (hk847 2 rfl).trans e846_2
          have e847_4 := (hk847 4 rfl).trans e846_4
          have e847_6 := (hk847 6 rfl).trans e846_6
          obtain ⟨(e847_7 : a847.eval (.tmp 7) = .int .i64 (ad i618 1)), -⟩ := hf847 [2] rfl
          have hX847 := Evo.step hX846 hown hE847 rfl
          have b847_Al2 := RdO.evo rfl hE847 b846_Al2
          have b847_g457 := be_ hE847 b846_g457
          have b847_A799 := RdO.evo rfl hE847 b846_A799
          have b847_A833 := RdO.evo rfl hE847 b846_A833
          have b847_g459 := be_ hE847 b846_g459
          have b847_A845 := re_ hE847 b846_A845
          exact hn759 _ _ _ hs ⟨(rl [(802, 609), (832, 605), (836, 613), (844, 617)] own847), A799, c800, A833, c834, A845, cA845, hd847, hz847, e847_1, e847_2, e847_4, e847_6, e847_7, (Evo.rl_ hX847 hown rfl), (RdO.rl_ (mm := [(802, 609), (832, 605), (836, 613), (844, 617)]) b847_Al2), (BlkO.rl_ (mm := [(802, 609), (832, 605), (836, 613), (844, 617)]) b847_g457), (RdO.rl_ (mm := [(802, 609), (832, 605), (836, 613), (844, 617)]) b847_A799), (RdO.rl_ (mm := [(802, 609), (832, 605), (836, 613), (844, 617)]) b847_A833), (BlkO.rl_ (mm := [(802, 609), (832, 605), (836, 613), (844, 617)]) b847_g459), (RwO.rl_ (mm := [(802, 609), (832, 605), (836, 613), (844, 617)]) b847_A845)⟩
        refine rg0_seq 73 own803 [0, 0, 2, 6, 15] [⟨[], [9], [], Fct.val 49 (.int .i64 r769)⟩, ⟨[], [2], [], Fct.val 50 (.pointer (some ⟨g457, 1, none⟩))⟩, ⟨[1], [], [], Fct.val 51 (.slice A610 t612.length c611)⟩, ⟨[2], [], [], Fct.val 52 (.int .i64 (t612.length : Int))⟩, ⟨[0, 3], [], [], Fct.val 53 (.bool (decide (r769 = (t612.length : Int))))⟩] hz804 hd804 (by kernel_rfl) ?_ ?_
        · refine sc (fun _ _ _ _ s _ => px (or_move (s.1.trans e804_9))) ?_
          refine sc (fun _ _ _ _ s _ => px (or_field fo37_1 (s.1.trans e804_2) (by rfl))) ?_
          refine sc (fun _ _ _ f _ hE => px (or_load1 to35 f.1 (Blk.at_ (be_ hE b804_g457).2 1 rfl))) ?_
          refine sc (fun _ _ _ f _ _ => px (or_len tu35 f.1 rfl)) ?_
          refine sc (fun _ _ _ f _ _ => px (or_eql f.1 f.2.1 rfl)) ?_
          exact steps_nil
        intro own848 a848 w848 hd848 hz848 hk848 hf848 hE848
        have e848_1 := (hk848 1 rfl).trans e804_1
        have e848_2 := (hk848 2 rfl).trans e804_2
        have e848_4 := (hk848 4 rfl).trans e804_4
        have e848_6 := (hk848 6 rfl).trans e804_6
        have e848_7 := (hk848 7 rfl).trans e804_7
        have e848_8 := (hk848 8 rfl).trans e804_8
        have e848_9 := (hk848 9 rfl).trans e804_9
        obtain ⟨(e848_53 : a848.eval (.tmp 53) = .bool (decide (r769 = (t612.length : Int)))), -⟩ := hf848 [4] rfl
        have hX848 := Evo.step hE804 hown hE848 rfl
        have b848_Al2 := RdO.evo rfl hE848 b804_Al2
        have b848_g457 := be_ hE848 b804_g457
        have b848_A799 := RdO.evo rfl hE848 b804_A799
        have b848_A610 := RdO.evo rfl hE848 b804_A610
        have b848_g459 := be_ hE848 b804_g459
        have b848_A614 := re_ hE848 b804_A614
        refine fl_cond e848_53 hs (fun c849 hs => ?_) (fun c849 hs => ?_)
        · obtain ⟨x863, hx863, hs⟩ := obind hs
          obtain ⟨x866, hx866, hs⟩ := obind hs
          obtain ⟨x869, hx869, hs⟩ := obind hs
          refine rg_draw g_mixed (n := 73) (rs := [Fct.at_ 798 g457 37 #[.slice A799 t801.length c800, .slice A610 t612.length c611]]) (own0 := own848) (K := [862, 864, 798]) (bs := [0, 0, 2, 7, 0, 0, 48, 112, 240, 496, 1023, 2047, 4095]) (ds := [⟨[], [], [], Fct.row 862 [] 54 75 R75 ([] : List (Int × ByteArray × Int))⟩, ⟨[], [2], [], Fct.val 55 (.pointer (some ⟨g457, 1, none⟩))⟩, ⟨[1, 13], [], [], Fct.val 56 (.slice A610 t612.length c611)⟩, ⟨[0, 2], [], [862], Fct.row 864 [] 57 75 R75 x863⟩, ⟨[], [1], [], Fct.val 58 (.slice Al2 l2.length cl2)⟩, ⟨[], [7], [], Fct.val 59 (.int .i64 i618)⟩, ⟨[4, 5], [], [], Fct.val 60 (.pointer (some ((adr Al2).add ((i618 : Int).toNat * R77.s))))⟩, ⟨[6], [], [], Fct.val 61 (.pointer (some (((adr Al2).add ((i618 : Int).toNat * R77.s)).add 1)))⟩, ⟨[7], [], [], Fct.val 62 (.agg #[.int .i64 x866.2.1, .string x866.2.2.1, .int .i64 x866.2.2.2])⟩, ⟨[8], [], [], Fct.row 868 [] 63 75 R75 [x866.2]⟩, ⟨[3, 9], [], [864], Fct.row 870 [] 64 75 R75 x869⟩, ⟨[], [2], [], Fct.val 65 (.pointer (some ⟨g457, 1, none⟩))⟩, ⟨[11, 10, 13], [], [798], Fct.by_ [872] [64] (fun l own w => ∀ (A871 : Option Addr) (cA871 : Nat), l.getD 0 undef = .slice A871 x869.length cA871 → BlkO own 872 w g457 37 #[.slice A799 t801.length c800, .slice A871 x869.length cA871]) (fun hk he h _ _ h0' => BlkO.evo (not_hit hk (by decide)) he (h _ _ h0'))⟩]) (by kernel_rfl) hz848 hd848 (by simp only [List.forall_mem_cons]; exact ⟨b848_g457, fun _ h => nomatch h⟩) ?_ ?_
          · refine sc (fun _ _ _ _ _ _ => px (or_lit (lab := 862) (e := 75) (cs := #[]) (F := E75) (or_new [] rfl rfl trivial (by kernel_rfl)) rfl rfl (show 0 ≤ maxLen by decide))) ?_
            refine sc (fun _ _ _ _ s _ => px (or_field fo37_1 (s.1.trans e848_2) (by rfl))) ?_
            refine sc (fun own a wx hf hsl hE => ?_) ?_
            · obtain ⟨f_55, (b_g457 : BlkO own 798 wx g457 37 #[.slice A799 t801.length c800, .slice A610 t612.length c611]), -⟩ := hf
              exact px (or_load1 to35 f_55 (Blk.at_ b_g457.2 1 rfl))
            refine sc (fun own a wx hf hsl hE => ?_) ?_
            · obtain ⟨⟨⟨A861, cA861⟩, f_54, b_A861⟩, f_56, -⟩ := hf
              exact px (or_append (R := R75) (lab := 862) (lab2 := 864) (L := []) (L3 := []) tp35 f_54 b_A861 (by decide) f_56 (RdO.evo rfl hE b848_A610) hx863 (by decide) (by decide) (mem_of rfl) (.inl (Rep.fl_flat _)))
            refine sc (fun _ _ _ _ s _ => px (or_move (s.1.trans e848_1))) ?_
            refine sc (fun _ _ _ _ s _ => px (or_move (s.1.trans e848_7))) ?_
            refine sc (fun _ _ _ f _ _ => px (or_index (R := R77) (l := l2) tl31 f.1 f.2.1 (RdO.some_ b848_Al2 hx866) hx866)) ?_
            refine sc (fun _ _ _ f _ _ => px (or_field fo77_1 f.1 rfl)) ?_
            refine sc (fun _ _ _ f _ hE => px (or_load (l := [.int .i64 x866.2.1, .string x866.2.2.1, .int .i64 x866.2.2.2]) ta75 f.1 (CellsAt.part (RdO.cells (F := E77) (RdO.evo rfl hE b848_Al2) hx866) 1 rfl) rfl)) ?_
            refine sc (fun _ _ _ f _ _ => px (or_lit (lab := 868) (e := 75) (cs := #[.int .i64 x866.2.1, .string x866.2.2.1, .int .i64 x866.2.2.2]) (F := E75) (or_new [(62, .agg #[.int .i64 x866.2.1, .string x866.2.2.1, .int .i64 x866.2.2.2])] rfl rfl ⟨f.1, trivial⟩ (by kernel_rfl)) rfl rfl (show 1 ≤ maxLen by decide))) ?_
            refine sc (fun own a wx hf hsl hE => ?_) ?_
            · obtain ⟨⟨⟨A865, cA865⟩, f_57, b_A865⟩, ⟨⟨A867, cA867⟩, f_63, b_A867⟩, -⟩ := hf
              exact px (or_append (R := R75) (lab := 864) (lab2 := 870) (L := []) (L3 := []) tp35 f_57 b_A865 (by decide) f_63 (RwO.rd b_A867) hx869 (by decide) (by decide) (mem_of rfl) (.inl (Rep.fl_flat _)))
            refine sc (fun _ _ _ _ s _ => px (or_field fo37_1 (s.1.trans e848_2) (by rfl))) ?_
            refine sc (fun own a wx hf hsl hE => ?_) ?_
            · obtain ⟨f_65, ⟨⟨A871, cA871⟩, (f_64 : a.eval (.tmp 64) = .slice A871 x869.length cA871), b_A871⟩, b_g457, -⟩ := hf
              exact px (or_store1 (lab := 798) (lab2 := 872) ts35 f_65 f_64 b_g457 (by simp) rfl (mem_of rfl) (by decide) rfl (fun own' a' w' ha hb => fun _ _ h0' => by cases (f_64.symm.trans ((ha 64).symm.trans h0')); exact hb))
            exact steps_nil
          intro own873 a873 w873 hd873 hz873 hk873 hf873 hE873
          have e873_1 := (hk873 1 rfl).trans e848_1
          have e873_2 := (hk873 2 rfl).trans e848_2
          have e873_4 := (hk873 4 rfl).trans e848_4
          have e873_6 := (hk873 6 rfl).trans e848_6
          have e873_7 := (hk873 7 rfl).trans e848_7
          have e873_8 := (hk873 8 rfl).trans e848_8
          have e873_9 := (hk873 9 rfl).trans e848_9
          obtain ⟨⟨⟨A871, cA871⟩, (f_64 : a873.eval (.tmp 64) = .slice A871 x869.length cA871), (b873_A871 : RwO own873 870 [] w873 75 R75 A871 cA871 x869)⟩, (bq_g457 : ∀ (A871 : Option Addr) (cA871 : Nat), a873.eval (.tmp 64) = .slice A871 x869.length cA871 → BlkO own873 872 w873 g457 37 #[.slice A799 t801.length c800, .slice A871 x869.length cA871]), -⟩ := hf873 [10, 12] rfl
          have b873_g457 := bq_g457 _ _ f_64
          have hX873 := Evo.step hX848 hown hE873 rfl
          have b873_Al2 := RdO.evo rfl hE873 b848_Al2
          have b873_A799 := RdO.evo rfl hE873 b848_A799
          have b873_g459 := be_ hE873 b848_g459
          have b873_A614 := re_ hE873 b848_A614
          exact (K837 _ _ (rl [(870, 836), (872, 832)] own873) _ A871 cA871 hd873 hz873 e873_1 e873_2 e873_4 e873_6 e873_7 e873_8 e873_9 (Evo.rl_ hX873 hown rfl) (RdO.rl_ (mm := [(870, 836), (872, 832)]) b873_Al2) (BlkO.rl_ (mm := [(870, 836), (872, 832)]) b873_g457) (RdO.rl_ (mm := [(870, 836), (872, 832)]) b873_A799) (RdO.more (RdO.rl_ (mm := [(870, 836), (872, 832)]) (RwO.rd b873_A871)) (by decide)) (BlkO.rl_ (mm := [(870, 836), (872, 832)]) b873_g459) (RwO.rl_ (mm := [(870, 836), (872, 832)]) b873_A614) hs)
        refine fl_skip ?_
        exact (K837 _ _ (rl [(613, 836), (798, 832)] own848) _ A610 c611 hd848 hz848 e848_1 e848_2 e848_4 e848_6 e848_7 e848_8 e848_9 (Evo.rl_ hX848 hown rfl) (RdO.rl_ (mm := [(613, 836), (798, 832)]) b848_Al2) (BlkO.rl_ (mm := [(613, 836), (798, 832)]) b848_g457) (RdO.rl_ (mm := [(613, 836), (798, 832)]) b848_A799) (RdO.rl_ (mm := [(613, 836), (798, 832)]) b848_A610) (BlkO.rl_ (mm := [(613, 836), (798, 832)]) b848_g459) (RwO.rl_ (mm := [(613, 836), (798, 832)]) b848_A614) hs)
      refine rg0_seq 73 own770 [0, 0, 2, 6, 15] [⟨[], [8], [], Fct.val 32 (.int .i64 r767)⟩, ⟨[], [2], [], Fct.val 33 (.pointer (some ⟨g457, 0, none⟩))⟩, ⟨[1], [], [], Fct.val 34 (.slice A606 t608.length c607)⟩, ⟨[2], [], [], Fct.val 35 (.int .i64 (t608.length : Int))⟩, ⟨[0, 3], [], [], Fct.val 36 (.bool (decide (r767 = (t608.length : Int))))⟩] hz770 hd770 (by kernel_rfl) ?_ ?_
      · refine sc (fun _ _ _ _ s _ => px (or_move (s.1.trans e770_8))) ?_
        refine sc (fun _ _ _ _ s _ => px (or_field fo37_0 (s.1.trans e770_2) (by rfl))) ?_
        refine sc (fun _ _ _ f _ hE => px (or_load1 to34 f.1 (Blk.at_ (be_ hE b770_g457).2 0 rfl))) ?_
        refine sc (fun _ _ _ f _ _ => px (or_len tu34 f.1 rfl)) ?_
        refine sc (fun _ _ _ f _ _ => px (or_eql f.1 f.2.1 rfl)) ?_
        exact steps_nil
      intro own874 a874 w874 hd874 hz874 hk874 hf874 hE874
      have e874_1 := (hk874 1 rfl).trans e770_1
      have e874_2 := (hk874 2 rfl).trans e770_2
      have e874_4 := (hk874 4 rfl).trans e770_4
      have e874_6 := (hk874 6 rfl).trans e770_6
      have e874_7 := (hk874 7 rfl).trans e770_7
      have e874_8 := (hk874 8 rfl).trans e770_8
      have e874_9 := (hk874 9 rfl).trans e770_9
      obtain ⟨(e874_36 : a874.eval (.tmp 36) = .bool (decide (r767 = (t608.length : Int)))), -⟩ := hf874 [4] rfl
      have hX874 := Evo.step hX770 hown hE874 rfl
      have b874_Al2 := RdO.evo rfl hE874 b770_Al2
      have b874_g457 := be_ hE874 b770_g457
      have b874_A606 := RdO.evo rfl hE874 b770_A606
      have b874_A610 := RdO.evo rfl hE874 b770_A610
      have b874_g459 := be_ hE874 b770_g459
      have b874_A614 := re_ hE874 b770_A614
      refine fl_cond e874_36 hs (fun c875 hs => ?_) (fun c875 hs => ?_)
      · obtain ⟨x889, hx889, hs⟩ := obind hs
        obtain ⟨x892, hx892, hs⟩ := obind hs
        obtain ⟨x895, hx895, hs⟩ := obind hs
        refine rg_draw g_mixed (n := 73) (rs := [Fct.at_ 605 g457 37 #[.slice A606 t608.length c607, .slice A610 t612.length c611]]) (own0 := own874) (K := [888, 890, 605]) (bs := [0, 0, 2, 7, 0, 0, 48, 112, 240, 496, 1023, 2047, 4095]) (ds := [⟨[], [], [], Fct.row 888 [] 37 9 R9 ([] : List ByteArray)⟩, ⟨[], [2], [], Fct.val 38 (.pointer (some ⟨g457, 0, none⟩))⟩, ⟨[1, 13], [], [], Fct.val 39 (.slice A606 t608.length c607)⟩, ⟨[0, 2], [], [888], Fct.row 890 [] 40 9 R9 x889⟩, ⟨[], [1], [], Fct.val 41 (.slice Al2 l2.length cl2)⟩, ⟨[], [7], [], Fct.val 42 (.int .i64 i618)⟩, ⟨[4, 5], [], [], Fct.val 43 (.pointer (some ((adr Al2).add ((i618 : Int).toNat * R77.s))))⟩, ⟨[6], [], [], Fct.val 44 (.pointer (some ((adr Al2).add ((i618 : Int).toNat * R77.s))))⟩, ⟨[7], [], [], Fct.val 45 (.string x892.1)⟩, ⟨[8], [], [], Fct.row 894 [] 46 9 R9 [x892.1]⟩, ⟨[3, 9], [], [890], Fct.row 896 [] 47 9 R9 x895⟩, ⟨[], [2], [], Fct.val 48 (.pointer (some ⟨g457, 0, none⟩))⟩, ⟨[11, 10, 13], [], [605], Fct.by_ [898] [47] (fun l own w => ∀ (A897 : Option Addr) (cA897 : Nat), l.getD 0 undef = .slice A897 x895.length cA897 → BlkO own 898 w g457 37 #[.slice A897 x895.length cA897, .slice A610 t612.length c611]) (fun hk he h _ _ h0' => BlkO.evo (not_hit hk (by decide)) he (h _ _ h0'))⟩]) (by kernel_rfl) hz874 hd874 (by simp only [List.forall_mem_cons]; exact ⟨b874_g457, fun _ h => nomatch h⟩) ?_ ?_
        · refine sc (fun _ _ _ _ _ _ => px (or_lit (lab := 888) (e := 9) (cs := #[]) (F := E9) (or_new [] rfl rfl trivial (by kernel_rfl)) rfl rfl (show 0 ≤ maxLen by decide))) ?_
          refine sc (fun _ _ _ _ s _ => px (or_field fo37_0 (s.1.trans e874_2) (by rfl))) ?_
          refine sc (fun own a wx hf hsl hE => ?_) ?_
          · obtain ⟨f_38, (b_g457 : BlkO own 605 wx g457 37 #[.slice A606 t608.length c607, .slice A610 t612.length c611]), -⟩ := hf
            exact px (or_load1 to34 f_38 (Blk.at_ b_g457.2 0 rfl))
          refine sc (fun own a wx hf hsl hE => ?_) ?_
          · obtain ⟨⟨⟨A887, cA887⟩, f_37, b_A887⟩, f_39, -⟩ := hf
            exact px (or_append (R := R9) (lab := 888) (lab2 := 890) (L := []) (L3 := []) tp34 f_37 b_A887 (by decide) f_39 (RdO.evo rfl hE b874_A606) hx889 (by decide) (by decide) (mem_of rfl) (.inl (Rep.fl_flat _)))
          refine sc (fun _ _ _ _ s _ => px (or_move (s.1.trans e874_1))) ?_
          refine sc (fun _ _ _ _ s _ => px (or_move (s.1.trans e874_7))) ?_
          refine sc (fun _ _ _ f _ _ => px (or_index (R := R77) (l := l2) tl31 f.1 f.2.1 (RdO.some_ b874_Al2 hx892) hx892)) ?_
          refine sc (fun _ _ _ f _ _ => px (or_field fo77_0 f.1 (Addr.add_zero' _))) ?_
          refine sc (fun _ _ _ f _ hE => px (or_load1 to9 f.1 (CellsAt.zero (RdO.cells (F := E77) (RdO.evo rfl hE b874_Al2) hx892) rfl))) ?_
          refine sc (fun _ _ _ f _ _ => px (or_lit (lab := 894) (e := 9) (cs := #[.string x892.1]) (F := E9) (or_new [(45, .string x892.1)] rfl rfl ⟨f.1, trivial⟩ (by kernel_rfl)) rfl rfl (show 1 ≤ maxLen by decide))) ?_
          refine sc (fun own a wx hf hsl hE => ?_) ?_
          · obtain ⟨⟨⟨A891, cA891⟩, f_40, b_A891⟩, ⟨⟨A893, cA893⟩, f_46, b_A893⟩, -⟩ := hf
            exact px (or_append (R := R9) (lab := 890) (lab2 := 896) (L := []) (L3 := []) tp34 f_40 b_A891 (by decide) f_46 (RwO.rd b_A893) hx895 (by decide) (by decide) (mem_of rfl) (.inl (Rep.fl_flat _)))
          refine sc (fun _ _ _ _ s _ => px (or_field fo37_0 (s.1.trans e874_2) (by rfl))) ?_
          refine sc (fun own a wx hf hsl hE => ?_) ?_
          · obtain ⟨f_48, ⟨⟨A897, cA897⟩, (f_47 : a.eval (.tmp 47) = .slice A897 x895.length cA897), b_A897⟩, b_g457, -⟩ := hf
            exact px (or_store1 (lab := 605) (lab2 := 898) ts34 f_48 f_47 b_g457 (by simp) rfl (mem_of rfl) (by decide) rfl (fun own' a' w' ha hb => fun _ _ h0' => by cases (f_47.symm.trans ((ha 47).symm.trans h0')); exact hb))
          exact steps_nil
        intro own899 a899 w899 hd899 hz899 hk899 hf899 hE899
        have e899_1 := (hk899 1 rfl).trans e874_1
        have e899_2 := (hk899 2 rfl).trans e874_2
        have e899_4 := (hk899 4 rfl).trans e874_4
        have e899_6 := (hk899 6 rfl).trans e874_6
        have e899_7 := (hk899 7 rfl).trans e874_7
        have e899_8 := (hk899 8 rfl).trans e874_8
        have e899_9 := (hk899 9 rfl).trans e874_9
        obtain ⟨⟨⟨A897, cA897⟩, (f_47 : a899.eval (.tmp 47) = .slice A897 x895.length cA897), (b899_A897 : RwO own899 896 [] w899 9 R9 A897 cA897 x895)⟩, (bq_g457 : ∀ (A897 : Option Addr) (cA897 : Nat), a899.eval (.tmp 47) = .slice A897 x895.length cA897 → BlkO own899 898 w899 g457 37 #[.slice A897 x895.length cA897, .slice A610 t612.length c611]), -⟩ := hf899 [10, 12] rfl
        have b899_g457 := bq_g457 _ _ f_47
        have hX899 := Evo.step hX874 hown hE899 rfl
        have b899_Al2 := RdO.evo rfl hE899 b874_Al2
        have b899_A610 := RdO.evo rfl hE899 b874_A610
        have b899_g459 := be_ hE899 b874_g459
        have b899_A614 := re_ hE899 b874_A614
        exact (K803 _ _ (rl [(896, 802), (898, 798)] own899) _ A897 cA897 hd899 hz899 e899_1 e899_2 e899_4 e899_6 e899_7 e899_8 e899_9 (Evo.rl_ hX899 hown rfl) (RdO.rl_ (mm := [(896, 802), (898, 798)]) b899_Al2) (BlkO.rl_ (mm := [(896, 802), (898, 798)]) b899_g457) (RdO.more (RdO.rl_ (mm := [(896, 802), (898, 798)]) (RwO.rd b899_A897)) (by decide)) (RdO.rl_ (mm := [(896, 802), (898, 798)]) b899_A610) (BlkO.rl_ (mm := [(896, 802), (898, 798)]) b899_g459) (RwO.rl_ (mm := [(896, 802), (898, 798)]) b899_A614) hs)
      refine fl_skip ?_
      exact (K803 _ _ (rl [(605, 798), (609, 802)] own874) _ A606 c607 hd874 hz874 e874_1 e874_2 e874_4 e874_6 e874_7 e874_8 e874_9 (Evo.rl_ hX874 hown rfl) (RdO.rl_ (mm := [(605, 798), (609, 802)]) b874_Al2) (BlkO.rl_ (mm := [(605, 798), (609, 802)]) b874_g457) (RdO.rl_ (mm := [(605, 798), (609, 802)]) b874_A606) (RdO.rl_ (mm := [(605, 798), (609, 802)]) b874_A610) (BlkO.rl_ (mm := [(605, 798), (609, 802)]) b874_g459) (RwO.rl_ (mm := [(605, 798), (609, 802)]) b874_A614) hs)
    refine fl_exit ?_
    refine hp761 _ _ _ rfl ?_
    replace hs := hz759 _ hs
    refine hp759 _ _ _ rfl ?_
    refine hx465 _ _ ?_
    refine hn463 _ _ ?_
    refine rg_plain_seq (n := 73) (rs := [Fct.at_ 460 g459 37 #[.slice none 0 0, .slice none 0 0]]) (own0 := own762) (K := [460]) (bs := [0, 0, 1, 7]) (ds := [⟨[], [2], [], Fct.val 71 (.agg #[.slice A606 t608.length c607, .slice A610 t612.length c611])⟩, ⟨[], [6], [], Fct.val 72 (.slice A614 out616.length c615)⟩, ⟨[0, 4], [4], [460], Fct.at_ 900 g459 37 #[.slice A606 t608.length c607, .slice A610 t612.length c611]⟩, ⟨[1], [], [], Fct.val 5 (.slice A614 out616.length c615)⟩]) (by kernel_rfl) hz762 hd762 (by simp only [List.forall_mem_cons]; exact ⟨b762_g459, fun _ h => nomatch h⟩) ?_ ?_
    · refine sc (fun _ _ _ _ s hE => px (or_load (l := [.slice A606 t608.length c607, .slice A610 t612.length c611]) ta37 (s.1.trans e762_2) (Blk.cellsFrom (be_ hE b762_g457).2 0 rfl) rfl)) ?_
      refine sc (fun _ _ _ _ s _ => px (or_move (s.1.trans e762_6))) ?_
      refine sc (fun own a wx hf hsl hE => ?_) ?_
      · obtain ⟨f_71, b_g459, -⟩ := hf
        obtain ⟨s_4, -⟩ := hsl
        exact px (or_store (l := #[.slice A606 t608.length c607, .slice A610 t612.length c611]) (lab := 460) (lab2 := 900) ts37 (s_4.trans e762_4) f_71 b_g459 (by simp) (by kernel_rfl) (mem_of rfl) (by decide) (by kernel_rfl) (fun own' a' w' ha hb => hb))
      refine sc (fun _ _ _ f _ _ => px (or_assign f.1)) ?_
      exact steps_nil
    intro own901 a901 w901 hd901 hz901 hk901 hf901 hE901
    have e901_4 := (hk901 4 rfl).trans e762_4
    obtain ⟨(e901_5 : a901.eval (.tmp 5) = .slice A614 out616.length c615), (b901_g459 : BlkO own901 900 w901 g459 37 #[.slice A606 t608.length c607, .slice A610 t612.length c611]), -⟩ := hf901 [3, 2] rfl
    have hX901 := Evo.step hX762 hown hE901 rfl
    have b901_A606 := RdO.evo rfl hE901 b762_A606
    have b901_A610 := RdO.evo rfl hE901 b762_A610
    have b901_A614 := re_ hE901 b762_A614
    refine fl_ret ?_
    obtain rfl := osome hs
    exact hret _ _ _ _ (.inl rfl) hd901 (results2_ rfl (RVal.cell_ e901_4 (run_loadVarAgg (l := [.slice A606 t608.length c607, .slice A610 t612.length c611]) ta37 (Blk.cellsFrom b901_g459.2 0 rfl) rfl)) (RVal.tmp_ e901_5)) ⟨(rl [(609, 2), (613, 3), (617, 4)] own901), ((A606, c607), (A610, c611), (A614, c615)), rfl, (Evo.rl_ hX901 hown rfl), (RdO.rl_ (mm := [(609, 2), (613, 3), (617, 4)]) b901_A606), (RdO.rl_ (mm := [(609, 2), (613, 3), (617, 4)]) b901_A610), (RwO.rl_ (mm := [(609, 2), (613, 3), (617, 4)]) b901_A614)⟩
set_option maxHeartbeats 2000000 in
theorem law11_TablePlays_w (w : World) (t1 : (List ByteArray) × (List (Int × ByteArray × Int))) (At1_0 : Option Addr) (ct1_0 : Nat) (At1_1 : Option Addr) (ct1_1 : Nat) (lists2 : List (List (ByteArray × (Int × ByteArray × Int)))) (Alists2 : Option Addr) (clists2 : Nat) (hAt1_0 : RdO (fun _ => 0) [0] w R9 At1_0 ct1_0 t1.1) (hAt1_1 : RdO (fun _ => 0) [0] w R60 At1_1 ct1_1 t1.2) (hlists2 : RdO (fun _ => 0) [0] w R22 Alists2 clists2 lists2) (r : Bool) (hs : law11_TablePlays t1 lists2 = some r) :
    Calls Try.prog 4 #[.agg #[.slice At1_0 t1.1.length ct1_0, .slice At1_1 t1.2.length ct1_1], .slice Alists2 lists2.length clists2] w fun e w' => ∃ own' : Own, e = .returned (.bool r) ∧ Evo [] (fun _ => 0) own' w w' := by
  refine fl_enter (n := 109) rfl rfl rfl (Nat.le_of_ble_eq_true rfl) ?_
  intro a0 Q hd0 hz0 harg hret
  have ha0 := harg 0 _ rfl
  have ha1 := harg 1 _ rfl
  clear harg
  have hE0 : Evo [] (fun _ => 0) (fun _ => 0) w w := Evo.refl _ _ _
  refine rg0_seq 109 (fun _ => 0) [0, 0] [⟨[], [0], [], Fct.blk 949 2 (fun g => .pointer (some ⟨g, 0, none⟩)) 43 #[.slice At1_0 t1.1.length ct1_0, .slice At1_1 t1.2.length ct1_1]⟩, ⟨[], [], [], Fct.val 4 (.bool false)⟩] hz0 hd0 (by kernel_rfl) ?_ ?_
  · refine sc (fun _ _ _ _ s _ => px (or_new [(0, .agg #[.slice At1_0 t1.1.length ct1_0, .slice At1_1 t1.2.length ct1_1])] rfl rfl ⟨(s.1.trans ha0), trivial⟩ (by kernel_rfl))) ?_
    refine sc (fun _ _ _ _ _ _ => px (or_assign rfl)) ?_
    exact steps_nil
  intro own950 a950 w950 hd950 hz950 hk950 hf950 hE950
  have e950_1 := (hk950 1 rfl).trans ha1
  obtain ⟨⟨g948, (e950_2 : a950.eval (.tmp 2) = .pointer (some ⟨g948, 0, none⟩)), (b950_g948 : BlkO own950 949 w950 g948 43 #[.slice At1_0 t1.1.length ct1_0, .slice At1_1 t1.2.length ct1_1])⟩, -⟩ := hf950 [0] rfl
  have hX950 := es_ hE0 hE950
  have b950_At1_0 := RdO.evo rfl hE950 hAt1_0
  have b950_At1_1 := RdO.evo rfl hE950 hAt1_1
  have b950_Alists2 := RdO.evo rfl hE950 hlists2
  obtain ⟨r951, hr951, hs⟩ := obind hs
  refine rg_plain_seq (n := 109) (rs := []) (own0 := own950) (K := [961, 963]) (bs := [0, 1, 3, 7, 7, 0, 0, 111, 255]) (ds := [⟨[], [2], [], Fct.val 18 (.agg #[.slice At1_0 t1.1.length ct1_0, .slice At1_1 t1.2.length ct1_1])⟩, ⟨[0], [], [], Fct.mems [956, 957, 958, 959] 19 (fun (x : (Option Addr × Nat) × (Option Addr × Nat) × (Option Addr × Nat) × (Option Addr × Nat)) => .tuple #[.agg #[.slice x.1.1 r951.1.1.length x.1.2, .slice x.2.1.1 r951.1.2.length x.2.1.2], .agg #[.slice x.2.2.1.1 r951.2.1.length x.2.2.1.2, .slice x.2.2.2.1 r951.2.2.length x.2.2.2.2]]) (fun (x : (Option Addr × Nat) × (Option Addr × Nat) × (Option Addr × Nat) × (Option Addr × Nat)) own w => RwO own 956 [] w 9 R9 x.1.1 x.1.2 r951.1.1 ∧ RwO own 957 [] w 60 R60 x.2.1.1 x.2.1.2 r951.1.2 ∧ RwO own 958 [] w 9 R9 x.2.2.1.1 x.2.2.1.2 r951.2.1 ∧ RwO own 959 [] w 75 R75 x.2.2.2.1 x.2.2.2.2 r951.2.2) (fun hk he h => ⟨RwO.evo (hits_sub hk (by decide)) he h.1, RwO.evo (hits_sub hk (by decide)) he h.2.1, RwO.evo (hits_sub hk (by decide)) he h.2.2.1, RwO.evo (hits_sub hk (by decide)) he h.2.2.2⟩)⟩, ⟨[1], [], [], Fct.rel [17, 19] (fun l => ∀ (A952 : Option Addr) (cA952 : Nat) (A953 : Option Addr) (cA953 : Nat) (A954 : Option Addr) (cA954 : Nat) (A955 : Option Addr) (cA955 : Nat), l.getD 1 undef = .tuple #[.agg #[.slice A952 r951.1.1.length cA952, .slice A953 r951.1.2.length cA953], .agg #[.slice A954 r951.2.1.length cA954, .slice A955 r951.2.2.length cA955]] → l.getD 0 undef = .tuple #[.agg #[.slice A952 r951.1.1.length cA952, .slice A953 r951.1.2.length cA953], .agg #[.slice A954 r951.2.1.length cA954, .slice A955 r951.2.2.length cA955]])⟩, ⟨[2, 1], [], [], Fct.rel [20, 19] (fun l => ∀ (A952 : Option Addr) (cA952 : Nat) (A953 : Option Addr) (cA953 : Nat) (A954 : Option Addr) (cA954 : Nat) (A955 : Option Addr) (cA955 : Nat), l.getD 1 undef = .tuple #[.agg #[.slice A952 r951.1.1.length cA952, .slice A953 r951.1.2.length cA953], .agg #[.slice A954 r951.2.1.length cA954, .slice A955 r951.2.2.length cA955]] → l.getD 0 undef = .agg #[.slice A952 r951.1.1.length cA952, .slice A953 r951.1.2.length cA953])⟩, ⟨[2, 1], [], [], Fct.rel [21, 19] (fun l => ∀ (A952 : Option Addr) (cA952 : Nat) (A953 : Option Addr) (cA953 : Nat) (A954 : Option Addr) (cA954 : Nat) (A955 : Option Addr) (cA955 : Nat), l.getD 1 undef = .tuple #[.agg #[.slice A952 r951.1.1.length cA952, .slice A953 r951.1.2.length cA953], .agg #[.slice A954 r951.2.1.length cA954, .slice A955 r951.2.2.length cA955]] → l.getD 0 undef = .agg #[.slice A954 r951.2.1.length cA954, .slice A955 r951.2.2.length cA955])⟩, ⟨[], [], [], Fct.blk 961 5 (fun g => .pointer (some ⟨g, 0, none⟩)) 43 #[.slice none 0 0, .slice none 0 0]⟩, ⟨[], [], [], Fct.blk 963 6 (fun g => .pointer (some ⟨g, 0, none⟩)) 37 #[.slice none 0 0, .slice none 0 0]⟩, ⟨[5, 3, 1], [], [961], Fct.by_ [964] [5, 19] (fun l own w => ∃ g960 : Nat, l.getD 0 undef = .pointer (some ⟨g960, 0, none⟩) ∧ (∀ (A952 : Option Addr) (cA952 : Nat) (A953 : Option Addr) (cA953 : Nat) (A954 : Option Addr) (cA954 : Nat) (A955 : Option Addr) (cA955 : Nat), l.getD 1 undef = .tuple #[.agg #[.slice A952 r951.1.1.length cA952, .slice A953 r951.1.2.length cA953], .agg #[.slice A954 r951.2.1.length cA954, .slice A955 r951.2.2.length cA955]] → BlkO own 964 w g960 43 #[.slice A952 r951.1.1.length cA952, .slice A953 r951.1.2.length cA953])) (fun hk he h => by obtain ⟨g, e, h⟩ := h; exact ⟨g, e, fun _ _ _ _ _ _ _ _ h0' => BlkO.evo (not_hit hk (by decide)) he (h _ _ _ _ _ _ _ _ h0')⟩)⟩, ⟨[6, 4, 1], [], [963], Fct.by_ [965] [6, 19] (fun l own w => ∃ g962 : Nat, l.getD 0 undef = .pointer (some ⟨g962, 0, none⟩) ∧ (∀ (A952 : Option Addr) (cA952 : Nat) (A953 : Option Addr) (cA953 : Nat) (A954 : Option Addr) (cA954 : Nat) (A955 : Option Addr) (cA955 : Nat), l.getD 1 undef = .tuple #[.agg #[.slice A952 r951.1.1.length cA952, .slice A953 r951.1.2.length cA953], .agg #[.slice A954 r951.2.1.length cA954, .slice A955 r951.2.2.length cA955]] → BlkO own 965 w g962 37 #[.slice A954 r951.2.1.length cA954, .slice A955 r951.2.2.length cA955])) (fun hk he h => by obtain ⟨g, e, h⟩ := h; exact ⟨g, e, fun _ _ _ _ _ _ _ _ h0' => BlkO.evo (not_hit hk (by decide)) he (h _ _ _ _ _ _ _ _ h0')⟩)⟩]) (by kernel_rfl) hz950 hd950 nm_ ?_ ?_
  · refine sc (fun _ _ _ _ s hE => px (or_load (l := [.slice At1_0 t1.1.length ct1_0, .slice At1_1 t1.2.length ct1_1]) ta43 (s.1.trans e950_2) (Blk.cellsFrom (be_ hE b950_g948).2 0 rfl) rfl)) ?_
    refine sc (fun _ _ _ f _ hE => px (or_call cf13 (args1 f.1) (law11_Table_w _ t1 At1_0 ct1_0 At1_1 ct1_1 (RdO.zero (RdO.evo rfl hE b950_At1_0)) (RdO.zero (RdO.evo rfl hE b950_At1_1)) r951 hr951) (post_mems (m := (fun _ => 0)) (m' := (look0 [(1, 956), (2, 957), (3, 958), (4, 959)])) (fun _ _ => .inl rfl) (fun own' w' a' x h1 h => ⟨x, h1, ⟨RwO.back_ h.1 (by decide) (.inl (Rep.fl_flat _)), RwO.back_ h.2.1 (by decide) (.inl (Rep.fl_flat _)), RwO.back_ h.2.2.1 (by decide) (.inl (Rep.fl_flat _)), RwO.back_ h.2.2.2 (by decide) (.inl (Rep.fl_flat _))⟩⟩)))) ?_
    refine sc (fun own a wx hf hsl hE => ?_) ?_
    · obtain ⟨⟨⟨⟨A952, cA952⟩, ⟨A953, cA953⟩, ⟨A954, cA954⟩, ⟨A955, cA955⟩⟩, (f_19 : a.eval (.tmp 19) = .tuple #[.agg #[.slice A952 r951.1.1.length cA952, .slice A953 r951.1.2.length cA953], .agg #[.slice A954 r951.2.1.length cA954, .slice A955 r951.2.2.length cA955]]), b_A952, b_A953, b_A954, b_A955⟩, -⟩ := hf
      exact px (or_mono (f := Fct.val 17 (.tuple #[.agg #[.slice A952 r951.1.1.length cA952, .slice A953 r951.1.2.length cA953], .agg #[.slice A954 r951.2.1.length cA954, .slice A955 r951.2.2.length cA955]])) (or_move f_19) (fun own' a' w' v' hp h => fun _ _ _ _ _ _ _ _ h0' => by cases (f_19.symm.trans ((hp.2 19 (by decide)).symm.trans h0')); exact h))
    refine sc (fun own a wx hf hsl hE => ?_) ?_
    · obtain ⟨(q_17 : ∀ (A952 : Option Addr) (cA952 : Nat) (A953 : Option Addr) (cA953 : Nat) (A954 : Option Addr) (cA954 : Nat) (A955 : Option Addr) (cA955 : Nat), a.eval (.tmp 19) = .tuple #[.agg #[.slice A952 r951.1.1.length cA952, .slice A953 r951.1.2.length cA953], .agg #[.slice A954 r951.2.1.length cA954, .slice A955 r951.2.2.length cA955]] → a.eval (.tmp 17) = .tuple #[.agg #[.slice A952 r951.1.1.length cA952, .slice A953 r951.1.2.length cA953], .agg #[.slice A954 r951.2.1.length cA954, .slice A955 r951.2.2.length cA955]]), ⟨⟨⟨A952, cA952⟩, ⟨A953, cA953⟩, ⟨A954, cA954⟩, ⟨A955, cA955⟩⟩, (f_19 : a.eval (.tmp 19) = .tuple #[.agg #[.slice A952 r951.1.1.length cA952, .slice A953 r951.1.2.length cA953], .agg #[.slice A954 r951.2.1.length cA954, .slice A955 r951.2.2.length cA955]]), b_A952, b_A953, b_A954, b_A955⟩, -⟩ := hf
      have f_17 := q_17 _ _ _ _ _ _ _ _ f_19
      exact px (or_mono (f := Fct.val 20 (.agg #[.slice A952 r951.1.1.length cA952, .slice A953 r951.1.2.length cA953])) (or_k [(17, .tuple #[.agg #[.slice A952 r951.1.1.length cA952, .slice A953 r951.1.2.length cA953], .agg #[.slice A954 r951.2.1.length cA954, .slice A955 r951.2.2.length cA955]])] rfl rfl ⟨f_17, trivial⟩ (by kernel_rfl)) (fun own' a' w' v' hp h => fun _ _ _ _ _ _ _ _ h0' => by cases (f_19.symm.trans ((hp.2 19 (by decide)).symm.trans h0')); exact h))
    refine sc (fun own a wx hf hsl hE => ?_) ?_
    · obtain ⟨(q_17 : ∀ (A952 : Option Addr) (cA952 : Nat) (A953 : Option Addr) (cA953 : Nat) (A954 : Option Addr) (cA954 : Nat) (A955 : Option Addr) (cA955 : Nat), a.eval (.tmp 19) = .tuple #[.agg #[.slice A952 r951.1.1.length cA952, .slice A953 r951.1.2.length cA953], .agg #[.slice A954 r951.2.1.length cA954, .slice A955 r951.2.2.length cA955]] → a.eval (.tmp 17) = .tuple #[.agg #[.slice A952 r951.1.1.length cA952, .slice A953 r951.1.2.length cA953], .agg #[.slice A954 r951.2.1.length cA954, .slice A955 r951.2.2.length cA955]]), ⟨⟨⟨A952, cA952⟩, ⟨A953, cA953⟩, ⟨A954, cA954⟩, ⟨A955, cA955⟩⟩, (f_19 : a.eval (.tmp 19) = .tuple #[.agg #[.slice A952 r951.1.1.length cA952, .slice A953 r951.1.2.length cA953], .agg #[.slice A954 r951.2.1.length cA954, .slice A955 r951.2.2.length cA955]]), b_A952, b_A953, b_A954, b_A955⟩, -⟩ := hf
      have f_17 := q_17 _ _ _ _ _ _ _ _ f_19
      exact px (or_mono (f := Fct.val 21 (.agg #[.slice A954 r951.2.1.length cA954, .slice A955 r951.2.2.length cA955])) (or_k [(17, .tuple #[.agg #[.slice A952 r951.1.1.length cA952, .slice A953 r951.1.2.length cA953], .agg #[.slice A954 r951.2.1.length cA954, .slice A955 r951.2.2.length cA955]])] rfl rfl ⟨f_17, trivial⟩ (by kernel_rfl)) (fun own' a' w' v' hp h => fun _ _ _ _ _ _ _ _ h0' => by cases (f_19.symm.trans ((hp.2 19 (by decide)).symm.trans h0')); exact h))
    refine sc (fun _ _ _ _ _ _ => px (or_new [] rfl rfl trivial (by kernel_rfl))) ?_
    refine sc (fun _ _ _ _ _ _ => px (or_new [] rfl rfl trivial (by kernel_rfl))) ?_
    refine sc (fun own a wx hf hsl hE => ?_) ?_
    · obtain ⟨⟨g960, f_5, b_g960⟩, (q_20 : ∀ (A952 : Option Addr) (cA952 : Nat) (A953 : Option Addr) (cA953 : Nat) (A954 : Option Addr) (cA954 : Nat) (A955 : Option Addr) (cA955 : Nat), a.eval (.tmp 19) = .tuple #[.agg #[.slice A952 r951.1.1.length cA952, .slice A953 r951.1.2.length cA953], .agg #[.slice A954 r951.2.1.length cA954, .slice A955 r951.2.2.length cA955]] → a.eval (.tmp 20) = .agg #[.slice A952 r951.1.1.length cA952, .slice A953 r951.1.2.length cA953]), ⟨⟨⟨A952, cA952⟩, ⟨A953, cA953⟩, ⟨A954, cA954⟩, ⟨A955, cA955⟩⟩, (f_19 : a.eval (.tmp 19) = .tuple #[.agg #[.slice A952 r951.1.1.length cA952, .slice A953 r951.1.2.length cA953], .agg #[.slice A954 r951.2.1.length cA954, .slice A955 r951.2.2.length cA955]]), b_A952, b_A953, b_A954, b_A955⟩, -⟩ := hf
      have f_20 := q_20 _ _ _ _ _ _ _ _ f_19
      exact px (or_store (l := #[.slice A952 r951.1.1.length cA952, .slice A953 r951.1.2.length cA953]) (lab := 961) (lab2 := 964) ts43 f_5 f_20 b_g960 (by simp) (by kernel_rfl) (mem_of rfl) (by decide) (by kernel_rfl) (fun own' a' w' ha hb => ⟨_, (ha 5).trans f_5, fun _ _ _ _ _ _ _ _ h0' => by cases (f_19.symm.trans ((ha 19).symm.trans h0')); exact hb⟩))
    refine sc (fun own a wx hf hsl hE => ?_) ?_
    · obtain ⟨⟨g962, f_6, b_g962⟩, (q_21 : ∀ (A952 : Option Addr) (cA952 : Nat) (A953 : Option Addr) (cA953 : Nat) (A954 : Option Addr) (cA954 : Nat) (A955 : Option Addr) (cA955 : Nat), a.eval (.tmp 19) = .tuple #[.agg #[.slice A952 r951.1.1.length cA952, .slice A953 r951.1.2.length cA953], .agg #[.slice A954 r951.2.1.length cA954, .slice A955 r951.2.2.length cA955]] → a.eval (.tmp 21) = .agg #[.slice A954 r951.2.1.length cA954, .slice A955 r951.2.2.length cA955]), ⟨⟨⟨A952, cA952⟩, ⟨A953, cA953⟩, ⟨A954, cA954⟩, ⟨A955, cA955⟩⟩, (f_19 : a.eval (.tmp 19) = .tuple #[.agg #[.slice A952 r951.1.1.length cA952, .slice A953 r951.1.2.length cA953], .agg #[.slice A954 r951.2.1.length cA954, .slice A955 r951.2.2.length cA955]]), b_A952, b_A953, b_A954, b_A955⟩, -⟩ := hf
      have f_21 := q_21 _ _ _ _ _ _ _ _ f_19
      exact px (or_store (l := #[.slice A954 r951.2.1.length cA954, .slice A955 r951.2.2.length cA955]) (lab := 963) (lab2 := 965) ts37 f_6 f_21 b_g962 (by simp) (by kernel_rfl) (mem_of rfl) (by decide) (by kernel_rfl) (fun own' a' w' ha hb => ⟨_, (ha 6).trans f_6, fun _ _ _ _ _ _ _ _ h0' => by cases (f_19.symm.trans ((ha 19).symm.trans h0')); exact hb⟩))
    exact steps_nil
  intro own966 a966 w966 hd966 hz966 hk966 hf966 hE966
  have e966_1 := (hk966 1 rfl).trans e950_1
  obtain ⟨⟨⟨⟨A952, cA952⟩, ⟨A953, cA953⟩, ⟨A954, cA954⟩, ⟨A955, cA955⟩⟩, (f_19 : a966.eval (.tmp 19) = .tuple #[.agg #[.slice A952 r951.1.1.length cA952, .slice A953 r951.1.2.length cA953], .agg #[.slice A954 r951.2.1.length cA954, .slice A955 r951.2.2.length cA955]]), (b966_A952 : RwO own966 956 [] w966 9 R9 A952 cA952 r951.1.1), (b966_A953 : RwO own966 957 [] w966 60 R60 A953 cA953 r951.1.2), (b966_A954 : RwO own966 958 [] w966 9 R9 A954 cA954 r951.2.1), (b966_A955 : RwO own966 959 [] w966 75 R75 A955 cA955 r951.2.2)⟩, ⟨g960, (e966_5 : a966.eval (.tmp 5) = .pointer (some ⟨g960, 0, none⟩)), (bq_g960 : ∀ (A952 : Option Addr) (cA952 : Nat) (A953 : Option Addr) (cA953 : Nat) (A954 : Option Addr) (cA954 : Nat) (A955 : Option Addr) (cA955 : Nat), a966.eval (.tmp 19) = .tuple #[.agg #[.slice A952 r951.1.1.length cA952, .slice A953 r951.1.2.length cA953], .agg #[.slice A954 r951.2.1.length cA954, .slice A955 r951.2.2.length cA955]] → BlkO own966 964 w966 g960 43 #[.slice A952 r951.1.1.length cA952, .slice A953 r951.1.2.length cA953])⟩, ⟨g962, (e966_6 : a966.eval (.tmp 6) = .pointer (some ⟨g962, 0, none⟩)), (bq_g962 : ∀ (A952 : Option Addr) (cA952 : Nat) (A953 : Option Addr) (cA953 : Nat) (A954 : Option Addr) (cA954 : Nat) (A955 : Option Addr) (cA955 : Nat), a966.eval (.tmp 19) = .tuple #[.agg #[.slice A952 r951.1.1.length cA952, .slice A953 r951.1.2.length cA953], .agg #[.slice A954 r951.2.1.length cA954, .slice A955 r951.2.2.length cA955]] → BlkO own966 965 w966 g962 37 #[.slice A954 r951.2.1.length cA954, .slice A955 r951.2.2.length cA955])⟩, -⟩ := hf966 [1, 7, 8] rfl
  have b966_g960 := bq_g960 _ _ _ _ _ _ _ _ f_19
  have b966_g962 := bq_g962 _ _ _ _ _ _ _ _ f_19
  have hX966 := es_ hX950 hE966
  have b966_Alists2 := RdO.evo rfl hE966 b950_Alists2
  obtain ⟨r967, hr967, hs⟩ := obind hs
  refine rg0_seq 109 own966 (bz 3) [⟨[], [6], [], Fct.val 22 (.agg #[.slice A954 r951.2.1.length cA954, .slice A955 r951.2.2.length cA955])⟩, ⟨[0], [], [], Fct.val 23 (.int .i64 r967)⟩, ⟨[1], [], [], Fct.val 7 (.int .i64 r967)⟩] hz966 hd966 (by kernel_rfl) ?_ ?_
  · refine sc (fun _ _ _ _ s hE => px (or_load (l := [.slice A954 r951.2.1.length cA954, .slice A955 r951.2.2.length cA955]) ta37 (s.1.trans e966_6) (Blk.cellsFrom (be_ hE b966_g962).2 0 rfl) rfl)) ?_
    refine sc (fun _ _ _ f _ hE => px (or_call cf14 (args1 f.1) (ref11_Wrong_w _ r951.2 A954 cA954 A955 cA955 (RdO.zero (RwO.rd (re_ hE b966_A954))) (RdO.zero (RwO.rd (re_ hE b966_A955))) r967 hr967) post_val)) ?_
    refine sc (fun _ _ _ f _ _ => px (or_assign f.1)) ?_
    exact steps_nil
  intro own968 a968 w968 hd968 hz968 hk968 hf968 hE968
  have e968_1 := (hk968 1 rfl).trans e966_1
  have e968_5 := (hk968 5 rfl).trans e966_5
  have e968_6 := (hk968 6 rfl).trans e966_6
  obtain ⟨(e968_7 : a968.eval (.tmp 7) = .int .i64 r967), -⟩ := hf968 [2] rfl
  have hX968 := es_ hX966 hE968
  have b968_Alists2 := RdO.evo rfl hE968 b966_Alists2
  have b968_A952 := re_ hE968 b966_A952
  have b968_A953 := re_ hE968 b966_A953
  have b968_A954 := re_ hE968 b966_A954
  have b968_A955 := re_ hE968 b966_A955
  have b968_g960 := be_ hE968 b966_g960
  have b968_g962 := be_ hE968 b966_g962
  refine fl_seq (fun Q969 hn969 hp969 => ?_)
  obtain ⟨r970, hr970, hs⟩ := obind hs
  refine rg0_seq 109 own968 [0, 0, 3] [⟨[], [5], [], Fct.val 24 (.int .i64 r970)⟩, ⟨[], [7], [], Fct.val 25 (.int .i64 r967)⟩, ⟨[0, 1], [], [], Fct.val 26 (.bool (!decide (r970 = r967)))⟩] hz968 hd968 (by kernel_rfl) ?_ ?_
  · refine sc (fun _ _ _ _ s hE => px (or_call cf12 (args1 (s.1.trans e968_5)) (table_Table_Check_w _ r951.1 g960 43 A952 cA952 A953 cA953 (BlkO.zero_ (be_ hE b968_g960)) (RdO.zero (RwO.rd (re_ hE b968_A952))) (RdO.zero (RwO.rd (re_ hE b968_A953))) r970 hr970) post_val)) ?_
    refine sc (fun _ _ _ _ s _ => px (or_move (s.1.trans e968_7))) ?_
    refine sc (fun _ _ _ f _ _ => px (or_neq f.1 f.2.1 rfl)) ?_
    exact steps_nil
  intro own971 a971 w971 hd971 hz971 hk971 hf971 hE971
  have e971_1 := (hk971 1 rfl).trans e968_1
  have e971_5 := (hk971 5 rfl).trans e968_5
  have e971_6 := (hk971 6 rfl).trans e968_6
  have e971_7 := (hk971 7 rfl).trans e968_7
  obtain ⟨(e971_26 : a971.eval (.tmp 26) = .bool (!decide (r970 = r967))), -⟩ := hf971 [2] rfl
  have hX971 := es_ hX968 hE971
  have b971_Alists2 := RdO.evo rfl hE971 b968_Alists2
  have b971_A952 := re_ hE971 b968_A952
  have b971_A953 := re_ hE971 b968_A953
  have b971_A954 := re_ hE971 b968_A954
  have b971_A955 := re_ hE971 b968_A955
  have b971_g960 := be_ hE971 b968_g960
  have b971_g962 := be_ hE971 b968_g962
  refine fl_cond e971_26 hs (fun c972 hs => ?_) (fun c972 hs => ?_)
  · refine rg0_seq 109 own971 (bz 1) [⟨[], [], [], Fct.val 4 (.bool false)⟩] hz971 hd971 (by kernel_rfl) ?_ ?_
    · refine sc (fun _ _ _ _ _ _ => px (or_assign rfl)) ?_
      exact steps_nil
    intro own973 a973 w973 hd973 hz973 hk973 hf973 hE973
    obtain ⟨(e973_4 : a973.eval (.tmp 4) = .bool false), -⟩ := hf973 [0] rfl
    have hX973 := es_ hX971 hE973
    refine fl_ret ?_
    refine hp969 _ _ _ rfl ?_
    obtain rfl := osome hs
    exact hret _ _ _ _ (.inl rfl) hd973 (results1_ rfl (RVal.tmp_ e973_4)) ⟨own973, rfl, hX973⟩
  refine fl_skip ?_
  refine hn969 _ _ ?_
  refine fl_seq (fun Q974 hn974 hp974 => ?_)
  refine rg0_seq 109 own971 (bz 1) [⟨[], [], [], Fct.val 8 (.int .i64 0)⟩] hz971 hd971 (by kernel_rfl) ?_ ?_
  · refine sc (fun _ _ _ _ _ _ => px (or_assign rfl)) ?_
    exact steps_nil
  intro own975 a975 w975 hd975 hz975 hk975 hf975 hE975
  have e975_1 := (hk975 1 rfl).trans e971_1
  have e975_5 := (hk975 5 rfl).trans e971_5
  have e975_6 := (hk975 6 rfl).trans e971_6
  have e975_7 := (hk975 7 rfl).trans e971_7
  obtain ⟨(e975_8 : a975.eval (.tmp 8) = .int .i64 0), -⟩ := hf975 [0] rfl
  have hX975 := es_ hX971 hE975
  have b975_Alists2 := RdO.evo rfl hE975 b971_Alists2
  have b975_A952 := re_ hE975 b971_A952
  have b975_A953 := re_ hE975 b971_A953
  have b975_A954 := re_ hE975 b971_A954
  have b975_A955 := re_ hE975 b971_A955
  have b975_g960 := be_ hE975 b971_g960
  have b975_g962 := be_ hE975 b971_g962
  refine fl_block (fun Q976 hn976 hx976 hp976 => ?_)
  refine fl_loop (body := (fun s => law11_TablePlays_b1 lists2 r967 s.1 s.2.1 s.2.2.1 s.2.2.2.1 s.2.2.2.2)) (z := r) (show loopO _ _ = _ from hs) (fun (s : (List ByteArray) × (List (Int × ByteArray × Int)) × (List ByteArray) × (List (Int × ByteArray × Int)) × Int) a wx => match s with | (x1275, x1279, x1284, x1288, i1290) => ∃ (ox : Own) (A1273 : Option Addr) (c1274 : Nat) (A1277 : Option Addr) (c1278 : Nat) (A1282 : Option Addr) (c1283 : Nat) (A1286 : Option Addr) (c1287 : Nat), a.defers = [] ∧ a.tmps.size = 109 ∧ a.eval (.tmp 1) = .slice Alists2 lists2.length clists2 ∧ a.eval (.tmp 5) = .pointer (some ⟨g960, 0, none⟩) ∧ a.eval (.tmp 6) = .pointer (some ⟨g962, 0, none⟩) ∧ a.eval (.tmp 7) = .int .i64 r967 ∧ a.eval (.tmp 8) = .int .i64 i1290 ∧ Evo [] (fun _ => 0) ox w wx ∧ RdO ox [0] wx R22 Alists2 clists2 lists2 ∧ BlkO ox 1272 wx g960 43 #[.slice A1273 x1275.length c1274, .slice A1277 x1279.length c1278] ∧ RwO ox 1276 [] wx 9 R9 A1273 c1274 x1275 ∧ RwO ox 1280 [] wx 60 R60 A1277 c1278 x1279 ∧ BlkO ox 1281 wx g962 37 #[.slice A1282 x1284.length c1283, .slice A1286 x1288.length c1287] ∧ RdO ox [1285] wx R9 A1282 c1283 x1284 ∧ RdO ox [1285] wx R75 A1286 c1287 x1288) ?_ ?_
  · exact ⟨(rl [(956, 1276), (957, 1280), (958, 1285), (959, 1285), (964, 1272), (965, 1281)] own975), A952, cA952, A953, cA953, A954, cA954, A955, cA955, hd975, hz975, e975_1, e975_5, e975_6, e975_7, e975_8, (Evo.rl_ hX975 (fun _ => Nat.le_refl 0) rfl), (RdO.rl_ (mm := [(956, 1276), (957, 1280), (958, 1285), (959, 1285), (964, 1272), (965, 1281)]) b975_Alists2), (BlkO.rl_ (mm := [(956, 1276), (957, 1280), (958, 1285), (959, 1285), (964, 1272), (965, 1281)]) b975_g960), (RwO.rl_ (mm := [(956, 1276), (957, 1280), (958, 1285), (959, 1285), (964, 1272), (965, 1281)]) b975_A952), (RwO.rl_ (mm := [(956, 1276), (957, 1280), (958, 1285), (959, 1285), (964, 1272), (965, 1281)]) b975_A953), (BlkO.rl_ (mm := [(956, 1276), (957, 1280), (958, 1285), (959, 1285), (964, 1272), (965, 1281)]) b975_g962), (RdO.rl_ (mm := [(956, 1276), (957, 1280), (958, 1285), (959, 1285), (964, 1272), (965, 1281)]) (RwO.rd b975_A954)), (RdO.rl_ (mm := [(956, 1276), (957, 1280), (958, 1285), (959, 1285), (964, 1272), (965, 1281)]) (RwO.rd b975_A955))⟩
  · rintro ⟨x1275, x1279, x1284, x1288, i1290⟩ zz1586 a1586 w1586 ⟨own1586, A1273, c1274, A1277, c1278, A1282, c1283, A1286, c1287, hd1587, hz1587, e1587_1, e1587_5, e1587_6, e1587_7, e1587_8, hE1587, b1587_Alists2, b1587_g960, b1587_A1273, b1587_A1277, b1587_g962, b1587_A1282, b1587_A1286⟩ hs Q1586 hn1586 hp1586 hz1586
    have hs : law11_TablePlays_b1 lists2 r967 x1275 x1279 x1284 x1288 i1290 = some zz1586 := hs
    refine fl_seq (fun Q1588 hn1588 hp1588 => ?_)
    obtain ⟨x1589, hx1589, hs⟩ := obind hs
    refine rg0_seq 109 own1586 [0, 0, 2, 7, 15, 31, 63, 127] [⟨[], [8], [], Fct.val 27 (.int .i64 i1290)⟩, ⟨[], [1], [], Fct.val 28 (.slice Alists2 lists2.length clists2)⟩, ⟨[1], [], [], Fct.val 29 (.int .i64 (lists2.length : Int))⟩, ⟨[0, 2], [], [], Fct.val 30 (.bool (decide (i1290 < (lists2.length : Int))))⟩, ⟨[3], [], [], Fct.val 31 (.bool (decide (i1290 < (lists2.length : Int))))⟩, ⟨[4], [8], [], Fct.cond (decide (i1290 < (lists2.length : Int))) (some 32) (Fct.val 32 (.int .i64 i1290))⟩, ⟨[4, 5], [], [], Fct.cond (decide (i1290 < (lists2.length : Int))) (some 33) (Fct.val 33 (.bool (decide (i1290 < 10))))⟩, ⟨[4, 6], [], [], Fct.val 34 (.bool x1589)⟩] hz1587 hd1587 (by kernel_rfl) ?_ ?_
    · refine sc (fun _ _ _ _ s _ => px (or_move (s.1.trans e1587_8))) ?_
      refine sc (fun _ _ _ _ s _ => px (or_move (s.1.trans e1587_1))) ?_
      refine sc (fun _ _ _ f _ _ => px (or_len tu44 f.1 rfl)) ?_
      refine sc (fun _ _ _ f _ _ => px (or_lss f.1 f.2.1 rfl)) ?_
      refine sc (fun _ _ _ f _ _ => px (or_move f.1)) ?_
      refine sc (fun _ _ _ f s _ => sg_t rfl rfl rfl f.1 (fun hg => or_move (s.1.trans e1587_8))) ?_
      refine sc (fun _ _ _ f _ _ => sg_t rfl rfl rfl f.1 (fun hg => or_lss (f.2.1.1 hg) rfl rfl)) ?_
      refine sc (fun _ _ _ f _ _ => px (or_and f.1 (fun hx => f.2.1.1 hx) rfl (osome hx1589).symm)) ?_
      exact steps_nil
    intro own1590 a1590 w1590 hd1590 hz1590 hk1590 hf1590 hE1590
    have e1590_1 := (hk1590 1 rfl).trans e1587_1
    have e1590_5 := (hk1590 5 rfl).trans e1587_5
    have e1590_6 := (hk1590 6 rfl).trans e1587_6
    have e1590_7 := (hk1590 7 rfl).trans e1587_7
    have e1590_8 := (hk1590 8 rfl).trans e1587_8
    obtain ⟨(e1590_34 : a1590.eval (.tmp 34) = .bool x1589), -⟩ := hf1590 [7] rfl
    have hX1590 := es_ hE1587 hE1590
    have b1590_Alists2 := RdO.evo rfl hE1590 b1587_Alists2
    have b1590_g960 := be_ hE1590 b1587_g960
    have b1590_A1273 := re_ hE1590 b1587_A1273
    have b1590_A1277 := re_ hE1590 b1587_A1277
    have b1590_g962 := be_ hE1590 b1587_g962
    have b1590_A1282 := RdO.evo rfl hE1590 b1587_A1282
    have b1590_A1286 := RdO.evo rfl hE1590 b1587_A1286
    refine fl_cond e1590_34 hs (fun c1591 hs => ?_) (fun c1591 hs => ?_)
    · refine fl_skip ?_
      refine hn1588 _ _ ?_
      refine fl_seq (fun Q1592 hn1592 hp1592 => ?_)
      refine fl_block (fun Q1737 hn1737 hx1737 hp1737 => ?_)
      have K1816 : ∀ (a1816 : Act) (w1816 : World) (own1816 : Own) (x1803 : List ByteArray) (x1806 : List (Int × ByteArray × Int)) (x1810 : List ByteArray) (x1814 : List (Int × ByteArray × Int)) (A1801 : Option Addr) (c1802 : Nat) (A1804 : Option Addr) (c1805 : Nat) (A1808 : Option Addr) (c1809 : Nat) (A1812 : Option Addr) (c1813 : Nat), a1816.defers = [] → a1816.tmps.size = 109 → a1816.eval (.tmp 1) = .slice Alists2 lists2.length clists2 → a1816.eval (.tmp 5) = .pointer (some ⟨g960, 0, none⟩) → a1816.eval (.tmp 6) = .pointer (some ⟨g962, 0, none⟩) → a1816.eval (.tmp 7) = .int .i64 r967 → a1816.eval (.tmp 8) = .int .i64 i1290 → Evo [] (fun _ => 0) own1816 w w1816 → RdO own1816 [0] w1816 R22 Alists2 clists2 lists2 → BlkO own1816 1756 w1816 g960 43 #[.slice A1801 x1803.length c1802, .slice A1804 x1806.length c1805] → RwO own1816 1754 [] w1816 9 R9 A1801 c1802 x1803 → RwO own1816 1755 [] w1816 60 R60 A1804 c1805 x1806 → BlkO own1816 1807 w1816 g962 37 #[.slice A1808 x1810.length c1809, .slice A1812 x1814.length c1813] → RdO own1816 [1811] w1816 R9 A1808 c1809 x1810 → RdO own1816 [1811] w1816 R75 A1812 c1813 x1814 → law11_TablePlays_k2 i1290 x1803 x1806 x1810 x1814 = some zz1586 → (Q1737 .normal a1816 w1816 ∧ Q1737 (.exit 1) a1816 w1816) := by
        intro a1816 w1816 own1816 x1803 x1806 x1810 x1814 A1801 c1802 A1804 c1805 A1808 c1809 A1812 c1813 hd1817 hz1817 e1817_1 e1817_5 e1817_6 e1817_7 e1817_8 hE1817 b1817_Alists2 b1817_g960 b1817_A1801 b1817_A1804 b1817_g962 b1817_A1808 b1817_A1812 hs
        refine and_both (hn1737 _ _) (hx1737 _ _) ?_
        refine hn1592 _ _ ?_
        refine rg0 109 own1816 (bz 3) [⟨[], [8], [], Fct.val 35 (.int .i64 i1290)⟩, ⟨[0], [], [], Fct.val 36 (.int .i64 (ad i1290 1))⟩, ⟨[1], [], [], Fct.val 8 (.int .i64 (ad i1290 1))⟩] hz1817 hd1817 (by kernel_rfl) ?_ ?_
        · refine sc (fun _ _ _ _ s _ => px (or_move (s.1.trans e1817_8))) ?_
          refine sc (fun _ _ _ f _ _ => px (or_add f.1 rfl rfl)) ?_
          refine sc (fun _ _ _ f _ _ => px (or_assign f.1)) ?_
          exact steps_nil
        intro own1818 a1818 w1818 hd1818 hz1818 hk1818 hf1818 hE1818
        have e1818_1 := (hk1818 1 rfl).trans e1817_1
        have e1818_5 := (hk1818 5 rfl).trans e1817_5
        have e1818_6 := (hk1818 6 rfl).trans e1817_6
        have e1818_7 := (hk1818 7 rfl).trans e1817_7
        obtain ⟨(e1818_8 : a1818.eval (.tmp 8) = .int .i64 (ad i1290 1)), -⟩ := hf1818 [2] rfl
        have hX1818 := es_ hE1817 hE1818
        have b1818_Alists2 := RdO.evo rfl hE1818 b1817_Alists2
        have b1818_g960 := be_ hE1818 b1817_g960
        have b1818_A1801 := re_ hE1818 b1817_A1801
        have b1818_A1804 := re_ hE1818 b1817_A1804
        have b1818_g962 := be_ hE1818 b1817_g962
        have b1818_A1808 := RdO.evo rfl hE1818 b1817_A1808
        have b1818_A1812 := RdO.evo rfl hE1818 b1817_A1812
        exact hn1586 _ _ _ hs ⟨(rl [(1754, 1276), (1755, 1280), (1756, 1272), (1807, 1281), (1811, 1285)] own1818), A1801, c1802, A1804, c1805, A1808, c1809, A1812, c1813, hd1818, hz1818, e1818_1, e1818_5, e1818_6, e1818_7, e1818_8, (Evo.rl_ hX1818 (fun _ => Nat.le_refl 0) rfl), (RdO.rl_ (mm := [(1754, 1276), (1755, 1280), (1756, 1272), (1807, 1281), (1811, 1285)]) b1818_Alists2), (BlkO.rl_ (mm := [(1754, 1276), (1755, 1280), (1756, 1272), (1807, 1281), (1811, 1285)]) b1818_g960), (RwO.rl_ (mm := [(1754, 1276), (1755, 1280), (1756, 1272), (1807, 1281), (1811, 1285)]) b1818_A1801), (RwO.rl_ (mm := [(1754, 1276), (1755, 1280), (1756, 1272), (1807, 1281), (1811, 1285)]) b1818_A1804), (BlkO.rl_ (mm := [(1754, 1276), (1755, 1280), (1756, 1272), (1807, 1281), (1811, 1285)]) b1818_g962), (RdO.rl_ (mm := [(1754, 1276), (1755, 1280), (1756, 1272), (1807, 1281), (1811, 1285)]) b1818_A1808), (RdO.rl_ (mm := [(1754, 1276), (1755, 1280), (1756, 1272), (1807, 1281), (1811, 1285)]) b1818_A1812)⟩
      obtain ⟨x1819, hx1819, hs⟩ := obind hs
      obtain ⟨r1821, hr1821, hs⟩ := obind hs
      refine rg0_seq 109 own1590 [0, 0, 3, 7, 15, 31] [⟨[], [1], [], Fct.val 37 (.slice Alists2 lists2.length clists2)⟩, ⟨[], [8], [], Fct.val 38 (.int .i64 i1290)⟩, ⟨[0, 1], [], [], Fct.val 39 (.pointer (some ((adr Alists2).add ((i1290 : Int).toNat * R22.s))))⟩, ⟨[2], [], [], Fct.nest X22 [0] 40 (fun (y : (Option Addr × Nat)) => .slice y.1 x1819.length y.2) x1819⟩, ⟨[3], [], [], Fct.row 1823 [] 41 64 R64 r1821⟩, ⟨[4], [], [], Fct.rel [9, 41] (fun l => ∀ (A1822 : Option Addr) (cA1822 : Nat), l.getD 1 undef = .slice A1822 r1821.length cA1822 → l.getD 0 undef = .slice A1822 r1821.length cA1822)⟩] hz1590 hd1590 (by kernel_rfl) ?_ ?_
      · refine sc (fun _ _ _ _ s _ => px (or_move (s.1.trans e1590_1))) ?_
        refine sc (fun _ _ _ _ s _ => px (or_move (s.1.trans e1590_8))) ?_
        refine sc (fun _ _ _ f _ _ => px (or_index (R := R22) (l := lists2) tl44 f.1 f.2.1 (RdO.some_ b1590_Alists2 hx1819) hx1819)) ?_
        refine sc (fun _ _ _ f _ hE => px (or_loadN1 X22 0 to22 f.1 (Addr.add_zero' _).symm (RdO.evo rfl hE b1590_Alists2) hx1819 (fun _ => rfl))) ?_
        refine sc (fun own a wx hf hsl hE => ?_) ?_
        · obtain ⟨⟨⟨A1820, cA1820⟩, f_40, b_A1820⟩, -⟩ := hf
          exact px (or_call cf7 (args1 f_40) (law11_Cut_w _ x1819 A1820 cA1820 (RdO.zero b_A1820) r1821 hr1821) (post_row (m' := (look0 [(1, 1823)])) (.inl (Rep.fl_flat _)) rfl rfl (fun _ => rfl)))
        refine sc (fun own a wx hf hsl hE => ?_) ?_
        · obtain ⟨⟨⟨A1822, cA1822⟩, (f_41 : a.eval (.tmp 41) = .slice A1822 r1821.length cA1822), b_A1822⟩, -⟩ := hf
          exact px (or_mono (f := Fct.val 9 (.slice A1822 r1821.length cA1822)) (or_assign f_41) (fun own' a' w' v' hp h => fun _ _ h0' => by cases (f_41.symm.trans ((hp.2 41 (by decide)).symm.trans h0')); exact h))
        exact steps_nil
      intro own1824 a1824 w1824 hd1824 hz1824 hk1824 hf1824 hE1824
      have e1824_1 := (hk1824 1 rfl).trans e1590_1
      have e1824_5 := (hk1824 5 rfl).trans e1590_5
      have e1824_6 := (hk1824 6 rfl).trans e1590_6
      have e1824_7 := (hk1824 7 rfl).trans e1590_7
      have e1824_8 := (hk1824 8 rfl).trans e1590_8
      obtain ⟨⟨⟨A1822, cA1822⟩, (f_41 : a1824.eval (.tmp 41) = .slice A1822 r1821.length cA1822), (b1824_A1822 : RwO own1824 1823 [] w1824 64 R64 A1822 cA1822 r1821)⟩, (q_9 : ∀ (A1822 : Option Addr) (cA1822 : Nat), a1824.eval (.tmp 41) = .slice A1822 r1821.length cA1822 → a1824.eval (.tmp 9) = .slice A1822 r1821.length cA1822), -⟩ := hf1824 [4, 5] rfl
      have e1824_9 := q_9 _ _ f_41
      have hX1824 := es_ hX1590 hE1824
      have b1824_Alists2 := RdO.evo rfl hE1824 b1590_Alists2
      have b1824_g960 := be_ hE1824 b1590_g960
      have b1824_A1273 := re_ hE1824 b1590_A1273
      have b1824_A1277 := re_ hE1824 b1590_A1277
      have b1824_g962 := be_ hE1824 b1590_g962
      have b1824_A1282 := RdO.evo rfl hE1824 b1590_A1282
      have b1824_A1286 := RdO.evo rfl hE1824 b1590_A1286
      obtain ⟨r1825, hr1825, hs⟩ := obind hs
      obtain ⟨r1828, hr1828, hs⟩ := obind hs
      refine rg0_seq 109 own1824 (bz 4) [⟨[], [9], [], Fct.val 42 (.slice A1822 r1821.length cA1822)⟩, ⟨[0], [], [], Fct.row 1827 [] 43 77 R77 r1825⟩, ⟨[1], [], [], Fct.val 44 (.int .i64 r1828)⟩, ⟨[2], [], [], Fct.val 10 (.int .i64 r1828)⟩] hz1824 hd1824 (by kernel_rfl) ?_ ?_
      · refine sc (fun _ _ _ _ s _ => px (or_move (s.1.trans e1824_9))) ?_
        refine sc (fun _ _ _ f _ hE => px (or_call cf16 (args1 f.1) (law11_Ofs_w _ r1821 A1822 cA1822 (RdO.zero (RwO.rd (re_ hE b1824_A1822))) r1825 hr1825) (post_row (m' := (look0 [(1, 1827)])) (.inl (Rep.fl_flat _)) rfl rfl (fun _ => rfl)))) ?_
        refine sc (fun own a wx hf hsl hE => ?_) ?_
        · obtain ⟨⟨⟨A1826, cA1826⟩, f_43, b_A1826⟩, -⟩ := hf
          exact px (or_call cf15 (args1 f_43) (ref11_Check_w _ r1825 A1826 cA1826 (RdO.zero (RwO.rd b_A1826)) r1828 hr1828) post_val)
        refine sc (fun _ _ _ f _ _ => px (or_assign f.1)) ?_
        exact steps_nil
      intro own1829 a1829 w1829 hd1829 hz1829 hk1829 hf1829 hE1829
      have e1829_1 := (hk1829 1 rfl).trans e1824_1
      have e1829_5 := (hk1829 5 rfl).trans e1824_5
      have e1829_6 := (hk1829 6 rfl).trans e1824_6
      have e1829_7 := (hk1829 7 rfl).trans e1824_7
      have e1829_8 := (hk1829 8 rfl).trans e1824_8
      have e1829_9 := (hk1829 9 rfl).trans e1824_9
      obtain ⟨(e1829_10 : a1829.eval (.tmp 10) = .int .i64 r1828), -⟩ := hf1829 [3] rfl
      have hX1829 := es_ hX1824 hE1829
      have b1829_Alists2 := RdO.evo rfl hE1829 b1824_Alists2
      have b1829_g960 := be_ hE1829 b1824_g960
      have b1829_A1273 := re_ hE1829 b1824_A1273
      have b1829_A1277 := re_ hE1829 b1824_A1277
      have b1829_g962 := be_ hE1829 b1824_g962
      have b1829_A1282 := RdO.evo rfl hE1829 b1824_A1282
      have b1829_A1286 := RdO.evo rfl hE1829 b1824_A1286
      have b1829_A1822 := re_ hE1829 b1824_A1822
      obtain ⟨r1830, hr1830, hs⟩ := obind hs
      refine rg_plain_seq (n := 109) (rs := [Fct.at_ 1272 g960 43 #[.slice A1273 x1275.length c1274, .slice A1277 x1279.length c1278], Fct.rowAt 1276 [] 9 R9 A1273 c1274 x1275, Fct.rowAt 1280 [] 60 R60 A1277 c1278 x1279]) (own0 := own1829) (K := [1272, 1276, 1280]) (bs := [0, 1, 3, 7, 7, 15, 63]) (ds := [⟨[], [9], [], Fct.val 46 (.slice A1822 r1821.length cA1822)⟩, ⟨[0, 7, 8, 9], [5], [1272, 1276, 1280], Fct.mems [1834, 1835, 1836, 1837] 47 (fun (x : (Option Addr × Nat) × (Option Addr × Nat) × (Option Addr × Nat)) => .tuple #[.slice x.1.1 r1830.1.length x.1.2, .int .i64 r1830.2.1]) (fun (x : (Option Addr × Nat) × (Option Addr × Nat) × (Option Addr × Nat)) own w => RwO own 1834 [] w 3 R3 x.1.1 x.1.2 r1830.1 ∧ RwO own 1835 [] w 9 R9 x.2.1.1 x.2.1.2 r1830.2.2.1 ∧ RwO own 1836 [] w 60 R60 x.2.2.1 x.2.2.2 r1830.2.2.2 ∧ BlkO own 1837 w g960 43 #[.slice x.2.1.1 r1830.2.2.1.length x.2.1.2, .slice x.2.2.1 r1830.2.2.2.length x.2.2.2]) (fun hk he h => ⟨RwO.evo (hits_sub hk (by decide)) he h.1, RwO.evo (hits_sub hk (by decide)) he h.2.1, RwO.evo (hits_sub hk (by decide)) he h.2.2.1, BlkO.evo (not_hit hk (by decide)) he h.2.2.2⟩)⟩, ⟨[1], [], [], Fct.rel [45, 47] (fun l => ∀ (A1831 : Option Addr) (cA1831 : Nat), l.getD 1 undef = .tuple #[.slice A1831 r1830.1.length cA1831, .int .i64 r1830.2.1] → l.getD 0 undef = .tuple #[.slice A1831 r1830.1.length cA1831, .int .i64 r1830.2.1])⟩, ⟨[2, 1], [], [], Fct.rel [48, 47] (fun l => ∀ (A1831 : Option Addr) (cA1831 : Nat), l.getD 1 undef = .tuple #[.slice A1831 r1830.1.length cA1831, .int .i64 r1830.2.1] → l.getD 0 undef = .slice A1831 r1830.1.length cA1831)⟩, ⟨[2, 1], [], [], Fct.val 49 (.int .i64 r1830.2.1)⟩, ⟨[3, 1], [], [], Fct.rel [11, 47] (fun l => ∀ (A1831 : Option Addr) (cA1831 : Nat), l.getD 1 undef = .tuple #[.slice A1831 r1830.1.length cA1831, .int .i64 r1830.2.1] → l.getD 0 undef = .slice A1831 r1830.1.length cA1831)⟩, ⟨[4], [], [], Fct.val 12 (.int .i64 r1830.2.1)⟩]) (by kernel_rfl) hz1829 hd1829 (by simp only [List.forall_mem_cons]; exact ⟨b1829_g960, b1829_A1273, b1829_A1277, fun _ h => nomatch h⟩) ?_ ?_
      · refine sc (fun _ _ _ _ s _ => px (or_move (s.1.trans e1829_9))) ?_
        refine sc (fun own a wx hf hsl hE => ?_) ?_
        · obtain ⟨f_46, b_g960, b_A1273, b_A1277, -⟩ := hf
          obtain ⟨s_5, -⟩ := hsl
          exact px (or_call cf8 (args2 (s_5.trans e1829_5) f_46) (table_Table_Add_w _ (forth own (look0 [(1272, 1), (1276, 2), (1280, 3)])) (x1275, x1279) g960 43 A1273 c1274 A1277 c1278 r1821 A1822 cA1822 (look0_le rfl) (BlkO.forth_ (m := (look0 [(1272, 1), (1276, 2), (1280, 3)])) b_g960) (RwO.forth_ (m := (look0 [(1272, 1), (1276, 2), (1280, 3)])) b_A1273) (RwO.forth_ (m := (look0 [(1272, 1), (1276, 2), (1280, 3)])) b_A1277) (RdO.forth_ (m := (look0 [(1272, 1), (1276, 2), (1280, 3)])) (RwO.rd (re_ hE b1829_A1822))) r1830 hr1830) (post_mems (m := (look0 [(1272, 1), (1276, 2), (1280, 3)])) (m' := (look0 [(1, 1837), (2, 1835), (3, 1836), (4, 1834)])) (hm_of rfl) (fun own' w' a' x h1 h => ⟨x, h1, ⟨RwO.back_ h.1 (by decide) (.inl (Rep.fl_flat _)), RwO.back_ h.2.1 (by decide) (.inl (Rep.fl_flat _)), RwO.back_ h.2.2.1 (by decide) (.inl (Rep.fl_flat _)), BlkO.back_ h.2.2.2 (by decide)⟩⟩)))
        refine sc (fun own a wx hf hsl hE => ?_) ?_
        · obtain ⟨⟨⟨⟨A1831, cA1831⟩, ⟨A1832, cA1832⟩, ⟨A1833, cA1833⟩⟩, (f_47 : a.eval (.tmp 47) = .tuple #[.slice A1831 r1830.1.length cA1831, .int .i64 r1830.2.1]), b_A1831, b_A1832, b_A1833, b_g960⟩, -⟩ := hf
          exact px (or_mono (f := Fct.val 45 (.tuple #[.slice A1831 r1830.1.length cA1831, .int .i64 r1830.2.1])) (or_move f_47) (fun own' a' w' v' hp h => fun _ _ h0' => by cases (f_47.symm.trans ((hp.2 47 (by decide)).symm.trans h0')); exact h))
        refine sc (fun own a wx hf hsl hE => ?_) ?_
        · obtain ⟨(q_45 : ∀ (A1831 : Option Addr) (cA1831 : Nat), a.eval (.tmp 47) = .tuple #[.slice A1831 r1830.1.length cA1831, .int .i64 r1830.2.1] → a.eval (.tmp 45) = .tuple #[.slice A1831 r1830.1.length cA1831, .int .i64 r1830.2.1]), ⟨⟨⟨A1831, cA1831⟩, ⟨A1832, cA1832⟩, ⟨A1833, cA1833⟩⟩, (f_47 : a.eval (.tmp 47) = .tuple #[.slice A1831 r1830.1.length cA1831, .int .i64 r1830.2.1]), b_A1831, b_A1832, b_A1833, b_g960⟩, -⟩ := hf
          have f_45 := q_45 _ _ f_47
          exact px (or_mono (f := Fct.val 48 (.slice A1831 r1830.1.length cA1831)) (or_k [(45, .tuple #[.slice A1831 r1830.1.length cA1831, .int .i64 r1830.2.1])] rfl rfl ⟨f_45, trivial⟩ (by kernel_rfl)) (fun own' a' w' v' hp h => fun _ _ h0' => by cases (f_47.symm.trans ((hp.2 47 (by decide)).symm.trans h0')); exact h))
        refine sc (fun own a wx hf hsl hE => ?_) ?_
        · obtain ⟨(q_45 : ∀ (A1831 : Option Addr) (cA1831 : Nat), a.eval (.tmp 47) = .tuple #[.slice A1831 r1830.1.length cA1831, .int .i64 r1830.2.1] → a.eval (.tmp 45) = .tuple #[.slice A1831 r1830.1.length cA1831, .int .i64 r1830.2.1]), ⟨⟨⟨A1831, cA1831⟩, ⟨A1832, cA1832⟩, ⟨A1833, cA1833⟩⟩, f_47, b_A1831, b_A1832, b_A1833, b_g960⟩, -⟩ := hf
          have f_45 := q_45 _ _ f_47
          exact px (or_k [(45, .tuple #[.slice A1831 r1830.1.length cA1831, .int .i64 r1830.2.1])] rfl rfl ⟨f_45, trivial⟩ (by kernel_rfl))
        refine sc (fun own a wx hf hsl hE => ?_) ?_
        · obtain ⟨(q_48 : ∀ (A1831 : Option Addr) (cA1831 : Nat), a.eval (.tmp 47) = .tuple #[.slice A1831 r1830.1.length cA1831, .int .i64 r1830.2.1] → a.eval (.tmp 48) = .slice A1831 r1830.1.length cA1831), ⟨⟨⟨A1831, cA1831⟩, ⟨A1832, cA1832⟩, ⟨A1833, cA1833⟩⟩, (f_47 : a.eval (.tmp 47) = .tuple #[.slice A1831 r1830.1.length cA1831, .int .i64 r1830.2.1]), b_A1831, b_A1832, b_A1833, b_g960⟩, -⟩ := hf
          have f_48 := q_48 _ _ f_47
          exact px (or_mono (f := Fct.val 11 (.slice A1831 r1830.1.length cA1831)) (or_assign f_48) (fun own' a' w' v' hp h => fun _ _ h0' => by cases (f_47.symm.trans ((hp.2 47 (by decide)).symm.trans h0')); exact h))
        refine sc (fun _ _ _ f _ _ => px (or_assign f.1)) ?_
        exact steps_nil
      intro own1838 a1838 w1838 hd1838 hz1838 hk1838 hf1838 hE1838
      have e1838_1 := (hk1838 1 rfl).trans e1829_1
      have e1838_5 := (hk1838 5 rfl).trans e1829_5
      have e1838_6 := (hk1838 6 rfl).trans e1829_6
      have e1838_7 := (hk1838 7 rfl).trans e1829_7
      have e1838_8 := (hk1838 8 rfl).trans e1829_8
      have e1838_9 := (hk1838 9 rfl).trans e1829_9
      have e1838_10 := (hk1838 10 rfl).trans e1829_10
      obtain ⟨⟨⟨⟨A1831, cA1831⟩, ⟨A1832, cA1832⟩, ⟨A1833, cA1833⟩⟩, (f_47 : a1838.eval (.tmp 47) = .tuple #[.slice A1831 r1830.1.length cA1831, .int .i64 r1830.2.1]), (b1838_A1831 : RwO own1838 1834 [] w1838 3 R3 A1831 cA1831 r1830.1), (b1838_A1832 : RwO own1838 1835 [] w1838 9 R9 A1832 cA1832 r1830.2.2.1), (b1838_A1833 : RwO own1838 1836 [] w1838 60 R60 A1833 cA1833 r1830.2.2.2), (b1838_g960 : BlkO own1838 1837 w1838 g960 43 #[.slice A1832 r1830.2.2.1.length cA1832, .slice A1833 r1830.2.2.2.length cA1833])⟩, (q_11 : ∀ (A1831 : Option Addr) (cA1831 : Nat), a1838.eval (.tmp 47) = .tuple #[.slice A1831 r1830.1.length cA1831, .int .i64 r1830.2.1] → a1838.eval (.tmp 11) = .slice A1831 r1830.1.length cA1831), (e1838_12 : a1838.eval (.tmp 12) = .int .i64 r1830.2.1), -⟩ := hf1838 [1, 5, 6] rfl
      have e1838_11 := q_11 _ _ f_47
      have hX1838 := es_ hX1829 hE1838
      have b1838_Alists2 := RdO.evo rfl hE1838 b1829_Alists2
      have b1838_g962 := be_ hE1838 b1829_g962
      have b1838_A1282 := RdO.evo rfl hE1838 b1829_A1282
      have b1838_A1286 := RdO.evo rfl hE1838 b1829_A1286
      have b1838_A1822 := re_ hE1838 b1829_A1822
      refine fl_seq (fun Q1839 hn1839 hp1839 => ?_)
      obtain ⟨r1840, hr1840, hs⟩ := obind hs
      obtain ⟨x1841, hx1841, hs⟩ := obind hs
      refine rg0_seq 109 own1838 [0, 0, 3, 7, 15, 31, 15, 127, 255] [⟨[], [12], [], Fct.val 50 (.int .i64 r1830.2.1)⟩, ⟨[], [10], [], Fct.val 51 (.int .i64 r1828)⟩, ⟨[0, 1], [], [], Fct.val 52 (.bool (!decide (r1830.2.1 = r1828)))⟩, ⟨[2], [], [], Fct.val 53 (.bool (!decide (r1830.2.1 = r1828)))⟩, ⟨[3], [9], [], Fct.cond (!(!decide (r1830.2.1 = r1828))) (some 54) (Fct.val 54 (.slice A1822 r1821.length cA1822))⟩, ⟨[3, 4], [], [], Fct.cond (!(!decide (r1830.2.1 = r1828))) (some 55) (Fct.val 55 (.int .i64 r1840))⟩, ⟨[3], [10], [], Fct.cond (!(!decide (r1830.2.1 = r1828))) (some 56) (Fct.val 56 (.int .i64 r1828))⟩, ⟨[3, 5, 6], [], [], Fct.cond (!(!decide (r1830.2.1 = r1828))) (some 57) (Fct.val 57 (.bool (!decide (r1840 = r1828))))⟩, ⟨[3, 7], [], [], Fct.val 58 (.bool x1841)⟩] hz1838 hd1838 (by kernel_rfl) ?_ ?_
      · refine sc (fun _ _ _ _ s _ => px (or_move (s.1.trans e1838_12))) ?_
        refine sc (fun _ _ _ _ s _ => px (or_move (s.1.trans e1838_10))) ?_
        refine sc (fun _ _ _ f _ _ => px (or_neq f.1 f.2.1 rfl)) ?_
        refine sc (fun _ _ _ f _ _ => px (or_move f.1)) ?_
        refine sc (fun _ _ _ f s _ => sg_f rfl rfl rfl f.1 (fun hg => or_move (s.1.trans e1838_9))) ?_
        refine sc (fun _ _ _ f _ hE => sg_f rfl rfl rfl f.1 (fun hg => or_call cf17 (args1 (f.2.1.1 hg)) (table_Check_w _ r1821 A1822 cA1822 (RdO.zero (RwO.rd (re_ hE b1838_A1822))) r1840 (gd_t hr1840 hg)) post_val)) ?_
        refine sc (fun _ _ _ f s _ => sg_f rfl rfl rfl f.1 (fun hg => or_move (s.1.trans e1838_10))) ?_
        refine sc (fun _ _ _ f _ _ => sg_f rfl rfl rfl f.1 (fun hg => or_neq (f.2.1.1 hg) (f.2.2.1.1 hg) rfl)) ?_
        refine sc (fun _ _ _ f _ _ => px (or_or f.1 rfl (fun hx => f.2.1.1 hx) (osome hx1841).symm)) ?_
        exact steps_nil
      intro own1842 a1842 w1842 hd1842 hz1842 hk1842 hf1842 hE1842
      have e1842_1 := (hk1842 1 rfl).trans e1838_1
      have e1842_5 := (hk1842 5 rfl).trans e1838_5
      have e1842_6 := (hk1842 6 rfl).trans e1838_6
      have e1842_7 := (hk1842 7 rfl).trans e1838_7
      have e1842_8 := (hk1842 8 rfl).trans e1838_8
      have e1842_9 := (hk1842 9 rfl).trans e1838_9
      have e1842_10 := (hk1842 10 rfl).trans e1838_10
      have e1842_11 := (hk1842 11 rfl).trans e1838_11
      obtain ⟨(e1842_58 : a1842.eval (.tmp 58) = .bool x1841), -⟩ := hf1842 [8] rfl
      have hX1842 := es_ hX1838 hE1842
      have b1842_Alists2 := RdO.evo rfl hE1842 b1838_Alists2
      have b1842_g962 := be_ hE1842 b1838_g962
      have b1842_A1282 := RdO.evo rfl hE1842 b1838_A1282
      have b1842_A1286 := RdO.evo rfl hE1842 b1838_A1286
      have b1842_A1822 := re_ hE1842 b1838_A1822
      have b1842_g960 := be_ hE1842 b1838_g960
      have b1842_A1831 := re_ hE1842 b1838_A1831
      have b1842_A1832 := re_ hE1842 b1838_A1832
      have b1842_A1833 := re_ hE1842 b1838_A1833
      refine fl_cond e1842_58 hs (fun c1843 hs => ?_) (fun c1843 hs => ?_)
      · refine rg0_seq 109 own1842 (bz 1) [⟨[], [], [], Fct.val 4 (.bool false)⟩] hz1842 hd1842 (by kernel_rfl) ?_ ?_
        · refine sc (fun _ _ _ _ _ _ => px (or_assign rfl)) ?_
          exact steps_nil
        intro own1844 a1844 w1844 hd1844 hz1844 hk1844 hf1844 hE1844
        obtain ⟨(e1844_4 : a1844.eval (.tmp 4) = .bool false), -⟩ := hf1844 [0] rfl
        have hX1844 := es_ hX1842 hE1844
        refine fl_ret ?_
        refine hp1839 _ _ _ rfl ?_
        refine hp1737 _ _ _ rfl ?_
        refine hp1592 _ _ _ rfl ?_
        replace hs := hz1586 _ hs
        refine hp1586 _ _ _ rfl ?_
        refine hp976 _ _ _ rfl ?_
        refine hp974 _ _ _ rfl ?_
        obtain rfl := osome hs
        exact hret _ _ _ _ (.inl rfl) hd1844 (results1_ rfl (RVal.tmp_ e1844_4)) ⟨own1844, rfl, hX1844⟩
      refine fl_skip ?_
      refine hn1839 _ _ ?_
      refine fl_seq (fun Q1845 hn1845 hp1845 => ?_)
      refine rg0_seq 109 own1842 (bz 2) [⟨[], [10], [], Fct.val 59 (.int .i64 r1828)⟩, ⟨[0], [], [], Fct.val 60 (.bool (!decide (r1828 = 0)))⟩] hz1842 hd1842 (by kernel_rfl) ?_ ?_
      · refine sc (fun _ _ _ _ s _ => px (or_move (s.1.trans e1842_10))) ?_
        refine sc (fun _ _ _ f _ _ => px (or_neq f.1 rfl rfl)) ?_
        exact steps_nil
      intro own1846 a1846 w1846 hd1846 hz1846 hk1846 hf1846 hE1846
      have e1846_1 := (hk1846 1 rfl).trans e1842_1
      have e1846_5 := (hk1846 5 rfl).trans e1842_5
      have e1846_6 := (hk1846 6 rfl).trans e1842_6
      have e1846_7 := (hk1846 7 rfl).trans e1842_7
      have e1846_8 := (hk1846 8 rfl).trans e1842_8
      have e1846_9 := (hk1846 9 rfl).trans e1842_9
      have e1846_11 := (hk1846 11 rfl).trans e1842_11
      obtain ⟨(e1846_60 : a1846.eval (.tmp 60) = .bool (!decide (r1828 = 0))), -⟩ := hf1846 [1] rfl
      have hX1846 := es_ hX1842 hE1846
      have b1846_Alists2 := RdO.evo rfl hE1846 b1842_Alists2
      have b1846_g962 := be_ hE1846 b1842_g962
      have b1846_A1282 := RdO.evo rfl hE1846 b1842_A1282
      have b1846_A1286 := RdO.evo rfl hE1846 b1842_A1286
      have b1846_A1822 := re_ hE1846 b1842_A1822
      have b1846_g960 := be_ hE1846 b1842_g960
      have b1846_A1831 := re_ hE1846 b1842_A1831
      have b1846_A1832 := re_ hE1846 b1842_A1832
      have b1846_A1833 := re_ hE1846 b1842_A1833
      refine fl_cond e1846_60 hs (fun c1847 hs => ?_) (fun c1847 hs => ?_)
      · refine fl_seq (fun Q1848 hn1848 hp1848 => ?_)
        obtain ⟨r1849, hr1849, hs⟩ := obind hs
        obtain ⟨x1850, hx1850, hs⟩ := obind hs
        refine rg0_seq 109 own1846 [0, 1, 3, 7, 15, 15, 63, 127, 255] [⟨[], [11], [], Fct.val 61 (.slice A1831 r1830.1.length cA1831)⟩, ⟨[0], [], [], Fct.val 62 (.int .i64 (r1830.1.length : Int))⟩, ⟨[1], [], [], Fct.val 63 (.bool (!decide ((r1830.1.length : Int) = 0)))⟩, ⟨[2], [], [], Fct.val 64 (.bool (!decide ((r1830.1.length : Int) = 0)))⟩, ⟨[3], [5], [], Fct.cond (!(!decide ((r1830.1.length : Int) = 0))) (some 65) (Fct.val 65 (.agg #[.slice A1832 r1830.2.2.1.length cA1832, .slice A1833 r1830.2.2.2.length cA1833]))⟩, ⟨[3], [6], [], Fct.cond (!(!decide ((r1830.1.length : Int) = 0))) (some 66) (Fct.val 66 (.agg #[.slice A1282 x1284.length c1283, .slice A1286 x1288.length c1287]))⟩, ⟨[3, 4, 5], [], [], Fct.cond (!(!decide ((r1830.1.length : Int) = 0))) (some 67) (Fct.val 67 (.bool r1849))⟩, ⟨[3, 6], [], [], Fct.cond (!(!decide ((r1830.1.length : Int) = 0))) (some 68) (Fct.val 68 (.bool (!r1849)))⟩, ⟨[3, 7], [], [], Fct.val 69 (.bool x1850)⟩] hz1846 hd1846 (by kernel_rfl) ?_ ?_
        · refine sc (fun _ _ _ _ s _ => px (or_move (s.1.trans e1846_11))) ?_
          refine sc (fun _ _ _ f _ _ => px (or_len tu23 f.1 rfl)) ?_
          refine sc (fun _ _ _ f _ _ => px (or_neq f.1 rfl rfl)) ?_
          refine sc (fun _ _ _ f _ _ => px (or_move f.1)) ?_
          refine sc (fun _ _ _ f s hE => sg_f rfl rfl rfl f.1 (fun hg => or_load (l := [.slice A1832 r1830.2.2.1.length cA1832, .slice A1833 r1830.2.2.2.length cA1833]) ta43 (s.1.trans e1846_5) (Blk.cellsFrom (be_ hE b1846_g960).2 0 rfl) rfl)) ?_
          refine sc (fun _ _ _ f s hE => sg_f rfl rfl rfl f.1 (fun hg => or_load (l := [.slice A1282 x1284.length c1283, .slice A1286 x1288.length c1287]) ta37 (s.1.trans e1846_6) (Blk.cellsFrom (be_ hE b1846_g962).2 0 rfl) rfl)) ?_
          refine sc (fun _ _ _ f _ hE => sg_f rfl rfl rfl f.1 (fun hg => or_call cf18 (args2 (f.2.1.1 hg) (f.2.2.1.1 hg)) (law11_same_w _ r1830.2.2 A1832 cA1832 A1833 cA1833 (x1284, x1288) A1282 c1283 A1286 c1287 (RdO.zero (RwO.rd (re_ hE b1846_A1832))) (RdO.zero (RwO.rd (re_ hE b1846_A1833))) (RdO.zero (RdO.evo rfl hE b1846_A1282)) (RdO.zero (RdO.evo rfl hE b1846_A1286)) r1849 (gd_t hr1849 hg)) post_val)) ?_
          refine sc (fun _ _ _ f _ _ => sg_f rfl rfl rfl f.1 (fun hg => or_not (f.2.1.1 hg) rfl)) ?_
          refine sc (fun _ _ _ f _ _ => px (or_or f.1 rfl (fun hx => f.2.1.1 hx) (osome hx1850).symm)) ?_
          exact steps_nil
        intro own1851 a1851 w1851 hd1851 hz1851 hk1851 hf1851 hE1851
        have e1851_1 := (hk1851 1 rfl).trans e1846_1
        have e1851_5 := (hk1851 5 rfl).trans e1846_5
        have e1851_6 := (hk1851 6 rfl).trans e1846_6
        have e1851_7 := (hk1851 7 rfl).trans e1846_7
        have e1851_8 := (hk1851 8 rfl).trans e1846_8
        obtain ⟨(e1851_69 : a1851.eval (.tmp 69) = .bool x1850), -⟩ := hf1851 [8] rfl
        have hX1851 := es_ hX1846 hE1851
        have b1851_Alists2 := RdO.evo rfl hE1851 b1846_Alists2
        have b1851_g962 := be_ hE1851 b1846_g962
        have b1851_A1282 := RdO.evo rfl hE1851 b1846_A1282
        have b1851_A1286 := RdO.evo rfl hE1851 b1846_A1286
        have b1851_g960 := be_ hE1851 b1846_g960
        have b1851_A1832 := re_ hE1851 b1846_A1832
        have b1851_A1833 := re_ hE1851 b1846_A1833
        refine fl_cond e1851_69 hs (fun c1852 hs => ?_) (fun c1852 hs => ?_)
        · refine rg0_seq 109 own1851 (bz 1) [⟨[], [], [], Fct.val 4 (.bool false)⟩] hz1851 hd1851 (by kernel_rfl) ?_ ?_
          · refine sc (fun _ _ _ _ _ _ => px (or_assign rfl)) ?_
            exact steps_nil
          intro own1853 a1853 w1853 hd1853 hz1853 hk1853 hf1853 hE1853
          obtain ⟨(e1853_4 : a1853.eval (.tmp 4) = .bool false), -⟩ := hf1853 [0] rfl
          have hX1853 := es_ hX1851 hE1853
          refine fl_ret ?_
          refine hp1848 _ _ _ rfl ?_
          refine hp1845 _ _ _ rfl ?_
          refine hp1737 _ _ _ rfl ?_
          refine hp1592 _ _ _ rfl ?_
          replace hs := hz1586 _ hs
          refine hp1586 _ _ _ rfl ?_
          refine hp976 _ _ _ rfl ?_
          refine hp974 _ _ _ rfl ?_
          obtain rfl := osome hs
          exact hret _ _ _ _ (.inl rfl) hd1853 (results1_ rfl (RVal.tmp_ e1853_4)) ⟨own1853, rfl, hX1853⟩
        refine fl_skip ?_
        refine hn1848 _ _ ?_
        refine fl_exit ?_
        refine hp1845 _ _ _ rfl ?_
        exact (K1816 _ _ (rl [(1281, 1807), (1285, 1811), (1835, 1754), (1836, 1755), (1837, 1756)] own1851) _ _ _ _ A1832 cA1832 A1833 cA1833 A1282 c1283 A1286 c1287 hd1851 hz1851 e1851_1 e1851_5 e1851_6 e1851_7 e1851_8 (Evo.rl_ hX1851 (fun _ => Nat.le_refl 0) rfl) (RdO.rl_ (mm := [(1281, 1807), (1285, 1811), (1835, 1754), (1836, 1755), (1837, 1756)]) b1851_Alists2) (BlkO.rl_ (mm := [(1281, 1807), (1285, 1811), (1835, 1754), (1836, 1755), (1837, 1756)]) b1851_g960) (RwO.rl_ (mm := [(1281, 1807), (1285, 1811), (1835, 1754), (1836, 1755), (1837, 1756)]) b1851_A1832) (RwO.rl_ (mm := [(1281, 1807), (1285, 1811), (1835, 1754), (1836, 1755), (1837, 1756)]) b1851_A1833) (BlkO.rl_ (mm := [(1281, 1807), (1285, 1811), (1835, 1754), (1836, 1755), (1837, 1756)]) b1851_g962) (RdO.rl_ (mm := [(1281, 1807), (1285, 1811), (1835, 1754), (1836, 1755), (1837, 1756)]) b1851_A1282) (RdO.rl_ (mm := [(1281, 1807), (1285, 1811), (1835, 1754), (1836, 1755), (1837, 1756)]) b1851_A1286) hs).2
      refine fl_skip ?_
      refine hn1845 _ _ ?_
      obtain ⟨r1854, hr1854, hs⟩ := obind hs
      obtain ⟨r1857, hr1857, hs⟩ := obind hs
      refine rg_draw_seq g_mixed (n := 109) (rs := []) (own0 := own1846) (K := [1866]) (bs := [0, 0, 2, 7, 15, 31, 31, 0, 191, 511]) (ds := [⟨[], [6], [], Fct.val 71 (.agg #[.slice A1282 x1284.length c1283, .slice A1286 x1288.length c1287])⟩, ⟨[], [9], [], Fct.val 72 (.slice A1822 r1821.length cA1822)⟩, ⟨[1], [], [], Fct.row 1856 [] 73 77 R77 r1854⟩, ⟨[0, 2], [], [], Fct.mems [1861, 1862, 1285, 1856, 1863, 1864] 74 (fun (x : (Option Addr × Nat) × (Option Addr × Nat) × (Option Addr × Nat)) => .tuple #[.agg #[.slice x.1.1 r1857.1.1.length x.1.2, .slice x.2.1.1 r1857.1.2.length x.2.1.2], .slice x.2.2.1 r1857.2.length x.2.2.2]) (fun (x : (Option Addr × Nat) × (Option Addr × Nat) × (Option Addr × Nat)) own w => RdO own [1861, 1862, 1285, 1856] w R9 x.1.1 x.1.2 r1857.1.1 ∧ RdO own [1861, 1863, 1285, 1856] w R75 x.2.1.1 x.2.1.2 r1857.1.2 ∧ RwO own 1864 [] w 3 R3 x.2.2.1 x.2.2.2 r1857.2) (fun hk he h => ⟨RdO.evo (hits_sub hk (by decide)) he h.1, RdO.evo (hits_sub hk (by decide)) he h.2.1, RwO.evo (hits_sub hk (by decide)) he h.2.2⟩)⟩, ⟨[3], [], [], Fct.rel [70, 74] (fun l => ∀ (A1858 : Option Addr) (cA1858 : Nat) (A1859 : Option Addr) (cA1859 : Nat) (A1860 : Option Addr) (cA1860 : Nat), l.getD 1 undef = .tuple #[.agg #[.slice A1858 r1857.1.1.length cA1858, .slice A1859 r1857.1.2.length cA1859], .slice A1860 r1857.2.length cA1860] → l.getD 0 undef = .tuple #[.agg #[.slice A1858 r1857.1.1.length cA1858, .slice A1859 r1857.1.2.length cA1859], .slice A1860 r1857.2.length cA1860])⟩, ⟨[4, 3], [], [], Fct.rel [75, 74] (fun l => ∀ (A1858 : Option Addr) (cA1858 : Nat) (A1859 : Option Addr) (cA1859 : Nat) (A1860 : Option Addr) (cA1860 : Nat), l.getD 1 undef = .tuple #[.agg #[.slice A1858 r1857.1.1.length cA1858, .slice A1859 r1857.1.2.length cA1859], .slice A1860 r1857.2.length cA1860] → l.getD 0 undef = .agg #[.slice A1858 r1857.1.1.length cA1858, .slice A1859 r1857.1.2.length cA1859])⟩, ⟨[4, 3], [], [], Fct.rel [76, 74] (fun l => ∀ (A1858 : Option Addr) (cA1858 : Nat) (A1859 : Option Addr) (cA1859 : Nat) (A1860 : Option Addr) (cA1860 : Nat), l.getD 1 undef = .tuple #[.agg #[.slice A1858 r1857.1.1.length cA1858, .slice A1859 r1857.1.2.length cA1859], .slice A1860 r1857.2.length cA1860] → l.getD 0 undef = .slice A1860 r1857.2.length cA1860)⟩, ⟨[], [], [], Fct.blk 1866 13 (fun g => .pointer (some ⟨g, 0, none⟩)) 37 #[.slice none 0 0, .slice none 0 0]⟩, ⟨[7, 5, 3], [], [1866], Fct.by_ [1867] [13, 74] (fun l own w => ∃ g1865 : Nat, l.getD 0 undef = .pointer (some ⟨g1865, 0, none⟩) ∧ (∀ (A1858 : Option Addr) (cA1858 : Nat) (A1859 : Option Addr) (cA1859 : Nat) (A1860 : Option Addr) (cA1860 : Nat), l.getD 1 undef = .tuple #[.agg #[.slice A1858 r1857.1.1.length cA1858, .slice A1859 r1857.1.2.length cA1859], .slice A1860 r1857.2.length cA1860] → BlkO own 1867 w g1865 37 #[.slice A1858 r1857.1.1.length cA1858, .slice A1859 r1857.1.2.length cA1859])) (fun hk he h => by obtain ⟨g, e, h⟩ := h; exact ⟨g, e, fun _ _ _ _ _ _ h0' => BlkO.evo (not_hit hk (by decide)) he (h _ _ _ _ _ _ h0')⟩)⟩, ⟨[6, 3], [], [], Fct.rel [14, 74] (fun l => ∀ (A1858 : Option Addr) (cA1858 : Nat) (A1859 : Option Addr) (cA1859 : Nat) (A1860 : Option Addr) (cA1860 : Nat), l.getD 1 undef = .tuple #[.agg #[.slice A1858 r1857.1.1.length cA1858, .slice A1859 r1857.1.2.length cA1859], .slice A1860 r1857.2.length cA1860] → l.getD 0 undef = .slice A1860 r1857.2.length cA1860)⟩]) (by kernel_rfl) hz1846 hd1846 nm_ ?_ ?_
      · refine sc (fun _ _ _ _ s hE => px (or_load (l := [.slice A1282 x1284.length c1283, .slice A1286 x1288.length c1287]) ta37 (s.1.trans e1846_6) (Blk.cellsFrom (be_ hE b1846_g962).2 0 rfl) rfl)) ?_
        refine sc (fun _ _ _ _ s _ => px (or_move (s.1.trans e1846_9))) ?_
        refine sc (fun _ _ _ f _ hE => px (or_call cf16 (args1 f.1) (law11_Ofs_w _ r1821 A1822 cA1822 (RdO.zero (RwO.rd (re_ hE b1846_A1822))) r1854 hr1854) (post_row (m' := (look0 [(1, 1856)])) (.inl (Rep.fl_flat _)) rfl rfl (fun _ => rfl)))) ?_
        refine sc (fun own a wx hf hsl hE => ?_) ?_
        · obtain ⟨f_71, ⟨⟨A1855, cA1855⟩, f_73, b_A1855⟩, -⟩ := hf
          exact px (or_call cf19 (args2 f_71 f_73) (ref11_Add_w _ (forth own (inL [1285, 1856])) (x1284, x1288) A1282 c1283 A1286 c1287 r1854 A1855 cA1855 inL_le (RdO.alias_ (La := [1285, 1856]) (RdO.evo rfl hE b1846_A1282) (by decide)) (RdO.alias_ (La := [1285, 1856]) (RdO.evo rfl hE b1846_A1286) (by decide)) (RdO.alias_ (La := [1285, 1856]) (RwO.rd b_A1855) (by decide)) r1857 hr1857) (post_alias (La := [1285, 1856]) (m' := (look0 [(1, 1861), (2, 1862), (3, 1863), (4, 1864)])) (fun own' w' a' x ho hsz h1 h => ⟨x, h1, ⟨RdO.backN_ ho hsz h.1 (by decide) (by decide) (by decide), RdO.backN_ ho hsz h.2.1 (by decide) (by decide) (by decide), RwO.backN_ ho h.2.2 (by decide) (Rep.fl_flat _)⟩⟩)))
        refine sc (fun own a wx hf hsl hE => ?_) ?_
        · obtain ⟨⟨⟨⟨A1858, cA1858⟩, ⟨A1859, cA1859⟩, ⟨A1860, cA1860⟩⟩, (f_74 : a.eval (.tmp 74) = .tuple #[.agg #[.slice A1858 r1857.1.1.length cA1858, .slice A1859 r1857.1.2.length cA1859], .slice A1860 r1857.2.length cA1860]), b_A1858, b_A1859, b_A1860⟩, -⟩ := hf
          exact px (or_mono (f := Fct.val 70 (.tuple #[.agg #[.slice A1858 r1857.1.1.length cA1858, .slice A1859 r1857.1.2.length cA1859], .slice A1860 r1857.2.length cA1860])) (or_move f_74) (fun own' a' w' v' hp h => fun _ _ _ _ _ _ h0' => by cases (f_74.symm.trans ((hp.2 74 (by decide)).symm.trans h0')); exact h))
        refine sc (fun own a wx hf hsl hE => ?_) ?_
        · obtain ⟨(q_70 : ∀ (A1858 : Option Addr) (cA1858 : Nat) (A1859 : Option Addr) (cA1859 : Nat) (A1860 : Option Addr) (cA1860 : Nat), a.eval (.tmp 74) = .tuple #[.agg #[.slice A1858 r1857.1.1.length cA1858, .slice A1859 r1857.1.2.length cA1859], .slice A1860 r1857.2.length cA1860] → a.eval (.tmp 70) = .tuple #[.agg #[.slice A1858 r1857.1.1.length cA1858, .slice A1859 r1857.1.2.length cA1859], .slice A1860 r1857.2.length cA1860]), ⟨⟨⟨A1858, cA1858⟩, ⟨A1859, cA1859⟩, ⟨A1860, cA1860⟩⟩, (f_74 : a.eval (.tmp 74) = .tuple #[.agg #[.slice A1858 r1857.1.1.length cA1858, .slice A1859 r1857.1.2.length cA1859], .slice A1860 r1857.2.length cA1860]), b_A1858, b_A1859, b_A1860⟩, -⟩ := hf
          have f_70 := q_70 _ _ _ _ _ _ f_74
          exact px (or_mono (f := Fct.val 75 (.agg #[.slice A1858 r1857.1.1.length cA1858, .slice A1859 r1857.1.2.length cA1859])) (or_k [(70, .tuple #[.agg #[.slice A1858 r1857.1.1.length cA1858, .slice A1859 r1857.1.2.length cA1859], .slice A1860 r1857.2.length cA1860])] rfl rfl ⟨f_70, trivial⟩ (by kernel_rfl)) (fun own' a' w' v' hp h => fun _ _ _ _ _ _ h0' => by cases (f_74.symm.trans ((hp.2 74 (by decide)).symm.trans h0')); exact h))
        refine sc (fun own a wx hf hsl hE => ?_) ?_
        · obtain ⟨(q_70 : ∀ (A1858 : Option Addr) (cA1858 : Nat) (A1859 : Option Addr) (cA1859 : Nat) (A1860 : Option Addr) (cA1860 : Nat), a.eval (.tmp 74) = .tuple #[.agg #[.slice A1858 r1857.1.1.length cA1858, .slice A1859 r1857.1.2.length cA1859], .slice A1860 r1857.2.length cA1860] → a.eval (.tmp 70) = .tuple #[.agg #[.slice A1858 r1857.1.1.length cA1858, .slice A1859 r1857.1.2.length cA1859], .slice A1860 r1857.2.length cA1860]), ⟨⟨⟨A1858, cA1858⟩, ⟨A1859, cA1859⟩, ⟨A1860, cA1860⟩⟩, (f_74 : a.eval (.tmp 74) = .tuple #[.agg #[.slice A1858 r1857.1.1.length cA1858, .slice A1859 r1857.1.2.length cA1859], .slice A1860 r1857.2.length cA1860]), b_A1858, b_A1859, b_A1860⟩, -⟩ := hf
          have f_70 := q_70 _ _ _ _ _ _ f_74
          exact px (or_mono (f := Fct.val 76 (.slice A1860 r1857.2.length cA1860)) (or_k [(70, .tuple #[.agg #[.slice A1858 r1857.1.1.length cA1858, .slice A1859 r1857.1.2.length cA1859], .slice A1860 r1857.2.length cA1860])] rfl rfl ⟨f_70, trivial⟩ (by kernel_rfl)) (fun own' a' w' v' hp h => fun _ _ _ _ _ _ h0' => by cases (f_74.symm.trans ((hp.2 74 (by decide)).symm.trans h0')); exact h))
        refine sc (fun _ _ _ _ _ _ => px (or_new [] rfl rfl trivial (by kernel_rfl))) ?_
        refine sc (fun own a wx hf hsl hE => ?_) ?_
        · obtain ⟨⟨g1865, f_13, b_g1865⟩, (q_75 : ∀ (A1858 : Option Addr) (cA1858 : Nat) (A1859 : Option Addr) (cA1859 : Nat) (A1860 : Option Addr) (cA1860 : Nat), a.eval (.tmp 74) = .tuple #[.agg #[.slice A1858 r1857.1.1.length cA1858, .slice A1859 r1857.1.2.length cA1859], .slice A1860 r1857.2.length cA1860] → a.eval (.tmp 75) = .agg #[.slice A1858 r1857.1.1.length cA1858, .slice A1859 r1857.1.2.length cA1859]), ⟨⟨⟨A1858, cA1858⟩, ⟨A1859, cA1859⟩, ⟨A1860, cA1860⟩⟩, (f_74 : a.eval (.tmp 74) = .tuple #[.agg #[.slice A1858 r1857.1.1.length cA1858, .slice A1859 r1857.1.2.length cA1859], .slice A1860 r1857.2.length cA1860]), b_A1858, b_A1859, b_A1860⟩, -⟩ := hf
          have f_75 := q_75 _ _ _ _ _ _ f_74
          exact px (or_store (l := #[.slice A1858 r1857.1.1.length cA1858, .slice A1859 r1857.1.2.length cA1859]) (lab := 1866) (lab2 := 1867) ts37 f_13 f_75 b_g1865 (by simp) (by kernel_rfl) (mem_of rfl) (by decide) (by kernel_rfl) (fun own' a' w' ha hb => ⟨_, (ha 13).trans f_13, fun _ _ _ _ _ _ h0' => by cases (f_74.symm.trans ((ha 74).symm.trans h0')); exact hb⟩))
        refine sc (fun own a wx hf hsl hE => ?_) ?_
        · obtain ⟨(q_76 : ∀ (A1858 : Option Addr) (cA1858 : Nat) (A1859 : Option Addr) (cA1859 : Nat) (A1860 : Option Addr) (cA1860 : Nat), a.eval (.tmp 74) = .tuple #[.agg #[.slice A1858 r1857.1.1.length cA1858, .slice A1859 r1857.1.2.length cA1859], .slice A1860 r1857.2.length cA1860] → a.eval (.tmp 76) = .slice A1860 r1857.2.length cA1860), ⟨⟨⟨A1858, cA1858⟩, ⟨A1859, cA1859⟩, ⟨A1860, cA1860⟩⟩, (f_74 : a.eval (.tmp 74) = .tuple #[.agg #[.slice A1858 r1857.1.1.length cA1858, .slice A1859 r1857.1.2.length cA1859], .slice A1860 r1857.2.length cA1860]), b_A1858, b_A1859, b_A1860⟩, -⟩ := hf
          have f_76 := q_76 _ _ _ _ _ _ f_74
          exact px (or_mono (f := Fct.val 14 (.slice A1860 r1857.2.length cA1860)) (or_assign f_76) (fun own' a' w' v' hp h => fun _ _ _ _ _ _ h0' => by cases (f_74.symm.trans ((hp.2 74 (by decide)).symm.trans h0')); exact h))
        exact steps_nil
      intro own1868 a1868 w1868 hd1868 hz1868 hk1868 hf1868 hE1868
      have e1868_1 := (hk1868 1 rfl).trans e1846_1
      have e1868_5 := (hk1868 5 rfl).trans e1846_5
      have e1868_6 := (hk1868 6 rfl).trans e1846_6
      have e1868_7 := (hk1868 7 rfl).trans e1846_7
      have e1868_8 := (hk1868 8 rfl).trans e1846_8
      have e1868_9 := (hk1868 9 rfl).trans e1846_9
      have e1868_11 := (hk1868 11 rfl).trans e1846_11
      obtain ⟨⟨⟨⟨A1858, cA1858⟩, ⟨A1859, cA1859⟩, ⟨A1860, cA1860⟩⟩, (f_74 : a1868.eval (.tmp 74) = .tuple #[.agg #[.slice A1858 r1857.1.1.length cA1858, .slice A1859 r1857.1.2.length cA1859], .slice A1860 r1857.2.length cA1860]), (b1868_A1858 : RdO own1868 [1861, 1862, 1285, 1856] w1868 R9 A1858 cA1858 r1857.1.1), (b1868_A1859 : RdO own1868 [1861, 1863, 1285, 1856] w1868 R75 A1859 cA1859 r1857.1.2), (b1868_A1860 : RwO own1868 1864 [] w1868 3 R3 A1860 cA1860 r1857.2)⟩, ⟨g1865, (e1868_13 : a1868.eval (.tmp 13) = .pointer (some ⟨g1865, 0, none⟩)), (bq_g1865 : ∀ (A1858 : Option Addr) (cA1858 : Nat) (A1859 : Option Addr) (cA1859 : Nat) (A1860 : Option Addr) (cA1860 : Nat), a1868.eval (.tmp 74) = .tuple #[.agg #[.slice A1858 r1857.1.1.length cA1858, .slice A1859 r1857.1.2.length cA1859], .slice A1860 r1857.2.length cA1860] → BlkO own1868 1867 w1868 g1865 37 #[.slice A1858 r1857.1.1.length cA1858, .slice A1859 r1857.1.2.length cA1859])⟩, (q_14 : ∀ (A1858 : Option Addr) (cA1858 : Nat) (A1859 : Option Addr) (cA1859 : Nat) (A1860 : Option Addr) (cA1860 : Nat), a1868.eval (.tmp 74) = .tuple #[.agg #[.slice A1858 r1857.1.1.length cA1858, .slice A1859 r1857.1.2.length cA1859], .slice A1860 r1857.2.length cA1860] → a1868.eval (.tmp 14) = .slice A1860 r1857.2.length cA1860), -⟩ := hf1868 [3, 8, 9] rfl
      have b1868_g1865 := bq_g1865 _ _ _ _ _ _ f_74
      have e1868_14 := q_14 _ _ _ _ _ _ f_74
      have hX1868 := es_ hX1846 hE1868
      have b1868_Alists2 := RdO.evo rfl hE1868 b1846_Alists2
      have b1868_g962 := be_ hE1868 b1846_g962
      have b1868_A1282 := RdO.evo rfl hE1868 b1846_A1282
      have b1868_A1286 := RdO.evo rfl hE1868 b1846_A1286
      have b1868_A1822 := re_ hE1868 b1846_A1822
      have b1868_g960 := be_ hE1868 b1846_g960
      have b1868_A1831 := re_ hE1868 b1846_A1831
      have b1868_A1832 := re_ hE1868 b1846_A1832
      have b1868_A1833 := re_ hE1868 b1846_A1833
      refine rg_plain_seq (n := 109) (rs := [Fct.at_ 1281 g962 37 #[.slice A1282 x1284.length c1283, .slice A1286 x1288.length c1287]]) (own0 := own1868) (K := [1281]) (bs := (bz 2)) (ds := [⟨[], [13], [], Fct.val 77 (.agg #[.slice A1858 r1857.1.1.length cA1858, .slice A1859 r1857.1.2.length cA1859])⟩, ⟨[0, 2], [6], [1281], Fct.at_ 1869 g962 37 #[.slice A1858 r1857.1.1.length cA1858, .slice A1859 r1857.1.2.length cA1859]⟩]) (by kernel_rfl) hz1868 hd1868 (by simp only [List.forall_mem_cons]; exact ⟨b1868_g962, fun _ h => nomatch h⟩) ?_ ?_
      · refine sc (fun _ _ _ _ s hE => px (or_load (l := [.slice A1858 r1857.1.1.length cA1858, .slice A1859 r1857.1.2.length cA1859]) ta37 (s.1.trans e1868_13) (Blk.cellsFrom (be_ hE b1868_g1865).2 0 rfl) rfl)) ?_
        refine sc (fun own a wx hf hsl hE => ?_) ?_
        · obtain ⟨f_77, b_g962, -⟩ := hf
          obtain ⟨s_6, -⟩ := hsl
          exact px (or_store (l := #[.slice A1858 r1857.1.1.length cA1858, .slice A1859 r1857.1.2.length cA1859]) (lab := 1281) (lab2 := 1869) ts37 (s_6.trans e1868_6) f_77 b_g962 (by simp) (by kernel_rfl) (mem_of rfl) (by decide) (by kernel_rfl) (fun own' a' w' ha hb => hb))
        exact steps_nil
      intro own1870 a1870 w1870 hd1870 hz1870 hk1870 hf1870 hE1870
      have e1870_1 := (hk1870 1 rfl).trans e1868_1
      have e1870_5 := (hk1870 5 rfl).trans e1868_5
      have e1870_6 := (hk1870 6 rfl).trans e1868_6
      have e1870_7 := (hk1870 7 rfl).trans e1868_7
      have e1870_8 := (hk1870 8 rfl).trans e1868_8
      have e1870_9 := (hk1870 9 rfl).trans e1868_9
      have e1870_11 := (hk1870 11 rfl).trans e1868_11
      have e1870_14 := (hk1870 14 rfl).trans e1868_14
      obtain ⟨(b1870_g962 : BlkO own1870 1869 w1870 g962 37 #[.slice A1858 r1857.1.1.length cA1858, .slice A1859 r1857.1.2.length cA1859]), -⟩ := hf1870 [1] rfl
      have hX1870 := es_ hX1868 hE1870
      have b1870_Alists2 := RdO.evo rfl hE1870 b1868_Alists2
      have b1870_A1822 := re_ hE1870 b1868_A1822
      have b1870_g960 := be_ hE1870 b1868_g960
      have b1870_A1831 := re_ hE1870 b1868_A1831
      have b1870_A1832 := re_ hE1870 b1868_A1832
      have b1870_A1833 := re_ hE1870 b1868_A1833
      have b1870_A1858 := RdO.evo rfl hE1870 b1868_A1858
      have b1870_A1859 := RdO.evo rfl hE1870 b1868_A1859
      have b1870_A1860 := re_ hE1870 b1868_A1860
      obtain ⟨r1871, hr1871, hs⟩ := obind hs
      refine rg0_seq 109 own1870 [0, 1, 3, 7, 7, 15, 63] [⟨[], [11], [], Fct.val 79 (.slice A1831 r1830.1.length cA1831)⟩, ⟨[0], [5], [], Fct.mems [1873] 80 (fun (x : Option Addr × Nat) => .tuple #[.slice x.1 r1871.1.length x.2, .int .i64 r1871.2]) (fun (x : Option Addr × Nat) own w => RwO own 1873 [] w 64 R64 x.1 x.2 r1871.1) (fun hk he h => RwO.evo (hits_sub hk (by decide)) he h)⟩, ⟨[1], [], [], Fct.rel [78, 80] (fun l => ∀ (A1872 : Option Addr) (cA1872 : Nat), l.getD 1 undef = .tuple #[.slice A1872 r1871.1.length cA1872, .int .i64 r1871.2] → l.getD 0 undef = .tuple #[.slice A1872 r1871.1.length cA1872, .int .i64 r1871.2])⟩, ⟨[2, 1], [], [], Fct.rel [81, 80] (fun l => ∀ (A1872 : Option Addr) (cA1872 : Nat), l.getD 1 undef = .tuple #[.slice A1872 r1871.1.length cA1872, .int .i64 r1871.2] → l.getD 0 undef = .slice A1872 r1871.1.length cA1872)⟩, ⟨[2, 1], [], [], Fct.val 82 (.int .i64 r1871.2)⟩, ⟨[3, 1], [], [], Fct.rel [15, 80] (fun l => ∀ (A1872 : Option Addr) (cA1872 : Nat), l.getD 1 undef = .tuple #[.slice A1872 r1871.1.length cA1872, .int .i64 r1871.2] → l.getD 0 undef = .slice A1872 r1871.1.length cA1872)⟩, ⟨[4], [], [], Fct.val 16 (.int .i64 r1871.2)⟩] hz1870 hd1870 (by kernel_rfl) ?_ ?_
      · refine sc (fun _ _ _ _ s _ => px (or_move (s.1.trans e1870_11))) ?_
        refine sc (fun _ _ _ f s hE => px (or_call cf9 (args2 (s.1.trans e1870_5) f.1) (table_Table_Attrs_w _ r1830.2.2 g960 43 A1832 cA1832 A1833 cA1833 r1830.1 A1831 cA1831 (BlkO.zero_ (be_ hE b1870_g960)) (RdO.zero (RwO.rd (re_ hE b1870_A1832))) (RdO.zero (RwO.rd (re_ hE b1870_A1833))) (RdO.zero (RwO.rd (re_ hE b1870_A1831))) r1871 hr1871) (post_mems (m := (fun _ => 0)) (m' := (look0 [(1, 1873)])) (fun _ _ => .inl rfl) (fun own' w' a' x h1 h => ⟨x, h1, RwO.back_ h (by decide) (.inl (Rep.fl_flat _))⟩)))) ?_
        refine sc (fun own a wx hf hsl hE => ?_) ?_
        · obtain ⟨⟨⟨A1872, cA1872⟩, (f_80 : a.eval (.tmp 80) = .tuple #[.slice A1872 r1871.1.length cA1872, .int .i64 r1871.2]), b_A1872⟩, -⟩ := hf
          exact px (or_mono (f := Fct.val 78 (.tuple #[.slice A1872 r1871.1.length cA1872, .int .i64 r1871.2])) (or_move f_80) (fun own' a' w' v' hp h => fun _ _ h0' => by cases (f_80.symm.trans ((hp.2 80 (by decide)).symm.trans h0')); exact h))
        refine sc (fun own a wx hf hsl hE => ?_) ?_
        · obtain ⟨(q_78 : ∀ (A1872 : Option Addr) (cA1872 : Nat), a.eval (.tmp 80) = .tuple #[.slice A1872 r1871.1.length cA1872, .int .i64 r1871.2] → a.eval (.tmp 78) = .tuple #[.slice A1872 r1871.1.length cA1872, .int .i64 r1871.2]), ⟨⟨A1872, cA1872⟩, (f_80 : a.eval (.tmp 80) = .tuple #[.slice A1872 r1871.1.length cA1872, .int .i64 r1871.2]), b_A1872⟩, -⟩ := hf
          have f_78 := q_78 _ _ f_80
          exact px (or_mono (f := Fct.val 81 (.slice A1872 r1871.1.length cA1872)) (or_k [(78, .tuple #[.slice A1872 r1871.1.length cA1872, .int .i64 r1871.2])] rfl rfl ⟨f_78, trivial⟩ (by kernel_rfl)) (fun own' a' w' v' hp h => fun _ _ h0' => by cases (f_80.symm.trans ((hp.2 80 (by decide)).symm.trans h0')); exact h))
        refine sc (fun own a wx hf hsl hE => ?_) ?_
        · obtain ⟨(q_78 : ∀ (A1872 : Option Addr) (cA1872 : Nat), a.eval (.tmp 80) = .tuple #[.slice A1872 r1871.1.length cA1872, .int .i64 r1871.2] → a.eval (.tmp 78) = .tuple #[.slice A1872 r1871.1.length cA1872, .int .i64 r1871.2]), ⟨⟨A1872, cA1872⟩, f_80, b_A1872⟩, -⟩ := hf
          have f_78 := q_78 _ _ f_80
          exact px (or_k [(78, .tuple #[.slice A1872 r1871.1.length cA1872, .int .i64 r1871.2])] rfl rfl ⟨f_78, trivial⟩ (by kernel_rfl))
        refine sc (fun own a wx hf hsl hE => ?_) ?_
        · obtain ⟨(q_81 : ∀ (A1872 : Option Addr) (cA1872 : Nat), a.eval (.tmp 80) = .tuple #[.slice A1872 r1871.1.length cA1872, .int .i64 r1871.2] → a.eval (.tmp 81) = .slice A1872 r1871.1.length cA1872), ⟨⟨A1872, cA1872⟩, (f_80 : a.eval (.tmp 80) = .tuple #[.slice A1872 r1871.1.length cA1872, .int .i64 r1871.2]), b_A1872⟩, -⟩ := hf
          have f_81 := q_81 _ _ f_80
          exact px (or_mono (f := Fct.val 15 (.slice A1872 r1871.1.length cA1872)) (or_assign f_81) (fun own' a' w' v' hp h => fun _ _ h0' => by cases (f_80.symm.trans ((hp.2 80 (by decide)).symm.trans h0')); exact h))
        refine sc (fun _ _ _ f _ _ => px (or_assign f.1)) ?_
        exact steps_nil
      intro own1874 a1874 w1874 hd1874 hz1874 hk1874 hf1874 hE1874
      have e1874_1 := (hk1874 1 rfl).trans e1870_1
      have e1874_5 := (hk1874 5 rfl).trans e1870_5
      have e1874_6 := (hk1874 6 rfl).trans e1870_6
      have e1874_7 := (hk1874 7 rfl).trans e1870_7
      have e1874_8 := (hk1874 8 rfl).trans e1870_8
      have e1874_9 := (hk1874 9 rfl).trans e1870_9
      have e1874_11 := (hk1874 11 rfl).trans e1870_11
      have e1874_14 := (hk1874 14 rfl).trans e1870_14
      obtain ⟨⟨⟨A1872, cA1872⟩, (f_80 : a1874.eval (.tmp 80) = .tuple #[.slice A1872 r1871.1.length cA1872, .int .i64 r1871.2]), (b1874_A1872 : RwO own1874 1873 [] w1874 64 R64 A1872 cA1872 r1871.1)⟩, (q_15 : ∀ (A1872 : Option Addr) (cA1872 : Nat), a1874.eval (.tmp 80) = .tuple #[.slice A1872 r1871.1.length cA1872, .int .i64 r1871.2] → a1874.eval (.tmp 15) = .slice A1872 r1871.1.length cA1872), (e1874_16 : a1874.eval (.tmp 16) = .int .i64 r1871.2), -⟩ := hf1874 [1, 5, 6] rfl
      have e1874_15 := q_15 _ _ f_80
      have hX1874 := es_ hX1870 hE1874
      have b1874_Alists2 := RdO.evo rfl hE1874 b1870_Alists2
      have b1874_A1822 := re_ hE1874 b1870_A1822
      have b1874_g960 := be_ hE1874 b1870_g960
      have b1874_A1831 := re_ hE1874 b1870_A1831
      have b1874_A1832 := re_ hE1874 b1870_A1832
      have b1874_A1833 := re_ hE1874 b1870_A1833
      have b1874_A1858 := RdO.evo rfl hE1874 b1870_A1858
      have b1874_A1859 := RdO.evo rfl hE1874 b1870_A1859
      have b1874_A1860 := re_ hE1874 b1870_A1860
      have b1874_g962 := be_ hE1874 b1870_g962
      obtain ⟨r1875, hr1875, hs⟩ := obind hs
      obtain ⟨r1876, hr1876, hs⟩ := obind hs
      obtain ⟨x1877, hx1877, hs⟩ := obind hs
      obtain ⟨r1878, hr1878, hs⟩ := obind hs
      refine rg0_seq 109 own1874 [0, 0, 3, 7, 15, 31, 31, 127, 255, 511, 1023, 2047, 4095, 8191, 16383, 32767, 32767, 131071, 262143, 524287] [⟨[], [11], [], Fct.val 83 (.slice A1831 r1830.1.length cA1831)⟩, ⟨[], [14], [], Fct.val 84 (.slice A1860 r1857.2.length cA1860)⟩, ⟨[0, 1], [], [], Fct.val 85 (.bool r1875)⟩, ⟨[2], [], [], Fct.val 86 (.bool (!r1875))⟩, ⟨[3], [], [], Fct.val 87 (.bool (!r1875))⟩, ⟨[4], [5], [], Fct.cond (!(!r1875)) (some 88) (Fct.val 88 (.agg #[.slice A1832 r1830.2.2.1.length cA1832, .slice A1833 r1830.2.2.2.length cA1833]))⟩, ⟨[4], [6], [], Fct.cond (!(!r1875)) (some 89) (Fct.val 89 (.agg #[.slice A1858 r1857.1.1.length cA1858, .slice A1859 r1857.1.2.length cA1859]))⟩, ⟨[4, 5, 6], [], [], Fct.cond (!(!r1875)) (some 90) (Fct.val 90 (.bool r1876))⟩, ⟨[4, 7], [], [], Fct.cond (!(!r1875)) (some 91) (Fct.val 91 (.bool (!r1876)))⟩, ⟨[4, 8], [], [], Fct.val 92 (.bool ((!r1875) || (!r1876)))⟩, ⟨[9], [], [], Fct.val 93 (.bool ((!r1875) || (!r1876)))⟩, ⟨[10], [16], [], Fct.cond (!((!r1875) || (!r1876))) (some 94) (Fct.val 94 (.int .i64 r1871.2))⟩, ⟨[10, 11], [], [], Fct.cond (!((!r1875) || (!r1876))) (some 95) (Fct.val 95 (.bool (!decide (r1871.2 = 0))))⟩, ⟨[10, 12], [], [], Fct.val 96 (.bool x1877)⟩, ⟨[13], [], [], Fct.val 97 (.bool x1877)⟩, ⟨[14], [15], [], Fct.cond (!x1877) (some 98) (Fct.val 98 (.slice A1872 r1871.1.length cA1872))⟩, ⟨[14], [9], [], Fct.cond (!x1877) (some 99) (Fct.val 99 (.slice A1822 r1821.length cA1822))⟩, ⟨[14, 15, 16], [], [], Fct.cond (!x1877) (some 100) (Fct.val 100 (.bool r1878))⟩, ⟨[14, 17], [], [], Fct.cond (!x1877) (some 101) (Fct.val 101 (.bool (!r1878)))⟩, ⟨[14, 18], [], [], Fct.val 102 (.bool (x1877 || (!r1878)))⟩] hz1874 hd1874 (by kernel_rfl) ?_ ?_
      · refine sc (fun _ _ _ _ s _ => px (or_move (s.1.trans e1874_11))) ?_
        refine sc (fun _ _ _ _ s _ => px (or_move (s.1.trans e1874_14))) ?_
        refine sc (fun _ _ _ f _ hE => px (or_call cf20 (args2 f.1 f.2.1) (law04_Ints_w _ r1830.1 A1831 cA1831 r1857.2 A1860 cA1860 (RdO.zero (RwO.rd (re_ hE b1874_A1831))) (RdO.zero (RwO.rd (re_ hE b1874_A1860))) r1875 hr1875) post_val)) ?_
        refine sc (fun _ _ _ f _ _ => px (or_not f.1 rfl)) ?_
        refine sc (fun _ _ _ f _ _ => px (or_move f.1)) ?_
        refine sc (fun _ _ _ f s hE => sg_f rfl rfl rfl f.1 (fun hg => or_load (l := [.slice A1832 r1830.2.2.1.length cA1832, .slice A1833 r1830.2.2.2.length cA1833]) ta43 (s.1.trans e1874_5) (Blk.cellsFrom (be_ hE b1874_g960).2 0 rfl) rfl)) ?_
        refine sc (fun _ _ _ f s hE => sg_f rfl rfl rfl f.1 (fun hg => or_load (l := [.slice A1858 r1857.1.1.length cA1858, .slice A1859 r1857.1.2.length cA1859]) ta37 (s.1.trans e1874_6) (Blk.cellsFrom (be_ hE b1874_g962).2 0 rfl) rfl)) ?_
        refine sc (fun _ _ _ f _ hE => sg_f rfl rfl rfl f.1 (fun hg => or_call cf18 (args2 (f.2.1.1 hg) (f.2.2.1.1 hg)) (law11_same_w _ r1830.2.2 A1832 cA1832 A1833 cA1833 r1857.1 A1858 cA1858 A1859 cA1859 (RdO.zero (RwO.rd (re_ hE b1874_A1832))) (RdO.zero (RwO.rd (re_ hE b1874_A1833))) (RdO.zero (RdO.evo rfl hE b1874_A1858)) (RdO.zero (RdO.evo rfl hE b1874_A1859)) r1876 (gd_t hr1876 hg)) post_val)) ?_
        refine sc (fun _ _ _ f _ _ => sg_f rfl rfl rfl f.1 (fun hg => or_not (f.2.1.1 hg) rfl)) ?_
        refine sc (fun _ _ _ f _ _ => px (or_or f.1 rfl (fun hx => f.2.1.1 hx) rfl)) ?_
        refine sc (fun _ _ _ f _ _ => px (or_move f.1)) ?_
        refine sc (fun _ _ _ f s _ => sg_f rfl rfl rfl f.1 (fun hg => or_move (s.1.trans e1874_16))) ?_
        refine sc (fun _ _ _ f _ _ => sg_f rfl rfl rfl f.1 (fun hg => or_neq (f.2.1.1 hg) rfl rfl)) ?_
        refine sc (fun _ _ _ f _ _ => px (or_or f.1 rfl (fun hx => f.2.1.1 hx) (osome hx1877).symm)) ?_
        refine sc (fun _ _ _ f _ _ => px (or_move f.1)) ?_
        refine sc (fun _ _ _ f s _ => sg_f rfl rfl rfl f.1 (fun hg => or_move (s.1.trans e1874_15))) ?_
        refine sc (fun _ _ _ f s _ => sg_f rfl rfl rfl f.1 (fun hg => or_move (s.1.trans e1874_9))) ?_
        refine sc (fun _ _ _ f _ hE => sg_f rfl rfl rfl f.1 (fun hg => or_call cf21 (args2 (f.2.1.1 hg) (f.2.2.1.1 hg)) (table_Same_w _ r1871.1 A1872 cA1872 r1821 A1822 cA1822 (RdO.zero (RwO.rd (re_ hE b1874_A1872))) (RdO.zero (RwO.rd (re_ hE b1874_A1822))) r1878 (gd_t hr1878 hg)) post_val)) ?_
        refine sc (fun _ _ _ f _ _ => sg_f rfl rfl rfl f.1 (fun hg => or_not (f.2.1.1 hg) rfl)) ?_
        refine sc (fun _ _ _ f _ _ => px (or_or f.1 rfl (fun hx => f.2.1.1 hx) rfl)) ?_
        exact steps_nil
      intro own1879 a1879 w1879 hd1879 hz1879 hk1879 hf1879 hE1879
      have e1879_1 := (hk1879 1 rfl).trans e1874_1
      have e1879_5 := (hk1879 5 rfl).trans e1874_5
      have e1879_6 := (hk1879 6 rfl).trans e1874_6
      have e1879_7 := (hk1879 7 rfl).trans e1874_7
      have e1879_8 := (hk1879 8 rfl).trans e1874_8
      obtain ⟨(e1879_102 : a1879.eval (.tmp 102) = .bool (x1877 || (!r1878))), -⟩ := hf1879 [19] rfl
      have hX1879 := es_ hX1874 hE1879
      have b1879_Alists2 := RdO.evo rfl hE1879 b1874_Alists2
      have b1879_g960 := be_ hE1879 b1874_g960
      have b1879_A1832 := re_ hE1879 b1874_A1832
      have b1879_A1833 := re_ hE1879 b1874_A1833
      have b1879_A1858 := RdO.evo rfl hE1879 b1874_A1858
      have b1879_A1859 := RdO.evo rfl hE1879 b1874_A1859
      have b1879_g962 := be_ hE1879 b1874_g962
      refine fl_cond e1879_102 hs (fun c1880 hs => ?_) (fun c1880 hs => ?_)
      · refine rg0_seq 109 own1879 (bz 1) [⟨[], [], [], Fct.val 4 (.bool false)⟩] hz1879 hd1879 (by kernel_rfl) ?_ ?_
        · refine sc (fun _ _ _ _ _ _ => px (or_assign rfl)) ?_
          exact steps_nil
        intro own1881 a1881 w1881 hd1881 hz1881 hk1881 hf1881 hE1881
        obtain ⟨(e1881_4 : a1881.eval (.tmp 4) = .bool false), -⟩ := hf1881 [0] rfl
        have hX1881 := es_ hX1879 hE1881
        refine fl_ret ?_
        refine hp1737 _ _ _ rfl ?_
        refine hp1592 _ _ _ rfl ?_
        replace hs := hz1586 _ hs
        refine hp1586 _ _ _ rfl ?_
        refine hp976 _ _ _ rfl ?_
        refine hp974 _ _ _ rfl ?_
        obtain rfl := osome hs
        exact hret _ _ _ _ (.inl rfl) hd1881 (results1_ rfl (RVal.tmp_ e1881_4)) ⟨own1881, rfl, hX1881⟩
      refine fl_skip ?_
      exact (K1816 _ _ (rl [(1285, 1811), (1835, 1754), (1836, 1755), (1837, 1756), (1856, 1811), (1861, 1811), (1862, 1811), (1863, 1811), (1869, 1807)] own1879) _ _ _ _ A1832 cA1832 A1833 cA1833 A1858 cA1858 A1859 cA1859 hd1879 hz1879 e1879_1 e1879_5 e1879_6 e1879_7 e1879_8 (Evo.rl_ hX1879 (fun _ => Nat.le_refl 0) rfl) (RdO.rl_ (mm := [(1285, 1811), (1835, 1754), (1836, 1755), (1837, 1756), (1856, 1811), (1861, 1811), (1862, 1811), (1863, 1811), (1869, 1807)]) b1879_Alists2) (BlkO.rl_ (mm := [(1285, 1811), (1835, 1754), (1836, 1755), (1837, 1756), (1856, 1811), (1861, 1811), (1862, 1811), (1863, 1811), (1869, 1807)]) b1879_g960) (RwO.rl_ (mm := [(1285, 1811), (1835, 1754), (1836, 1755), (1837, 1756), (1856, 1811), (1861, 1811), (1862, 1811), (1863, 1811), (1869, 1807)]) b1879_A1832) (RwO.rl_ (mm := [(1285, 1811), (1835, 1754), (1836, 1755), (1837, 1756), (1856, 1811), (1861, 1811), (1862, 1811), (1863, 1811), (1869, 1807)]) b1879_A1833) (BlkO.rl_ (mm := [(1285, 1811), (1835, 1754), (1836, 1755), (1837, 1756), (1856, 1811), (1861, 1811), (1862, 1811), (1863, 1811), (1869, 1807)]) b1879_g962) (RdO.more (RdO.rl_ (mm := [(1285, 1811), (1835, 1754), (1836, 1755), (1837, 1756), (1856, 1811), (1861, 1811), (1862, 1811), (1863, 1811), (1869, 1807)]) b1879_A1858) (by decide)) (RdO.more (RdO.rl_ (mm := [(1285, 1811), (1835, 1754), (1836, 1755), (1837, 1756), (1856, 1811), (1861, 1811), (1862, 1811), (1863, 1811), (1869, 1807)]) b1879_A1859) (by decide)) hs).1
    refine fl_exit ?_
    refine hp1588 _ _ _ rfl ?_
    replace hs := hz1586 _ hs
    refine hp1586 _ _ _ rfl ?_
    refine hx976 _ _ ?_
    refine hn974 _ _ ?_
    obtain ⟨r1882, hr1882, hs⟩ := obind hs
    obtain ⟨r1883, hr1883, hs⟩ := obind hs
    refine rg0_seq 109 own1590 [0, 1, 3, 3, 15, 31, 63] [⟨[], [], [], Fct.val 103 (.bool r1882)⟩, ⟨[0], [], [], Fct.val 104 (.bool r1882)⟩, ⟨[1], [5], [], Fct.cond r1882 (some 105) (Fct.val 105 (.int .i64 r1883))⟩, ⟨[1], [7], [], Fct.cond r1882 (some 106) (Fct.val 106 (.int .i64 r967))⟩, ⟨[1, 2, 3], [], [], Fct.cond r1882 (some 107) (Fct.val 107 (.bool (decide (r1883 = r967))))⟩, ⟨[1, 4], [], [], Fct.val 108 (.bool (r1882 && (decide (r1883 = r967))))⟩, ⟨[5], [], [], Fct.val 4 (.bool (r1882 && (decide (r1883 = r967))))⟩] hz1590 hd1590 (by kernel_rfl) ?_ ?_
    · refine sc (fun _ _ _ _ _ _ => px (or_call cf11 (args0) (law11_known_w _   r1882 hr1882) post_val)) ?_
      refine sc (fun _ _ _ f _ _ => px (or_move f.1)) ?_
      refine sc (fun _ _ _ f s hE => sg_t rfl rfl rfl f.1 (fun hg => or_call cf12 (args1 (s.1.trans e1590_5)) (table_Table_Check_w _ (x1275, x1279) g960 43 A1273 c1274 A1277 c1278 (BlkO.zero_ (be_ hE b1590_g960)) (RdO.zero (RwO.rd (re_ hE b1590_A1273))) (RdO.zero (RwO.rd (re_ hE b1590_A1277))) r1883 (gd_t hr1883 hg)) post_val)) ?_
      refine sc (fun _ _ _ f s _ => sg_t rfl rfl rfl f.1 (fun hg => or_move (s.1.trans e1590_7))) ?_
      refine sc (fun _ _ _ f _ _ => sg_t rfl rfl rfl f.1 (fun hg => or_eql (f.2.1.1 hg) (f.2.2.1.1 hg) rfl)) ?_
      refine sc (fun _ _ _ f _ _ => px (or_and f.1 (fun hx => f.2.1.1 hx) rfl rfl)) ?_
      refine sc (fun _ _ _ f _ _ => px (or_assign f.1)) ?_
      exact steps_nil
    intro own1884 a1884 w1884 hd1884 hz1884 hk1884 hf1884 hE1884
    obtain ⟨(e1884_4 : a1884.eval (.tmp 4) = .bool (r1882 && (decide (r1883 = r967)))), -⟩ := hf1884 [6] rfl
    have hX1884 := es_ hX1590 hE1884
    refine fl_ret ?_
    obtain rfl := osome hs
    exact hret _ _ _ _ (.inl rfl) hd1884 (results1_ rfl (RVal.tmp_ e1884_4)) ⟨own1884, rfl, hX1884⟩
end Go.Proofs.Ytpbhdblkjabdlaa
