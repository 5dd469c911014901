/-
  Chapter 03. The walks.
-/
import Derived.Test.YthkmkmkcnljmaaaWp8
import Derived.Test.YthkmkmkcnljmaaaSp9
namespace Go.Proofs.Ythkmkmkcnljmaaa
open Go.RowKit
set_option linter.unusedVariables false
set_option maxHeartbeats 2000000 in
theorem ref03_Simple_w (w : World) (l1 : List (Int × Int)) (Al1 : Option Addr) (cl1 : Nat) (hl1 : RdO (fun _ => 0) [0] w R49 Al1 cl1 l1) (r : Bool) (hs : ref03_Simple l1 = some r) :
    Calls Try.prog 15 #[.slice Al1 l1.length cl1] w fun e w' => ∃ own' : Own, e = .returned (.bool r) ∧ Evo [] (fun _ => 0) own' w w' := by
  refine fl_enter (n := 86) rfl rfl rfl (Nat.le_of_ble_eq_true rfl) ?_
  intro a0 Q hd0 hz0 harg hret
  have ha0 := harg 0 _ rfl
  clear harg
  have hE0 : Evo [] (fun _ => 0) (fun _ => 0) w w := Evo.refl _ _ _
  refine rg_plain_seq (n := 86) (rs := []) (own0 := (fun _ => 0)) (K := [])
      (bs := [0])
      (ds := [⟨[], [], [], Fct.val 2 (.bool false)⟩]) (by kernel_rfl) hz0 hd0 (fun _ h => nomatch h) ?_ ?_
  · refine steps_cons (fun own a wx hf hsl hE => ?_) ?_
    · exact sg_plain rfl rfl (or_assign rfl)
    exact steps_nil
  intro own364 a364 w364 hd364 hz364 hk364 hf364 hE364
  have e364_0 : a364.eval (.tmp 0) = .slice Al1 l1.length cl1 := (hk364 0 rfl).trans ha0
  have hX364 := Evo.step hE0 (fun _ => Nat.le_refl 0) hE364 rfl
  have b364_Al1 := RdO.evo rfl hE364 hl1
  refine rg_plain_seq (n := 86) (rs := []) (own0 := own364) (K := [])
      (bs := [0, 1, 3])
      (ds := [⟨[], [0], [], Fct.val 10 (.slice Al1 l1.length cl1)⟩,
      ⟨[0], [], [], Fct.val 11 (.int .i64 (l1.length : Int))⟩,
      ⟨[1], [], [], Fct.val 3 (.int .i64 (l1.length : Int))⟩]) (by kernel_rfl) hz364 hd364 (fun _ h => nomatch h) ?_ ?_
  · refine steps_cons (fun own a wx hf hsl hE => ?_) ?_
    · obtain ⟨s_0, -⟩ := hsl
      exact sg_plain rfl rfl (or_move (s_0.trans e364_0))
    refine steps_cons (fun own a wx hf hsl hE => ?_) ?_
    · obtain ⟨(f_10 : a.eval (.tmp 10) = .slice Al1 l1.length cl1), -⟩ := hf
      exact sg_plain rfl rfl (or_len tu24 f_10 rfl)
    refine steps_cons (fun own a wx hf hsl hE => ?_) ?_
    · obtain ⟨(f_11 : a.eval (.tmp 11) = .int .i64 (l1.length : Int)), -⟩ := hf
      exact sg_plain rfl rfl (or_assign f_11)
    exact steps_nil
  intro own365 a365 w365 hd365 hz365 hk365 hf365 hE365
  have e365_0 : a365.eval (.tmp 0) = .slice Al1 l1.length cl1 := (hk365 0 rfl).trans e364_0
  obtain ⟨(f_3 : a365.eval (.tmp 3) = .int .i64 (l1.length : Int)), -⟩ := hf365 [2] rfl
  have e365_3 := f_3
  have hX365 := Evo.step hX364 (fun _ => Nat.le_refl 0) hE365 rfl
  have b365_Al1 := RdO.evo rfl hE365 b364_Al1
  refine fl_seq (fun Q366 hn366 hp366 => ?_)
  obtain ⟨r367, hr367, hs⟩ := obind hs
  obtain ⟨x368, hx368, hs⟩ := obind hs
  refine rg_plain_seq (n := 86) (rs := []) (own0 := own365) (K := [])
      (bs := [0, 1, 3, 7, 15, 31, 63])
      (ds := [⟨[], [3], [], Fct.val 12 (.int .i64 (l1.length : Int))⟩,
      ⟨[0], [], [], Fct.val 13 (.bool (decide ((l1.length : Int) < 3)))⟩,
      ⟨[1], [], [], Fct.val 14 (.bool (decide ((l1.length : Int) < 3)))⟩,
      ⟨[2], [0], [], Fct.cond (!(decide ((l1.length : Int) < 3))) (some 15) (Fct.val 15 (.slice Al1 l1.length cl1))⟩,
      ⟨[2, 3], [], [], Fct.cond (!(decide ((l1.length : Int) < 3))) (some 16) (Fct.val 16 (.bool r367))⟩,
      ⟨[2, 4], [], [], Fct.cond (!(decide ((l1.length : Int) < 3))) (some 17) (Fct.val 17 (.bool (!r367)))⟩,
      ⟨[2, 5], [], [], Fct.val 18 (.bool x368)⟩]) (by kernel_rfl) hz365 hd365 (fun _ h => nomatch h) ?_ ?_
  · refine steps_cons (fun own a wx hf hsl hE => ?_) ?_
    · obtain ⟨s_3, -⟩ := hsl
      exact sg_plain rfl rfl (or_move (s_3.trans e365_3))
    refine steps_cons (fun own a wx hf hsl hE => ?_) ?_
    · obtain ⟨(f_12 : a.eval (.tmp 12) = .int .i64 (l1.length : Int)), -⟩ := hf
      exact sg_plain rfl rfl (or_lss f_12 rfl rfl)
    refine steps_cons (fun own a wx hf hsl hE => ?_) ?_
    · obtain ⟨(f_13 : a.eval (.tmp 13) = .bool (decide ((l1.length : Int) < 3))), -⟩ := hf
      exact sg_plain rfl rfl (or_move f_13)
    refine steps_cons (fun own a wx hf hsl hE => ?_) ?_
    · obtain ⟨(f_14 : a.eval (.tmp 14) = .bool (decide ((l1.length : Int) < 3))), -⟩ := hf
      obtain ⟨s_0, -⟩ := hsl
      refine sg_f rfl rfl rfl f_14 (fun hg => ?_)
      exact or_move (s_0.trans e365_0)
    refine steps_cons (fun own a wx hf hsl hE => ?_) ?_
    · obtain ⟨(f_14 : a.eval (.tmp 14) = .bool (decide ((l1.length : Int) < 3))), c_15, -⟩ := hf
      refine sg_f rfl rfl rfl f_14 (fun hg => ?_)
      have f_15 : a.eval (.tmp 15) = .slice Al1 l1.length cl1 := c_15.1 hg
      exact or_call cf10 (args1 f_15) (ref01_All_w _ l1 Al1 cl1 (RdO.zero (RdO.evo rfl hE b365_Al1)) r367 (gd_t hr367 hg)) post_val
    refine steps_cons (fun own a wx hf hsl hE => ?_) ?_
    · obtain ⟨(f_14 : a.eval (.tmp 14) = .bool (decide ((l1.length : Int) < 3))), c_16, -⟩ := hf
      refine sg_f rfl rfl rfl f_14 (fun hg => ?_)
      have f_16 : a.eval (.tmp 16) = .bool r367 := c_16.1 hg
      exact or_not f_16 rfl
    refine steps_cons (fun own a wx hf hsl hE => ?_) ?_
    · obtain ⟨(f_14 : a.eval (.tmp 14) = .bool (decide ((l1.length : Int) < 3))), c_17, -⟩ := hf
      exact sg_plain rfl rfl (or_or f_14 rfl (fun hx => c_17.1 hx) (osome hx368).symm)
    exact steps_nil
  intro own369 a369 w369 hd369 hz369 hk369 hf369 hE369
  have e369_0 : a369.eval (.tmp 0) = .slice Al1 l1.length cl1 := (hk369 0 rfl).trans e365_0
  have e369_3 : a369.eval (.tmp 3) = .int .i64 (l1.length : Int) := (hk369 3 rfl).trans e365_3
  obtain ⟨(f_18 : a369.eval (.tmp 18) = .bool x368), -⟩ := hf369 [6] rfl
  have e369_18 := f_18
  have hX369 := Evo.step hX365 (fun _ => Nat.le_refl 0) hE369 rfl
  have b369_Al1 := RdO.evo rfl hE369 b365_Al1
  refine fl_cond e369_18 hs (fun c370 hs => ?_) (fun c370 hs => ?_)
  · refine rg_plain_seq (n := 86) (rs := []) (own0 := own369) (K := [])
        (bs := [0])
        (ds := [⟨[], [], [], Fct.val 2 (.bool false)⟩]) (by kernel_rfl) hz369 hd369 (fun _ h => nomatch h) ?_ ?_
    · refine steps_cons (fun own a wx hf hsl hE => ?_) ?_
      · exact sg_plain rfl rfl (or_assign rfl)
      exact steps_nil
    intro own371 a371 w371 hd371 hz371 hk371 hf371 hE371
    obtain ⟨(f_2 : a371.eval (.tmp 2) = .bool false), -⟩ := hf371 [0] rfl
    have e371_2 := f_2
    have hX371 := Evo.step hX369 (fun _ => Nat.le_refl 0) hE371 rfl
    refine fl_ret ?_
    refine hp366 _ _ _ rfl ?_
    obtain rfl := osome hs
    exact hret _ _ _ _ (.inl rfl) hd371 (results1_ rfl (RVal.tmp_ e371_2)) ⟨own371, rfl, hX371⟩
  refine fl_skip ?_
  refine hn366 _ _ ?_
  refine fl_seq (fun Q372 hn372 hp372 => ?_)
  refine rg_plain_seq (n := 86) (rs := []) (own0 := own369) (K := [])
      (bs := [0])
      (ds := [⟨[], [], [], Fct.val 4 (.int .i64 0)⟩]) (by kernel_rfl) hz369 hd369 (fun _ h => nomatch h) ?_ ?_
  · refine steps_cons (fun own a wx hf hsl hE => ?_) ?_
    · exact sg_plain rfl rfl (or_assign rfl)
    exact steps_nil
  intro own373 a373 w373 hd373 hz373 hk373 hf373 hE373
  have e373_0 : a373.eval (.tmp 0) = .slice Al1 l1.length cl1 := (hk373 0 rfl).trans e369_0
  have e373_3 : a373.eval (.tmp 3) = .int .i64 (l1.length : Int) := (hk373 3 rfl).trans e369_3
  obtain ⟨(f_4 : a373.eval (.tmp 4) = .int .i64 0), -⟩ := hf373 [0] rfl
  have e373_4 := f_4
  have hX373 := Evo.step hX369 (fun _ => Nat.le_refl 0) hE373 rfl
  have b373_Al1 := RdO.evo rfl hE373 b369_Al1
  refine fl_block (fun Q374 hn374 hx374 hp374 => ?_)
  refine fl_loop (body := (fun s => ref03_Simple_b1 l1 s)) (z := r) (show loopO _ _ = _ from hs) (fun (i391 : Int) a wx => ∃ (ox : Own), a.defers = [] ∧ a.tmps.size = 86 ∧ a.eval (.tmp 0) = .slice Al1 l1.length cl1 ∧ a.eval (.tmp 3) = .int .i64 (l1.length : Int) ∧ a.eval (.tmp 4) = .int .i64 i391 ∧ Evo [] (fun _ => 0) ox w wx ∧ RdO ox [0] wx R49 Al1 cl1 l1) ?_ ?_
  · exact ⟨own373, hd373, hz373, e373_0, e373_3, e373_4, hX373, b373_Al1⟩
  · rintro i391 zz439 a439 w439 ⟨own439, hd440, hz440, e440_0, e440_3, e440_4, hE440, b440_Al1⟩ hs Q439 hn439 hp439 hz439
    have hs : ref03_Simple_b1 l1 i391 = some zz439 := hs
    refine fl_seq (fun Q441 hn441 hp441 => ?_)
    refine rg_plain_seq (n := 86) (rs := []) (own0 := own439) (K := [])
        (bs := [0, 0, 3])
        (ds := [⟨[], [4], [], Fct.val 19 (.int .i64 i391)⟩,
        ⟨[], [3], [], Fct.val 20 (.int .i64 (l1.length : Int))⟩,
        ⟨[0, 1], [], [], Fct.val 21 (.bool (decide (i391 < (l1.length : Int))))⟩]) (by kernel_rfl) hz440 hd440 (fun _ h => nomatch h) ?_ ?_
    · refine steps_cons (fun own a wx hf hsl hE => ?_) ?_
      · obtain ⟨s_4, -⟩ := hsl
        exact sg_plain rfl rfl (or_move (s_4.trans e440_4))
      refine steps_cons (fun own a wx hf hsl hE => ?_) ?_
      · obtain ⟨s_3, -⟩ := hsl
        exact sg_plain rfl rfl (or_move (s_3.trans e440_3))
      refine steps_cons (fun own a wx hf hsl hE => ?_) ?_
      · obtain ⟨(f_19 : a.eval (.tmp 19) = .int .i64 i391), (f_20 : a.eval (.tmp 20) = .int .i64 (l1.length : Int)), -⟩ := hf
        exact sg_plain rfl rfl (or_lss f_19 f_20 rfl)
      exact steps_nil
    intro own442 a442 w442 hd442 hz442 hk442 hf442 hE442
    have e442_0 : a442.eval (.tmp 0) = .slice Al1 l1.length cl1 := (hk442 0 rfl).trans e440_0
    have e442_3 : a442.eval (.tmp 3) = .int .i64 (l1.length : Int) := (hk442 3 rfl).trans e440_3
    have e442_4 : a442.eval (.tmp 4) = .int .i64 i391 := (hk442 4 rfl).trans e440_4
    obtain ⟨(f_21 : a442.eval (.tmp 21) = .bool (decide (i391 < (l1.length : Int)))), -⟩ := hf442 [2] rfl
    have e442_21 := f_21
    have hX442 := Evo.step hE440 (fun _ => Nat.le_refl 0) hE442 rfl
    have b442_Al1 := RdO.evo rfl hE442 b440_Al1
    refine fl_cond e442_21 hs (fun c443 hs => ?_) (fun c443 hs => ?_)
    · refine fl_skip ?_
      refine hn441 _ _ ?_
      refine fl_seq (fun Q444 hn444 hp444 => ?_)
      refine fl_block (fun Q445 hn445 hx445 hp445 => ?_)
      refine rg_plain_seq (n := 86) (rs := []) (own0 := own442) (K := [])
          (bs := [0])
          (ds := [⟨[], [], [], Fct.val 5 (.int .i64 0)⟩]) (by kernel_rfl) hz442 hd442 (fun _ h => nomatch h) ?_ ?_
      · refine steps_cons (fun own a wx hf hsl hE => ?_) ?_
        · exact sg_plain rfl rfl (or_assign rfl)
        exact steps_nil
      intro own446 a446 w446 hd446 hz446 hk446 hf446 hE446
      have e446_0 : a446.eval (.tmp 0) = .slice Al1 l1.length cl1 := (hk446 0 rfl).trans e442_0
      have e446_3 : a446.eval (.tmp 3) = .int .i64 (l1.length : Int) := (hk446 3 rfl).trans e442_3
      have e446_4 : a446.eval (.tmp 4) = .int .i64 i391 := (hk446 4 rfl).trans e442_4
      obtain ⟨(f_5 : a446.eval (.tmp 5) = .int .i64 0), -⟩ := hf446 [0] rfl
      have e446_5 := f_5
      have hX446 := Evo.step hX442 (fun _ => Nat.le_refl 0) hE446 rfl
      have b446_Al1 := RdO.evo rfl hE446 b442_Al1
      refine fl_block (fun Q447 hn447 hx447 hp447 => ?_)
      refine fl_loop (body := (fun s => ref03_Simple_b2 l1 i391 s)) (z := zz439) (show loopO _ _ = _ from hs) (fun (k460 : Int) a wx => ∃ (ox : Own), a.defers = [] ∧ a.tmps.size = 86 ∧ a.eval (.tmp 0) = .slice Al1 l1.length cl1 ∧ a.eval (.tmp 3) = .int .i64 (l1.length : Int) ∧ a.eval (.tmp 4) = .int .i64 i391 ∧ a.eval (.tmp 5) = .int .i64 k460 ∧ Evo [] (fun _ => 0) ox w wx ∧ RdO ox [0] wx R49 Al1 cl1 l1) ?_ ?_
      · exact ⟨own446, hd446, hz446, e446_0, e446_3, e446_4, e446_5, hX446, b446_Al1⟩
      · rintro k460 zz473 a473 w473 ⟨own473, hd474, hz474, e474_0, e474_3, e474_4, e474_5, hE474, b474_Al1⟩ hs Q473 hn473 hp473 hz473
        have hs : ref03_Simple_b2 l1 i391 k460 = some zz473 := hs
        refine fl_seq (fun Q475 hn475 hp475 => ?_)
        refine rg_plain_seq (n := 86) (rs := []) (own0 := own473) (K := [])
            (bs := [0, 0, 3])
            (ds := [⟨[], [5], [], Fct.val 24 (.int .i64 k460)⟩,
            ⟨[], [4], [], Fct.val 25 (.int .i64 i391)⟩,
            ⟨[0, 1], [], [], Fct.val 26 (.bool (decide (k460 < i391)))⟩]) (by kernel_rfl) hz474 hd474 (fun _ h => nomatch h) ?_ ?_
        · refine steps_cons (fun own a wx hf hsl hE => ?_) ?_
          · obtain ⟨s_5, -⟩ := hsl
            exact sg_plain rfl rfl (or_move (s_5.trans e474_5))
          refine steps_cons (fun own a wx hf hsl hE => ?_) ?_
          · obtain ⟨s_4, -⟩ := hsl
            exact sg_plain rfl rfl (or_move (s_4.trans e474_4))
          refine steps_cons (fun own a wx hf hsl hE => ?_) ?_
          · obtain ⟨(f_24 : a.eval (.tmp 24) = .int .i64 k460), (f_25 : a.eval (.tmp 25) = .int .i64 i391), -⟩ := hf
            exact sg_plain rfl rfl (or_lss f_24 f_25 rfl)
          exact steps_nil
        intro own476 a476 w476 hd476 hz476 hk476 hf476 hE476
        have e476_0 : a476.eval (.tmp 0) = .slice Al1 l1.length cl1 := (hk476 0 rfl).trans e474_0
        have e476_3 : a476.eval (.tmp 3) = .int .i64 (l1.length : Int) := (hk476 3 rfl).trans e474_3
        have e476_4 : a476.eval (.tmp 4) = .int .i64 i391 := (hk476 4 rfl).trans e474_4
        have e476_5 : a476.eval (.tmp 5) = .int .i64 k460 := (hk476 5 rfl).trans e474_5
        obtain ⟨(f_26 : a476.eval (.tmp 26) = .bool (decide (k460 < i391))), -⟩ := hf476 [2] rfl
        have e476_26 := f_26
        have hX476 := Evo.step hE474 (fun _ => Nat.le_refl 0) hE476 rfl
        have b476_Al1 := RdO.evo rfl hE476 b474_Al1
        refine fl_cond e476_26 hs (fun c477 hs => ?_) (fun c477 hs => ?_)
        · refine fl_skip ?_
          refine hn475 _ _ ?_
          refine fl_seq (fun Q478 hn478 hp478 => ?_)
          refine fl_block (fun Q479 hn479 hx479 hp479 => ?_)
          obtain ⟨x480, hx480, hs⟩ := obind hs
          obtain ⟨x481, hx481, hs⟩ := obind hs
          refine rg_draw_seq g_mixed (n := 86) (rs := []) (own0 := own476) (K := [])
              (bs := [0, 0, 3, 7, 0, 0, 48, 112, 255])
              (ds := [⟨[], [0], [], Fct.val 29 (.slice Al1 l1.length cl1)⟩,
              ⟨[], [4], [], Fct.val 30 (.int .i64 i391)⟩,
              ⟨[0, 1], [], [], Fct.val 31 (.pointer (some ((adr Al1).add ((i391 : Int).toNat * R49.s))))⟩,
              ⟨[2], [], [], Fct.val 32 (.agg #[.int .i64 x480.1, .int .i64 x480.2])⟩,
              ⟨[], [0], [], Fct.val 33 (.slice Al1 l1.length cl1)⟩,
              ⟨[], [5], [], Fct.val 34 (.int .i64 k460)⟩,
              ⟨[4, 5], [], [], Fct.val 35 (.pointer (some ((adr Al1).add ((k460 : Int).toNat * R49.s))))⟩,
              ⟨[6], [], [], Fct.val 36 (.agg #[.int .i64 x481.1, .int .i64 x481.2])⟩,
              ⟨[3, 7], [], [], Fct.val 37 (.bool (decide (x480 = x481)))⟩]) (by kernel_rfl) hz476 hd476 (fun _ h => nomatch h) ?_ ?_
          · refine steps_cons (fun own a wx hf hsl hE => ?_) ?_
            · obtain ⟨s_0, -⟩ := hsl
              exact sg_plain rfl rfl (or_move (s_0.trans e476_0))
            refine steps_cons (fun own a wx hf hsl hE => ?_) ?_
            · obtain ⟨s_4, -⟩ := hsl
              exact sg_plain rfl rfl (or_move (s_4.trans e476_4))
            refine steps_cons (fun own a wx hf hsl hE => ?_) ?_
            · obtain ⟨(f_29 : a.eval (.tmp 29) = .slice Al1 l1.length cl1), (f_30 : a.eval (.tmp 30) = .int .i64 i391), -⟩ := hf
              exact sg_plain rfl rfl (or_index (R := R49) (l := l1) tl24 f_29 f_30 (RdO.some_ b476_Al1 hx480) hx480)
            refine steps_cons (fun own a wx hf hsl hE => ?_) ?_
            · obtain ⟨(f_31 : a.eval (.tmp 31) = .pointer (some ((adr Al1).add ((i391 : Int).toNat * R49.s)))), -⟩ := hf
              exact sg_plain rfl rfl (or_load (l := E49.f x480) ta49 f_31 (RdO.cells (F := E49) (RdO.evo rfl hE b476_Al1) hx480) rfl)
            refine steps_cons (fun own a wx hf hsl hE => ?_) ?_
            · obtain ⟨s_0, -⟩ := hsl
              exact sg_plain rfl rfl (or_move (s_0.trans e476_0))
            refine steps_cons (fun own a wx hf hsl hE => ?_) ?_
            · obtain ⟨s_5, -⟩ := hsl
              exact sg_plain rfl rfl (or_move (s_5.trans e476_5))
            refine steps_cons (fun own a wx hf hsl hE => ?_) ?_
            · obtain ⟨(f_33 : a.eval (.tmp 33) = .slice Al1 l1.length cl1), (f_34 : a.eval (.tmp 34) = .int .i64 k460), -⟩ := hf
              exact sg_plain rfl rfl (or_index (R := R49) (l := l1) tl24 f_33 f_34 (RdO.some_ b476_Al1 hx481) hx481)
            refine steps_cons (fun own a wx hf hsl hE => ?_) ?_
            · obtain ⟨(f_35 : a.eval (.tmp 35) = .pointer (some ((adr Al1).add ((k460 : Int).toNat * R49.s)))), -⟩ := hf
              exact sg_plain rfl rfl (or_load (l := E49.f x481) ta49 f_35 (RdO.cells (F := E49) (RdO.evo rfl hE b476_Al1) hx481) rfl)
            refine steps_cons (fun own a wx hf hsl hE => ?_) ?_
            · obtain ⟨(f_32 : a.eval (.tmp 32) = .agg #[.int .i64 x480.1, .int .i64 x480.2]), (f_36 : a.eval (.tmp 36) = .agg #[.int .i64 x481.1, .int .i64 x481.2]), -⟩ := hf
              exact sg_plain rfl rfl (or_eqlA sg49 f_32 f_36 (se49 x480.1 x480.2 x481.1 x481.2 _) rfl)
            exact steps_nil
          intro own482 a482 w482 hd482 hz482 hk482 hf482 hE482
          have e482_0 : a482.eval (.tmp 0) = .slice Al1 l1.length cl1 := (hk482 0 rfl).trans e476_0
          have e482_3 : a482.eval (.tmp 3) = .int .i64 (l1.length : Int) := (hk482 3 rfl).trans e476_3
          have e482_4 : a482.eval (.tmp 4) = .int .i64 i391 := (hk482 4 rfl).trans e476_4
          have e482_5 : a482.eval (.tmp 5) = .int .i64 k460 := (hk482 5 rfl).trans e476_5
          obtain ⟨(f_37 : a482.eval (.tmp 37) = .bool (decide (x480 = x481))), -⟩ := hf482 [8] rfl
          have e482_37 := f_37
          have hX482 := Evo.step hX476 (fun _ => Nat.le_refl 0) hE482 rfl
          have b482_Al1 := RdO.evo rfl hE482 b476_Al1
          refine fl_cond e482_37 hs (fun c483 hs => ?_) (fun c483 hs => ?_)
          · refine rg_plain_seq (n := 86) (rs := []) (own0 := own482) (K := [])
                (bs := [0])
                (ds := [⟨[], [], [], Fct.val 2 (.bool false)⟩]) (by kernel_rfl) hz482 hd482 (fun _ h => nomatch h) ?_ ?_
            · refine steps_cons (fun own a wx hf hsl hE => ?_) ?_
              · exact sg_plain rfl rfl (or_assign rfl)
              exact steps_nil
            intro own484 a484 w484 hd484 hz484 hk484 hf484 hE484
            obtain ⟨(f_2 : a484.eval (.tmp 2) = .bool false), -⟩ := hf484 [0] rfl
            have e484_2 := f_2
            have hX484 := Evo.step hX482 (fun _ => Nat.le_refl 0) hE484 rfl
            refine fl_ret ?_
            refine hp479 _ _ _ rfl ?_
            refine hp478 _ _ _ rfl ?_
            replace hs := hz473 _ hs
            refine hp473 _ _ _ rfl ?_
            refine hp447 _ _ _ rfl ?_
            refine hp445 _ _ _ rfl ?_
            refine hp444 _ _ _ rfl ?_
            replace hs := hz439 _ hs
            refine hp439 _ _ _ rfl ?_
            refine hp374 _ _ _ rfl ?_
            refine hp372 _ _ _ rfl ?_
            obtain rfl := osome hs
            exact hret _ _ _ _ (.inl rfl) hd484 (results1_ rfl (RVal.tmp_ e484_2)) ⟨own484, rfl, hX484⟩
          refine fl_skip ?_
          refine hn479 _ _ ?_
          refine hn478 _ _ ?_
          refine rg_plain (n := 86) (rs := []) (own0 := own482) (K := [])
              (bs := [0, 1, 3])
              (ds := [⟨[], [5], [], Fct.val 27 (.int .i64 k460)⟩,
              ⟨[0], [], [], Fct.val 28 (.int .i64 (ad k460 1))⟩,
              ⟨[1], [], [], Fct.val 5 (.int .i64 (ad k460 1))⟩]) (by kernel_rfl) hz482 hd482 (fun _ h => nomatch h) ?_ ?_
          · refine steps_cons (fun own a wx hf hsl hE => ?_) ?_
            · obtain ⟨s_5, -⟩ := hsl
              exact sg_plain rfl rfl (or_move (s_5.trans e482_5))
            refine steps_cons (fun own a wx hf hsl hE => ?_) ?_
            · obtain ⟨(f_27 : a.eval (.tmp 27) = .int .i64 k460), -⟩ := hf
              exact sg_plain rfl rfl (or_add f_27 rfl rfl)
            refine steps_cons (fun own a wx hf hsl hE => ?_) ?_
            · obtain ⟨(f_28 : a.eval (.tmp 28) = .int .i64 (ad k460 1)), -⟩ := hf
              exact sg_plain rfl rfl (or_assign f_28)
            exact steps_nil
          intro own485 a485 w485 hd485 hz485 hk485 hf485 hE485
          have e485_0 : a485.eval (.tmp 0) = .slice Al1 l1.length cl1 := (hk485 0 rfl).trans e482_0
          have e485_3 : a485.eval (.tmp 3) = .int .i64 (l1.length : Int) := (hk485 3 rfl).trans e482_3
          have e485_4 : a485.eval (.tmp 4) = .int .i64 i391 := (hk485 4 rfl).trans e482_4
          obtain ⟨(f_5 : a485.eval (.tmp 5) = .int .i64 (ad k460 1)), -⟩ := hf485 [2] rfl
          have e485_5 := f_5
          have hX485 := Evo.step hX482 (fun _ => Nat.le_refl 0) hE485 rfl
          have b485_Al1 := RdO.evo rfl hE485 b482_Al1
          exact hn473 _ _ _ hs ⟨own485, hd485, hz485, e485_0, e485_3, e485_4, e485_5, hX485, b485_Al1⟩
        refine fl_exit ?_
        refine hp475 _ _ _ rfl ?_
        replace hs := hz473 _ hs
        refine hp473 _ _ _ rfl ?_
        refine hx447 _ _ ?_
        refine hn445 _ _ ?_
        refine hn444 _ _ ?_
        refine rg_plain (n := 86) (rs := []) (own0 := own476) (K := [])
            (bs := [0, 1, 3])
            (ds := [⟨[], [4], [], Fct.val 22 (.int .i64 i391)⟩,
            ⟨[0], [], [], Fct.val 23 (.int .i64 (ad i391 1))⟩,
            ⟨[1], [], [], Fct.val 4 (.int .i64 (ad i391 1))⟩]) (by kernel_rfl) hz476 hd476 (fun _ h => nomatch h) ?_ ?_
        · refine steps_cons (fun own a wx hf hsl hE => ?_) ?_
          · obtain ⟨s_4, -⟩ := hsl
            exact sg_plain rfl rfl (or_move (s_4.trans e476_4))
          refine steps_cons (fun own a wx hf hsl hE => ?_) ?_
          · obtain ⟨(f_22 : a.eval (.tmp 22) = .int .i64 i391), -⟩ := hf
            exact sg_plain rfl rfl (or_add f_22 rfl rfl)
          refine steps_cons (fun own a wx hf hsl hE => ?_) ?_
          · obtain ⟨(f_23 : a.eval (.tmp 23) = .int .i64 (ad i391 1)), -⟩ := hf
            exact sg_plain rfl rfl (or_assign f_23)
          exact steps_nil
        intro own486 a486 w486 hd486 hz486 hk486 hf486 hE486
        have e486_0 : a486.eval (.tmp 0) = .slice Al1 l1.length cl1 := (hk486 0 rfl).trans e476_0
        have e486_3 : a486.eval (.tmp 3) = .int .i64 (l1.length : Int) := (hk486 3 rfl).trans e476_3
        obtain ⟨(f_4 : a486.eval (.tmp 4) = .int .i64 (ad i391 1)), -⟩ := hf486 [2] rfl
        have e486_4 := f_4
        have hX486 := Evo.step hX476 (fun _ => Nat.le_refl 0) hE486 rfl
        have b486_Al1 := RdO.evo rfl hE486 b476_Al1
        exact hn439 _ _ _ hs ⟨own486, hd486, hz486, e486_0, e486_3, e486_4, hX486, b486_Al1⟩
    refine fl_exit ?_
    refine hp441 _ _ _ rfl ?_
    replace hs := hz439 _ hs
    refine hp439 _ _ _ rfl ?_
    refine hx374 _ _ ?_
    refine hn372 _ _ ?_
    refine fl_seq (fun Q487 hn487 hp487 => ?_)
    refine rg_plain_seq (n := 86) (rs := []) (own0 := own442) (K := [])
        (bs := [0])
        (ds := [⟨[], [], [], Fct.val 6 (.int .i64 0)⟩]) (by kernel_rfl) hz442 hd442 (fun _ h => nomatch h) ?_ ?_
    · refine steps_cons (fun own a wx hf hsl hE => ?_) ?_
      · exact sg_plain rfl rfl (or_assign rfl)
      exact steps_nil
    intro own488 a488 w488 hd488 hz488 hk488 hf488 hE488
    have e488_0 : a488.eval (.tmp 0) = .slice Al1 l1.length cl1 := (hk488 0 rfl).trans e442_0
    have e488_3 : a488.eval (.tmp 3) = .int .i64 (l1.length : Int) := (hk488 3 rfl).trans e442_3
    obtain ⟨(f_6 : a488.eval (.tmp 6) = .int .i64 0), -⟩ := hf488 [0] rfl
    have e488_6 := f_6
    have hX488 := Evo.step hX442 (fun _ => Nat.le_refl 0) hE488 rfl
    have b488_Al1 := RdO.evo rfl hE488 b442_Al1
    refine fl_block (fun Q489 hn489 hx489 hp489 => ?_)
    refine fl_loop (body := (fun s => ref03_Simple_b3 l1 s)) (z := r) (show loopO _ _ = _ from hs) (fun (i506 : Int) a wx => ∃ (ox : Own), a.defers = [] ∧ a.tmps.size = 86 ∧ a.eval (.tmp 0) = .slice Al1 l1.length cl1 ∧ a.eval (.tmp 3) = .int .i64 (l1.length : Int) ∧ a.eval (.tmp 6) = .int .i64 i506 ∧ Evo [] (fun _ => 0) ox w wx ∧ RdO ox [0] wx R49 Al1 cl1 l1) ?_ ?_
    · exact ⟨own488, hd488, hz488, e488_0, e488_3, e488_6, hX488, b488_Al1⟩
    · rintro i506 zz611 a611 w611 ⟨own611, hd612, hz612, e612_0, e612_3, e612_6, hE612, b612_Al1⟩ hs Q611 hn611 hp611 hz611
      have hs : ref03_Simple_b3 l1 i506 = some zz611 := hs
      refine fl_seq (fun Q613 hn613 hp613 => ?_)
      refine rg_plain_seq (n := 86) (rs := []) (own0 := own611) (K := [])
          (bs := [0, 0, 3])
          (ds := [⟨[], [6], [], Fct.val 38 (.int .i64 i506)⟩,
          ⟨[], [3], [], Fct.val 39 (.int .i64 (l1.length : Int))⟩,
          ⟨[0, 1], [], [], Fct.val 40 (.bool (decide (i506 < (l1.length : Int))))⟩]) (by kernel_rfl) hz612 hd612 (fun _ h => nomatch h) ?_ ?_
      · refine steps_cons (fun own a wx hf hsl hE => ?_) ?_
        · obtain ⟨s_6, -⟩ := hsl
          exact sg_plain rfl rfl (or_move (s_6.trans e612_6))
        refine steps_cons (fun own a wx hf hsl hE => ?_) ?_
        · obtain ⟨s_3, -⟩ := hsl
          exact sg_plain rfl rfl (or_move (s_3.trans e612_3))
        refine steps_cons (fun own a wx hf hsl hE => ?_) ?_
        · obtain ⟨(f_38 : a.eval (.tmp 38) = .int .i64 i506), (f_39 : a.eval (.tmp 39) = .int .i64 (l1.length : Int)), -⟩ := hf
          exact sg_plain rfl rfl (or_lss f_38 f_39 rfl)
        exact steps_nil
      intro own614 a614 w614 hd614 hz614 hk614 hf614 hE614
      have e614_0 : a614.eval (.tmp 0) = .slice Al1 l1.length cl1 := (hk614 0 rfl).trans e612_0
      have e614_3 : a614.eval (.tmp 3) = .int .i64 (l1.length : Int) := (hk614 3 rfl).trans e612_3
      have e614_6 : a614.eval (.tmp 6) = .int .i64 i506 := (hk614 6 rfl).trans e612_6
      obtain ⟨(f_40 : a614.eval (.tmp 40) = .bool (decide (i506 < (l1.length : Int)))), -⟩ := hf614 [2] rfl
      have e614_40 := f_40
      have hX614 := Evo.step hE612 (fun _ => Nat.le_refl 0) hE614 rfl
      have b614_Al1 := RdO.evo rfl hE614 b612_Al1
      refine fl_cond e614_40 hs (fun c615 hs => ?_) (fun c615 hs => ?_)
      · refine fl_skip ?_
        refine hn613 _ _ ?_
        refine fl_seq (fun Q616 hn616 hp616 => ?_)
        refine fl_block (fun Q617 hn617 hx617 hp617 => ?_)
        refine rg_plain_seq (n := 86) (rs := []) (own0 := own614) (K := [])
            (bs := [0])
            (ds := [⟨[], [], [], Fct.val 7 (.int .i64 0)⟩]) (by kernel_rfl) hz614 hd614 (fun _ h => nomatch h) ?_ ?_
        · refine steps_cons (fun own a wx hf hsl hE => ?_) ?_
          · exact sg_plain rfl rfl (or_assign rfl)
          exact steps_nil
        intro own618 a618 w618 hd618 hz618 hk618 hf618 hE618
        have e618_0 : a618.eval (.tmp 0) = .slice Al1 l1.length cl1 := (hk618 0 rfl).trans e614_0
        have e618_3 : a618.eval (.tmp 3) = .int .i64 (l1.length : Int) := (hk618 3 rfl).trans e614_3
        have e618_6 : a618.eval (.tmp 6) = .int .i64 i506 := (hk618 6 rfl).trans e614_6
        obtain ⟨(f_7 : a618.eval (.tmp 7) = .int .i64 0), -⟩ := hf618 [0] rfl
        have e618_7 := f_7
        have hX618 := Evo.step hX614 (fun _ => Nat.le_refl 0) hE618 rfl
        have b618_Al1 := RdO.evo rfl hE618 b614_Al1
        refine fl_block (fun Q619 hn619 hx619 hp619 => ?_)
        refine fl_loop (body := (fun s => ref03_Simple_b4 l1 i506 s)) (z := zz611) (show loopO _ _ = _ from hs) (fun (k651 : Int) a wx => ∃ (ox : Own), a.defers = [] ∧ a.tmps.size = 86 ∧ a.eval (.tmp 0) = .slice Al1 l1.length cl1 ∧ a.eval (.tmp 3) = .int .i64 (l1.length : Int) ∧ a.eval (.tmp 6) = .int .i64 i506 ∧ a.eval (.tmp 7) = .int .i64 k651 ∧ Evo [] (fun _ => 0) ox w wx ∧ RdO ox [0] wx R49 Al1 cl1 l1) ?_ ?_
        · exact ⟨own618, hd618, hz618, e618_0, e618_3, e618_6, e618_7, hX618, b618_Al1⟩
        · rintro k651 zz683 a683 w683 ⟨own683, hd684, hz684, e684_0, e684_3, e684_6, e684_7, hE684, b684_Al1⟩ hs Q683 hn683 hp683 hz683
          have hs : ref03_Simple_b4 l1 i506 k651 = some zz683 := hs
          refine fl_seq (fun Q685 hn685 hp685 => ?_)
          refine rg_plain_seq (n := 86) (rs := []) (own0 := own683) (K := [])
              (bs := [0, 0, 3])
              (ds := [⟨[], [7], [], Fct.val 43 (.int .i64 k651)⟩,
              ⟨[], [6], [], Fct.val 44 (.int .i64 i506)⟩,
              ⟨[0, 1], [], [], Fct.val 45 (.bool (decide (k651 < i506)))⟩]) (by kernel_rfl) hz684 hd684 (fun _ h => nomatch h) ?_ ?_
          · refine steps_cons (fun own a wx hf hsl hE => ?_) ?_
            · obtain ⟨s_7, -⟩ := hsl
              exact sg_plain rfl rfl (or_move (s_7.trans e684_7))
            refine steps_cons (fun own a wx hf hsl hE => ?_) ?_
            · obtain ⟨s_6, -⟩ := hsl
              exact sg_plain rfl rfl (or_move (s_6.trans e684_6))
            refine steps_cons (fun own a wx hf hsl hE => ?_) ?_
            · obtain ⟨(f_43 : a.eval (.tmp 43) = .int .i64 k651), (f_44 : a.eval (.tmp 44) = .int .i64 i506), -⟩ := hf
              exact sg_plain rfl rfl (or_lss f_43 f_44 rfl)
            exact steps_nil
          intro own686 a686 w686 hd686 hz686 hk686 hf686 hE686
          have e686_0 : a686.eval (.tmp 0) = .slice Al1 l1.length cl1 := (hk686 0 rfl).trans e684_0
          have e686_3 : a686.eval (.tmp 3) = .int .i64 (l1.length : Int) := (hk686 3 rfl).trans e684_3
          have e686_6 : a686.eval (.tmp 6) = .int .i64 i506 := (hk686 6 rfl).trans e684_6
          have e686_7 : a686.eval (.tmp 7) = .int .i64 k651 := (hk686 7 rfl).trans e684_7
          obtain ⟨(f_45 : a686.eval (.tmp 45) = .bool (decide (k651 < i506))), -⟩ := hf686 [2] rfl
          have e686_45 := f_45
          have hX686 := Evo.step hE684 (fun _ => Nat.le_refl 0) hE686 rfl
          have b686_Al1 := RdO.evo rfl hE686 b684_Al1
          refine fl_cond e686_45 hs (fun c687 hs => ?_) (fun c687 hs => ?_)
          · refine fl_skip ?_
            refine hn685 _ _ ?_
            refine fl_seq (fun Q688 hn688 hp688 => ?_)
            refine fl_block (fun Q689 hn689 hx689 hp689 => ?_)
            obtain ⟨x690, hx690, hs⟩ := obind hs
            obtain ⟨x691, hx691, hs⟩ := obind hs
            obtain ⟨x692, hx692, hs⟩ := obind hs
            obtain ⟨x693, hx693, hs⟩ := obind hs
            obtain ⟨x694, hx694, hs⟩ := obind hs
            obtain ⟨x695, hx695, hs⟩ := obind hs
            obtain ⟨r696, hr696, hs⟩ := obind hs
            refine rg_draw_seq g_mixed (n := 86) (rs := []) (own0 := own686) (K := [])
                (bs := [0, 0, 3, 7, 0, 0, 32, 0, 224, 496, 1008, 0, 0, 6144, 14336, 0, 0, 65536, 0, 458752, 1015808, 2064384, 4194303, 8388607])
                (ds := [⟨[], [0], [], Fct.val 48 (.slice Al1 l1.length cl1)⟩,
                ⟨[], [6], [], Fct.val 49 (.int .i64 i506)⟩,
                ⟨[0, 1], [], [], Fct.val 50 (.pointer (some ((adr Al1).add ((i506 : Int).toNat * R49.s))))⟩,
                ⟨[2], [], [], Fct.val 51 (.agg #[.int .i64 x690.1, .int .i64 x690.2])⟩,
                ⟨[], [0], [], Fct.val 52 (.slice Al1 l1.length cl1)⟩,
                ⟨[], [6], [], Fct.val 53 (.int .i64 i506)⟩,
                ⟨[5], [], [], Fct.val 54 (.int .i64 (ad i506 1))⟩,
                ⟨[], [3], [], Fct.val 55 (.int .i64 (l1.length : Int))⟩,
                ⟨[6, 7], [], [], Fct.val 56 (.int .i64 x691)⟩,
                ⟨[4, 8], [], [], Fct.val 57 (.pointer (some ((adr Al1).add ((x691 : Int).toNat * R49.s))))⟩,
                ⟨[9], [], [], Fct.val 58 (.agg #[.int .i64 x692.1, .int .i64 x692.2])⟩,
                ⟨[], [0], [], Fct.val 59 (.slice Al1 l1.length cl1)⟩,
                ⟨[], [7], [], Fct.val 60 (.int .i64 k651)⟩,
                ⟨[11, 12], [], [], Fct.val 61 (.pointer (some ((adr Al1).add ((k651 : Int).toNat * R49.s))))⟩,
                ⟨[13], [], [], Fct.val 62 (.agg #[.int .i64 x693.1, .int .i64 x693.2])⟩,
                ⟨[], [0], [], Fct.val 63 (.slice Al1 l1.length cl1)⟩,
                ⟨[], [7], [], Fct.val 64 (.int .i64 k651)⟩,
                ⟨[16], [], [], Fct.val 65 (.int .i64 (ad k651 1))⟩,
                ⟨[], [3], [], Fct.val 66 (.int .i64 (l1.length : Int))⟩,
                ⟨[17, 18], [], [], Fct.val 67 (.int .i64 x694)⟩,
                ⟨[15, 19], [], [], Fct.val 68 (.pointer (some ((adr Al1).add ((x694 : Int).toNat * R49.s))))⟩,
                ⟨[20], [], [], Fct.val 69 (.agg #[.int .i64 x695.1, .int .i64 x695.2])⟩,
                ⟨[3, 10, 14, 21], [], [], Fct.val 70 (.int .i64 r696)⟩,
                ⟨[22], [], [], Fct.val 8 (.int .i64 r696)⟩]) (by kernel_rfl) hz686 hd686 (fun _ h => nomatch h) ?_ ?_
            · refine steps_cons (fun own a wx hf hsl hE => ?_) ?_
              · obtain ⟨s_0, -⟩ := hsl
                exact sg_plain rfl rfl (or_move (s_0.trans e686_0))
              refine steps_cons (fun own a wx hf hsl hE => ?_) ?_
              · obtain ⟨s_6, -⟩ := hsl
                exact sg_plain rfl rfl (or_move (s_6.trans e686_6))
              refine steps_cons (fun own a wx hf hsl hE => ?_) ?_
              · obtain ⟨(f_48 : a.eval (.tmp 48) = .slice Al1 l1.length cl1), (f_49 : a.eval (.tmp 49) = .int .i64 i506), -⟩ := hf
                exact sg_plain rfl rfl (or_index (R := R49) (l := l1) tl24 f_48 f_49 (RdO.some_ b686_Al1 hx690) hx690)
              refine steps_cons (fun own a wx hf hsl hE => ?_) ?_
              · obtain ⟨(f_50 : a.eval (.tmp 50) = .pointer (some ((adr Al1).add ((i506 : Int).toNat * R49.s)))), -⟩ := hf
                exact sg_plain rfl rfl (or_load (l := E49.f x690) ta49 f_50 (RdO.cells (F := E49) (RdO.evo rfl hE b686_Al1) hx690) rfl)
              refine steps_cons (fun own a wx hf hsl hE => ?_) ?_
              · obtain ⟨s_0, -⟩ := hsl
                exact sg_plain rfl rfl (or_move (s_0.trans e686_0))
              refine steps_cons (fun own a wx hf hsl hE => ?_) ?_
              · obtain ⟨s_6, -⟩ := hsl
                exact sg_plain rfl rfl (or_move (s_6.trans e686_6))
              refine steps_cons (fun own a wx hf hsl hE => ?_) ?_
              · obtain ⟨(f_53 : a.eval (.tmp 53) = .int .i64 i506), -⟩ := hf
                exact sg_plain rfl rfl (or_add f_53 rfl rfl)
              refine steps_cons (fun own a wx hf hsl hE => ?_) ?_
              · obtain ⟨s_3, -⟩ := hsl
                exact sg_plain rfl rfl (or_move (s_3.trans e686_3))
              refine steps_cons (fun own a wx hf hsl hE => ?_) ?_
              · obtain ⟨(f_54 : a.eval (.tmp 54) = .int .i64 (ad i506 1)), (f_55 : a.eval (.tmp 55) = .int .i64 (l1.length : Int)), -⟩ := hf
                exact sg_plain rfl rfl (or_rem f_54 f_55 hx691)
              refine steps_cons (fun own a wx hf hsl hE => ?_) ?_
              · obtain ⟨(f_52 : a.eval (.tmp 52) = .slice Al1 l1.length cl1), (f_56 : a.eval (.tmp 56) = .int .i64 x691), -⟩ := hf
                exact sg_plain rfl rfl (or_index (R := R49) (l := l1) tl24 f_52 f_56 (RdO.some_ b686_Al1 hx692) hx692)
              refine steps_cons (fun own a wx hf hsl hE => ?_) ?_
              · obtain ⟨(f_57 : a.eval (.tmp 57) = .pointer (some ((adr Al1).add ((x691 : Int).toNat * R49.s)))), -⟩ := hf
                exact sg_plain rfl rfl (or_load (l := E49.f x692) ta49 f_57 (RdO.cells (F := E49) (RdO.evo rfl hE b686_Al1) hx692) rfl)
              refine steps_cons (fun own a wx hf hsl hE => ?_) ?_
              · obtain ⟨s_0, -⟩ := hsl
                exact sg_plain rfl rfl (or_move (s_0.trans e686_0))
              refine steps_cons (fun own a wx hf hsl hE => ?_) ?_
              · obtain ⟨s_7, -⟩ := hsl
                exact sg_plain rfl rfl (or_move (s_7.trans e686_7))
              refine steps_cons (fun own a wx hf hsl hE => ?_) ?_
              · obtain ⟨(f_59 : a.eval (.tmp 59) = .slice Al1 l1.length cl1), (f_60 : a.eval (.tmp 60) = .int .i64 k651), -⟩ := hf
                exact sg_plain rfl rfl (or_index (R := R49) (l := l1) tl24 f_59 f_60 (RdO.some_ b686_Al1 hx693) hx693)
              refine steps_cons (fun own a wx hf hsl hE => ?_) ?_
              · obtain ⟨(f_61 : a.eval (.tmp 61) = .pointer (some ((adr Al1).add ((k651 : Int).toNat * R49.s)))), -⟩ := hf
                exact sg_plain rfl rfl (or_load (l := E49.f x693) ta49 f_61 (RdO.cells (F := E49) (RdO.evo rfl hE b686_Al1) hx693) rfl)
              refine steps_cons (fun own a wx hf hsl hE => ?_) ?_
              · obtain ⟨s_0, -⟩ := hsl
                exact sg_plain rfl rfl (or_move (s_0.trans e686_0))
              refine steps_cons (fun own a wx hf hsl hE => ?_) ?_
              · obtain ⟨s_7, -⟩ := hsl
                exact sg_plain rfl rfl (or_move (s_7.trans e686_7))
              refine steps_cons (fun own a wx hf hsl hE => ?_) ?_
              · obtain ⟨(f_64 : a.eval (.tmp 64) = .int .i64 k651), -⟩ := hf
                exact sg_plain rfl rfl (or_add f_64 rfl rfl)
              refine steps_cons (fun own a wx hf hsl hE => ?_) ?_
              · obtain ⟨s_3, -⟩ := hsl
                exact sg_plain rfl rfl (or_move (s_3.trans e686_3))
              refine steps_cons (fun own a wx hf hsl hE => ?_) ?_
              · obtain ⟨(f_65 : a.eval (.tmp 65) = .int .i64 (ad k651 1)), (f_66 : a.eval (.tmp 66) = .int .i64 (l1.length : Int)), -⟩ := hf
                exact sg_plain rfl rfl (or_rem f_65 f_66 hx694)
              refine steps_cons (fun own a wx hf hsl hE => ?_) ?_
              · obtain ⟨(f_63 : a.eval (.tmp 63) = .slice Al1 l1.length cl1), (f_67 : a.eval (.tmp 67) = .int .i64 x694), -⟩ := hf
                exact sg_plain rfl rfl (or_index (R := R49) (l := l1) tl24 f_63 f_67 (RdO.some_ b686_Al1 hx695) hx695)
              refine steps_cons (fun own a wx hf hsl hE => ?_) ?_
              · obtain ⟨(f_68 : a.eval (.tmp 68) = .pointer (some ((adr Al1).add ((x694 : Int).toNat * R49.s)))), -⟩ := hf
                exact sg_plain rfl rfl (or_load (l := E49.f x695) ta49 f_68 (RdO.cells (F := E49) (RdO.evo rfl hE b686_Al1) hx695) rfl)
              refine steps_cons (fun own a wx hf hsl hE => ?_) ?_
              · obtain ⟨(f_51 : a.eval (.tmp 51) = .agg #[.int .i64 x690.1, .int .i64 x690.2]), (f_58 : a.eval (.tmp 58) = .agg #[.int .i64 x692.1, .int .i64 x692.2]), (f_62 : a.eval (.tmp 62) = .agg #[.int .i64 x693.1, .int .i64 x693.2]), (f_69 : a.eval (.tmp 69) = .agg #[.int .i64 x695.1, .int .i64 x695.2]), -⟩ := hf
                exact sg_plain rfl rfl (or_call cf37 (args4 f_51 f_58 f_62 f_69) (ref02_Class_w _ x690 x692 x693 x695  r696 hr696) post_val)
              refine steps_cons (fun own a wx hf hsl hE => ?_) ?_
              · obtain ⟨(f_70 : a.eval (.tmp 70) = .int .i64 r696), -⟩ := hf
                exact sg_plain rfl rfl (or_assign f_70)
              exact steps_nil
            intro own697 a697 w697 hd697 hz697 hk697 hf697 hE697
            have e697_0 : a697.eval (.tmp 0) = .slice Al1 l1.length cl1 := (hk697 0 rfl).trans e686_0
            have e697_3 : a697.eval (.tmp 3) = .int .i64 (l1.length : Int) := (hk697 3 rfl).trans e686_3
            have e697_6 : a697.eval (.tmp 6) = .int .i64 i506 := (hk697 6 rfl).trans e686_6
            have e697_7 : a697.eval (.tmp 7) = .int .i64 k651 := (hk697 7 rfl).trans e686_7
            obtain ⟨(f_8 : a697.eval (.tmp 8) = .int .i64 r696), -⟩ := hf697 [23] rfl
            have e697_8 := f_8
            have hX697 := Evo.step hX686 (fun _ => Nat.le_refl 0) hE697 rfl
            have b697_Al1 := RdO.evo rfl hE697 b686_Al1
            refine rg_plain_seq (n := 86) (rs := []) (own0 := own697) (K := [])
                (bs := [0])
                (ds := [⟨[], [], [], Fct.val 9 (.int .i64 0)⟩]) (by kernel_rfl) hz697 hd697 (fun _ h => nomatch h) ?_ ?_
            · refine steps_cons (fun own a wx hf hsl hE => ?_) ?_
              · exact sg_plain rfl rfl (or_assign rfl)
              exact steps_nil
            intro own698 a698 w698 hd698 hz698 hk698 hf698 hE698
            have e698_0 : a698.eval (.tmp 0) = .slice Al1 l1.length cl1 := (hk698 0 rfl).trans e697_0
            have e698_3 : a698.eval (.tmp 3) = .int .i64 (l1.length : Int) := (hk698 3 rfl).trans e697_3
            have e698_6 : a698.eval (.tmp 6) = .int .i64 i506 := (hk698 6 rfl).trans e697_6
            have e698_7 : a698.eval (.tmp 7) = .int .i64 k651 := (hk698 7 rfl).trans e697_7
            have e698_8 : a698.eval (.tmp 8) = .int .i64 r696 := (hk698 8 rfl).trans e697_8
            obtain ⟨(f_9 : a698.eval (.tmp 9) = .int .i64 0), -⟩ := hf698 [0] rfl
            have e698_9 := f_9
            have hX698 := Evo.step hX697 (fun _ => Nat.le_refl 0) hE698 rfl
            have b698_Al1 := RdO.evo rfl hE698 b697_Al1
            refine fl_seq (fun Q699 hn699 hp699 => ?_)
            have K705 : ∀ (a705 : Act) (w705 : World) (own705 : Own) (want704 : Int), a705.defers = [] → a705.tmps.size = 86 → a705.eval (.tmp 0) = .slice Al1 l1.length cl1 → a705.eval (.tmp 3) = .int .i64 (l1.length : Int) → a705.eval (.tmp 6) = .int .i64 i506 → a705.eval (.tmp 7) = .int .i64 k651 → a705.eval (.tmp 8) = .int .i64 r696 → a705.eval (.tmp 9) = .int .i64 want704 → Evo [] (fun _ => 0) own705 w w705 → RdO own705 [0] w705 R49 Al1 cl1 l1 → ref03_Simple_k5 k651 r696 want704 = some zz683 → Q699 .normal a705 w705 := by
              intro a705 w705 own705 want704 hd706 hz706 e706_0 e706_3 e706_6 e706_7 e706_8 e706_9 hE706 b706_Al1 hs
              refine hn699 _ _ ?_
              refine rg_plain_seq (n := 86) (rs := []) (own0 := own705) (K := [])
                  (bs := [0, 0, 3])
                  (ds := [⟨[], [8], [], Fct.val 83 (.int .i64 r696)⟩,
                  ⟨[], [9], [], Fct.val 84 (.int .i64 want704)⟩,
                  ⟨[0, 1], [], [], Fct.val 85 (.bool (!decide (r696 = want704)))⟩]) (by kernel_rfl) hz706 hd706 (fun _ h => nomatch h) ?_ ?_
              · refine steps_cons (fun own a wx hf hsl hE => ?_) ?_
                · obtain ⟨s_8, -⟩ := hsl
                  exact sg_plain rfl rfl (or_move (s_8.trans e706_8))
                refine steps_cons (fun own a wx hf hsl hE => ?_) ?_
                · obtain ⟨s_9, -⟩ := hsl
                  exact sg_plain rfl rfl (or_move (s_9.trans e706_9))
                refine steps_cons (fun own a wx hf hsl hE => ?_) ?_
                · obtain ⟨(f_83 : a.eval (.tmp 83) = .int .i64 r696), (f_84 : a.eval (.tmp 84) = .int .i64 want704), -⟩ := hf
                  exact sg_plain rfl rfl (or_neq f_83 f_84 rfl)
                exact steps_nil
              intro own707 a707 w707 hd707 hz707 hk707 hf707 hE707
              have e707_0 : a707.eval (.tmp 0) = .slice Al1 l1.length cl1 := (hk707 0 rfl).trans e706_0
              have e707_3 : a707.eval (.tmp 3) = .int .i64 (l1.length : Int) := (hk707 3 rfl).trans e706_3
              have e707_6 : a707.eval (.tmp 6) = .int .i64 i506 := (hk707 6 rfl).trans e706_6
              have e707_7 : a707.eval (.tmp 7) = .int .i64 k651 := (hk707 7 rfl).trans e706_7
              obtain ⟨(f_85 : a707.eval (.tmp 85) = .bool (!decide (r696 = want704))), -⟩ := hf707 [2] rfl
              have e707_85 := f_85
              have hX707 := Evo.step hE706 (fun _ => Nat.le_refl 0) hE707 rfl
              have b707_Al1 := RdO.evo rfl hE707 b706_Al1
              refine fl_cond e707_85 hs (fun c708 hs => ?_) (fun c708 hs => ?_)
              · refine rg_plain_seq (n := 86) (rs := []) (own0 := own707) (K := [])
                    (bs := [0])
                    (ds := [⟨[], [], [], Fct.val 2 (.bool false)⟩]) (by kernel_rfl) hz707 hd707 (fun _ h => nomatch h) ?_ ?_
                · refine steps_cons (fun own a wx hf hsl hE => ?_) ?_
                  · exact sg_plain rfl rfl (or_assign rfl)
                  exact steps_nil
                intro own709 a709 w709 hd709 hz709 hk709 hf709 hE709
                obtain ⟨(f_2 : a709.eval (.tmp 2) = .bool false), -⟩ := hf709 [0] rfl
                have e709_2 := f_2
                have hX709 := Evo.step hX707 (fun _ => Nat.le_refl 0) hE709 rfl
                refine fl_ret ?_
                refine hp689 _ _ _ rfl ?_
                refine hp688 _ _ _ rfl ?_
                replace hs := hz683 _ hs
                refine hp683 _ _ _ rfl ?_
                refine hp619 _ _ _ rfl ?_
                refine hp617 _ _ _ rfl ?_
                refine hp616 _ _ _ rfl ?_
                replace hs := hz611 _ hs
                refine hp611 _ _ _ rfl ?_
                refine hp489 _ _ _ rfl ?_
                refine hp487 _ _ _ rfl ?_
                obtain rfl := osome hs
                exact hret _ _ _ _ (.inl rfl) hd709 (results1_ rfl (RVal.tmp_ e709_2)) ⟨own709, rfl, hX709⟩
              refine fl_skip ?_
              refine hn689 _ _ ?_
              refine hn688 _ _ ?_
              refine rg_plain (n := 86) (rs := []) (own0 := own707) (K := [])
                  (bs := [0, 1, 3])
                  (ds := [⟨[], [7], [], Fct.val 46 (.int .i64 k651)⟩,
                  ⟨[0], [], [], Fct.val 47 (.int .i64 (ad k651 1))⟩,
                  ⟨[1], [], [], Fct.val 7 (.int .i64 (ad k651 1))⟩]) (by kernel_rfl) hz707 hd707 (fun _ h => nomatch h) ?_ ?_
              · refine steps_cons (fun own a wx hf hsl hE => ?_) ?_
                · obtain ⟨s_7, -⟩ := hsl
                  exact sg_plain rfl rfl (or_move (s_7.trans e707_7))
                refine steps_cons (fun own a wx hf hsl hE => ?_) ?_
                · obtain ⟨(f_46 : a.eval (.tmp 46) = .int .i64 k651), -⟩ := hf
                  exact sg_plain rfl rfl (or_add f_46 rfl rfl)
                refine steps_cons (fun own a wx hf hsl hE => ?_) ?_
                · obtain ⟨(f_47 : a.eval (.tmp 47) = .int .i64 (ad k651 1)), -⟩ := hf
                  exact sg_plain rfl rfl (or_assign f_47)
                exact steps_nil
              intro own710 a710 w710 hd710 hz710 hk710 hf710 hE710
              have e710_0 : a710.eval (.tmp 0) = .slice Al1 l1.length cl1 := (hk710 0 rfl).trans e707_0
              have e710_3 : a710.eval (.tmp 3) = .int .i64 (l1.length : Int) := (hk710 3 rfl).trans e707_3
              have e710_6 : a710.eval (.tmp 6) = .int .i64 i506 := (hk710 6 rfl).trans e707_6
              obtain ⟨(f_7 : a710.eval (.tmp 7) = .int .i64 (ad k651 1)), -⟩ := hf710 [2] rfl
              have e710_7 := f_7
              have hX710 := Evo.step hX707 (fun _ => Nat.le_refl 0) hE710 rfl
              have b710_Al1 := RdO.evo rfl hE710 b707_Al1
              exact hn683 _ _ _ hs ⟨own710, hd710, hz710, e710_0, e710_3, e710_6, e710_7, hX710, b710_Al1⟩
            obtain ⟨x711, hx711, hs⟩ := obind hs
            refine rg_plain_seq (n := 86) (rs := []) (own0 := own698) (K := [])
                (bs := [0, 0, 3, 7, 15, 31, 31, 127, 31, 287, 1023, 2047])
                (ds := [⟨[], [6], [], Fct.val 71 (.int .i64 i506)⟩,
                ⟨[], [7], [], Fct.val 72 (.int .i64 k651)⟩,
                ⟨[0, 1], [], [], Fct.val 73 (.int .i64 (sb i506 k651))⟩,
                ⟨[2], [], [], Fct.val 74 (.bool (decide ((sb i506 k651) = 1)))⟩,
                ⟨[3], [], [], Fct.val 75 (.bool (decide ((sb i506 k651) = 1)))⟩,
                ⟨[4], [6], [], Fct.cond (!(decide ((sb i506 k651) = 1))) (some 76) (Fct.val 76 (.int .i64 i506))⟩,
                ⟨[4], [7], [], Fct.cond (!(decide ((sb i506 k651) = 1))) (some 77) (Fct.val 77 (.int .i64 k651))⟩,
                ⟨[4, 5, 6], [], [], Fct.cond (!(decide ((sb i506 k651) = 1))) (some 78) (Fct.val 78 (.int .i64 (sb i506 k651)))⟩,
                ⟨[4], [3], [], Fct.cond (!(decide ((sb i506 k651) = 1))) (some 79) (Fct.val 79 (.int .i64 (l1.length : Int)))⟩,
                ⟨[4, 8], [], [], Fct.cond (!(decide ((sb i506 k651) = 1))) (some 80) (Fct.val 80 (.int .i64 (sb (l1.length : Int) 1)))⟩,
                ⟨[4, 7, 9], [], [], Fct.cond (!(decide ((sb i506 k651) = 1))) (some 81) (Fct.val 81 (.bool (decide ((sb i506 k651) = (sb (l1.length : Int) 1)))))⟩,
                ⟨[4, 10], [], [], Fct.val 82 (.bool x711)⟩]) (by kernel_rfl) hz698 hd698 (fun _ h => nomatch h) ?_ ?_
            · refine steps_cons (fun own a wx hf hsl hE => ?_) ?_
              · obtain ⟨s_6, -⟩ := hsl
                exact sg_plain rfl rfl (or_move (s_6.trans e698_6))
              refine steps_cons (fun own a wx hf hsl hE => ?_) ?_
              · obtain ⟨s_7, -⟩ := hsl
                exact sg_plain rfl rfl (or_move (s_7.trans e698_7))
              refine steps_cons (fun own a wx hf hsl hE => ?_) ?_
              · obtain ⟨(f_71 : a.eval (.tmp 71) = .int .i64 i506), (f_72 : a.eval (.tmp 72) = .int .i64 k651), -⟩ := hf
                exact sg_plain rfl rfl (or_sub f_71 f_72 rfl)
              refine steps_cons (fun own a wx hf hsl hE => ?_) ?_
              · obtain ⟨(f_73 : a.eval (.tmp 73) = .int .i64 (sb i506 k651)), -⟩ := hf
                exact sg_plain rfl rfl (or_eql f_73 rfl rfl)
              refine steps_cons (fun own a wx hf hsl hE => ?_) ?_
              · obtain ⟨(f_74 : a.eval (.tmp 74) = .bool (decide ((sb i506 k651) = 1))), -⟩ := hf
                exact sg_plain rfl rfl (or_move f_74)
              refine steps_cons (fun own a wx hf hsl hE => ?_) ?_
              · obtain ⟨(f_75 : a.eval (.tmp 75) = .bool (decide ((sb i506 k651) = 1))), -⟩ := hf
                obtain ⟨s_6, -⟩ := hsl
                refine sg_f rfl rfl rfl f_75 (fun hg => ?_)
                exact or_move (s_6.trans e698_6)
              refine steps_cons (fun own a wx hf hsl hE => ?_) ?_
              · obtain ⟨(f_75 : a.eval (.tmp 75) = .bool (decide ((sb i506 k651) = 1))), -⟩ := hf
                obtain ⟨s_7, -⟩ := hsl
                refine sg_f rfl rfl rfl f_75 (fun hg => ?_)
                exact or_move (s_7.trans e698_7)
              refine steps_cons (fun own a wx hf hsl hE => ?_) ?_
              · obtain ⟨(f_75 : a.eval (.tmp 75) = .bool (decide ((sb i506 k651) = 1))), c_76, c_77, -⟩ := hf
                refine sg_f rfl rfl rfl f_75 (fun hg => ?_)
                have f_76 : a.eval (.tmp 76) = .int .i64 i506 := c_76.1 hg
                have f_77 : a.eval (.tmp 77) = .int .i64 k651 := c_77.1 hg
                exact or_sub f_76 f_77 rfl
              refine steps_cons (fun own a wx hf hsl hE => ?_) ?_
              · obtain ⟨(f_75 : a.eval (.tmp 75) = .bool (decide ((sb i506 k651) = 1))), -⟩ := hf
                obtain ⟨s_3, -⟩ := hsl
                refine sg_f rfl rfl rfl f_75 (fun hg => ?_)
                exact or_move (s_3.trans e698_3)
              refine steps_cons (fun own a wx hf hsl hE => ?_) ?_
              · obtain ⟨(f_75 : a.eval (.tmp 75) = .bool (decide ((sb i506 k651) = 1))), c_79, -⟩ := hf
                refine sg_f rfl rfl rfl f_75 (fun hg => ?_)
                have f_79 : a.eval (.tmp 79) = .int .i64 (l1.length : Int) := c_79.1 hg
                exact or_sub f_79 rfl rfl
              refine steps_cons (fun own a wx hf hsl hE => ?_) ?_
              · obtain ⟨(f_75 : a.eval (.tmp 75) = .bool (decide ((sb i506 k651) = 1))), c_78, c_80, -⟩ := hf
                refine sg_f rfl rfl rfl f_75 (fun hg => ?_)
                have f_78 : a.eval (.tmp 78) = .int .i64 (sb i506 k651) := c_78.1 hg
                have f_80 : a.eval (.tmp 80) = .int .i64 (sb (l1.length : Int) 1) := c_80.1 hg
                exact or_eql f_78 f_80 rfl
              refine steps_cons (fun own a wx hf hsl hE => ?_) ?_
              · obtain ⟨(f_75 : a.eval (.tmp 75) = .bool (decide ((sb i506 k651) = 1))), c_81, -⟩ := hf
                exact sg_plain rfl rfl (or_or f_75 rfl (fun hx => c_81.1 hx) (osome hx711).symm)
              exact steps_nil
            intro own712 a712 w712 hd712 hz712 hk712 hf712 hE712
            have e712_0 : a712.eval (.tmp 0) = .slice Al1 l1.length cl1 := (hk712 0 rfl).trans e698_0
            have e712_3 : a712.eval (.tmp 3) = .int .i64 (l1.length : Int) := (hk712 3 rfl).trans e698_3
            have e712_6 : a712.eval (.tmp 6) = .int .i64 i506 := (hk712 6 rfl).trans e698_6
            have e712_7 : a712.eval (.tmp 7) = .int .i64 k651 := (hk712 7 rfl).trans e698_7
            have e712_8 : a712.eval (.tmp 8) = .int .i64 r696 := (hk712 8 rfl).trans e698_8
            have e712_9 : a712.eval (.tmp 9) = .int .i64 0 := (hk712 9 rfl).trans e698_9
            obtain ⟨(f_82 : a712.eval (.tmp 82) = .bool x711), -⟩ := hf712 [11] rfl
            have e712_82 := f_82
            have hX712 := Evo.step hX698 (fun _ => Nat.le_refl 0) hE712 rfl
            have b712_Al1 := RdO.evo rfl hE712 b698_Al1
            refine fl_cond e712_82 hs (fun c713 hs => ?_) (fun c713 hs => ?_)
            · refine rg_plain (n := 86) (rs := []) (own0 := own712) (K := [])
                  (bs := [0])
                  (ds := [⟨[], [], [], Fct.val 9 (.int .i64 1)⟩]) (by kernel_rfl) hz712 hd712 (fun _ h => nomatch h) ?_ ?_
              · refine steps_cons (fun own a wx hf hsl hE => ?_) ?_
                · exact sg_plain rfl rfl (or_assign rfl)
                exact steps_nil
              intro own714 a714 w714 hd714 hz714 hk714 hf714 hE714
              have e714_0 : a714.eval (.tmp 0) = .slice Al1 l1.length cl1 := (hk714 0 rfl).trans e712_0
              have e714_3 : a714.eval (.tmp 3) = .int .i64 (l1.length : Int) := (hk714 3 rfl).trans e712_3
              have e714_6 : a714.eval (.tmp 6) = .int .i64 i506 := (hk714 6 rfl).trans e712_6
              have e714_7 : a714.eval (.tmp 7) = .int .i64 k651 := (hk714 7 rfl).trans e712_7
              have e714_8 : a714.eval (.tmp 8) = .int .i64 r696 := (hk714 8 rfl).trans e712_8
              obtain ⟨(f_9 : a714.eval (.tmp 9) = .int .i64 1), -⟩ := hf714 [0] rfl
              have e714_9 := f_9
              have hX714 := Evo.step hX712 (fun _ => Nat.le_refl 0) hE714 rfl
              have b714_Al1 := RdO.evo rfl hE714 b712_Al1
              exact (K705 _ _ own714 _ hd714 hz714 e714_0 e714_3 e714_6 e714_7 e714_8 e714_9 hX714 b714_Al1 hs)
            refine fl_skip ?_
            exact (K705 _ _ own712 _ hd712 hz712 e712_0 e712_3 e712_6 e712_7 e712_8 e712_9 hX712 b712_Al1 hs)
          refine fl_exit ?_
          refine hp685 _ _ _ rfl ?_
          replace hs := hz683 _ hs
          refine hp683 _ _ _ rfl ?_
          refine hx619 _ _ ?_
          refine hn617 _ _ ?_
          refine hn616 _ _ ?_
          refine rg_plain (n := 86) (rs := []) (own0 := own686) (K := [])
              (bs := [0, 1, 3])
              (ds := [⟨[], [6], [], Fct.val 41 (.int .i64 i506)⟩,
              ⟨[0], [], [], Fct.val 42 (.int .i64 (ad i506 1))⟩,
              ⟨[1], [], [], Fct.val 6 (.int .i64 (ad i506 1))⟩]) (by kernel_rfl) hz686 hd686 (fun _ h => nomatch h) ?_ ?_
          · refine steps_cons (fun own a wx hf hsl hE => ?_) ?_
            · obtain ⟨s_6, -⟩ := hsl
              exact sg_plain rfl rfl (or_move (s_6.trans e686_6))
            refine steps_cons (fun own a wx hf hsl hE => ?_) ?_
            · obtain ⟨(f_41 : a.eval (.tmp 41) = .int .i64 i506), -⟩ := hf
              exact sg_plain rfl rfl (or_add f_41 rfl rfl)
            refine steps_cons (fun own a wx hf hsl hE => ?_) ?_
            · obtain ⟨(f_42 : a.eval (.tmp 42) = .int .i64 (ad i506 1)), -⟩ := hf
              exact sg_plain rfl rfl (or_assign f_42)
            exact steps_nil
          intro own715 a715 w715 hd715 hz715 hk715 hf715 hE715
          have e715_0 : a715.eval (.tmp 0) = .slice Al1 l1.length cl1 := (hk715 0 rfl).trans e686_0
          have e715_3 : a715.eval (.tmp 3) = .int .i64 (l1.length : Int) := (hk715 3 rfl).trans e686_3
          obtain ⟨(f_6 : a715.eval (.tmp 6) = .int .i64 (ad i506 1)), -⟩ := hf715 [2] rfl
          have e715_6 := f_6
          have hX715 := Evo.step hX686 (fun _ => Nat.le_refl 0) hE715 rfl
          have b715_Al1 := RdO.evo rfl hE715 b686_Al1
          exact hn611 _ _ _ hs ⟨own715, hd715, hz715, e715_0, e715_3, e715_6, hX715, b715_Al1⟩
      refine fl_exit ?_
      refine hp613 _ _ _ rfl ?_
      replace hs := hz611 _ hs
      refine hp611 _ _ _ rfl ?_
      refine hx489 _ _ ?_
      refine hn487 _ _ ?_
      refine rg_plain_seq (n := 86) (rs := []) (own0 := own614) (K := [])
          (bs := [0])
          (ds := [⟨[], [], [], Fct.val 2 (.bool true)⟩]) (by kernel_rfl) hz614 hd614 (fun _ h => nomatch h) ?_ ?_
      · refine steps_cons (fun own a wx hf hsl hE => ?_) ?_
        · exact sg_plain rfl rfl (or_assign rfl)
        exact steps_nil
      intro own716 a716 w716 hd716 hz716 hk716 hf716 hE716
      obtain ⟨(f_2 : a716.eval (.tmp 2) = .bool true), -⟩ := hf716 [0] rfl
      have e716_2 := f_2
      have hX716 := Evo.step hX614 (fun _ => Nat.le_refl 0) hE716 rfl
      refine fl_ret ?_
      obtain rfl := osome hs
      exact hret _ _ _ _ (.inl rfl) hd716 (results1_ rfl (RVal.tmp_ e716_2)) ⟨own716, rfl, hX716⟩

theorem law03_RingAreas_w (w : World) (l1 : List (Int × Int)) (Al1 : Option Addr) (cl1 : Nat) (hl1 : RdO (fun _ => 0) [0] w R32 Al1 cl1 l1) (r : Bool) (hs : law03_RingAreas l1 = some r) :
    Calls Try.prog 3 #[.slice Al1 l1.length cl1] w fun e w' => ∃ own' : Own, e = .returned (.bool r) ∧ Evo [] (fun _ => 0) own' w w' := by
  refine fl_enter (n := 32) rfl rfl rfl (Nat.le_of_ble_eq_true rfl) ?_
  intro a0 Q hd0 hz0 harg hret
  have ha0 := harg 0 _ rfl
  clear harg
  have hE0 : Evo [] (fun _ => 0) (fun _ => 0) w w := Evo.refl _ _ _
  refine rg_plain_seq (n := 32) (rs := []) (own0 := (fun _ => 0)) (K := [])
      (bs := [0])
      (ds := [⟨[], [], [], Fct.val 2 (.bool false)⟩]) (by kernel_rfl) hz0 hd0 (fun _ h => nomatch h) ?_ ?_
  · refine steps_cons (fun own a wx hf hsl hE => ?_) ?_
    · exact sg_plain rfl rfl (or_assign rfl)
    exact steps_nil
  intro own44 a44 w44 hd44 hz44 hk44 hf44 hE44
  have e44_0 : a44.eval (.tmp 0) = .slice Al1 l1.length cl1 := (hk44 0 rfl).trans ha0
  have hX44 := Evo.step hE0 (fun _ => Nat.le_refl 0) hE44 rfl
  have b44_Al1 := RdO.evo rfl hE44 hl1
  obtain ⟨r45, hr45, hs⟩ := obind hs
  refine rg_plain_seq (n := 32) (rs := []) (own0 := own44) (K := [])
      (bs := [0, 1, 3])
      (ds := [⟨[], [0], [], Fct.val 5 (.slice Al1 l1.length cl1)⟩,
      ⟨[0], [], [], Fct.mems [47, 48, 0] 6 (fun (x : Option Addr × Nat) => .slice x.1 r45.length x.2) (fun (x : Option Addr × Nat) own w => RdO own [47, 48, 0] w R32 x.1 x.2 r45) (fun hk he h => RdO.evo (hits_sub hk (by decide)) he h)⟩,
      ⟨[1], [], [], Fct.rel [0, 6] (fun l => ∀ (A46 : Option Addr) (cA46 : Nat), l.getD 1 undef = .slice A46 r45.length cA46 → l.getD 0 undef = .slice A46 r45.length cA46)⟩]) (by kernel_rfl) hz44 hd44 (fun _ h => nomatch h) ?_ ?_
  · refine steps_cons (fun own a wx hf hsl hE => ?_) ?_
    · obtain ⟨s_0, -⟩ := hsl
      exact sg_plain rfl rfl (or_move (s_0.trans e44_0))
    refine steps_cons (fun own a wx hf hsl hE => ?_) ?_
    · obtain ⟨(f_5 : a.eval (.tmp 5) = .slice Al1 l1.length cl1), -⟩ := hf
      exact sg_plain rfl rfl (or_call cf8 (args1 f_5) (law03_Cut_w _ (forth own (inL [0])) l1 Al1 cl1 inL_le (RdO.alias_ (La := [0]) (RdO.evo rfl hE b44_Al1) (by decide)) r45 hr45) (post_alias (La := [0]) (m' := (look0 [(1, 47), (2, 48)])) (fun own' w' a' x ho hsz h1 h => ⟨x, h1, RdO.backN_ ho hsz h (by decide) (by decide) (by decide)⟩)))
    refine steps_cons (fun own a wx hf hsl hE => ?_) ?_
    · obtain ⟨⟨⟨A46, cA46⟩, (f_6 : a.eval (.tmp 6) = .slice A46 r45.length cA46), (b_A46 : RdO own [47, 48, 0] wx R32 A46 cA46 r45)⟩, -⟩ := hf
      exact sg_plain rfl rfl (or_mono (f := Fct.val 0 (.slice A46 r45.length cA46)) (or_assign f_6) (fun own' a' w' v' hp h => fun _ _ h0' => by cases (f_6.symm.trans ((hp.2 6 (by decide)).symm.trans h0')); exact h))
    exact steps_nil
  intro own49 a49 w49 hd49 hz49 hk49 hf49 hE49
  obtain ⟨⟨⟨A46, cA46⟩, (f_6 : a49.eval (.tmp 6) = .slice A46 r45.length cA46), (b_A46 : RdO own49 [47, 48, 0] w49 R32 A46 cA46 r45)⟩, (q_0 : ∀ (A46 : Option Addr) (cA46 : Nat), a49.eval (.tmp 6) = .slice A46 r45.length cA46 → a49.eval (.tmp 0) = .slice A46 r45.length cA46), -⟩ := hf49 [1, 2] rfl
  have f_0 := q_0 _ _ f_6
  have e49_0 := f_0
  have hX49 := Evo.step hX44 (fun _ => Nat.le_refl 0) hE49 rfl
  have b49_A46 := b_A46
  obtain ⟨r50, hr50, hs⟩ := obind hs
  refine rg_plain_seq (n := 32) (rs := []) (own0 := own49) (K := [])
      (bs := [0, 1, 3])
      (ds := [⟨[], [0], [], Fct.val 7 (.slice A46 r45.length cA46)⟩,
      ⟨[0], [], [], Fct.row 52 [] 8 49 R49 r50⟩,
      ⟨[1], [], [], Fct.rel [3, 8] (fun l => ∀ (A51 : Option Addr) (cA51 : Nat), l.getD 1 undef = .slice A51 r50.length cA51 → l.getD 0 undef = .slice A51 r50.length cA51)⟩]) (by kernel_rfl) hz49 hd49 (fun _ h => nomatch h) ?_ ?_
  · refine steps_cons (fun own a wx hf hsl hE => ?_) ?_
    · obtain ⟨s_0, -⟩ := hsl
      exact sg_plain rfl rfl (or_move (s_0.trans e49_0))
    refine steps_cons (fun own a wx hf hsl hE => ?_) ?_
    · obtain ⟨(f_7 : a.eval (.tmp 7) = .slice A46 r45.length cA46), -⟩ := hf
      exact sg_plain rfl rfl (or_call cf9 (args1 f_7) (law01_Ofs_w _ r45 A46 cA46 (RdO.zero (RdO.evo rfl hE b49_A46)) r50 hr50) (post_row (m' := (look0 [(1, 52)])) (.inl (Rep.fl_flat _)) rfl rfl (fun _ => rfl)))
    refine steps_cons (fun own a wx hf hsl hE => ?_) ?_
    · obtain ⟨⟨⟨A51, cA51⟩, (f_8 : a.eval (.tmp 8) = .slice A51 r50.length cA51), (b_A51 : RwO own 52 [] wx 49 R49 A51 cA51 r50)⟩, -⟩ := hf
      exact sg_plain rfl rfl (or_mono (f := Fct.val 3 (.slice A51 r50.length cA51)) (or_assign f_8) (fun own' a' w' v' hp h => fun _ _ h0' => by cases (f_8.symm.trans ((hp.2 8 (by decide)).symm.trans h0')); exact h))
    exact steps_nil
  intro own53 a53 w53 hd53 hz53 hk53 hf53 hE53
  have e53_0 : a53.eval (.tmp 0) = .slice A46 r45.length cA46 := (hk53 0 rfl).trans e49_0
  obtain ⟨⟨⟨A51, cA51⟩, (f_8 : a53.eval (.tmp 8) = .slice A51 r50.length cA51), (b_A51 : RwO own53 52 [] w53 49 R49 A51 cA51 r50)⟩, (q_3 : ∀ (A51 : Option Addr) (cA51 : Nat), a53.eval (.tmp 8) = .slice A51 r50.length cA51 → a53.eval (.tmp 3) = .slice A51 r50.length cA51), -⟩ := hf53 [1, 2] rfl
  have f_3 := q_3 _ _ f_8
  have e53_3 := f_3
  have hX53 := Evo.step hX49 (fun _ => Nat.le_refl 0) hE53 rfl
  have b53_A46 := RdO.evo rfl hE53 b49_A46
  have b53_A51 := b_A51
  refine rg_plain_seq (n := 32) (rs := []) (own0 := own53) (K := [])
      (bs := [0])
      (ds := [⟨[], [], [], Fct.val 4 (.int .i64 0)⟩]) (by kernel_rfl) hz53 hd53 (fun _ h => nomatch h) ?_ ?_
  · refine steps_cons (fun own a wx hf hsl hE => ?_) ?_
    · exact sg_plain rfl rfl (or_assign rfl)
    exact steps_nil
  intro own54 a54 w54 hd54 hz54 hk54 hf54 hE54
  have e54_0 : a54.eval (.tmp 0) = .slice A46 r45.length cA46 := (hk54 0 rfl).trans e53_0
  have e54_3 : a54.eval (.tmp 3) = .slice A51 r50.length cA51 := (hk54 3 rfl).trans e53_3
  obtain ⟨(f_4 : a54.eval (.tmp 4) = .int .i64 0), -⟩ := hf54 [0] rfl
  have e54_4 := f_4
  have hX54 := Evo.step hX53 (fun _ => Nat.le_refl 0) hE54 rfl
  have b54_A46 := RdO.evo rfl hE54 b53_A46
  have b54_A51 := RwO.evo rfl hE54 b53_A51
  refine fl_seq (fun Q55 hn55 hp55 => ?_)
  have K63 : ∀ (a63 : Act) (w63 : World) (own63 : Own) (area62 : Int), a63.defers = [] → a63.tmps.size = 32 → a63.eval (.tmp 0) = .slice A46 r45.length cA46 → a63.eval (.tmp 3) = .slice A51 r50.length cA51 → a63.eval (.tmp 4) = .int .i64 area62 → Evo [] (fun _ => 0) own63 w w63 → RdO own63 [47, 48, 0] w63 R32 A46 cA46 r45 → RwO own63 52 [] w63 49 R49 A51 cA51 r50 → law03_RingAreas_k1 r45 r50 area62 = some r → Q55 .normal a63 w63 := by
    intro a63 w63 own63 area62 hd64 hz64 e64_0 e64_3 e64_4 hE64 b64_A46 b64_A51 hs
    refine hn55 _ _ ?_
    obtain ⟨r65, hr65, hs⟩ := obind hs
    obtain ⟨r66, hr66, hs⟩ := obind hs
    obtain ⟨r67, hr67, hs⟩ := obind hs
    obtain ⟨r68, hr68, hs⟩ := obind hs
    obtain ⟨x69, hx69, hs⟩ := obind hs
    refine rg_plain_seq (n := 32) (rs := []) (own0 := own63) (K := [])
        (bs := [0, 1, 3, 7, 3, 31, 63, 127, 255, 511, 255, 2047, 4095, 8191, 16383])
        (ds := [⟨[], [], [], Fct.val 18 (.bool r65)⟩,
        ⟨[0], [], [], Fct.val 19 (.bool r65)⟩,
        ⟨[1], [0], [], Fct.cond r65 (some 20) (Fct.val 20 (.slice A46 r45.length cA46))⟩,
        ⟨[1, 2], [], [], Fct.cond r65 (some 21) (Fct.val 21 (.int .i64 r66))⟩,
        ⟨[1], [4], [], Fct.cond r65 (some 22) (Fct.val 22 (.int .i64 area62))⟩,
        ⟨[1, 3, 4], [], [], Fct.cond r65 (some 23) (Fct.val 23 (.bool (decide (r66 = area62))))⟩,
        ⟨[1, 5], [], [], Fct.val 24 (.bool (r65 && (decide (r66 = area62))))⟩,
        ⟨[6], [], [], Fct.val 25 (.bool (r65 && (decide (r66 = area62))))⟩,
        ⟨[7], [0], [], Fct.cond (r65 && (decide (r66 = area62))) (some 26) (Fct.val 26 (.slice A46 r45.length cA46))⟩,
        ⟨[7, 8], [], [], Fct.cond (r65 && (decide (r66 = area62))) (some 27) (Fct.val 27 (.bool r67))⟩,
        ⟨[7], [3], [], Fct.cond (r65 && (decide (r66 = area62))) (some 28) (Fct.val 28 (.slice A51 r50.length cA51))⟩,
        ⟨[7, 10], [], [], Fct.cond (r65 && (decide (r66 = area62))) (some 29) (Fct.val 29 (.bool r68))⟩,
        ⟨[7, 9, 11], [], [], Fct.cond (r65 && (decide (r66 = area62))) (some 30) (Fct.val 30 (.bool (r67 == r68)))⟩,
        ⟨[7, 12], [], [], Fct.val 31 (.bool x69)⟩,
        ⟨[13], [], [], Fct.val 2 (.bool x69)⟩]) (by kernel_rfl) hz64 hd64 (fun _ h => nomatch h) ?_ ?_
    · refine steps_cons (fun own a wx hf hsl hE => ?_) ?_
      · exact sg_plain rfl rfl (or_call cf12 (args0) (law03_known_w _   r65 hr65) post_val)
      refine steps_cons (fun own a wx hf hsl hE => ?_) ?_
      · obtain ⟨(f_18 : a.eval (.tmp 18) = .bool r65), -⟩ := hf
        exact sg_plain rfl rfl (or_move f_18)
      refine steps_cons (fun own a wx hf hsl hE => ?_) ?_
      · obtain ⟨(f_19 : a.eval (.tmp 19) = .bool r65), -⟩ := hf
        obtain ⟨s_0, -⟩ := hsl
        refine sg_t rfl rfl rfl f_19 (fun hg => ?_)
        exact or_move (s_0.trans e64_0)
      refine steps_cons (fun own a wx hf hsl hE => ?_) ?_
      · obtain ⟨(f_19 : a.eval (.tmp 19) = .bool r65), c_20, -⟩ := hf
        refine sg_t rfl rfl rfl f_19 (fun hg => ?_)
        have f_20 : a.eval (.tmp 20) = .slice A46 r45.length cA46 := c_20.1 hg
        exact or_call cf13 (args1 f_20) (ring_Area_w _ r45 A46 cA46 (RdO.zero (RdO.evo rfl hE b64_A46)) r66 (gd_t hr66 hg)) post_val
      refine steps_cons (fun own a wx hf hsl hE => ?_) ?_
      · obtain ⟨(f_19 : a.eval (.tmp 19) = .bool r65), -⟩ := hf
        obtain ⟨s_4, -⟩ := hsl
        refine sg_t rfl rfl rfl f_19 (fun hg => ?_)
        exact or_move (s_4.trans e64_4)
      refine steps_cons (fun own a wx hf hsl hE => ?_) ?_
      · obtain ⟨(f_19 : a.eval (.tmp 19) = .bool r65), c_21, c_22, -⟩ := hf
        refine sg_t rfl rfl rfl f_19 (fun hg => ?_)
        have f_21 : a.eval (.tmp 21) = .int .i64 r66 := c_21.1 hg
        have f_22 : a.eval (.tmp 22) = .int .i64 area62 := c_22.1 hg
        exact or_eql f_21 f_22 rfl
      refine steps_cons (fun own a wx hf hsl hE => ?_) ?_
      · obtain ⟨(f_19 : a.eval (.tmp 19) = .bool r65), c_23, -⟩ := hf
        exact sg_plain rfl rfl (or_and f_19 (fun hx => c_23.1 hx) rfl rfl)
      refine steps_cons (fun own a wx hf hsl hE => ?_) ?_
      · obtain ⟨(f_24 : a.eval (.tmp 24) = .bool (r65 && (decide (r66 = area62)))), -⟩ := hf
        exact sg_plain rfl rfl (or_move f_24)
      refine steps_cons (fun own a wx hf hsl hE => ?_) ?_
      · obtain ⟨(f_25 : a.eval (.tmp 25) = .bool (r65 && (decide (r66 = area62)))), -⟩ := hf
        obtain ⟨s_0, -⟩ := hsl
        refine sg_t rfl rfl rfl f_25 (fun hg => ?_)
        exact or_move (s_0.trans e64_0)
      refine steps_cons (fun own a wx hf hsl hE => ?_) ?_
      · obtain ⟨(f_25 : a.eval (.tmp 25) = .bool (r65 && (decide (r66 = area62)))), c_26, -⟩ := hf
        refine sg_t rfl rfl rfl f_25 (fun hg => ?_)
        have f_26 : a.eval (.tmp 26) = .slice A46 r45.length cA46 := c_26.1 hg
        exact or_call cf14 (args1 f_26) (ring_Simple_w _ r45 A46 cA46 (RdO.zero (RdO.evo rfl hE b64_A46)) r67 (gd_t hr67 hg)) post_val
      refine steps_cons (fun own a wx hf hsl hE => ?_) ?_
      · obtain ⟨(f_25 : a.eval (.tmp 25) = .bool (r65 && (decide (r66 = area62)))), -⟩ := hf
        obtain ⟨s_3, -⟩ := hsl
        refine sg_t rfl rfl rfl f_25 (fun hg => ?_)
        exact or_move (s_3.trans e64_3)
      refine steps_cons (fun own a wx hf hsl hE => ?_) ?_
      · obtain ⟨(f_25 : a.eval (.tmp 25) = .bool (r65 && (decide (r66 = area62)))), c_28, -⟩ := hf
        refine sg_t rfl rfl rfl f_25 (fun hg => ?_)
        have f_28 : a.eval (.tmp 28) = .slice A51 r50.length cA51 := c_28.1 hg
        exact or_call cf15 (args1 f_28) (ref03_Simple_w _ r50 A51 cA51 (RdO.zero (RwO.rd (RwO.evo rfl hE b64_A51))) r68 (gd_t hr68 hg)) post_val
      refine steps_cons (fun own a wx hf hsl hE => ?_) ?_
      · obtain ⟨(f_25 : a.eval (.tmp 25) = .bool (r65 && (decide (r66 = area62)))), c_27, c_29, -⟩ := hf
        refine sg_t rfl rfl rfl f_25 (fun hg => ?_)
        have f_27 : a.eval (.tmp 27) = .bool r67 := c_27.1 hg
        have f_29 : a.eval (.tmp 29) = .bool r68 := c_29.1 hg
        exact or_eqlb tb4 f_27 f_29 rfl
      refine steps_cons (fun own a wx hf hsl hE => ?_) ?_
      · obtain ⟨(f_25 : a.eval (.tmp 25) = .bool (r65 && (decide (r66 = area62)))), c_30, -⟩ := hf
        exact sg_plain rfl rfl (or_and f_25 (fun hx => c_30.1 hx) rfl (osome hx69).symm)
      refine steps_cons (fun own a wx hf hsl hE => ?_) ?_
      · obtain ⟨(f_31 : a.eval (.tmp 31) = .bool x69), -⟩ := hf
        exact sg_plain rfl rfl (or_assign f_31)
      exact steps_nil
    intro own70 a70 w70 hd70 hz70 hk70 hf70 hE70
    obtain ⟨(f_2 : a70.eval (.tmp 2) = .bool x69), -⟩ := hf70 [14] rfl
    have e70_2 := f_2
    have hX70 := Evo.step hE64 (fun _ => Nat.le_refl 0) hE70 rfl
    refine fl_ret ?_
    obtain rfl := (osome hs).symm
    exact hret _ _ _ _ (.inl rfl) hd70 (results1_ rfl (RVal.tmp_ e70_2)) ⟨own70, rfl, hX70⟩
  obtain ⟨r71, hr71, hs⟩ := obind hs
  obtain ⟨x72, hx72, hs⟩ := obind hs
  refine rg_plain_seq (n := 32) (rs := []) (own0 := own54) (K := [])
      (bs := [0, 1, 3, 7, 15, 31, 63])
      (ds := [⟨[], [3], [], Fct.val 9 (.slice A51 r50.length cA51)⟩,
      ⟨[0], [], [], Fct.val 10 (.int .i64 (r50.length : Int))⟩,
      ⟨[1], [], [], Fct.val 11 (.bool (decide (3 ≤ (r50.length : Int))))⟩,
      ⟨[2], [], [], Fct.val 12 (.bool (decide (3 ≤ (r50.length : Int))))⟩,
      ⟨[3], [3], [], Fct.cond (decide (3 ≤ (r50.length : Int))) (some 13) (Fct.val 13 (.slice A51 r50.length cA51))⟩,
      ⟨[3, 4], [], [], Fct.cond (decide (3 ≤ (r50.length : Int))) (some 14) (Fct.val 14 (.bool r71))⟩,
      ⟨[3, 5], [], [], Fct.val 15 (.bool x72)⟩]) (by kernel_rfl) hz54 hd54 (fun _ h => nomatch h) ?_ ?_
  · refine steps_cons (fun own a wx hf hsl hE => ?_) ?_
    · obtain ⟨s_3, -⟩ := hsl
      exact sg_plain rfl rfl (or_move (s_3.trans e54_3))
    refine steps_cons (fun own a wx hf hsl hE => ?_) ?_
    · obtain ⟨(f_9 : a.eval (.tmp 9) = .slice A51 r50.length cA51), -⟩ := hf
      exact sg_plain rfl rfl (or_len tu24 f_9 rfl)
    refine steps_cons (fun own a wx hf hsl hE => ?_) ?_
    · obtain ⟨(f_10 : a.eval (.tmp 10) = .int .i64 (r50.length : Int)), -⟩ := hf
      exact sg_plain rfl rfl (or_geq f_10 rfl rfl)
    refine steps_cons (fun own a wx hf hsl hE => ?_) ?_
    · obtain ⟨(f_11 : a.eval (.tmp 11) = .bool (decide (3 ≤ (r50.length : Int)))), -⟩ := hf
      exact sg_plain rfl rfl (or_move f_11)
    refine steps_cons (fun own a wx hf hsl hE => ?_) ?_
    · obtain ⟨(f_12 : a.eval (.tmp 12) = .bool (decide (3 ≤ (r50.length : Int)))), -⟩ := hf
      obtain ⟨s_3, -⟩ := hsl
      refine sg_t rfl rfl rfl f_12 (fun hg => ?_)
      exact or_move (s_3.trans e54_3)
    refine steps_cons (fun own a wx hf hsl hE => ?_) ?_
    · obtain ⟨(f_12 : a.eval (.tmp 12) = .bool (decide (3 ≤ (r50.length : Int)))), c_13, -⟩ := hf
      refine sg_t rfl rfl rfl f_12 (fun hg => ?_)
      have f_13 : a.eval (.tmp 13) = .slice A51 r50.length cA51 := c_13.1 hg
      exact or_call cf10 (args1 f_13) (ref01_All_w _ r50 A51 cA51 (RdO.zero (RwO.rd (RwO.evo rfl hE b54_A51))) r71 (gd_t hr71 hg)) post_val
    refine steps_cons (fun own a wx hf hsl hE => ?_) ?_
    · obtain ⟨(f_12 : a.eval (.tmp 12) = .bool (decide (3 ≤ (r50.length : Int)))), c_14, -⟩ := hf
      exact sg_plain rfl rfl (or_and f_12 (fun hx => c_14.1 hx) rfl (osome hx72).symm)
    exact steps_nil
  intro own73 a73 w73 hd73 hz73 hk73 hf73 hE73
  have e73_0 : a73.eval (.tmp 0) = .slice A46 r45.length cA46 := (hk73 0 rfl).trans e54_0
  have e73_3 : a73.eval (.tmp 3) = .slice A51 r50.length cA51 := (hk73 3 rfl).trans e54_3
  have e73_4 : a73.eval (.tmp 4) = .int .i64 0 := (hk73 4 rfl).trans e54_4
  obtain ⟨(f_15 : a73.eval (.tmp 15) = .bool x72), -⟩ := hf73 [6] rfl
  have e73_15 := f_15
  have hX73 := Evo.step hX54 (fun _ => Nat.le_refl 0) hE73 rfl
  have b73_A46 := RdO.evo rfl hE73 b54_A46
  have b73_A51 := RwO.evo rfl hE73 b54_A51
  refine fl_cond e73_15 hs (fun c74 hs => ?_) (fun c74 hs => ?_)
  · obtain ⟨r75, hr75, hs⟩ := obind hs
    refine rg_plain (n := 32) (rs := []) (own0 := own73) (K := [])
        (bs := [0, 1, 3])
        (ds := [⟨[], [3], [], Fct.val 16 (.slice A51 r50.length cA51)⟩,
        ⟨[0], [], [], Fct.val 17 (.int .i64 r75)⟩,
        ⟨[1], [], [], Fct.val 4 (.int .i64 r75)⟩]) (by kernel_rfl) hz73 hd73 (fun _ h => nomatch h) ?_ ?_
    · refine steps_cons (fun own a wx hf hsl hE => ?_) ?_
      · obtain ⟨s_3, -⟩ := hsl
        exact sg_plain rfl rfl (or_move (s_3.trans e73_3))
      refine steps_cons (fun own a wx hf hsl hE => ?_) ?_
      · obtain ⟨(f_16 : a.eval (.tmp 16) = .slice A51 r50.length cA51), -⟩ := hf
        exact sg_plain rfl rfl (or_call cf11 (args1 f_16) (ref03_Area_w _ r50 A51 cA51 (RdO.zero (RwO.rd (RwO.evo rfl hE b73_A51))) r75 hr75) post_val)
      refine steps_cons (fun own a wx hf hsl hE => ?_) ?_
      · obtain ⟨(f_17 : a.eval (.tmp 17) = .int .i64 r75), -⟩ := hf
        exact sg_plain rfl rfl (or_assign f_17)
      exact steps_nil
    intro own76 a76 w76 hd76 hz76 hk76 hf76 hE76
    have e76_0 : a76.eval (.tmp 0) = .slice A46 r45.length cA46 := (hk76 0 rfl).trans e73_0
    have e76_3 : a76.eval (.tmp 3) = .slice A51 r50.length cA51 := (hk76 3 rfl).trans e73_3
    obtain ⟨(f_4 : a76.eval (.tmp 4) = .int .i64 r75), -⟩ := hf76 [2] rfl
    have e76_4 := f_4
    have hX76 := Evo.step hX73 (fun _ => Nat.le_refl 0) hE76 rfl
    have b76_A46 := RdO.evo rfl hE76 b73_A46
    have b76_A51 := RwO.evo rfl hE76 b73_A51
    exact (K63 _ _ own76 _ hd76 hz76 e76_0 e76_3 e76_4 hX76 b76_A46 b76_A51 hs)
  refine fl_skip ?_
  exact (K63 _ _ own73 _ hd73 hz73 e73_0 e73_3 e73_4 hX73 b73_A46 b73_A51 hs)

end Go.Proofs.Ythkmkmkcnljmaaa
