/-
  Chapter 06. The walks.
-/
import Derived.Test.YtajbjhcnppiloaaWp3
import Derived.Test.YtajbjhcnppiloaaWp4
import Derived.Test.YtajbjhcnppiloaaSp6
namespace Go.Proofs.Ytajbjhcnppiloaa
open Go.RowKit
set_option linter.unusedVariables false
set_option maxHeartbeats 2000000 in
theorem law06_RowsGrow_w (w : World) (l1 : List ((Int × Int) × (Int × Int))) (Al1 : Option Addr) (cl1 : Nat) (b2 : (Int × Int) × (Int × Int)) (hl1 : RdO (fun _ => 0) [0] w R26 Al1 cl1 l1) (r : Bool) (hs : law06_RowsGrow l1 b2 = some r) :
    Calls Try.prog 3 #[.slice Al1 l1.length cl1, .agg #[.int .i64 b2.1.1, .int .i64 b2.1.2, .int .i64 b2.2.1, .int .i64 b2.2.2]] w fun e w' => ∃ own' : Own, e = .returned (.bool r) ∧ Evo [] (fun _ => 0) own' w w' := by
  refine fl_enter (n := 121) rfl rfl rfl (Nat.le_of_ble_eq_true rfl) ?_
  intro a0 Q hd0 hz0 harg hret
  have ha0 := harg 0 _ rfl
  have ha1 := harg 1 _ rfl
  clear harg
  have hE0 : Evo [] (fun _ => 0) (fun _ => 0) w w := Evo.refl _ _ _
  refine rg_plain_seq (n := 121) (rs := []) (own0 := (fun _ => 0)) (K := [])
      (bs := [0, 0])
      (ds := [⟨[], [1], [], Fct.blk 402 3 (fun g => .pointer (some ⟨g, 0, none⟩)) 26 #[.int .i64 b2.1.1, .int .i64 b2.1.2, .int .i64 b2.2.1, .int .i64 b2.2.2]⟩,
      ⟨[], [], [], Fct.val 4 (.bool false)⟩]) (by kernel_rfl) hz0 hd0 (fun _ h => nomatch h) ?_ ?_
  · refine steps_cons (fun own a wx hf hsl hE => ?_) ?_
    · obtain ⟨s_1, -⟩ := hsl
      exact sg_plain rfl rfl (or_new [(1, .agg #[.int .i64 b2.1.1, .int .i64 b2.1.2, .int .i64 b2.2.1, .int .i64 b2.2.2])] rfl rfl ⟨(s_1.trans ha1), trivial⟩ (by kernel_rfl))
    refine steps_cons (fun own a wx hf hsl hE => ?_) ?_
    · exact sg_plain rfl rfl (or_assign rfl)
    exact steps_nil
  intro own403 a403 w403 hd403 hz403 hk403 hf403 hE403
  have e403_0 : a403.eval (.tmp 0) = .slice Al1 l1.length cl1 := (hk403 0 rfl).trans ha0
  obtain ⟨⟨g401, (f_3 : a403.eval (.tmp 3) = .pointer (some ⟨g401, 0, none⟩)), (b_g401 : BlkO own403 402 w403 g401 26 #[.int .i64 b2.1.1, .int .i64 b2.1.2, .int .i64 b2.2.1, .int .i64 b2.2.2])⟩, -⟩ := hf403 [0] rfl
  have e403_3 := f_3
  have hX403 := Evo.step hE0 (fun _ => Nat.le_refl 0) hE403 rfl
  have b403_Al1 := RdO.evo rfl hE403 hl1
  have b403_g401 := b_g401
  obtain ⟨x404, hx404, hs⟩ := obind hs
  refine rg_plain_seq (n := 121) (rs := []) (own0 := own403) (K := [])
      (bs := [0, 0, 2, 6, 15, 31])
      (ds := [⟨[], [0], [], Fct.val 13 (.slice Al1 l1.length cl1)⟩,
      ⟨[], [0], [], Fct.val 14 (.slice Al1 l1.length cl1)⟩,
      ⟨[1], [], [], Fct.val 15 (.int .i64 (l1.length : Int))⟩,
      ⟨[2], [], [], Fct.val 16 (.int .i64 (mn (l1.length : Int) 30))⟩,
      ⟨[0, 3], [], [], Fct.view [0] 17 R26 x404⟩,
      ⟨[4], [], [], Fct.rel [0, 17] (fun l => ∀ (A405 : Option Addr) (cA405 : Nat), l.getD 1 undef = .slice A405 x404.length cA405 → l.getD 0 undef = .slice A405 x404.length cA405)⟩]) (by kernel_rfl) hz403 hd403 (fun _ h => nomatch h) ?_ ?_
  · refine steps_cons (fun own a wx hf hsl hE => ?_) ?_
    · obtain ⟨s_0, -⟩ := hsl
      exact sg_plain rfl rfl (or_move (s_0.trans e403_0))
    refine steps_cons (fun own a wx hf hsl hE => ?_) ?_
    · obtain ⟨s_0, -⟩ := hsl
      exact sg_plain rfl rfl (or_move (s_0.trans e403_0))
    refine steps_cons (fun own a wx hf hsl hE => ?_) ?_
    · obtain ⟨(f_14 : a.eval (.tmp 14) = .slice Al1 l1.length cl1), -⟩ := hf
      exact sg_plain rfl rfl (or_len tu22 f_14 rfl)
    refine steps_cons (fun own a wx hf hsl hE => ?_) ?_
    · obtain ⟨(f_15 : a.eval (.tmp 15) = .int .i64 (l1.length : Int)), -⟩ := hf
      exact sg_plain rfl rfl (or_min f_15 rfl)
    refine steps_cons (fun own a wx hf hsl hE => ?_) ?_
    · obtain ⟨(f_13 : a.eval (.tmp 13) = .slice Al1 l1.length cl1), (f_16 : a.eval (.tmp 16) = .int .i64 (mn (l1.length : Int) 30)), -⟩ := hf
      exact sg_plain rfl rfl (or_view (R := R26) (l := l1) (L := [0]) tu22 ts26 f_13 Bnd.none_ (Bnd.some_ f_16) Bnd.none_ (RdO.evo rfl hE b403_Al1) hx404 (.inl rfl) (by simp))
    refine steps_cons (fun own a wx hf hsl hE => ?_) ?_
    · obtain ⟨⟨⟨A405, cA405⟩, (f_17 : a.eval (.tmp 17) = .slice A405 x404.length cA405), (b_A405 : RdO own [0] wx R26 A405 cA405 x404)⟩, -⟩ := hf
      exact sg_plain rfl rfl (or_mono (f := Fct.val 0 (.slice A405 x404.length cA405)) (or_assign f_17) (fun own' a' w' v' hp h => fun _ _ h0' => by cases (f_17.symm.trans ((hp.2 17 (by decide)).symm.trans h0')); exact h))
    exact steps_nil
  intro own406 a406 w406 hd406 hz406 hk406 hf406 hE406
  have e406_3 : a406.eval (.tmp 3) = .pointer (some ⟨g401, 0, none⟩) := (hk406 3 rfl).trans e403_3
  obtain ⟨⟨⟨A405, cA405⟩, (f_17 : a406.eval (.tmp 17) = .slice A405 x404.length cA405), (b_A405 : RdO own406 [0] w406 R26 A405 cA405 x404)⟩, (q_0 : ∀ (A405 : Option Addr) (cA405 : Nat), a406.eval (.tmp 17) = .slice A405 x404.length cA405 → a406.eval (.tmp 0) = .slice A405 x404.length cA405), -⟩ := hf406 [4, 5] rfl
  have f_0 := q_0 _ _ f_17
  have e406_0 := f_0
  have hX406 := Evo.step hX403 (fun _ => Nat.le_refl 0) hE406 rfl
  have b406_g401 := BlkO.evo (by decide) hE406 b403_g401
  have b406_A405 := b_A405
  obtain ⟨r407, hr407, hs⟩ := obind hs
  obtain ⟨r417, hr417, hs⟩ := obind hs
  refine rg_plain_seq (n := 121) (rs := []) (own0 := own406) (K := [])
      (bs := [0, 1, 3, 7, 15])
      (ds := [⟨[], [0], [], Fct.val 18 (.slice A405 x404.length cA405)⟩,
      ⟨[0], [], [], Fct.mems [412, 413, 414, 415, 416] 19 (fun (x : (Option Addr × Nat) × (Option Addr × Nat) × (Option Addr × Nat) × (Option Addr × Nat)) => .pointer (some ⟨x.1.2, 0, none⟩)) (fun (x : (Option Addr × Nat) × (Option Addr × Nat) × (Option Addr × Nat) × (Option Addr × Nat)) own w => RwO own 412 [] w 26 R26 x.2.1.1 x.2.1.2 r407.1 ∧ MpN own 413 414 [] w x.2.2.1.2 vv35 3 R3 r407.2.1 ∧ RwO own 415 [] w 3 R3 x.2.2.2.1 x.2.2.2.2 r407.2.2 ∧ BlkO own 416 w x.1.2 62 #[.slice x.2.1.1 r407.1.length x.2.1.2, .map (some x.2.2.1.2), .slice x.2.2.2.1 r407.2.2.length x.2.2.2.2]) (fun hk he h => ⟨RwO.evo (hits_sub hk (by decide)) he h.1, MpN.evo (hits_sub hk (by decide)) he h.2.1, RwO.evo (hits_sub hk (by decide)) he h.2.2.1, BlkO.evo (not_hit hk (by decide)) he h.2.2.2⟩)⟩,
      ⟨[], [], [], Fct.mems [422, 423, 424, 425, 426] 20 (fun (x : (Option Addr × Nat) × (Option Addr × Nat) × (Option Addr × Nat) × (Option Addr × Nat)) => .pointer (some ⟨x.1.2, 0, none⟩)) (fun (x : (Option Addr × Nat) × (Option Addr × Nat) × (Option Addr × Nat) × (Option Addr × Nat)) own w => RwO own 422 [] w 26 R26 x.2.1.1 x.2.1.2 r417.1 ∧ MpN own 423 424 [] w x.2.2.1.2 vv35 3 R3 r417.2.1 ∧ RwO own 425 [] w 3 R3 x.2.2.2.1 x.2.2.2.2 r417.2.2 ∧ BlkO own 426 w x.1.2 62 #[.slice x.2.1.1 r417.1.length x.2.1.2, .map (some x.2.2.1.2), .slice x.2.2.2.1 r417.2.2.length x.2.2.2.2]) (fun hk he h => ⟨RwO.evo (hits_sub hk (by decide)) he h.1, MpN.evo (hits_sub hk (by decide)) he h.2.1, RwO.evo (hits_sub hk (by decide)) he h.2.2.1, BlkO.evo (not_hit hk (by decide)) he h.2.2.2⟩)⟩,
      ⟨[1], [], [], Fct.rel [5, 19] (fun l => ∀ (cA408 : Nat), l.getD 1 undef = .pointer (some ⟨cA408, 0, none⟩) → l.getD 0 undef = .pointer (some ⟨cA408, 0, none⟩))⟩,
      ⟨[2], [], [], Fct.rel [6, 20] (fun l => ∀ (cA418 : Nat), l.getD 1 undef = .pointer (some ⟨cA418, 0, none⟩) → l.getD 0 undef = .pointer (some ⟨cA418, 0, none⟩))⟩]) (by kernel_rfl) hz406 hd406 (fun _ h => nomatch h) ?_ ?_
  · refine steps_cons (fun own a wx hf hsl hE => ?_) ?_
    · obtain ⟨s_0, -⟩ := hsl
      exact sg_plain rfl rfl (or_move (s_0.trans e406_0))
    refine steps_cons (fun own a wx hf hsl hE => ?_) ?_
    · obtain ⟨(f_18 : a.eval (.tmp 18) = .slice A405 x404.length cA405), -⟩ := hf
      exact sg_plain rfl rfl (or_call cf7 (args1 f_18) (rows_New_w _ x404 A405 cA405 (RdO.zero (RdO.evo rfl hE b406_A405)) r407 hr407) (post_mems (m := (fun _ => 0)) (m' := (look0 [(1, 416), (2, 412), (3, 413), (4, 414), (5, 415)])) (fun _ _ => .inl rfl) (fun own' w' a' x h1 h => ⟨x, h1, ⟨RwO.back_ h.1 (by decide) (.inl (Rep.fl_flat _)), MpN.back_ h.2.1 (by decide) (by decide) (.inl (Rep.fl_flat _)), RwO.back_ h.2.2.1 (by decide) (.inl (Rep.fl_flat _)), BlkO.back_ h.2.2.2 (by decide)⟩⟩)))
    refine steps_cons (fun own a wx hf hsl hE => ?_) ?_
    · exact sg_plain rfl rfl (or_call cf7 (args1 rfl) (rows_New_w _ ([] : List ((Int × Int) × (Int × Int))) none 0 RdO.nil_ r417 hr417) (post_mems (m := (fun _ => 0)) (m' := (look0 [(1, 426), (2, 422), (3, 423), (4, 424), (5, 425)])) (fun _ _ => .inl rfl) (fun own' w' a' x h1 h => ⟨x, h1, ⟨RwO.back_ h.1 (by decide) (.inl (Rep.fl_flat _)), MpN.back_ h.2.1 (by decide) (by decide) (.inl (Rep.fl_flat _)), RwO.back_ h.2.2.1 (by decide) (.inl (Rep.fl_flat _)), BlkO.back_ h.2.2.2 (by decide)⟩⟩)))
    refine steps_cons (fun own a wx hf hsl hE => ?_) ?_
    · obtain ⟨⟨⟨⟨A408, cA408⟩, ⟨A409, cA409⟩, ⟨A410, cA410⟩, ⟨A411, cA411⟩⟩, (f_19 : a.eval (.tmp 19) = .pointer (some ⟨cA408, 0, none⟩)), (b_A409 : RwO own 412 [] wx 26 R26 A409 cA409 r407.1), (b_cA410 : MpN own 413 414 [] wx cA410 vv35 3 R3 r407.2.1), (b_A411 : RwO own 415 [] wx 3 R3 A411 cA411 r407.2.2), (b_cA408 : BlkO own 416 wx cA408 62 #[.slice A409 r407.1.length cA409, .map (some cA410), .slice A411 r407.2.2.length cA411])⟩, -⟩ := hf
      exact sg_plain rfl rfl (or_mono (f := Fct.val 5 (.pointer (some ⟨cA408, 0, none⟩))) (or_assign f_19) (fun own' a' w' v' hp h => fun _ h0' => by cases (f_19.symm.trans ((hp.2 19 (by decide)).symm.trans h0')); exact h))
    refine steps_cons (fun own a wx hf hsl hE => ?_) ?_
    · obtain ⟨⟨⟨⟨A418, cA418⟩, ⟨A419, cA419⟩, ⟨A420, cA420⟩, ⟨A421, cA421⟩⟩, (f_20 : a.eval (.tmp 20) = .pointer (some ⟨cA418, 0, none⟩)), (b_A419 : RwO own 422 [] wx 26 R26 A419 cA419 r417.1), (b_cA420 : MpN own 423 424 [] wx cA420 vv35 3 R3 r417.2.1), (b_A421 : RwO own 425 [] wx 3 R3 A421 cA421 r417.2.2), (b_cA418 : BlkO own 426 wx cA418 62 #[.slice A419 r417.1.length cA419, .map (some cA420), .slice A421 r417.2.2.length cA421])⟩, -⟩ := hf
      exact sg_plain rfl rfl (or_mono (f := Fct.val 6 (.pointer (some ⟨cA418, 0, none⟩))) (or_assign f_20) (fun own' a' w' v' hp h => fun _ h0' => by cases (f_20.symm.trans ((hp.2 20 (by decide)).symm.trans h0')); exact h))
    exact steps_nil
  intro own427 a427 w427 hd427 hz427 hk427 hf427 hE427
  have e427_0 : a427.eval (.tmp 0) = .slice A405 x404.length cA405 := (hk427 0 rfl).trans e406_0
  have e427_3 : a427.eval (.tmp 3) = .pointer (some ⟨g401, 0, none⟩) := (hk427 3 rfl).trans e406_3
  obtain ⟨⟨⟨⟨A408, cA408⟩, ⟨A409, cA409⟩, ⟨A410, cA410⟩, ⟨A411, cA411⟩⟩, (f_19 : a427.eval (.tmp 19) = .pointer (some ⟨cA408, 0, none⟩)), (b_A409 : RwO own427 412 [] w427 26 R26 A409 cA409 r407.1), (b_cA410 : MpN own427 413 414 [] w427 cA410 vv35 3 R3 r407.2.1), (b_A411 : RwO own427 415 [] w427 3 R3 A411 cA411 r407.2.2), (b_cA408 : BlkO own427 416 w427 cA408 62 #[.slice A409 r407.1.length cA409, .map (some cA410), .slice A411 r407.2.2.length cA411])⟩, (q_5 : ∀ (cA408 : Nat), a427.eval (.tmp 19) = .pointer (some ⟨cA408, 0, none⟩) → a427.eval (.tmp 5) = .pointer (some ⟨cA408, 0, none⟩)), ⟨⟨⟨A418, cA418⟩, ⟨A419, cA419⟩, ⟨A420, cA420⟩, ⟨A421, cA421⟩⟩, (f_20 : a427.eval (.tmp 20) = .pointer (some ⟨cA418, 0, none⟩)), (b_A419 : RwO own427 422 [] w427 26 R26 A419 cA419 r417.1), (b_cA420 : MpN own427 423 424 [] w427 cA420 vv35 3 R3 r417.2.1), (b_A421 : RwO own427 425 [] w427 3 R3 A421 cA421 r417.2.2), (b_cA418 : BlkO own427 426 w427 cA418 62 #[.slice A419 r417.1.length cA419, .map (some cA420), .slice A421 r417.2.2.length cA421])⟩, (q_6 : ∀ (cA418 : Nat), a427.eval (.tmp 20) = .pointer (some ⟨cA418, 0, none⟩) → a427.eval (.tmp 6) = .pointer (some ⟨cA418, 0, none⟩)), -⟩ := hf427 [1, 3, 2, 4] rfl
  have f_5 := q_5 _ f_19
  have f_6 := q_6 _ f_20
  have e427_5 := f_5
  have e427_6 := f_6
  have hX427 := Evo.step hX406 (fun _ => Nat.le_refl 0) hE427 rfl
  have b427_g401 := BlkO.evo (by decide) hE427 b406_g401
  have b427_A405 := RdO.evo rfl hE427 b406_A405
  have b427_A409 := b_A409
  have b427_cA410 := b_cA410
  have b427_A411 := b_A411
  have b427_cA408 := b_cA408
  have b427_A419 := b_A419
  have b427_cA420 := b_cA420
  have b427_A421 := b_A421
  have b427_cA418 := b_cA418
  refine fl_seq (fun Q428 hn428 hp428 => ?_)
  refine rg_plain_seq (n := 121) (rs := []) (own0 := own427) (K := [])
      (bs := [0])
      (ds := [⟨[], [], [], Fct.val 7 (.int .i64 0)⟩]) (by kernel_rfl) hz427 hd427 (fun _ h => nomatch h) ?_ ?_
  · refine steps_cons (fun own a wx hf hsl hE => ?_) ?_
    · exact sg_plain rfl rfl (or_assign rfl)
    exact steps_nil
  intro own429 a429 w429 hd429 hz429 hk429 hf429 hE429
  have e429_0 : a429.eval (.tmp 0) = .slice A405 x404.length cA405 := (hk429 0 rfl).trans e427_0
  have e429_3 : a429.eval (.tmp 3) = .pointer (some ⟨g401, 0, none⟩) := (hk429 3 rfl).trans e427_3
  have e429_5 : a429.eval (.tmp 5) = .pointer (some ⟨cA408, 0, none⟩) := (hk429 5 rfl).trans e427_5
  have e429_6 : a429.eval (.tmp 6) = .pointer (some ⟨cA418, 0, none⟩) := (hk429 6 rfl).trans e427_6
  obtain ⟨(f_7 : a429.eval (.tmp 7) = .int .i64 0), -⟩ := hf429 [0] rfl
  have e429_7 := f_7
  have hX429 := Evo.step hX427 (fun _ => Nat.le_refl 0) hE429 rfl
  have b429_g401 := BlkO.evo (by decide) hE429 b427_g401
  have b429_A405 := RdO.evo rfl hE429 b427_A405
  have b429_A409 := RwO.evo rfl hE429 b427_A409
  have b429_cA410 := MpN.evo rfl hE429 b427_cA410
  have b429_A411 := RwO.evo rfl hE429 b427_A411
  have b429_cA408 := BlkO.evo (by decide) hE429 b427_cA408
  have b429_A419 := RwO.evo rfl hE429 b427_A419
  have b429_cA420 := MpN.evo rfl hE429 b427_cA420
  have b429_A421 := RwO.evo rfl hE429 b427_A421
  have b429_cA418 := BlkO.evo (by decide) hE429 b427_cA418
  refine fl_block (fun Q430 hn430 hx430 hp430 => ?_)
  refine fl_loop (body := (fun s => law06_RowsGrow_b1 b2 x404 r407 s.1 s.2.1 s.2.2.1 s.2.2.2)) (z := r) (show loopO _ _ = _ from hs) (fun (s : (List ((Int × Int) × (Int × Int))) × (List ((Int × Int) × (List Int))) × (List Int) × Int) a wx => match s with | (y467, y470, y474, i476) => ∃ (ox : Own) (A465 : Option Addr) (c466 : Nat) (A472 : Option Addr) (c473 : Nat), a.defers = [] ∧ a.tmps.size = 121 ∧ a.eval (.tmp 0) = .slice A405 x404.length cA405 ∧ a.eval (.tmp 3) = .pointer (some ⟨g401, 0, none⟩) ∧ a.eval (.tmp 5) = .pointer (some ⟨cA408, 0, none⟩) ∧ a.eval (.tmp 6) = .pointer (some ⟨cA418, 0, none⟩) ∧ a.eval (.tmp 7) = .int .i64 i476 ∧ Evo [] (fun _ => 0) ox w wx ∧ RdO ox [0] wx R26 A405 cA405 x404 ∧ BlkO ox 402 wx g401 26 #[.int .i64 b2.1.1, .int .i64 b2.1.2, .int .i64 b2.2.1, .int .i64 b2.2.2] ∧ BlkO ox 416 wx cA408 62 #[.slice A409 r407.1.length cA409, .map (some cA410), .slice A411 r407.2.2.length cA411] ∧ RwO ox 412 [] wx 26 R26 A409 cA409 r407.1 ∧ MpN ox 413 414 [] wx cA410 vv35 3 R3 r407.2.1 ∧ RwO ox 415 [] wx 3 R3 A411 cA411 r407.2.2 ∧ BlkO ox 464 wx cA418 62 #[.slice A465 y467.length c466, .map (some cA420), .slice A472 y474.length c473] ∧ RwO ox 468 [] wx 26 R26 A465 c466 y467 ∧ MpN ox 469 471 [] wx cA420 vv35 3 R3 y470 ∧ RwO ox 475 [] wx 3 R3 A472 c473 y474) ?_ ?_
  · exact ⟨(rl [(422, 468), (423, 469), (424, 471), (425, 475), (426, 464)] own429), A419, cA419, A421, cA421, hd429, hz429, e429_0, e429_3, e429_5, e429_6, e429_7, (Evo.rl_ hX429 (fun _ => Nat.le_refl 0) rfl), (RdO.rl_ (mm := [(422, 468), (423, 469), (424, 471), (425, 475), (426, 464)]) b429_A405), (BlkO.rl_ (mm := [(422, 468), (423, 469), (424, 471), (425, 475), (426, 464)]) b429_g401), (BlkO.rl_ (mm := [(422, 468), (423, 469), (424, 471), (425, 475), (426, 464)]) b429_cA408), (RwO.rl_ (mm := [(422, 468), (423, 469), (424, 471), (425, 475), (426, 464)]) b429_A409), (MpN.rl_ (mm := [(422, 468), (423, 469), (424, 471), (425, 475), (426, 464)]) b429_cA410), (RwO.rl_ (mm := [(422, 468), (423, 469), (424, 471), (425, 475), (426, 464)]) b429_A411), (BlkO.rl_ (mm := [(422, 468), (423, 469), (424, 471), (425, 475), (426, 464)]) b429_cA418), (RwO.rl_ (mm := [(422, 468), (423, 469), (424, 471), (425, 475), (426, 464)]) b429_A419), (MpN.rl_ (mm := [(422, 468), (423, 469), (424, 471), (425, 475), (426, 464)]) b429_cA420), (RwO.rl_ (mm := [(422, 468), (423, 469), (424, 471), (425, 475), (426, 464)]) b429_A421)⟩
  · rintro ⟨y467, y470, y474, i476⟩ zz510 a510 w510 ⟨own510, A465, c466, A472, c473, hd511, hz511, e511_0, e511_3, e511_5, e511_6, e511_7, hE511, b511_A405, b511_g401, b511_cA408, b511_A409, b511_cA410, b511_A411, b511_cA418, b511_A465, b511_cA420, b511_A472⟩ hs Q510 hn510 hp510 hz510
    have hs : law06_RowsGrow_b1 b2 x404 r407 y467 y470 y474 i476 = some zz510 := hs
    refine fl_seq (fun Q512 hn512 hp512 => ?_)
    refine rg_plain_seq (n := 121) (rs := []) (own0 := own510) (K := [])
        (bs := [0, 0, 2, 7])
        (ds := [⟨[], [7], [], Fct.val 21 (.int .i64 i476)⟩,
        ⟨[], [0], [], Fct.val 22 (.slice A405 x404.length cA405)⟩,
        ⟨[1], [], [], Fct.val 23 (.int .i64 (x404.length : Int))⟩,
        ⟨[0, 2], [], [], Fct.val 24 (.bool (decide (i476 < (x404.length : Int))))⟩]) (by kernel_rfl) hz511 hd511 (fun _ h => nomatch h) ?_ ?_
    · refine steps_cons (fun own a wx hf hsl hE => ?_) ?_
      · obtain ⟨s_7, -⟩ := hsl
        exact sg_plain rfl rfl (or_move (s_7.trans e511_7))
      refine steps_cons (fun own a wx hf hsl hE => ?_) ?_
      · obtain ⟨s_0, -⟩ := hsl
        exact sg_plain rfl rfl (or_move (s_0.trans e511_0))
      refine steps_cons (fun own a wx hf hsl hE => ?_) ?_
      · obtain ⟨(f_22 : a.eval (.tmp 22) = .slice A405 x404.length cA405), -⟩ := hf
        exact sg_plain rfl rfl (or_len tu22 f_22 rfl)
      refine steps_cons (fun own a wx hf hsl hE => ?_) ?_
      · obtain ⟨(f_21 : a.eval (.tmp 21) = .int .i64 i476), (f_23 : a.eval (.tmp 23) = .int .i64 (x404.length : Int)), -⟩ := hf
        exact sg_plain rfl rfl (or_lss f_21 f_23 rfl)
      exact steps_nil
    intro own513 a513 w513 hd513 hz513 hk513 hf513 hE513
    have e513_0 : a513.eval (.tmp 0) = .slice A405 x404.length cA405 := (hk513 0 rfl).trans e511_0
    have e513_3 : a513.eval (.tmp 3) = .pointer (some ⟨g401, 0, none⟩) := (hk513 3 rfl).trans e511_3
    have e513_5 : a513.eval (.tmp 5) = .pointer (some ⟨cA408, 0, none⟩) := (hk513 5 rfl).trans e511_5
    have e513_6 : a513.eval (.tmp 6) = .pointer (some ⟨cA418, 0, none⟩) := (hk513 6 rfl).trans e511_6
    have e513_7 : a513.eval (.tmp 7) = .int .i64 i476 := (hk513 7 rfl).trans e511_7
    obtain ⟨(f_24 : a513.eval (.tmp 24) = .bool (decide (i476 < (x404.length : Int)))), -⟩ := hf513 [3] rfl
    have e513_24 := f_24
    have hX513 := Evo.step hE511 (fun _ => Nat.le_refl 0) hE513 rfl
    have b513_A405 := RdO.evo rfl hE513 b511_A405
    have b513_g401 := BlkO.evo (by decide) hE513 b511_g401
    have b513_cA408 := BlkO.evo (by decide) hE513 b511_cA408
    have b513_A409 := RwO.evo rfl hE513 b511_A409
    have b513_cA410 := MpN.evo rfl hE513 b511_cA410
    have b513_A411 := RwO.evo rfl hE513 b511_A411
    have b513_cA418 := BlkO.evo (by decide) hE513 b511_cA418
    have b513_A465 := RwO.evo rfl hE513 b511_A465
    have b513_cA420 := MpN.evo rfl hE513 b511_cA420
    have b513_A472 := RwO.evo rfl hE513 b511_A472
    refine fl_cond e513_24 hs (fun c514 hs => ?_) (fun c514 hs => ?_)
    · refine fl_skip ?_
      refine hn512 _ _ ?_
      refine fl_seq (fun Q515 hn515 hp515 => ?_)
      refine fl_block (fun Q516 hn516 hx516 hp516 => ?_)
      obtain ⟨x529, hx529, hs⟩ := obind hs
      obtain ⟨r532, hr532, hs⟩ := obind hs
      refine rg_plain_seq (n := 121) (rs := [Fct.at_ 464 cA418 62 #[.slice A465 y467.length c466, .map (some cA420), .slice A472 y474.length c473], Fct.rowAt 468 [] 26 R26 A465 c466 y467, Fct.mapnAt 469 471 [] cA420 vv35 3 R3 y470, Fct.rowAt 475 [] 3 R3 A472 c473 y474]) (own0 := own513) (K := [464, 468, 469, 471, 475])
          (bs := [0, 0, 0, 6, 14, 30, 63, 0, 128, 511])
          (ds := [⟨[], [6], [], Fct.val 27 (.pointer (some ⟨cA418, 0, none⟩))⟩,
          ⟨[], [0], [], Fct.val 28 (.slice A405 x404.length cA405)⟩,
          ⟨[], [7], [], Fct.val 29 (.int .i64 i476)⟩,
          ⟨[1, 2], [], [], Fct.val 30 (.pointer (some ((adr A405).add ((i476 : Int).toNat * R26.s))))⟩,
          ⟨[3], [], [], Fct.val 31 (.agg #[.int .i64 x529.1.1, .int .i64 x529.1.2, .int .i64 x529.2.1, .int .i64 x529.2.2])⟩,
          ⟨[4], [], [], Fct.row 531 [] 32 26 R26 [x529]⟩,
          ⟨[0, 5, 10, 11, 12, 13], [], [464, 468, 469, 471, 475], Fct.mems [535, 536, 537, 538, 539] 33 (fun (x : (Option Addr × Nat) × (Option Addr × Nat)) => .int .i64 r532.1) (fun (x : (Option Addr × Nat) × (Option Addr × Nat)) own w => RwO own 535 [] w 26 R26 x.1.1 x.1.2 r532.2.1 ∧ MpN own 536 537 [] w cA420 vv35 3 R3 r532.2.2.1 ∧ RwO own 538 [] w 3 R3 x.2.1 x.2.2 r532.2.2.2 ∧ BlkO own 539 w cA418 62 #[.slice x.1.1 r532.2.1.length x.1.2, .map (some cA420), .slice x.2.1 r532.2.2.2.length x.2.2]) (fun hk he h => ⟨RwO.evo (hits_sub hk (by decide)) he h.1, MpN.evo (hits_sub hk (by decide)) he h.2.1, RwO.evo (hits_sub hk (by decide)) he h.2.2.1, BlkO.evo (not_hit hk (by decide)) he h.2.2.2⟩)⟩,
          ⟨[], [7], [], Fct.val 34 (.int .i64 i476)⟩,
          ⟨[7], [], [], Fct.val 35 (.int .i64 (ad i476 1))⟩,
          ⟨[6, 8], [], [], Fct.val 36 (.bool (!decide (r532.1 = (ad i476 1))))⟩]) (by kernel_rfl) hz513 hd513 (by simp only [List.forall_mem_cons]; exact ⟨b513_cA418, b513_A465, b513_cA420, b513_A472, fun _ h => nomatch h⟩) ?_ ?_
      · refine steps_cons (fun own a wx hf hsl hE => ?_) ?_
        · obtain ⟨s_6, -⟩ := hsl
          exact sg_plain rfl rfl (or_move (s_6.trans e513_6))
        refine steps_cons (fun own a wx hf hsl hE => ?_) ?_
        · obtain ⟨s_0, -⟩ := hsl
          exact sg_plain rfl rfl (or_move (s_0.trans e513_0))
        refine steps_cons (fun own a wx hf hsl hE => ?_) ?_
        · obtain ⟨s_7, -⟩ := hsl
          exact sg_plain rfl rfl (or_move (s_7.trans e513_7))
        refine steps_cons (fun own a wx hf hsl hE => ?_) ?_
        · obtain ⟨(f_28 : a.eval (.tmp 28) = .slice A405 x404.length cA405), (f_29 : a.eval (.tmp 29) = .int .i64 i476), -⟩ := hf
          exact sg_plain rfl rfl (or_index (R := R26) (l := x404) tl22 f_28 f_29 (RdO.some_ b513_A405 hx529) hx529)
        refine steps_cons (fun own a wx hf hsl hE => ?_) ?_
        · obtain ⟨(f_30 : a.eval (.tmp 30) = .pointer (some ((adr A405).add ((i476 : Int).toNat * R26.s)))), -⟩ := hf
          exact sg_plain rfl rfl (or_load (l := E26.f x529) ta26 f_30 (RdO.cells (F := E26) (RdO.evo rfl hE b513_A405) hx529) rfl)
        refine steps_cons (fun own a wx hf hsl hE => ?_) ?_
        · obtain ⟨(f_31 : a.eval (.tmp 31) = .agg #[.int .i64 x529.1.1, .int .i64 x529.1.2, .int .i64 x529.2.1, .int .i64 x529.2.2]), -⟩ := hf
          exact sg_plain rfl rfl (or_lit (lab := 531) (e := 26) (cs := #[.int .i64 x529.1.1, .int .i64 x529.1.2, .int .i64 x529.2.1, .int .i64 x529.2.2]) (F := E26) (or_new [(31, .agg #[.int .i64 x529.1.1, .int .i64 x529.1.2, .int .i64 x529.2.1, .int .i64 x529.2.2])] rfl rfl ⟨f_31, trivial⟩ (by kernel_rfl)) rfl rfl (show 1 ≤ maxLen by decide))
        refine steps_cons (fun own a wx hf hsl hE => ?_) ?_
        · obtain ⟨(f_27 : a.eval (.tmp 27) = .pointer (some ⟨cA418, 0, none⟩)), ⟨⟨A530, cA530⟩, (f_32 : a.eval (.tmp 32) = .slice A530 [x529].length cA530), (b_A530 : RwO own 531 [] wx 26 R26 A530 cA530 [x529])⟩, (b_cA418 : BlkO own 464 wx cA418 62 #[.slice A465 y467.length c466, .map (some cA420), .slice A472 y474.length c473]), (b_A465 : RwO own 468 [] wx 26 R26 A465 c466 y467), (b_cA420 : MpN own 469 471 [] wx cA420 vv35 3 R3 y470), (b_A472 : RwO own 475 [] wx 3 R3 A472 c473 y474), -⟩ := hf
          exact sg_plain rfl rfl (or_call cf8 (args2 f_27 f_32) (rows_Index_Add_w _ (forth own (look0 [(464, 1), (468, 2), (469, 3), (471, 4), (475, 5)])) (y467, y470, y474) cA418 62 A465 c466 cA420 A472 c473 [x529] A530 cA530 (look0_le rfl) (BlkO.forth_ (m := (look0 [(464, 1), (468, 2), (469, 3), (471, 4), (475, 5)])) b_cA418) (RwO.forth_ (m := (look0 [(464, 1), (468, 2), (469, 3), (471, 4), (475, 5)])) b_A465) (MpN.forth_ (m := (look0 [(464, 1), (468, 2), (469, 3), (471, 4), (475, 5)])) b_cA420) (RwO.forth_ (m := (look0 [(464, 1), (468, 2), (469, 3), (471, 4), (475, 5)])) b_A472) (RdO.forth_ (m := (look0 [(464, 1), (468, 2), (469, 3), (471, 4), (475, 5)])) (RwO.rd b_A530)) r532 hr532) (post_mems (m := (look0 [(464, 1), (468, 2), (469, 3), (471, 4), (475, 5)])) (m' := (look0 [(1, 539), (2, 535), (3, 536), (4, 537), (5, 538)])) (hm_of rfl) (fun own' w' a' x h1 h => ⟨x, h1, ⟨RwO.back_ h.1 (by decide) (.inl (Rep.fl_flat _)), MpN.back_ h.2.1 (by decide) (by decide) (.inl (Rep.fl_flat _)), RwO.back_ h.2.2.1 (by decide) (.inl (Rep.fl_flat _)), BlkO.back_ h.2.2.2 (by decide)⟩⟩)))
        refine steps_cons (fun own a wx hf hsl hE => ?_) ?_
        · obtain ⟨s_7, -⟩ := hsl
          exact sg_plain rfl rfl (or_move (s_7.trans e513_7))
        refine steps_cons (fun own a wx hf hsl hE => ?_) ?_
        · obtain ⟨(f_34 : a.eval (.tmp 34) = .int .i64 i476), -⟩ := hf
          exact sg_plain rfl rfl (or_add f_34 rfl rfl)
        refine steps_cons (fun own a wx hf hsl hE => ?_) ?_
        · obtain ⟨⟨⟨⟨A533, cA533⟩, ⟨A534, cA534⟩⟩, (f_33 : a.eval (.tmp 33) = .int .i64 r532.1), (b_A533 : RwO own 535 [] wx 26 R26 A533 cA533 r532.2.1), (b_cA420 : MpN own 536 537 [] wx cA420 vv35 3 R3 r532.2.2.1), (b_A534 : RwO own 538 [] wx 3 R3 A534 cA534 r532.2.2.2), (b_cA418 : BlkO own 539 wx cA418 62 #[.slice A533 r532.2.1.length cA533, .map (some cA420), .slice A534 r532.2.2.2.length cA534])⟩, (f_35 : a.eval (.tmp 35) = .int .i64 (ad i476 1)), -⟩ := hf
          exact sg_plain rfl rfl (or_neq f_33 f_35 rfl)
        exact steps_nil
      intro own540 a540 w540 hd540 hz540 hk540 hf540 hE540
      have e540_0 : a540.eval (.tmp 0) = .slice A405 x404.length cA405 := (hk540 0 rfl).trans e513_0
      have e540_3 : a540.eval (.tmp 3) = .pointer (some ⟨g401, 0, none⟩) := (hk540 3 rfl).trans e513_3
      have e540_5 : a540.eval (.tmp 5) = .pointer (some ⟨cA408, 0, none⟩) := (hk540 5 rfl).trans e513_5
      have e540_6 : a540.eval (.tmp 6) = .pointer (some ⟨cA418, 0, none⟩) := (hk540 6 rfl).trans e513_6
      have e540_7 : a540.eval (.tmp 7) = .int .i64 i476 := (hk540 7 rfl).trans e513_7
      obtain ⟨(f_36 : a540.eval (.tmp 36) = .bool (!decide (r532.1 = (ad i476 1)))), ⟨⟨⟨A533, cA533⟩, ⟨A534, cA534⟩⟩, (f_33 : a540.eval (.tmp 33) = .int .i64 r532.1), (b_A533 : RwO own540 535 [] w540 26 R26 A533 cA533 r532.2.1), (b_cA420 : MpN own540 536 537 [] w540 cA420 vv35 3 R3 r532.2.2.1), (b_A534 : RwO own540 538 [] w540 3 R3 A534 cA534 r532.2.2.2), (b_cA418 : BlkO own540 539 w540 cA418 62 #[.slice A533 r532.2.1.length cA533, .map (some cA420), .slice A534 r532.2.2.2.length cA534])⟩, -⟩ := hf540 [9, 6] rfl
      have e540_36 := f_36
      have hX540 := Evo.step hX513 (fun _ => Nat.le_refl 0) hE540 rfl
      have b540_A405 := RdO.evo rfl hE540 b513_A405
      have b540_g401 := BlkO.evo (by decide) hE540 b513_g401
      have b540_cA408 := BlkO.evo (by decide) hE540 b513_cA408
      have b540_A409 := RwO.evo rfl hE540 b513_A409
      have b540_cA410 := MpN.evo rfl hE540 b513_cA410
      have b540_A411 := RwO.evo rfl hE540 b513_A411
      have b540_cA418 := b_cA418
      have b540_cA420 := b_cA420
      have b540_A533 := b_A533
      have b540_A534 := b_A534
      refine fl_cond e540_36 hs (fun c541 hs => ?_) (fun c541 hs => ?_)
      · refine rg_plain_seq (n := 121) (rs := []) (own0 := own540) (K := [])
            (bs := [0])
            (ds := [⟨[], [], [], Fct.val 4 (.bool false)⟩]) (by kernel_rfl) hz540 hd540 (fun _ h => nomatch h) ?_ ?_
        · refine steps_cons (fun own a wx hf hsl hE => ?_) ?_
          · exact sg_plain rfl rfl (or_assign rfl)
          exact steps_nil
        intro own542 a542 w542 hd542 hz542 hk542 hf542 hE542
        obtain ⟨(f_4 : a542.eval (.tmp 4) = .bool false), -⟩ := hf542 [0] rfl
        have e542_4 := f_4
        have hX542 := Evo.step hX540 (fun _ => Nat.le_refl 0) hE542 rfl
        refine fl_ret ?_
        refine hp516 _ _ _ rfl ?_
        refine hp515 _ _ _ rfl ?_
        replace hs := hz510 _ hs
        refine hp510 _ _ _ rfl ?_
        refine hp430 _ _ _ rfl ?_
        refine hp428 _ _ _ rfl ?_
        obtain rfl := osome hs
        exact hret _ _ _ _ (.inl rfl) hd542 (results1_ rfl (RVal.tmp_ e542_4)) ⟨own542, rfl, hX542⟩
      refine fl_skip ?_
      refine hn516 _ _ ?_
      refine hn515 _ _ ?_
      refine rg_plain (n := 121) (rs := []) (own0 := own540) (K := [])
          (bs := [0, 1, 3])
          (ds := [⟨[], [7], [], Fct.val 25 (.int .i64 i476)⟩,
          ⟨[0], [], [], Fct.val 26 (.int .i64 (ad i476 1))⟩,
          ⟨[1], [], [], Fct.val 7 (.int .i64 (ad i476 1))⟩]) (by kernel_rfl) hz540 hd540 (fun _ h => nomatch h) ?_ ?_
      · refine steps_cons (fun own a wx hf hsl hE => ?_) ?_
        · obtain ⟨s_7, -⟩ := hsl
          exact sg_plain rfl rfl (or_move (s_7.trans e540_7))
        refine steps_cons (fun own a wx hf hsl hE => ?_) ?_
        · obtain ⟨(f_25 : a.eval (.tmp 25) = .int .i64 i476), -⟩ := hf
          exact sg_plain rfl rfl (or_add f_25 rfl rfl)
        refine steps_cons (fun own a wx hf hsl hE => ?_) ?_
        · obtain ⟨(f_26 : a.eval (.tmp 26) = .int .i64 (ad i476 1)), -⟩ := hf
          exact sg_plain rfl rfl (or_assign f_26)
        exact steps_nil
      intro own543 a543 w543 hd543 hz543 hk543 hf543 hE543
      have e543_0 : a543.eval (.tmp 0) = .slice A405 x404.length cA405 := (hk543 0 rfl).trans e540_0
      have e543_3 : a543.eval (.tmp 3) = .pointer (some ⟨g401, 0, none⟩) := (hk543 3 rfl).trans e540_3
      have e543_5 : a543.eval (.tmp 5) = .pointer (some ⟨cA408, 0, none⟩) := (hk543 5 rfl).trans e540_5
      have e543_6 : a543.eval (.tmp 6) = .pointer (some ⟨cA418, 0, none⟩) := (hk543 6 rfl).trans e540_6
      obtain ⟨(f_7 : a543.eval (.tmp 7) = .int .i64 (ad i476 1)), -⟩ := hf543 [2] rfl
      have e543_7 := f_7
      have hX543 := Evo.step hX540 (fun _ => Nat.le_refl 0) hE543 rfl
      have b543_A405 := RdO.evo rfl hE543 b540_A405
      have b543_g401 := BlkO.evo (by decide) hE543 b540_g401
      have b543_cA408 := BlkO.evo (by decide) hE543 b540_cA408
      have b543_A409 := RwO.evo rfl hE543 b540_A409
      have b543_cA410 := MpN.evo rfl hE543 b540_cA410
      have b543_A411 := RwO.evo rfl hE543 b540_A411
      have b543_cA418 := BlkO.evo (by decide) hE543 b540_cA418
      have b543_cA420 := MpN.evo rfl hE543 b540_cA420
      have b543_A533 := RwO.evo rfl hE543 b540_A533
      have b543_A534 := RwO.evo rfl hE543 b540_A534
      exact hn510 _ _ _ hs ⟨(rl [(535, 468), (536, 469), (537, 471), (538, 475), (539, 464)] own543), A533, cA533, A534, cA534, hd543, hz543, e543_0, e543_3, e543_5, e543_6, e543_7, (Evo.rl_ hX543 (fun _ => Nat.le_refl 0) rfl), (RdO.rl_ (mm := [(535, 468), (536, 469), (537, 471), (538, 475), (539, 464)]) b543_A405), (BlkO.rl_ (mm := [(535, 468), (536, 469), (537, 471), (538, 475), (539, 464)]) b543_g401), (BlkO.rl_ (mm := [(535, 468), (536, 469), (537, 471), (538, 475), (539, 464)]) b543_cA408), (RwO.rl_ (mm := [(535, 468), (536, 469), (537, 471), (538, 475), (539, 464)]) b543_A409), (MpN.rl_ (mm := [(535, 468), (536, 469), (537, 471), (538, 475), (539, 464)]) b543_cA410), (RwO.rl_ (mm := [(535, 468), (536, 469), (537, 471), (538, 475), (539, 464)]) b543_A411), (BlkO.rl_ (mm := [(535, 468), (536, 469), (537, 471), (538, 475), (539, 464)]) b543_cA418), (RwO.rl_ (mm := [(535, 468), (536, 469), (537, 471), (538, 475), (539, 464)]) b543_A533), (MpN.rl_ (mm := [(535, 468), (536, 469), (537, 471), (538, 475), (539, 464)]) b543_cA420), (RwO.rl_ (mm := [(535, 468), (536, 469), (537, 471), (538, 475), (539, 464)]) b543_A534)⟩
    refine fl_exit ?_
    refine hp512 _ _ _ rfl ?_
    replace hs := hz510 _ hs
    refine hp510 _ _ _ rfl ?_
    refine hx430 _ _ ?_
    refine hn428 _ _ ?_
    obtain ⟨r544, hr544, hs⟩ := obind hs
    obtain ⟨r547, hr547, hs⟩ := obind hs
    refine rg_plain_seq (n := 121) (rs := []) (own0 := own513) (K := [])
        (bs := [0, 1, 0, 7, 15, 31])
        (ds := [⟨[], [5], [], Fct.val 37 (.pointer (some ⟨cA408, 0, none⟩))⟩,
        ⟨[0], [], [], Fct.row 546 [] 38 35 R35 r544⟩,
        ⟨[], [6], [], Fct.val 39 (.pointer (some ⟨cA418, 0, none⟩))⟩,
        ⟨[2], [], [], Fct.row 549 [] 40 35 R35 r547⟩,
        ⟨[1], [], [], Fct.rel [8, 38] (fun l => ∀ (A545 : Option Addr) (cA545 : Nat), l.getD 1 undef = .slice A545 r544.length cA545 → l.getD 0 undef = .slice A545 r544.length cA545)⟩,
        ⟨[3], [], [], Fct.rel [9, 40] (fun l => ∀ (A548 : Option Addr) (cA548 : Nat), l.getD 1 undef = .slice A548 r547.length cA548 → l.getD 0 undef = .slice A548 r547.length cA548)⟩]) (by kernel_rfl) hz513 hd513 (fun _ h => nomatch h) ?_ ?_
    · refine steps_cons (fun own a wx hf hsl hE => ?_) ?_
      · obtain ⟨s_5, -⟩ := hsl
        exact sg_plain rfl rfl (or_move (s_5.trans e513_5))
      refine steps_cons (fun own a wx hf hsl hE => ?_) ?_
      · obtain ⟨(f_37 : a.eval (.tmp 37) = .pointer (some ⟨cA408, 0, none⟩)), -⟩ := hf
        exact sg_plain rfl rfl (or_call cf9 (args1 f_37) (rows_Index_Pairs_w _ r407 cA408 62 A409 cA409 cA410 A411 cA411 (BlkO.zero_ (BlkO.evo (by decide) hE b513_cA408)) (RdO.zero (RwO.rd (RwO.evo rfl hE b513_A409))) (MpN.zero_ (MpN.evo rfl hE b513_cA410)) (RdO.zero (RwO.rd (RwO.evo rfl hE b513_A411))) r544 hr544) (post_row (m' := (look0 [(1, 546)])) (.inl (Rep.fl_flat _)) rfl rfl (fun _ => rfl)))
      refine steps_cons (fun own a wx hf hsl hE => ?_) ?_
      · obtain ⟨s_6, -⟩ := hsl
        exact sg_plain rfl rfl (or_move (s_6.trans e513_6))
      refine steps_cons (fun own a wx hf hsl hE => ?_) ?_
      · obtain ⟨(f_39 : a.eval (.tmp 39) = .pointer (some ⟨cA418, 0, none⟩)), -⟩ := hf
        exact sg_plain rfl rfl (or_call cf9 (args1 f_39) (rows_Index_Pairs_w _ (y467, y470, y474) cA418 62 A465 c466 cA420 A472 c473 (BlkO.zero_ (BlkO.evo (by decide) hE b513_cA418)) (RdO.zero (RwO.rd (RwO.evo rfl hE b513_A465))) (MpN.zero_ (MpN.evo rfl hE b513_cA420)) (RdO.zero (RwO.rd (RwO.evo rfl hE b513_A472))) r547 hr547) (post_row (m' := (look0 [(1, 549)])) (.inl (Rep.fl_flat _)) rfl rfl (fun _ => rfl)))
      refine steps_cons (fun own a wx hf hsl hE => ?_) ?_
      · obtain ⟨⟨⟨A545, cA545⟩, (f_38 : a.eval (.tmp 38) = .slice A545 r544.length cA545), (b_A545 : RwO own 546 [] wx 35 R35 A545 cA545 r544)⟩, -⟩ := hf
        exact sg_plain rfl rfl (or_mono (f := Fct.val 8 (.slice A545 r544.length cA545)) (or_assign f_38) (fun own' a' w' v' hp h => fun _ _ h0' => by cases (f_38.symm.trans ((hp.2 38 (by decide)).symm.trans h0')); exact h))
      refine steps_cons (fun own a wx hf hsl hE => ?_) ?_
      · obtain ⟨⟨⟨A548, cA548⟩, (f_40 : a.eval (.tmp 40) = .slice A548 r547.length cA548), (b_A548 : RwO own 549 [] wx 35 R35 A548 cA548 r547)⟩, -⟩ := hf
        exact sg_plain rfl rfl (or_mono (f := Fct.val 9 (.slice A548 r547.length cA548)) (or_assign f_40) (fun own' a' w' v' hp h => fun _ _ h0' => by cases (f_40.symm.trans ((hp.2 40 (by decide)).symm.trans h0')); exact h))
      exact steps_nil
    intro own550 a550 w550 hd550 hz550 hk550 hf550 hE550
    have e550_0 : a550.eval (.tmp 0) = .slice A405 x404.length cA405 := (hk550 0 rfl).trans e513_0
    have e550_3 : a550.eval (.tmp 3) = .pointer (some ⟨g401, 0, none⟩) := (hk550 3 rfl).trans e513_3
    have e550_5 : a550.eval (.tmp 5) = .pointer (some ⟨cA408, 0, none⟩) := (hk550 5 rfl).trans e513_5
    have e550_6 : a550.eval (.tmp 6) = .pointer (some ⟨cA418, 0, none⟩) := (hk550 6 rfl).trans e513_6
    obtain ⟨⟨⟨A545, cA545⟩, (f_38 : a550.eval (.tmp 38) = .slice A545 r544.length cA545), (b_A545 : RwO own550 546 [] w550 35 R35 A545 cA545 r544)⟩, (q_8 : ∀ (A545 : Option Addr) (cA545 : Nat), a550.eval (.tmp 38) = .slice A545 r544.length cA545 → a550.eval (.tmp 8) = .slice A545 r544.length cA545), ⟨⟨A548, cA548⟩, (f_40 : a550.eval (.tmp 40) = .slice A548 r547.length cA548), (b_A548 : RwO own550 549 [] w550 35 R35 A548 cA548 r547)⟩, (q_9 : ∀ (A548 : Option Addr) (cA548 : Nat), a550.eval (.tmp 40) = .slice A548 r547.length cA548 → a550.eval (.tmp 9) = .slice A548 r547.length cA548), -⟩ := hf550 [1, 4, 3, 5] rfl
    have f_8 := q_8 _ _ f_38
    have f_9 := q_9 _ _ f_40
    have e550_8 := f_8
    have e550_9 := f_9
    have hX550 := Evo.step hX513 (fun _ => Nat.le_refl 0) hE550 rfl
    have b550_A405 := RdO.evo rfl hE550 b513_A405
    have b550_g401 := BlkO.evo (by decide) hE550 b513_g401
    have b550_cA408 := BlkO.evo (by decide) hE550 b513_cA408
    have b550_A409 := RwO.evo rfl hE550 b513_A409
    have b550_cA410 := MpN.evo rfl hE550 b513_cA410
    have b550_A411 := RwO.evo rfl hE550 b513_A411
    have b550_cA418 := BlkO.evo (by decide) hE550 b513_cA418
    have b550_A465 := RwO.evo rfl hE550 b513_A465
    have b550_cA420 := MpN.evo rfl hE550 b513_cA420
    have b550_A472 := RwO.evo rfl hE550 b513_A472
    have b550_A545 := b_A545
    have b550_A548 := b_A548
    refine fl_seq (fun Q551 hn551 hp551 => ?_)
    obtain ⟨r552, hr552, hs⟩ := obind hs
    obtain ⟨r555, hr555, hs⟩ := obind hs
    obtain ⟨r558, hr558, hs⟩ := obind hs
    obtain ⟨x559, hx559, hs⟩ := obind hs
    refine rg_draw_seq g_mixed (n := 121) (rs := []) (own0 := own550) (K := [])
        (bs := [0, 1, 0, 4, 15, 31, 63, 63, 255, 63, 63, 2047, 4095, 8191, 16383])
        (ds := [⟨[], [8], [], Fct.val 41 (.slice A545 r544.length cA545)⟩,
        ⟨[0], [], [], Fct.val 42 (.int .i64 (r544.length : Int))⟩,
        ⟨[], [9], [], Fct.val 43 (.slice A548 r547.length cA548)⟩,
        ⟨[2], [], [], Fct.val 44 (.int .i64 (r547.length : Int))⟩,
        ⟨[1, 3], [], [], Fct.val 45 (.bool (!decide ((r544.length : Int) = (r547.length : Int))))⟩,
        ⟨[4], [], [], Fct.val 46 (.bool (!decide ((r544.length : Int) = (r547.length : Int))))⟩,
        ⟨[5], [5], [], Fct.cond (!(!decide ((r544.length : Int) = (r547.length : Int)))) (some 47) (Fct.val 47 (.pointer (some ⟨cA408, 0, none⟩)))⟩,
        ⟨[5], [3], [], Fct.cond (!(!decide ((r544.length : Int) = (r547.length : Int)))) (some 48) (Fct.val 48 (.agg #[.int .i64 b2.1.1, .int .i64 b2.1.2, .int .i64 b2.2.1, .int .i64 b2.2.2]))⟩,
        ⟨[5, 6, 7], [], [], Fct.cond (!(!decide ((r544.length : Int) = (r547.length : Int)))) (some 49) (Fct.row 554 [] 49 3 R3 r552)⟩,
        ⟨[5], [6], [], Fct.cond (!(!decide ((r544.length : Int) = (r547.length : Int)))) (some 50) (Fct.val 50 (.pointer (some ⟨cA418, 0, none⟩)))⟩,
        ⟨[5], [3], [], Fct.cond (!(!decide ((r544.length : Int) = (r547.length : Int)))) (some 51) (Fct.val 51 (.agg #[.int .i64 b2.1.1, .int .i64 b2.1.2, .int .i64 b2.2.1, .int .i64 b2.2.2]))⟩,
        ⟨[5, 9, 10], [], [], Fct.cond (!(!decide ((r544.length : Int) = (r547.length : Int)))) (some 52) (Fct.row 557 [] 52 3 R3 r555)⟩,
        ⟨[5, 8, 11], [], [], Fct.cond (!(!decide ((r544.length : Int) = (r547.length : Int)))) (some 53) (Fct.val 53 (.bool r558))⟩,
        ⟨[5, 12], [], [], Fct.cond (!(!decide ((r544.length : Int) = (r547.length : Int)))) (some 54) (Fct.val 54 (.bool (!r558)))⟩,
        ⟨[5, 13], [], [], Fct.val 55 (.bool x559)⟩]) (by kernel_rfl) hz550 hd550 (fun _ h => nomatch h) ?_ ?_
    · refine steps_cons (fun own a wx hf hsl hE => ?_) ?_
      · obtain ⟨s_8, -⟩ := hsl
        exact sg_plain rfl rfl (or_move (s_8.trans e550_8))
      refine steps_cons (fun own a wx hf hsl hE => ?_) ?_
      · obtain ⟨(f_41 : a.eval (.tmp 41) = .slice A545 r544.length cA545), -⟩ := hf
        exact sg_plain rfl rfl (or_len tu30 f_41 rfl)
      refine steps_cons (fun own a wx hf hsl hE => ?_) ?_
      · obtain ⟨s_9, -⟩ := hsl
        exact sg_plain rfl rfl (or_move (s_9.trans e550_9))
      refine steps_cons (fun own a wx hf hsl hE => ?_) ?_
      · obtain ⟨(f_43 : a.eval (.tmp 43) = .slice A548 r547.length cA548), -⟩ := hf
        exact sg_plain rfl rfl (or_len tu30 f_43 rfl)
      refine steps_cons (fun own a wx hf hsl hE => ?_) ?_
      · obtain ⟨(f_42 : a.eval (.tmp 42) = .int .i64 (r544.length : Int)), (f_44 : a.eval (.tmp 44) = .int .i64 (r547.length : Int)), -⟩ := hf
        exact sg_plain rfl rfl (or_neq f_42 f_44 rfl)
      refine steps_cons (fun own a wx hf hsl hE => ?_) ?_
      · obtain ⟨(f_45 : a.eval (.tmp 45) = .bool (!decide ((r544.length : Int) = (r547.length : Int)))), -⟩ := hf
        exact sg_plain rfl rfl (or_move f_45)
      refine steps_cons (fun own a wx hf hsl hE => ?_) ?_
      · obtain ⟨(f_46 : a.eval (.tmp 46) = .bool (!decide ((r544.length : Int) = (r547.length : Int)))), -⟩ := hf
        obtain ⟨s_5, -⟩ := hsl
        refine sg_f rfl rfl rfl f_46 (fun hg => ?_)
        exact or_move (s_5.trans e550_5)
      refine steps_cons (fun own a wx hf hsl hE => ?_) ?_
      · obtain ⟨(f_46 : a.eval (.tmp 46) = .bool (!decide ((r544.length : Int) = (r547.length : Int)))), -⟩ := hf
        obtain ⟨s_3, -⟩ := hsl
        refine sg_f rfl rfl rfl f_46 (fun hg => ?_)
        exact or_load (l := [.int .i64 b2.1.1, .int .i64 b2.1.2, .int .i64 b2.2.1, .int .i64 b2.2.2]) ta26 (s_3.trans e550_3) (Blk.cellsFrom (BlkO.evo (by decide) hE b550_g401).2 0 rfl) rfl
      refine steps_cons (fun own a wx hf hsl hE => ?_) ?_
      · obtain ⟨(f_46 : a.eval (.tmp 46) = .bool (!decide ((r544.length : Int) = (r547.length : Int)))), c_47, c_48, -⟩ := hf
        refine sg_f rfl rfl rfl f_46 (fun hg => ?_)
        have f_47 : a.eval (.tmp 47) = .pointer (some ⟨cA408, 0, none⟩) := c_47.1 hg
        have f_48 : a.eval (.tmp 48) = .agg #[.int .i64 b2.1.1, .int .i64 b2.1.2, .int .i64 b2.2.1, .int .i64 b2.2.2] := c_48.1 hg
        exact or_call cf11 (args2 f_47 f_48) (rows_Index_Find_w _ r407 cA408 62 A409 cA409 cA410 A411 cA411 b2 (BlkO.zero_ (BlkO.evo (by decide) hE b550_cA408)) (RdO.zero (RwO.rd (RwO.evo rfl hE b550_A409))) (MpN.zero_ (MpN.evo rfl hE b550_cA410)) (RdO.zero (RwO.rd (RwO.evo rfl hE b550_A411))) r552 (gd_t hr552 hg)) (post_row (m' := (look0 [(1, 554)])) (.inl (Rep.fl_flat _)) rfl rfl (fun _ => rfl))
      refine steps_cons (fun own a wx hf hsl hE => ?_) ?_
      · obtain ⟨(f_46 : a.eval (.tmp 46) = .bool (!decide ((r544.length : Int) = (r547.length : Int)))), -⟩ := hf
        obtain ⟨s_6, -⟩ := hsl
        refine sg_f rfl rfl rfl f_46 (fun hg => ?_)
        exact or_move (s_6.trans e550_6)
      refine steps_cons (fun own a wx hf hsl hE => ?_) ?_
      · obtain ⟨(f_46 : a.eval (.tmp 46) = .bool (!decide ((r544.length : Int) = (r547.length : Int)))), -⟩ := hf
        obtain ⟨s_3, -⟩ := hsl
        refine sg_f rfl rfl rfl f_46 (fun hg => ?_)
        exact or_load (l := [.int .i64 b2.1.1, .int .i64 b2.1.2, .int .i64 b2.2.1, .int .i64 b2.2.2]) ta26 (s_3.trans e550_3) (Blk.cellsFrom (BlkO.evo (by decide) hE b550_g401).2 0 rfl) rfl
      refine steps_cons (fun own a wx hf hsl hE => ?_) ?_
      · obtain ⟨(f_46 : a.eval (.tmp 46) = .bool (!decide ((r544.length : Int) = (r547.length : Int)))), c_50, c_51, -⟩ := hf
        refine sg_f rfl rfl rfl f_46 (fun hg => ?_)
        have f_50 : a.eval (.tmp 50) = .pointer (some ⟨cA418, 0, none⟩) := c_50.1 hg
        have f_51 : a.eval (.tmp 51) = .agg #[.int .i64 b2.1.1, .int .i64 b2.1.2, .int .i64 b2.2.1, .int .i64 b2.2.2] := c_51.1 hg
        exact or_call cf11 (args2 f_50 f_51) (rows_Index_Find_w _ (y467, y470, y474) cA418 62 A465 c466 cA420 A472 c473 b2 (BlkO.zero_ (BlkO.evo (by decide) hE b550_cA418)) (RdO.zero (RwO.rd (RwO.evo rfl hE b550_A465))) (MpN.zero_ (MpN.evo rfl hE b550_cA420)) (RdO.zero (RwO.rd (RwO.evo rfl hE b550_A472))) r555 (gd_t hr555 hg)) (post_row (m' := (look0 [(1, 557)])) (.inl (Rep.fl_flat _)) rfl rfl (fun _ => rfl))
      refine steps_cons (fun own a wx hf hsl hE => ?_) ?_
      · obtain ⟨(f_46 : a.eval (.tmp 46) = .bool (!decide ((r544.length : Int) = (r547.length : Int)))), c_49, c_52, -⟩ := hf
        refine sg_f rfl rfl rfl f_46 (fun hg => ?_)
        obtain ⟨⟨A553, cA553⟩, (f_49 : a.eval (.tmp 49) = .slice A553 r552.length cA553), (b_A553 : RwO own 554 [] wx 3 R3 A553 cA553 r552)⟩ := c_49.1 hg
        obtain ⟨⟨A556, cA556⟩, (f_52 : a.eval (.tmp 52) = .slice A556 r555.length cA556), (b_A556 : RwO own 557 [] wx 3 R3 A556 cA556 r555)⟩ := c_52.1 hg
        exact or_call cf10 (args2 f_49 f_52) (law04_Ints_w _ r552 A553 cA553 r555 A556 cA556 (RdO.zero (RwO.rd b_A553)) (RdO.zero (RwO.rd b_A556)) r558 (gd_t hr558 hg)) post_val
      refine steps_cons (fun own a wx hf hsl hE => ?_) ?_
      · obtain ⟨(f_46 : a.eval (.tmp 46) = .bool (!decide ((r544.length : Int) = (r547.length : Int)))), c_53, -⟩ := hf
        refine sg_f rfl rfl rfl f_46 (fun hg => ?_)
        have f_53 : a.eval (.tmp 53) = .bool r558 := c_53.1 hg
        exact or_not f_53 rfl
      refine steps_cons (fun own a wx hf hsl hE => ?_) ?_
      · obtain ⟨(f_46 : a.eval (.tmp 46) = .bool (!decide ((r544.length : Int) = (r547.length : Int)))), c_54, -⟩ := hf
        exact sg_plain rfl rfl (or_or f_46 rfl (fun hx => c_54.1 hx) (osome hx559).symm)
      exact steps_nil
    intro own560 a560 w560 hd560 hz560 hk560 hf560 hE560
    have e560_0 : a560.eval (.tmp 0) = .slice A405 x404.length cA405 := (hk560 0 rfl).trans e550_0
    have e560_5 : a560.eval (.tmp 5) = .pointer (some ⟨cA408, 0, none⟩) := (hk560 5 rfl).trans e550_5
    have e560_8 : a560.eval (.tmp 8) = .slice A545 r544.length cA545 := (hk560 8 rfl).trans e550_8
    have e560_9 : a560.eval (.tmp 9) = .slice A548 r547.length cA548 := (hk560 9 rfl).trans e550_9
    obtain ⟨(f_55 : a560.eval (.tmp 55) = .bool x559), -⟩ := hf560 [14] rfl
    have e560_55 := f_55
    have hX560 := Evo.step hX550 (fun _ => Nat.le_refl 0) hE560 rfl
    have b560_A405 := RdO.evo rfl hE560 b550_A405
    have b560_cA408 := BlkO.evo (by decide) hE560 b550_cA408
    have b560_A409 := RwO.evo rfl hE560 b550_A409
    have b560_cA410 := MpN.evo rfl hE560 b550_cA410
    have b560_A411 := RwO.evo rfl hE560 b550_A411
    have b560_A545 := RwO.evo rfl hE560 b550_A545
    have b560_A548 := RwO.evo rfl hE560 b550_A548
    refine fl_cond e560_55 hs (fun c561 hs => ?_) (fun c561 hs => ?_)
    · refine rg_plain_seq (n := 121) (rs := []) (own0 := own560) (K := [])
          (bs := [0])
          (ds := [⟨[], [], [], Fct.val 4 (.bool false)⟩]) (by kernel_rfl) hz560 hd560 (fun _ h => nomatch h) ?_ ?_
      · refine steps_cons (fun own a wx hf hsl hE => ?_) ?_
        · exact sg_plain rfl rfl (or_assign rfl)
        exact steps_nil
      intro own562 a562 w562 hd562 hz562 hk562 hf562 hE562
      obtain ⟨(f_4 : a562.eval (.tmp 4) = .bool false), -⟩ := hf562 [0] rfl
      have e562_4 := f_4
      have hX562 := Evo.step hX560 (fun _ => Nat.le_refl 0) hE562 rfl
      refine fl_ret ?_
      refine hp551 _ _ _ rfl ?_
      obtain rfl := osome hs
      exact hret _ _ _ _ (.inl rfl) hd562 (results1_ rfl (RVal.tmp_ e562_4)) ⟨own562, rfl, hX562⟩
    refine fl_skip ?_
    refine hn551 _ _ ?_
    refine fl_seq (fun Q563 hn563 hp563 => ?_)
    refine rg_plain_seq (n := 121) (rs := []) (own0 := own560) (K := [])
        (bs := [0])
        (ds := [⟨[], [], [], Fct.val 10 (.int .i64 0)⟩]) (by kernel_rfl) hz560 hd560 (fun _ h => nomatch h) ?_ ?_
    · refine steps_cons (fun own a wx hf hsl hE => ?_) ?_
      · exact sg_plain rfl rfl (or_assign rfl)
      exact steps_nil
    intro own564 a564 w564 hd564 hz564 hk564 hf564 hE564
    have e564_0 : a564.eval (.tmp 0) = .slice A405 x404.length cA405 := (hk564 0 rfl).trans e560_0
    have e564_5 : a564.eval (.tmp 5) = .pointer (some ⟨cA408, 0, none⟩) := (hk564 5 rfl).trans e560_5
    have e564_8 : a564.eval (.tmp 8) = .slice A545 r544.length cA545 := (hk564 8 rfl).trans e560_8
    have e564_9 : a564.eval (.tmp 9) = .slice A548 r547.length cA548 := (hk564 9 rfl).trans e560_9
    obtain ⟨(f_10 : a564.eval (.tmp 10) = .int .i64 0), -⟩ := hf564 [0] rfl
    have e564_10 := f_10
    have hX564 := Evo.step hX560 (fun _ => Nat.le_refl 0) hE564 rfl
    have b564_A405 := RdO.evo rfl hE564 b560_A405
    have b564_cA408 := BlkO.evo (by decide) hE564 b560_cA408
    have b564_A409 := RwO.evo rfl hE564 b560_A409
    have b564_cA410 := MpN.evo rfl hE564 b560_cA410
    have b564_A411 := RwO.evo rfl hE564 b560_A411
    have b564_A545 := RwO.evo rfl hE564 b560_A545
    have b564_A548 := RwO.evo rfl hE564 b560_A548
    refine fl_block (fun Q565 hn565 hx565 hp565 => ?_)
    refine fl_loop (body := (fun s => law06_RowsGrow_b2 x404 r407 r544 r547 s)) (z := r) (show loopO _ _ = _ from hs) (fun (i583 : Int) a wx => ∃ (ox : Own), a.defers = [] ∧ a.tmps.size = 121 ∧ a.eval (.tmp 0) = .slice A405 x404.length cA405 ∧ a.eval (.tmp 5) = .pointer (some ⟨cA408, 0, none⟩) ∧ a.eval (.tmp 8) = .slice A545 r544.length cA545 ∧ a.eval (.tmp 9) = .slice A548 r547.length cA548 ∧ a.eval (.tmp 10) = .int .i64 i583 ∧ Evo [] (fun _ => 0) ox w wx ∧ RdO ox [0] wx R26 A405 cA405 x404 ∧ BlkO ox 416 wx cA408 62 #[.slice A409 r407.1.length cA409, .map (some cA410), .slice A411 r407.2.2.length cA411] ∧ RwO ox 412 [] wx 26 R26 A409 cA409 r407.1 ∧ MpN ox 413 414 [] wx cA410 vv35 3 R3 r407.2.1 ∧ RwO ox 415 [] wx 3 R3 A411 cA411 r407.2.2 ∧ RwO ox 546 [] wx 35 R35 A545 cA545 r544 ∧ RwO ox 549 [] wx 35 R35 A548 cA548 r547) ?_ ?_
    · exact ⟨own564, hd564, hz564, e564_0, e564_5, e564_8, e564_9, e564_10, hX564, b564_A405, b564_cA408, b564_A409, b564_cA410, b564_A411, b564_A545, b564_A548⟩
    · rintro i583 zz601 a601 w601 ⟨own601, hd602, hz602, e602_0, e602_5, e602_8, e602_9, e602_10, hE602, b602_A405, b602_cA408, b602_A409, b602_cA410, b602_A411, b602_A545, b602_A548⟩ hs Q601 hn601 hp601 hz601
      have hs : law06_RowsGrow_b2 x404 r407 r544 r547 i583 = some zz601 := hs
      refine fl_seq (fun Q603 hn603 hp603 => ?_)
      refine rg_plain_seq (n := 121) (rs := []) (own0 := own601) (K := [])
          (bs := [0, 0, 2, 7])
          (ds := [⟨[], [10], [], Fct.val 56 (.int .i64 i583)⟩,
          ⟨[], [8], [], Fct.val 57 (.slice A545 r544.length cA545)⟩,
          ⟨[1], [], [], Fct.val 58 (.int .i64 (r544.length : Int))⟩,
          ⟨[0, 2], [], [], Fct.val 59 (.bool (decide (i583 < (r544.length : Int))))⟩]) (by kernel_rfl) hz602 hd602 (fun _ h => nomatch h) ?_ ?_
      · refine steps_cons (fun own a wx hf hsl hE => ?_) ?_
        · obtain ⟨s_10, -⟩ := hsl
          exact sg_plain rfl rfl (or_move (s_10.trans e602_10))
        refine steps_cons (fun own a wx hf hsl hE => ?_) ?_
        · obtain ⟨s_8, -⟩ := hsl
          exact sg_plain rfl rfl (or_move (s_8.trans e602_8))
        refine steps_cons (fun own a wx hf hsl hE => ?_) ?_
        · obtain ⟨(f_57 : a.eval (.tmp 57) = .slice A545 r544.length cA545), -⟩ := hf
          exact sg_plain rfl rfl (or_len tu30 f_57 rfl)
        refine steps_cons (fun own a wx hf hsl hE => ?_) ?_
        · obtain ⟨(f_56 : a.eval (.tmp 56) = .int .i64 i583), (f_58 : a.eval (.tmp 58) = .int .i64 (r544.length : Int)), -⟩ := hf
          exact sg_plain rfl rfl (or_lss f_56 f_58 rfl)
        exact steps_nil
      intro own604 a604 w604 hd604 hz604 hk604 hf604 hE604
      have e604_0 : a604.eval (.tmp 0) = .slice A405 x404.length cA405 := (hk604 0 rfl).trans e602_0
      have e604_5 : a604.eval (.tmp 5) = .pointer (some ⟨cA408, 0, none⟩) := (hk604 5 rfl).trans e602_5
      have e604_8 : a604.eval (.tmp 8) = .slice A545 r544.length cA545 := (hk604 8 rfl).trans e602_8
      have e604_9 : a604.eval (.tmp 9) = .slice A548 r547.length cA548 := (hk604 9 rfl).trans e602_9
      have e604_10 : a604.eval (.tmp 10) = .int .i64 i583 := (hk604 10 rfl).trans e602_10
      obtain ⟨(f_59 : a604.eval (.tmp 59) = .bool (decide (i583 < (r544.length : Int)))), -⟩ := hf604 [3] rfl
      have e604_59 := f_59
      have hX604 := Evo.step hE602 (fun _ => Nat.le_refl 0) hE604 rfl
      have b604_A405 := RdO.evo rfl hE604 b602_A405
      have b604_cA408 := BlkO.evo (by decide) hE604 b602_cA408
      have b604_A409 := RwO.evo rfl hE604 b602_A409
      have b604_cA410 := MpN.evo rfl hE604 b602_cA410
      have b604_A411 := RwO.evo rfl hE604 b602_A411
      have b604_A545 := RwO.evo rfl hE604 b602_A545
      have b604_A548 := RwO.evo rfl hE604 b602_A548
      refine fl_cond e604_59 hs (fun c605 hs => ?_) (fun c605 hs => ?_)
      · refine fl_skip ?_
        refine hn603 _ _ ?_
        refine fl_seq (fun Q606 hn606 hp606 => ?_)
        refine fl_block (fun Q607 hn607 hx607 hp607 => ?_)
        obtain ⟨x608, hx608, hs⟩ := obind hs
        obtain ⟨x609, hx609, hs⟩ := obind hs
        obtain ⟨x610, hx610, hs⟩ := obind hs
        obtain ⟨x611, hx611, hs⟩ := obind hs
        obtain ⟨x612, hx612, hs⟩ := obind hs
        obtain ⟨x613, hx613, hs⟩ := obind hs
        obtain ⟨r614, hr614, hs⟩ := obind hs
        refine rg_draw_seq g_mixed (n := 121) (rs := []) (own0 := own604) (K := [])
            (bs := [0, 0, 3, 7, 0, 0, 48, 112, 255, 511, 1023, 1023, 1023, 7167, 15359, 31743, 65535, 131071, 1023, 1023, 1023, 1573887, 3671039, 7865343, 16516095, 33293311, 67108863, 134217727, 268435455])
            (ds := [⟨[], [8], [], Fct.val 62 (.slice A545 r544.length cA545)⟩,
            ⟨[], [10], [], Fct.val 63 (.int .i64 i583)⟩,
            ⟨[0, 1], [], [], Fct.val 64 (.pointer (some ((adr A545).add ((i583 : Int).toNat * R35.s))))⟩,
            ⟨[2], [], [], Fct.val 65 (.agg #[.int .i64 x608.1, .int .i64 x608.2])⟩,
            ⟨[], [9], [], Fct.val 66 (.slice A548 r547.length cA548)⟩,
            ⟨[], [10], [], Fct.val 67 (.int .i64 i583)⟩,
            ⟨[4, 5], [], [], Fct.val 68 (.pointer (some ((adr A548).add ((i583 : Int).toNat * R35.s))))⟩,
            ⟨[6], [], [], Fct.val 69 (.agg #[.int .i64 x609.1, .int .i64 x609.2])⟩,
            ⟨[3, 7], [], [], Fct.val 70 (.bool (!decide (x608 = x609)))⟩,
            ⟨[8], [], [], Fct.val 71 (.bool (!decide (x608 = x609)))⟩,
            ⟨[9], [0], [], Fct.cond (!(!decide (x608 = x609))) (some 72) (Fct.val 72 (.slice A405 x404.length cA405))⟩,
            ⟨[9], [8], [], Fct.cond (!(!decide (x608 = x609))) (some 73) (Fct.val 73 (.slice A545 r544.length cA545))⟩,
            ⟨[9], [10], [], Fct.cond (!(!decide (x608 = x609))) (some 74) (Fct.val 74 (.int .i64 i583))⟩,
            ⟨[9, 11, 12], [], [], Fct.cond (!(!decide (x608 = x609))) (some 75) (Fct.val 75 (.pointer (some ((adr A545).add ((i583 : Int).toNat * R35.s)))))⟩,
            ⟨[9, 13], [], [], Fct.cond (!(!decide (x608 = x609))) (some 76) (Fct.val 76 (.pointer (some ((adr A545).add ((i583 : Int).toNat * R35.s)))))⟩,
            ⟨[9, 14], [], [], Fct.cond (!(!decide (x608 = x609))) (some 77) (Fct.val 77 (.int .i64 x610.1))⟩,
            ⟨[9, 10, 15], [], [], Fct.cond (!(!decide (x608 = x609))) (some 78) (Fct.val 78 (.pointer (some ((adr A405).add ((x610.1 : Int).toNat * R26.s)))))⟩,
            ⟨[9, 16], [], [], Fct.cond (!(!decide (x608 = x609))) (some 79) (Fct.val 79 (.agg #[.int .i64 x611.1.1, .int .i64 x611.1.2, .int .i64 x611.2.1, .int .i64 x611.2.2]))⟩,
            ⟨[9], [0], [], Fct.cond (!(!decide (x608 = x609))) (some 80) (Fct.val 80 (.slice A405 x404.length cA405))⟩,
            ⟨[9], [8], [], Fct.cond (!(!decide (x608 = x609))) (some 81) (Fct.val 81 (.slice A545 r544.length cA545))⟩,
            ⟨[9], [10], [], Fct.cond (!(!decide (x608 = x609))) (some 82) (Fct.val 82 (.int .i64 i583))⟩,
            ⟨[9, 19, 20], [], [], Fct.cond (!(!decide (x608 = x609))) (some 83) (Fct.val 83 (.pointer (some ((adr A545).add ((i583 : Int).toNat * R35.s)))))⟩,
            ⟨[9, 21], [], [], Fct.cond (!(!decide (x608 = x609))) (some 84) (Fct.val 84 (.pointer (some (((adr A545).add ((i583 : Int).toNat * R35.s)).add 1))))⟩,
            ⟨[9, 22], [], [], Fct.cond (!(!decide (x608 = x609))) (some 85) (Fct.val 85 (.int .i64 x612.2))⟩,
            ⟨[9, 18, 23], [], [], Fct.cond (!(!decide (x608 = x609))) (some 86) (Fct.val 86 (.pointer (some ((adr A405).add ((x612.2 : Int).toNat * R26.s)))))⟩,
            ⟨[9, 24], [], [], Fct.cond (!(!decide (x608 = x609))) (some 87) (Fct.val 87 (.agg #[.int .i64 x613.1.1, .int .i64 x613.1.2, .int .i64 x613.2.1, .int .i64 x613.2.2]))⟩,
            ⟨[9, 17, 25], [], [], Fct.cond (!(!decide (x608 = x609))) (some 88) (Fct.val 88 (.bool r614))⟩,
            ⟨[9, 26], [], [], Fct.cond (!(!decide (x608 = x609))) (some 89) (Fct.val 89 (.bool (!r614)))⟩,
            ⟨[9, 27], [], [], Fct.val 90 (.bool ((!decide (x608 = x609)) || (!r614)))⟩]) (by kernel_rfl) hz604 hd604 (fun _ h => nomatch h) ?_ ?_
        · refine steps_cons (fun own a wx hf hsl hE => ?_) ?_
          · obtain ⟨s_8, -⟩ := hsl
            exact sg_plain rfl rfl (or_move (s_8.trans e604_8))
          refine steps_cons (fun own a wx hf hsl hE => ?_) ?_
          · obtain ⟨s_10, -⟩ := hsl
            exact sg_plain rfl rfl (or_move (s_10.trans e604_10))
          refine steps_cons (fun own a wx hf hsl hE => ?_) ?_
          · obtain ⟨(f_62 : a.eval (.tmp 62) = .slice A545 r544.length cA545), (f_63 : a.eval (.tmp 63) = .int .i64 i583), -⟩ := hf
            exact sg_plain rfl rfl (or_index (R := R35) (l := r544) tl30 f_62 f_63 (RdO.some_ (RwO.rd b604_A545) hx608) hx608)
          refine steps_cons (fun own a wx hf hsl hE => ?_) ?_
          · obtain ⟨(f_64 : a.eval (.tmp 64) = .pointer (some ((adr A545).add ((i583 : Int).toNat * R35.s)))), -⟩ := hf
            exact sg_plain rfl rfl (or_load (l := E35.f x608) ta35 f_64 (RdO.cells (F := E35) (RwO.rd (RwO.evo rfl hE b604_A545)) hx608) rfl)
          refine steps_cons (fun own a wx hf hsl hE => ?_) ?_
          · obtain ⟨s_9, -⟩ := hsl
            exact sg_plain rfl rfl (or_move (s_9.trans e604_9))
          refine steps_cons (fun own a wx hf hsl hE => ?_) ?_
          · obtain ⟨s_10, -⟩ := hsl
            exact sg_plain rfl rfl (or_move (s_10.trans e604_10))
          refine steps_cons (fun own a wx hf hsl hE => ?_) ?_
          · obtain ⟨(f_66 : a.eval (.tmp 66) = .slice A548 r547.length cA548), (f_67 : a.eval (.tmp 67) = .int .i64 i583), -⟩ := hf
            exact sg_plain rfl rfl (or_index (R := R35) (l := r547) tl30 f_66 f_67 (RdO.some_ (RwO.rd b604_A548) hx609) hx609)
          refine steps_cons (fun own a wx hf hsl hE => ?_) ?_
          · obtain ⟨(f_68 : a.eval (.tmp 68) = .pointer (some ((adr A548).add ((i583 : Int).toNat * R35.s)))), -⟩ := hf
            exact sg_plain rfl rfl (or_load (l := E35.f x609) ta35 f_68 (RdO.cells (F := E35) (RwO.rd (RwO.evo rfl hE b604_A548)) hx609) rfl)
          refine steps_cons (fun own a wx hf hsl hE => ?_) ?_
          · obtain ⟨(f_65 : a.eval (.tmp 65) = .agg #[.int .i64 x608.1, .int .i64 x608.2]), (f_69 : a.eval (.tmp 69) = .agg #[.int .i64 x609.1, .int .i64 x609.2]), -⟩ := hf
            exact sg_plain rfl rfl (or_neqA sg35 f_65 f_69 (sn35 x608.1 x608.2 x609.1 x609.2 _) rfl)
          refine steps_cons (fun own a wx hf hsl hE => ?_) ?_
          · obtain ⟨(f_70 : a.eval (.tmp 70) = .bool (!decide (x608 = x609))), -⟩ := hf
            exact sg_plain rfl rfl (or_move f_70)
          refine steps_cons (fun own a wx hf hsl hE => ?_) ?_
          · obtain ⟨(f_71 : a.eval (.tmp 71) = .bool (!decide (x608 = x609))), -⟩ := hf
            obtain ⟨s_0, -⟩ := hsl
            refine sg_f rfl rfl rfl f_71 (fun hg => ?_)
            exact or_move (s_0.trans e604_0)
          refine steps_cons (fun own a wx hf hsl hE => ?_) ?_
          · obtain ⟨(f_71 : a.eval (.tmp 71) = .bool (!decide (x608 = x609))), -⟩ := hf
            obtain ⟨s_8, -⟩ := hsl
            refine sg_f rfl rfl rfl f_71 (fun hg => ?_)
            exact or_move (s_8.trans e604_8)
          refine steps_cons (fun own a wx hf hsl hE => ?_) ?_
          · obtain ⟨(f_71 : a.eval (.tmp 71) = .bool (!decide (x608 = x609))), -⟩ := hf
            obtain ⟨s_10, -⟩ := hsl
            refine sg_f rfl rfl rfl f_71 (fun hg => ?_)
            exact or_move (s_10.trans e604_10)
          refine steps_cons (fun own a wx hf hsl hE => ?_) ?_
          · obtain ⟨(f_71 : a.eval (.tmp 71) = .bool (!decide (x608 = x609))), c_73, c_74, -⟩ := hf
            refine sg_f rfl rfl rfl f_71 (fun hg => ?_)
            have f_73 : a.eval (.tmp 73) = .slice A545 r544.length cA545 := c_73.1 hg
            have f_74 : a.eval (.tmp 74) = .int .i64 i583 := c_74.1 hg
            exact or_index (R := R35) (l := r544) tl30 f_73 f_74 (RdO.some_ (RwO.rd b604_A545) (gd_t hx610 hg)) (gd_t hx610 hg)
          refine steps_cons (fun own a wx hf hsl hE => ?_) ?_
          · obtain ⟨(f_71 : a.eval (.tmp 71) = .bool (!decide (x608 = x609))), c_75, -⟩ := hf
            refine sg_f rfl rfl rfl f_71 (fun hg => ?_)
            have f_75 : a.eval (.tmp 75) = .pointer (some ((adr A545).add ((i583 : Int).toNat * R35.s))) := c_75.1 hg
            exact or_indexArr (i := 0) (s := 1) tr35 ts3 f_75 rfl (by decide) (Addr.add_zero' _)
          refine steps_cons (fun own a wx hf hsl hE => ?_) ?_
          · obtain ⟨(f_71 : a.eval (.tmp 71) = .bool (!decide (x608 = x609))), c_76, -⟩ := hf
            refine sg_f rfl rfl rfl f_71 (fun hg => ?_)
            have f_76 : a.eval (.tmp 76) = .pointer (some ((adr A545).add ((i583 : Int).toNat * R35.s))) := c_76.1 hg
            exact or_load1 to3 f_76 (CellsAt.zero (RdO.cells (F := E35) (RwO.rd (RwO.evo rfl hE b604_A545)) (gd_t hx610 hg)) rfl)
          refine steps_cons (fun own a wx hf hsl hE => ?_) ?_
          · obtain ⟨(f_71 : a.eval (.tmp 71) = .bool (!decide (x608 = x609))), c_72, c_77, -⟩ := hf
            refine sg_f rfl rfl rfl f_71 (fun hg => ?_)
            have f_72 : a.eval (.tmp 72) = .slice A405 x404.length cA405 := c_72.1 hg
            have f_77 : a.eval (.tmp 77) = .int .i64 x610.1 := c_77.1 hg
            exact or_index (R := R26) (l := x404) tl22 f_72 f_77 (RdO.some_ b604_A405 (gd_t hx611 hg)) (gd_t hx611 hg)
          refine steps_cons (fun own a wx hf hsl hE => ?_) ?_
          · obtain ⟨(f_71 : a.eval (.tmp 71) = .bool (!decide (x608 = x609))), c_78, -⟩ := hf
            refine sg_f rfl rfl rfl f_71 (fun hg => ?_)
            have f_78 : a.eval (.tmp 78) = .pointer (some ((adr A405).add ((x610.1 : Int).toNat * R26.s))) := c_78.1 hg
            exact or_load (l := E26.f x611) ta26 f_78 (RdO.cells (F := E26) (RdO.evo rfl hE b604_A405) (gd_t hx611 hg)) rfl
          refine steps_cons (fun own a wx hf hsl hE => ?_) ?_
          · obtain ⟨(f_71 : a.eval (.tmp 71) = .bool (!decide (x608 = x609))), -⟩ := hf
            obtain ⟨s_0, -⟩ := hsl
            refine sg_f rfl rfl rfl f_71 (fun hg => ?_)
            exact or_move (s_0.trans e604_0)
          refine steps_cons (fun own a wx hf hsl hE => ?_) ?_
          · obtain ⟨(f_71 : a.eval (.tmp 71) = .bool (!decide (x608 = x609))), -⟩ := hf
            obtain ⟨s_8, -⟩ := hsl
            refine sg_f rfl rfl rfl f_71 (fun hg => ?_)
            exact or_move (s_8.trans e604_8)
          refine steps_cons (fun own a wx hf hsl hE => ?_) ?_
          · obtain ⟨(f_71 : a.eval (.tmp 71) = .bool (!decide (x608 = x609))), -⟩ := hf
            obtain ⟨s_10, -⟩ := hsl
            refine sg_f rfl rfl rfl f_71 (fun hg => ?_)
            exact or_move (s_10.trans e604_10)
          refine steps_cons (fun own a wx hf hsl hE => ?_) ?_
          · obtain ⟨(f_71 : a.eval (.tmp 71) = .bool (!decide (x608 = x609))), c_81, c_82, -⟩ := hf
            refine sg_f rfl rfl rfl f_71 (fun hg => ?_)
            have f_81 : a.eval (.tmp 81) = .slice A545 r544.length cA545 := c_81.1 hg
            have f_82 : a.eval (.tmp 82) = .int .i64 i583 := c_82.1 hg
            exact or_index (R := R35) (l := r544) tl30 f_81 f_82 (RdO.some_ (RwO.rd b604_A545) (gd_t hx612 hg)) (gd_t hx612 hg)
          refine steps_cons (fun own a wx hf hsl hE => ?_) ?_
          · obtain ⟨(f_71 : a.eval (.tmp 71) = .bool (!decide (x608 = x609))), c_83, -⟩ := hf
            refine sg_f rfl rfl rfl f_71 (fun hg => ?_)
            have f_83 : a.eval (.tmp 83) = .pointer (some ((adr A545).add ((i583 : Int).toNat * R35.s))) := c_83.1 hg
            exact or_indexArr (i := 1) (s := 1) tr35 ts3 f_83 rfl (by decide) rfl
          refine steps_cons (fun own a wx hf hsl hE => ?_) ?_
          · obtain ⟨(f_71 : a.eval (.tmp 71) = .bool (!decide (x608 = x609))), c_84, -⟩ := hf
            refine sg_f rfl rfl rfl f_71 (fun hg => ?_)
            have f_84 : a.eval (.tmp 84) = .pointer (some (((adr A545).add ((i583 : Int).toNat * R35.s)).add 1)) := c_84.1 hg
            exact or_load1 to3 f_84 (CellsAt.one (RdO.cells (F := E35) (RwO.rd (RwO.evo rfl hE b604_A545)) (gd_t hx612 hg)) rfl)
          refine steps_cons (fun own a wx hf hsl hE => ?_) ?_
          · obtain ⟨(f_71 : a.eval (.tmp 71) = .bool (!decide (x608 = x609))), c_80, c_85, -⟩ := hf
            refine sg_f rfl rfl rfl f_71 (fun hg => ?_)
            have f_80 : a.eval (.tmp 80) = .slice A405 x404.length cA405 := c_80.1 hg
            have f_85 : a.eval (.tmp 85) = .int .i64 x612.2 := c_85.1 hg
            exact or_index (R := R26) (l := x404) tl22 f_80 f_85 (RdO.some_ b604_A405 (gd_t hx613 hg)) (gd_t hx613 hg)
          refine steps_cons (fun own a wx hf hsl hE => ?_) ?_
          · obtain ⟨(f_71 : a.eval (.tmp 71) = .bool (!decide (x608 = x609))), c_86, -⟩ := hf
            refine sg_f rfl rfl rfl f_71 (fun hg => ?_)
            have f_86 : a.eval (.tmp 86) = .pointer (some ((adr A405).add ((x612.2 : Int).toNat * R26.s))) := c_86.1 hg
            exact or_load (l := E26.f x613) ta26 f_86 (RdO.cells (F := E26) (RdO.evo rfl hE b604_A405) (gd_t hx613 hg)) rfl
          refine steps_cons (fun own a wx hf hsl hE => ?_) ?_
          · obtain ⟨(f_71 : a.eval (.tmp 71) = .bool (!decide (x608 = x609))), c_79, c_87, -⟩ := hf
            refine sg_f rfl rfl rfl f_71 (fun hg => ?_)
            have f_79 : a.eval (.tmp 79) = .agg #[.int .i64 x611.1.1, .int .i64 x611.1.2, .int .i64 x611.2.1, .int .i64 x611.2.2] := c_79.1 hg
            have f_87 : a.eval (.tmp 87) = .agg #[.int .i64 x613.1.1, .int .i64 x613.1.2, .int .i64 x613.2.1, .int .i64 x613.2.2] := c_87.1 hg
            exact or_call cf12 (args2 f_79 f_87) (rows_Meet_w _ x611 x613  r614 (gd_t hr614 hg)) post_val
          refine steps_cons (fun own a wx hf hsl hE => ?_) ?_
          · obtain ⟨(f_71 : a.eval (.tmp 71) = .bool (!decide (x608 = x609))), c_88, -⟩ := hf
            refine sg_f rfl rfl rfl f_71 (fun hg => ?_)
            have f_88 : a.eval (.tmp 88) = .bool r614 := c_88.1 hg
            exact or_not f_88 rfl
          refine steps_cons (fun own a wx hf hsl hE => ?_) ?_
          · obtain ⟨(f_71 : a.eval (.tmp 71) = .bool (!decide (x608 = x609))), c_89, -⟩ := hf
            exact sg_plain rfl rfl (or_or f_71 rfl (fun hx => c_89.1 hx) rfl)
          exact steps_nil
        intro own615 a615 w615 hd615 hz615 hk615 hf615 hE615
        have e615_0 : a615.eval (.tmp 0) = .slice A405 x404.length cA405 := (hk615 0 rfl).trans e604_0
        have e615_5 : a615.eval (.tmp 5) = .pointer (some ⟨cA408, 0, none⟩) := (hk615 5 rfl).trans e604_5
        have e615_8 : a615.eval (.tmp 8) = .slice A545 r544.length cA545 := (hk615 8 rfl).trans e604_8
        have e615_9 : a615.eval (.tmp 9) = .slice A548 r547.length cA548 := (hk615 9 rfl).trans e604_9
        have e615_10 : a615.eval (.tmp 10) = .int .i64 i583 := (hk615 10 rfl).trans e604_10
        obtain ⟨(f_90 : a615.eval (.tmp 90) = .bool ((!decide (x608 = x609)) || (!r614))), -⟩ := hf615 [28] rfl
        have e615_90 := f_90
        have hX615 := Evo.step hX604 (fun _ => Nat.le_refl 0) hE615 rfl
        have b615_A405 := RdO.evo rfl hE615 b604_A405
        have b615_cA408 := BlkO.evo (by decide) hE615 b604_cA408
        have b615_A409 := RwO.evo rfl hE615 b604_A409
        have b615_cA410 := MpN.evo rfl hE615 b604_cA410
        have b615_A411 := RwO.evo rfl hE615 b604_A411
        have b615_A545 := RwO.evo rfl hE615 b604_A545
        have b615_A548 := RwO.evo rfl hE615 b604_A548
        refine fl_cond e615_90 hs (fun c616 hs => ?_) (fun c616 hs => ?_)
        · refine rg_plain_seq (n := 121) (rs := []) (own0 := own615) (K := [])
              (bs := [0])
              (ds := [⟨[], [], [], Fct.val 4 (.bool false)⟩]) (by kernel_rfl) hz615 hd615 (fun _ h => nomatch h) ?_ ?_
          · refine steps_cons (fun own a wx hf hsl hE => ?_) ?_
            · exact sg_plain rfl rfl (or_assign rfl)
            exact steps_nil
          intro own617 a617 w617 hd617 hz617 hk617 hf617 hE617
          obtain ⟨(f_4 : a617.eval (.tmp 4) = .bool false), -⟩ := hf617 [0] rfl
          have e617_4 := f_4
          have hX617 := Evo.step hX615 (fun _ => Nat.le_refl 0) hE617 rfl
          refine fl_ret ?_
          refine hp607 _ _ _ rfl ?_
          refine hp606 _ _ _ rfl ?_
          replace hs := hz601 _ hs
          refine hp601 _ _ _ rfl ?_
          refine hp565 _ _ _ rfl ?_
          refine hp563 _ _ _ rfl ?_
          obtain rfl := osome hs
          exact hret _ _ _ _ (.inl rfl) hd617 (results1_ rfl (RVal.tmp_ e617_4)) ⟨own617, rfl, hX617⟩
        refine fl_skip ?_
        refine hn607 _ _ ?_
        refine hn606 _ _ ?_
        refine rg_plain (n := 121) (rs := []) (own0 := own615) (K := [])
            (bs := [0, 1, 3])
            (ds := [⟨[], [10], [], Fct.val 60 (.int .i64 i583)⟩,
            ⟨[0], [], [], Fct.val 61 (.int .i64 (ad i583 1))⟩,
            ⟨[1], [], [], Fct.val 10 (.int .i64 (ad i583 1))⟩]) (by kernel_rfl) hz615 hd615 (fun _ h => nomatch h) ?_ ?_
        · refine steps_cons (fun own a wx hf hsl hE => ?_) ?_
          · obtain ⟨s_10, -⟩ := hsl
            exact sg_plain rfl rfl (or_move (s_10.trans e615_10))
          refine steps_cons (fun own a wx hf hsl hE => ?_) ?_
          · obtain ⟨(f_60 : a.eval (.tmp 60) = .int .i64 i583), -⟩ := hf
            exact sg_plain rfl rfl (or_add f_60 rfl rfl)
          refine steps_cons (fun own a wx hf hsl hE => ?_) ?_
          · obtain ⟨(f_61 : a.eval (.tmp 61) = .int .i64 (ad i583 1)), -⟩ := hf
            exact sg_plain rfl rfl (or_assign f_61)
          exact steps_nil
        intro own618 a618 w618 hd618 hz618 hk618 hf618 hE618
        have e618_0 : a618.eval (.tmp 0) = .slice A405 x404.length cA405 := (hk618 0 rfl).trans e615_0
        have e618_5 : a618.eval (.tmp 5) = .pointer (some ⟨cA408, 0, none⟩) := (hk618 5 rfl).trans e615_5
        have e618_8 : a618.eval (.tmp 8) = .slice A545 r544.length cA545 := (hk618 8 rfl).trans e615_8
        have e618_9 : a618.eval (.tmp 9) = .slice A548 r547.length cA548 := (hk618 9 rfl).trans e615_9
        obtain ⟨(f_10 : a618.eval (.tmp 10) = .int .i64 (ad i583 1)), -⟩ := hf618 [2] rfl
        have e618_10 := f_10
        have hX618 := Evo.step hX615 (fun _ => Nat.le_refl 0) hE618 rfl
        have b618_A405 := RdO.evo rfl hE618 b615_A405
        have b618_cA408 := BlkO.evo (by decide) hE618 b615_cA408
        have b618_A409 := RwO.evo rfl hE618 b615_A409
        have b618_cA410 := MpN.evo rfl hE618 b615_cA410
        have b618_A411 := RwO.evo rfl hE618 b615_A411
        have b618_A545 := RwO.evo rfl hE618 b615_A545
        have b618_A548 := RwO.evo rfl hE618 b615_A548
        exact hn601 _ _ _ hs ⟨own618, hd618, hz618, e618_0, e618_5, e618_8, e618_9, e618_10, hX618, b618_A405, b618_cA408, b618_A409, b618_cA410, b618_A411, b618_A545, b618_A548⟩
      refine fl_exit ?_
      refine hp603 _ _ _ rfl ?_
      replace hs := hz601 _ hs
      refine hp601 _ _ _ rfl ?_
      refine hx565 _ _ ?_
      refine hn563 _ _ ?_
      refine rg_plain_seq (n := 121) (rs := []) (own0 := own604) (K := [])
          (bs := [0])
          (ds := [⟨[], [], [], Fct.val 11 (.int .i64 0)⟩]) (by kernel_rfl) hz604 hd604 (fun _ h => nomatch h) ?_ ?_
      · refine steps_cons (fun own a wx hf hsl hE => ?_) ?_
        · exact sg_plain rfl rfl (or_assign rfl)
        exact steps_nil
      intro own619 a619 w619 hd619 hz619 hk619 hf619 hE619
      have e619_0 : a619.eval (.tmp 0) = .slice A405 x404.length cA405 := (hk619 0 rfl).trans e604_0
      have e619_5 : a619.eval (.tmp 5) = .pointer (some ⟨cA408, 0, none⟩) := (hk619 5 rfl).trans e604_5
      have e619_8 : a619.eval (.tmp 8) = .slice A545 r544.length cA545 := (hk619 8 rfl).trans e604_8
      obtain ⟨(f_11 : a619.eval (.tmp 11) = .int .i64 0), -⟩ := hf619 [0] rfl
      have e619_11 := f_11
      have hX619 := Evo.step hX604 (fun _ => Nat.le_refl 0) hE619 rfl
      have b619_A405 := RdO.evo rfl hE619 b604_A405
      have b619_cA408 := BlkO.evo (by decide) hE619 b604_cA408
      have b619_A409 := RwO.evo rfl hE619 b604_A409
      have b619_cA410 := MpN.evo rfl hE619 b604_cA410
      have b619_A411 := RwO.evo rfl hE619 b604_A411
      have b619_A545 := RwO.evo rfl hE619 b604_A545
      refine fl_seq (fun Q620 hn620 hp620 => ?_)
      refine rg_plain_seq (n := 121) (rs := []) (own0 := own619) (K := [])
          (bs := [0])
          (ds := [⟨[], [], [], Fct.val 12 (.int .i64 0)⟩]) (by kernel_rfl) hz619 hd619 (fun _ h => nomatch h) ?_ ?_
      · refine steps_cons (fun own a wx hf hsl hE => ?_) ?_
        · exact sg_plain rfl rfl (or_assign rfl)
        exact steps_nil
      intro own621 a621 w621 hd621 hz621 hk621 hf621 hE621
      have e621_0 : a621.eval (.tmp 0) = .slice A405 x404.length cA405 := (hk621 0 rfl).trans e619_0
      have e621_5 : a621.eval (.tmp 5) = .pointer (some ⟨cA408, 0, none⟩) := (hk621 5 rfl).trans e619_5
      have e621_8 : a621.eval (.tmp 8) = .slice A545 r544.length cA545 := (hk621 8 rfl).trans e619_8
      have e621_11 : a621.eval (.tmp 11) = .int .i64 0 := (hk621 11 rfl).trans e619_11
      obtain ⟨(f_12 : a621.eval (.tmp 12) = .int .i64 0), -⟩ := hf621 [0] rfl
      have e621_12 := f_12
      have hX621 := Evo.step hX619 (fun _ => Nat.le_refl 0) hE621 rfl
      have b621_A405 := RdO.evo rfl hE621 b619_A405
      have b621_cA408 := BlkO.evo (by decide) hE621 b619_cA408
      have b621_A409 := RwO.evo rfl hE621 b619_A409
      have b621_cA410 := MpN.evo rfl hE621 b619_cA410
      have b621_A411 := RwO.evo rfl hE621 b619_A411
      have b621_A545 := RwO.evo rfl hE621 b619_A545
      refine fl_block (fun Q622 hn622 hx622 hp622 => ?_)
      refine fl_loop (body := (fun s => law06_RowsGrow_b3 x404 r407 r544 s.1 s.2)) (z := r) (show loopO _ _ = _ from hs) (fun (s : Int × Int) a wx => match s with | (n677, i678) => ∃ (ox : Own), a.defers = [] ∧ a.tmps.size = 121 ∧ a.eval (.tmp 0) = .slice A405 x404.length cA405 ∧ a.eval (.tmp 5) = .pointer (some ⟨cA408, 0, none⟩) ∧ a.eval (.tmp 8) = .slice A545 r544.length cA545 ∧ a.eval (.tmp 11) = .int .i64 n677 ∧ a.eval (.tmp 12) = .int .i64 i678 ∧ Evo [] (fun _ => 0) ox w wx ∧ RdO ox [0] wx R26 A405 cA405 x404 ∧ BlkO ox 416 wx cA408 62 #[.slice A409 r407.1.length cA409, .map (some cA410), .slice A411 r407.2.2.length cA411] ∧ RwO ox 412 [] wx 26 R26 A409 cA409 r407.1 ∧ MpN ox 413 414 [] wx cA410 vv35 3 R3 r407.2.1 ∧ RwO ox 415 [] wx 3 R3 A411 cA411 r407.2.2 ∧ RwO ox 546 [] wx 35 R35 A545 cA545 r544) ?_ ?_
      · exact ⟨own621, hd621, hz621, e621_0, e621_5, e621_8, e621_11, e621_12, hX621, b621_A405, b621_cA408, b621_A409, b621_cA410, b621_A411, b621_A545⟩
      · rintro ⟨n677, i678⟩ zz733 a733 w733 ⟨own733, hd734, hz734, e734_0, e734_5, e734_8, e734_11, e734_12, hE734, b734_A405, b734_cA408, b734_A409, b734_cA410, b734_A411, b734_A545⟩ hs Q733 hn733 hp733 hz733
        have hs : law06_RowsGrow_b3 x404 r407 r544 n677 i678 = some zz733 := hs
        refine fl_seq (fun Q735 hn735 hp735 => ?_)
        refine rg_plain_seq (n := 121) (rs := []) (own0 := own733) (K := [])
            (bs := [0, 0, 2, 7])
            (ds := [⟨[], [12], [], Fct.val 91 (.int .i64 i678)⟩,
            ⟨[], [0], [], Fct.val 92 (.slice A405 x404.length cA405)⟩,
            ⟨[1], [], [], Fct.val 93 (.int .i64 (x404.length : Int))⟩,
            ⟨[0, 2], [], [], Fct.val 94 (.bool (decide (i678 < (x404.length : Int))))⟩]) (by kernel_rfl) hz734 hd734 (fun _ h => nomatch h) ?_ ?_
        · refine steps_cons (fun own a wx hf hsl hE => ?_) ?_
          · obtain ⟨s_12, -⟩ := hsl
            exact sg_plain rfl rfl (or_move (s_12.trans e734_12))
          refine steps_cons (fun own a wx hf hsl hE => ?_) ?_
          · obtain ⟨s_0, -⟩ := hsl
            exact sg_plain rfl rfl (or_move (s_0.trans e734_0))
          refine steps_cons (fun own a wx hf hsl hE => ?_) ?_
          · obtain ⟨(f_92 : a.eval (.tmp 92) = .slice A405 x404.length cA405), -⟩ := hf
            exact sg_plain rfl rfl (or_len tu22 f_92 rfl)
          refine steps_cons (fun own a wx hf hsl hE => ?_) ?_
          · obtain ⟨(f_91 : a.eval (.tmp 91) = .int .i64 i678), (f_93 : a.eval (.tmp 93) = .int .i64 (x404.length : Int)), -⟩ := hf
            exact sg_plain rfl rfl (or_lss f_91 f_93 rfl)
          exact steps_nil
        intro own736 a736 w736 hd736 hz736 hk736 hf736 hE736
        have e736_0 : a736.eval (.tmp 0) = .slice A405 x404.length cA405 := (hk736 0 rfl).trans e734_0
        have e736_5 : a736.eval (.tmp 5) = .pointer (some ⟨cA408, 0, none⟩) := (hk736 5 rfl).trans e734_5
        have e736_8 : a736.eval (.tmp 8) = .slice A545 r544.length cA545 := (hk736 8 rfl).trans e734_8
        have e736_11 : a736.eval (.tmp 11) = .int .i64 n677 := (hk736 11 rfl).trans e734_11
        have e736_12 : a736.eval (.tmp 12) = .int .i64 i678 := (hk736 12 rfl).trans e734_12
        obtain ⟨(f_94 : a736.eval (.tmp 94) = .bool (decide (i678 < (x404.length : Int)))), -⟩ := hf736 [3] rfl
        have e736_94 := f_94
        have hX736 := Evo.step hE734 (fun _ => Nat.le_refl 0) hE736 rfl
        have b736_A405 := RdO.evo rfl hE736 b734_A405
        have b736_cA408 := BlkO.evo (by decide) hE736 b734_cA408
        have b736_A409 := RwO.evo rfl hE736 b734_A409
        have b736_cA410 := MpN.evo rfl hE736 b734_cA410
        have b736_A411 := RwO.evo rfl hE736 b734_A411
        have b736_A545 := RwO.evo rfl hE736 b734_A545
        refine fl_cond e736_94 hs (fun c737 hs => ?_) (fun c737 hs => ?_)
        · refine fl_skip ?_
          refine hn735 _ _ ?_
          refine fl_seq (fun Q738 hn738 hp738 => ?_)
          refine fl_block (fun Q763 hn763 hx763 hp763 => ?_)
          have K775 : ∀ (a775 : Act) (w775 : World) (own775 : Own) (n774 : Int), a775.defers = [] → a775.tmps.size = 121 → a775.eval (.tmp 0) = .slice A405 x404.length cA405 → a775.eval (.tmp 5) = .pointer (some ⟨cA408, 0, none⟩) → a775.eval (.tmp 8) = .slice A545 r544.length cA545 → a775.eval (.tmp 11) = .int .i64 n774 → a775.eval (.tmp 12) = .int .i64 i678 → Evo [] (fun _ => 0) own775 w w775 → RdO own775 [0] w775 R26 A405 cA405 x404 → BlkO own775 416 w775 cA408 62 #[.slice A409 r407.1.length cA409, .map (some cA410), .slice A411 r407.2.2.length cA411] → RwO own775 412 [] w775 26 R26 A409 cA409 r407.1 → MpN own775 413 414 [] w775 cA410 vv35 3 R3 r407.2.1 → RwO own775 415 [] w775 3 R3 A411 cA411 r407.2.2 → RwO own775 546 [] w775 35 R35 A545 cA545 r544 → law06_RowsGrow_k4 i678 n774 = some zz733 → (Q763 .normal a775 w775 ∧ Q763 (.exit 5) a775 w775) := by
            intro a775 w775 own775 n774 hd776 hz776 e776_0 e776_5 e776_8 e776_11 e776_12 hE776 b776_A405 b776_cA408 b776_A409 b776_cA410 b776_A411 b776_A545 hs
            refine and_both (hn763 _ _) (hx763 _ _) ?_
            refine hn738 _ _ ?_
            refine rg_plain (n := 121) (rs := []) (own0 := own775) (K := [])
                (bs := [0, 1, 3])
                (ds := [⟨[], [12], [], Fct.val 95 (.int .i64 i678)⟩,
                ⟨[0], [], [], Fct.val 96 (.int .i64 (ad i678 1))⟩,
                ⟨[1], [], [], Fct.val 12 (.int .i64 (ad i678 1))⟩]) (by kernel_rfl) hz776 hd776 (fun _ h => nomatch h) ?_ ?_
            · refine steps_cons (fun own a wx hf hsl hE => ?_) ?_
              · obtain ⟨s_12, -⟩ := hsl
                exact sg_plain rfl rfl (or_move (s_12.trans e776_12))
              refine steps_cons (fun own a wx hf hsl hE => ?_) ?_
              · obtain ⟨(f_95 : a.eval (.tmp 95) = .int .i64 i678), -⟩ := hf
                exact sg_plain rfl rfl (or_add f_95 rfl rfl)
              refine steps_cons (fun own a wx hf hsl hE => ?_) ?_
              · obtain ⟨(f_96 : a.eval (.tmp 96) = .int .i64 (ad i678 1)), -⟩ := hf
                exact sg_plain rfl rfl (or_assign f_96)
              exact steps_nil
            intro own777 a777 w777 hd777 hz777 hk777 hf777 hE777
            have e777_0 : a777.eval (.tmp 0) = .slice A405 x404.length cA405 := (hk777 0 rfl).trans e776_0
            have e777_5 : a777.eval (.tmp 5) = .pointer (some ⟨cA408, 0, none⟩) := (hk777 5 rfl).trans e776_5
            have e777_8 : a777.eval (.tmp 8) = .slice A545 r544.length cA545 := (hk777 8 rfl).trans e776_8
            have e777_11 : a777.eval (.tmp 11) = .int .i64 n774 := (hk777 11 rfl).trans e776_11
            obtain ⟨(f_12 : a777.eval (.tmp 12) = .int .i64 (ad i678 1)), -⟩ := hf777 [2] rfl
            have e777_12 := f_12
            have hX777 := Evo.step hE776 (fun _ => Nat.le_refl 0) hE777 rfl
            have b777_A405 := RdO.evo rfl hE777 b776_A405
            have b777_cA408 := BlkO.evo (by decide) hE777 b776_cA408
            have b777_A409 := RwO.evo rfl hE777 b776_A409
            have b777_cA410 := MpN.evo rfl hE777 b776_cA410
            have b777_A411 := RwO.evo rfl hE777 b776_A411
            have b777_A545 := RwO.evo rfl hE777 b776_A545
            exact hn733 _ _ _ hs ⟨own777, hd777, hz777, e777_0, e777_5, e777_8, e777_11, e777_12, hX777, b777_A405, b777_cA408, b777_A409, b777_cA410, b777_A411, b777_A545⟩
          obtain ⟨x778, hx778, hs⟩ := obind hs
          obtain ⟨r779, hr779, hs⟩ := obind hs
          refine rg_plain_seq (n := 121) (rs := []) (own0 := own736) (K := [])
              (bs := [0, 0, 0, 0, 12, 28, 62, 126, 255, 511])
              (ds := [⟨[], [11], [], Fct.val 97 (.int .i64 n677)⟩,
              ⟨[], [5], [], Fct.val 98 (.pointer (some ⟨cA408, 0, none⟩))⟩,
              ⟨[], [0], [], Fct.val 99 (.slice A405 x404.length cA405)⟩,
              ⟨[], [12], [], Fct.val 100 (.int .i64 i678)⟩,
              ⟨[2, 3], [], [], Fct.val 101 (.pointer (some ((adr A405).add ((i678 : Int).toNat * R26.s))))⟩,
              ⟨[4], [], [], Fct.val 102 (.agg #[.int .i64 x778.1.1, .int .i64 x778.1.2, .int .i64 x778.2.1, .int .i64 x778.2.2])⟩,
              ⟨[1, 5], [], [], Fct.row 781 [] 103 3 R3 r779⟩,
              ⟨[6], [], [], Fct.val 104 (.int .i64 (r779.length : Int))⟩,
              ⟨[0, 7], [], [], Fct.val 105 (.int .i64 (ad n677 (r779.length : Int)))⟩,
              ⟨[8], [], [], Fct.val 11 (.int .i64 (ad n677 (r779.length : Int)))⟩]) (by kernel_rfl) hz736 hd736 (fun _ h => nomatch h) ?_ ?_
          · refine steps_cons (fun own a wx hf hsl hE => ?_) ?_
            · obtain ⟨s_11, -⟩ := hsl
              exact sg_plain rfl rfl (or_move (s_11.trans e736_11))
            refine steps_cons (fun own a wx hf hsl hE => ?_) ?_
            · obtain ⟨s_5, -⟩ := hsl
              exact sg_plain rfl rfl (or_move (s_5.trans e736_5))
            refine steps_cons (fun own a wx hf hsl hE => ?_) ?_
            · obtain ⟨s_0, -⟩ := hsl
              exact sg_plain rfl rfl (or_move (s_0.trans e736_0))
            refine steps_cons (fun own a wx hf hsl hE => ?_) ?_
            · obtain ⟨s_12, -⟩ := hsl
              exact sg_plain rfl rfl (or_move (s_12.trans e736_12))
            refine steps_cons (fun own a wx hf hsl hE => ?_) ?_
            · obtain ⟨(f_99 : a.eval (.tmp 99) = .slice A405 x404.length cA405), (f_100 : a.eval (.tmp 100) = .int .i64 i678), -⟩ := hf
              exact sg_plain rfl rfl (or_index (R := R26) (l := x404) tl22 f_99 f_100 (RdO.some_ b736_A405 hx778) hx778)
            refine steps_cons (fun own a wx hf hsl hE => ?_) ?_
            · obtain ⟨(f_101 : a.eval (.tmp 101) = .pointer (some ((adr A405).add ((i678 : Int).toNat * R26.s)))), -⟩ := hf
              exact sg_plain rfl rfl (or_load (l := E26.f x778) ta26 f_101 (RdO.cells (F := E26) (RdO.evo rfl hE b736_A405) hx778) rfl)
            refine steps_cons (fun own a wx hf hsl hE => ?_) ?_
            · obtain ⟨(f_98 : a.eval (.tmp 98) = .pointer (some ⟨cA408, 0, none⟩)), (f_102 : a.eval (.tmp 102) = .agg #[.int .i64 x778.1.1, .int .i64 x778.1.2, .int .i64 x778.2.1, .int .i64 x778.2.2]), -⟩ := hf
              exact sg_plain rfl rfl (or_call cf11 (args2 f_98 f_102) (rows_Index_Find_w _ r407 cA408 62 A409 cA409 cA410 A411 cA411 x778 (BlkO.zero_ (BlkO.evo (by decide) hE b736_cA408)) (RdO.zero (RwO.rd (RwO.evo rfl hE b736_A409))) (MpN.zero_ (MpN.evo rfl hE b736_cA410)) (RdO.zero (RwO.rd (RwO.evo rfl hE b736_A411))) r779 hr779) (post_row (m' := (look0 [(1, 781)])) (.inl (Rep.fl_flat _)) rfl rfl (fun _ => rfl)))
            refine steps_cons (fun own a wx hf hsl hE => ?_) ?_
            · obtain ⟨⟨⟨A780, cA780⟩, (f_103 : a.eval (.tmp 103) = .slice A780 r779.length cA780), (b_A780 : RwO own 781 [] wx 3 R3 A780 cA780 r779)⟩, -⟩ := hf
              exact sg_plain rfl rfl (or_len tu33 f_103 rfl)
            refine steps_cons (fun own a wx hf hsl hE => ?_) ?_
            · obtain ⟨(f_97 : a.eval (.tmp 97) = .int .i64 n677), (f_104 : a.eval (.tmp 104) = .int .i64 (r779.length : Int)), -⟩ := hf
              exact sg_plain rfl rfl (or_add f_97 f_104 rfl)
            refine steps_cons (fun own a wx hf hsl hE => ?_) ?_
            · obtain ⟨(f_105 : a.eval (.tmp 105) = .int .i64 (ad n677 (r779.length : Int))), -⟩ := hf
              exact sg_plain rfl rfl (or_assign f_105)
            exact steps_nil
          intro own782 a782 w782 hd782 hz782 hk782 hf782 hE782
          have e782_0 : a782.eval (.tmp 0) = .slice A405 x404.length cA405 := (hk782 0 rfl).trans e736_0
          have e782_5 : a782.eval (.tmp 5) = .pointer (some ⟨cA408, 0, none⟩) := (hk782 5 rfl).trans e736_5
          have e782_8 : a782.eval (.tmp 8) = .slice A545 r544.length cA545 := (hk782 8 rfl).trans e736_8
          have e782_12 : a782.eval (.tmp 12) = .int .i64 i678 := (hk782 12 rfl).trans e736_12
          obtain ⟨(f_11 : a782.eval (.tmp 11) = .int .i64 (ad n677 (r779.length : Int))), -⟩ := hf782 [9] rfl
          have e782_11 := f_11
          have hX782 := Evo.step hX736 (fun _ => Nat.le_refl 0) hE782 rfl
          have b782_A405 := RdO.evo rfl hE782 b736_A405
          have b782_cA408 := BlkO.evo (by decide) hE782 b736_cA408
          have b782_A409 := RwO.evo rfl hE782 b736_A409
          have b782_cA410 := MpN.evo rfl hE782 b736_cA410
          have b782_A411 := RwO.evo rfl hE782 b736_A411
          have b782_A545 := RwO.evo rfl hE782 b736_A545
          obtain ⟨x783, hx783, hs⟩ := obind hs
          obtain ⟨r784, hr784, hs⟩ := obind hs
          refine rg_plain_seq (n := 121) (rs := []) (own0 := own782) (K := [])
              (bs := [0, 0, 3, 7, 15])
              (ds := [⟨[], [0], [], Fct.val 106 (.slice A405 x404.length cA405)⟩,
              ⟨[], [12], [], Fct.val 107 (.int .i64 i678)⟩,
              ⟨[0, 1], [], [], Fct.val 108 (.pointer (some ((adr A405).add ((i678 : Int).toNat * R26.s))))⟩,
              ⟨[2], [], [], Fct.val 109 (.agg #[.int .i64 x783.1.1, .int .i64 x783.1.2, .int .i64 x783.2.1, .int .i64 x783.2.2])⟩,
              ⟨[3], [], [], Fct.val 110 (.bool r784)⟩]) (by kernel_rfl) hz782 hd782 (fun _ h => nomatch h) ?_ ?_
          · refine steps_cons (fun own a wx hf hsl hE => ?_) ?_
            · obtain ⟨s_0, -⟩ := hsl
              exact sg_plain rfl rfl (or_move (s_0.trans e782_0))
            refine steps_cons (fun own a wx hf hsl hE => ?_) ?_
            · obtain ⟨s_12, -⟩ := hsl
              exact sg_plain rfl rfl (or_move (s_12.trans e782_12))
            refine steps_cons (fun own a wx hf hsl hE => ?_) ?_
            · obtain ⟨(f_106 : a.eval (.tmp 106) = .slice A405 x404.length cA405), (f_107 : a.eval (.tmp 107) = .int .i64 i678), -⟩ := hf
              exact sg_plain rfl rfl (or_index (R := R26) (l := x404) tl22 f_106 f_107 (RdO.some_ b782_A405 hx783) hx783)
            refine steps_cons (fun own a wx hf hsl hE => ?_) ?_
            · obtain ⟨(f_108 : a.eval (.tmp 108) = .pointer (some ((adr A405).add ((i678 : Int).toNat * R26.s)))), -⟩ := hf
              exact sg_plain rfl rfl (or_load (l := E26.f x783) ta26 f_108 (RdO.cells (F := E26) (RdO.evo rfl hE b782_A405) hx783) rfl)
            refine steps_cons (fun own a wx hf hsl hE => ?_) ?_
            · obtain ⟨(f_109 : a.eval (.tmp 109) = .agg #[.int .i64 x783.1.1, .int .i64 x783.1.2, .int .i64 x783.2.1, .int .i64 x783.2.2]), -⟩ := hf
              exact sg_plain rfl rfl (or_call cf13 (args1 f_109) (rows_Right_w _ x783  r784 hr784) post_val)
            exact steps_nil
          intro own785 a785 w785 hd785 hz785 hk785 hf785 hE785
          have e785_0 : a785.eval (.tmp 0) = .slice A405 x404.length cA405 := (hk785 0 rfl).trans e782_0
          have e785_5 : a785.eval (.tmp 5) = .pointer (some ⟨cA408, 0, none⟩) := (hk785 5 rfl).trans e782_5
          have e785_8 : a785.eval (.tmp 8) = .slice A545 r544.length cA545 := (hk785 8 rfl).trans e782_8
          have e785_11 : a785.eval (.tmp 11) = .int .i64 (ad n677 (r779.length : Int)) := (hk785 11 rfl).trans e782_11
          have e785_12 : a785.eval (.tmp 12) = .int .i64 i678 := (hk785 12 rfl).trans e782_12
          obtain ⟨(f_110 : a785.eval (.tmp 110) = .bool r784), -⟩ := hf785 [4] rfl
          have e785_110 := f_110
          have hX785 := Evo.step hX782 (fun _ => Nat.le_refl 0) hE785 rfl
          have b785_A405 := RdO.evo rfl hE785 b782_A405
          have b785_cA408 := BlkO.evo (by decide) hE785 b782_cA408
          have b785_A409 := RwO.evo rfl hE785 b782_A409
          have b785_cA410 := MpN.evo rfl hE785 b782_cA410
          have b785_A411 := RwO.evo rfl hE785 b782_A411
          have b785_A545 := RwO.evo rfl hE785 b782_A545
          refine fl_cond e785_110 hs (fun c786 hs => ?_) (fun c786 hs => ?_)
          · refine rg_plain (n := 121) (rs := []) (own0 := own785) (K := [])
                (bs := [0, 1, 3])
                (ds := [⟨[], [11], [], Fct.val 111 (.int .i64 (ad n677 (r779.length : Int)))⟩,
                ⟨[0], [], [], Fct.val 112 (.int .i64 (sb (ad n677 (r779.length : Int)) 1))⟩,
                ⟨[1], [], [], Fct.val 11 (.int .i64 (sb (ad n677 (r779.length : Int)) 1))⟩]) (by kernel_rfl) hz785 hd785 (fun _ h => nomatch h) ?_ ?_
            · refine steps_cons (fun own a wx hf hsl hE => ?_) ?_
              · obtain ⟨s_11, -⟩ := hsl
                exact sg_plain rfl rfl (or_move (s_11.trans e785_11))
              refine steps_cons (fun own a wx hf hsl hE => ?_) ?_
              · obtain ⟨(f_111 : a.eval (.tmp 111) = .int .i64 (ad n677 (r779.length : Int))), -⟩ := hf
                exact sg_plain rfl rfl (or_sub f_111 rfl rfl)
              refine steps_cons (fun own a wx hf hsl hE => ?_) ?_
              · obtain ⟨(f_112 : a.eval (.tmp 112) = .int .i64 (sb (ad n677 (r779.length : Int)) 1)), -⟩ := hf
                exact sg_plain rfl rfl (or_assign f_112)
              exact steps_nil
            intro own787 a787 w787 hd787 hz787 hk787 hf787 hE787
            have e787_0 : a787.eval (.tmp 0) = .slice A405 x404.length cA405 := (hk787 0 rfl).trans e785_0
            have e787_5 : a787.eval (.tmp 5) = .pointer (some ⟨cA408, 0, none⟩) := (hk787 5 rfl).trans e785_5
            have e787_8 : a787.eval (.tmp 8) = .slice A545 r544.length cA545 := (hk787 8 rfl).trans e785_8
            have e787_12 : a787.eval (.tmp 12) = .int .i64 i678 := (hk787 12 rfl).trans e785_12
            obtain ⟨(f_11 : a787.eval (.tmp 11) = .int .i64 (sb (ad n677 (r779.length : Int)) 1)), -⟩ := hf787 [2] rfl
            have e787_11 := f_11
            have hX787 := Evo.step hX785 (fun _ => Nat.le_refl 0) hE787 rfl
            have b787_A405 := RdO.evo rfl hE787 b785_A405
            have b787_cA408 := BlkO.evo (by decide) hE787 b785_cA408
            have b787_A409 := RwO.evo rfl hE787 b785_A409
            have b787_cA410 := MpN.evo rfl hE787 b785_cA410
            have b787_A411 := RwO.evo rfl hE787 b785_A411
            have b787_A545 := RwO.evo rfl hE787 b785_A545
            exact (K775 _ _ own787 _ hd787 hz787 e787_0 e787_5 e787_8 e787_11 e787_12 hX787 b787_A405 b787_cA408 b787_A409 b787_cA410 b787_A411 b787_A545 hs).1
          refine fl_skip ?_
          exact (K775 _ _ own785 _ hd785 hz785 e785_0 e785_5 e785_8 e785_11 e785_12 hX785 b785_A405 b785_cA408 b785_A409 b785_cA410 b785_A411 b785_A545 hs).1
        refine fl_exit ?_
        refine hp735 _ _ _ rfl ?_
        replace hs := hz733 _ hs
        refine hp733 _ _ _ rfl ?_
        refine hx622 _ _ ?_
        refine hn620 _ _ ?_
        obtain ⟨r788, hr788, hs⟩ := obind hs
        obtain ⟨x789, hx789, hs⟩ := obind hs
        refine rg_plain_seq (n := 121) (rs := []) (own0 := own736) (K := [])
            (bs := [0, 1, 3, 3, 11, 27, 63, 127, 255])
            (ds := [⟨[], [], [], Fct.val 113 (.bool r788)⟩,
            ⟨[0], [], [], Fct.val 114 (.bool r788)⟩,
            ⟨[1], [11], [], Fct.cond r788 (some 115) (Fct.val 115 (.int .i64 n677))⟩,
            ⟨[1], [8], [], Fct.cond r788 (some 116) (Fct.val 116 (.slice A545 r544.length cA545))⟩,
            ⟨[1, 3], [], [], Fct.cond r788 (some 117) (Fct.val 117 (.int .i64 (r544.length : Int)))⟩,
            ⟨[1, 4], [], [], Fct.cond r788 (some 118) (Fct.val 118 (.int .i64 (ml 2 (r544.length : Int))))⟩,
            ⟨[1, 2, 5], [], [], Fct.cond r788 (some 119) (Fct.val 119 (.bool (decide (n677 = (ml 2 (r544.length : Int))))))⟩,
            ⟨[1, 6], [], [], Fct.val 120 (.bool x789)⟩,
            ⟨[7], [], [], Fct.val 4 (.bool x789)⟩]) (by kernel_rfl) hz736 hd736 (fun _ h => nomatch h) ?_ ?_
        · refine steps_cons (fun own a wx hf hsl hE => ?_) ?_
          · exact sg_plain rfl rfl (or_call cf14 (args0) (law06_known_w _   r788 hr788) post_val)
          refine steps_cons (fun own a wx hf hsl hE => ?_) ?_
          · obtain ⟨(f_113 : a.eval (.tmp 113) = .bool r788), -⟩ := hf
            exact sg_plain rfl rfl (or_move f_113)
          refine steps_cons (fun own a wx hf hsl hE => ?_) ?_
          · obtain ⟨(f_114 : a.eval (.tmp 114) = .bool r788), -⟩ := hf
            obtain ⟨s_11, -⟩ := hsl
            refine sg_t rfl rfl rfl f_114 (fun hg => ?_)
            exact or_move (s_11.trans e736_11)
          refine steps_cons (fun own a wx hf hsl hE => ?_) ?_
          · obtain ⟨(f_114 : a.eval (.tmp 114) = .bool r788), -⟩ := hf
            obtain ⟨s_8, -⟩ := hsl
            refine sg_t rfl rfl rfl f_114 (fun hg => ?_)
            exact or_move (s_8.trans e736_8)
          refine steps_cons (fun own a wx hf hsl hE => ?_) ?_
          · obtain ⟨(f_114 : a.eval (.tmp 114) = .bool r788), c_116, -⟩ := hf
            refine sg_t rfl rfl rfl f_114 (fun hg => ?_)
            have f_116 : a.eval (.tmp 116) = .slice A545 r544.length cA545 := c_116.1 hg
            exact or_len tu30 f_116 rfl
          refine steps_cons (fun own a wx hf hsl hE => ?_) ?_
          · obtain ⟨(f_114 : a.eval (.tmp 114) = .bool r788), c_117, -⟩ := hf
            refine sg_t rfl rfl rfl f_114 (fun hg => ?_)
            have f_117 : a.eval (.tmp 117) = .int .i64 (r544.length : Int) := c_117.1 hg
            exact or_mul rfl f_117 rfl
          refine steps_cons (fun own a wx hf hsl hE => ?_) ?_
          · obtain ⟨(f_114 : a.eval (.tmp 114) = .bool r788), c_115, c_118, -⟩ := hf
            refine sg_t rfl rfl rfl f_114 (fun hg => ?_)
            have f_115 : a.eval (.tmp 115) = .int .i64 n677 := c_115.1 hg
            have f_118 : a.eval (.tmp 118) = .int .i64 (ml 2 (r544.length : Int)) := c_118.1 hg
            exact or_eql f_115 f_118 rfl
          refine steps_cons (fun own a wx hf hsl hE => ?_) ?_
          · obtain ⟨(f_114 : a.eval (.tmp 114) = .bool r788), c_119, -⟩ := hf
            exact sg_plain rfl rfl (or_and f_114 (fun hx => c_119.1 hx) rfl (osome hx789).symm)
          refine steps_cons (fun own a wx hf hsl hE => ?_) ?_
          · obtain ⟨(f_120 : a.eval (.tmp 120) = .bool x789), -⟩ := hf
            exact sg_plain rfl rfl (or_assign f_120)
          exact steps_nil
        intro own790 a790 w790 hd790 hz790 hk790 hf790 hE790
        obtain ⟨(f_4 : a790.eval (.tmp 4) = .bool x789), -⟩ := hf790 [8] rfl
        have e790_4 := f_4
        have hX790 := Evo.step hX736 (fun _ => Nat.le_refl 0) hE790 rfl
        refine fl_ret ?_
        obtain rfl := (osome hs).symm
        exact hret _ _ _ _ (.inl rfl) hd790 (results1_ rfl (RVal.tmp_ e790_4)) ⟨own790, rfl, hX790⟩

end Go.Proofs.Ytajbjhcnppiloaa
