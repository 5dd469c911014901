import Derived.Test.YtnmkonlfnpcoiaaWp1
import Derived.Test.YtnmkonlfnpcoiaaSp2
namespace Go.Proofs.Ytnmkonlfnpcoiaa
open Go.RowKit
set_option linter.unusedVariables false
set_option maxRecDepth 10000
theorem sort_order2_func_w (w : World) (own : Own) (Tx : Type) (lf : List Tx → Int → Int → Option Bool) (ca : Value) (sv : Value) (th : Value) (l0 : List Tx) (Jx : Sj (List Tx)) (x1 : Int) (b2 : Int) (swaps3 : Int) (gswaps3 : Nat) (tswaps3 : TypeId) (hown : ∀ b, own b ≤ 2) (hL : LessS Try.prog 48 ca lf Jx) (hS : SwapS Try.prog 71 sv th Jx) (hJx : SoO Jx own 1 w l0) (hgswaps3 : BlkO own 2 w gswaps3 tswaps3 #[Zi swaps3]) (r : Int × Int × Int × (List Tx)) (hs : sort_order2_func Tx lf l0 x1 b2 swaps3 = some r) :
  Calls Try.prog 88 #[.agg #[.func (.func 48) #[] #[ca], .func (.func 71) #[] #[sv, th]], Zi x1, Zi b2, pt gswaps3 0] w fun e w' => ∃ (own' : Own), e = .returned (.tuple #[Zi r.1, Zi r.2.1]) ∧ Evo [1, 2] own own' w w' ∧ BlkO own' 2 w' gswaps3 tswaps3 #[Zi r.2.2.1] ∧ SoO Jx own' 1 w' r.2.2.2 := by
 refine fl_enter (n := 24) rfl rfl rfl (Nat.le_of_ble_eq_true rfl) ?_
 intro a0 Q d0 z0 harg hret
 have ha0 := harg 0 _ rfl
 have ha1 := harg 1 _ rfl
 have ha2 := harg 2 _ rfl
 have ha3 := harg 3 _ rfl
 clear harg
 have hE0 : Evo [1, 2] own own w w := Evo.refl _ _ _
 refine rq_seq 24 own [0, 0, 2] [⟨[], [0], [], Fct.blk 25 4 (fun g => pt g 0) 122 #[.func (.func 48) #[] #[ca], .func (.func 71) #[] #[sv, th]]⟩, dv [] [] 8 (Zi 0), dv [] [] 9 (Zi 0)] z0 d0 ?_ ?_
 ·exact sS (fun s => nw1 (s.1.trans ha0)) <| sO (or_assign rfl) <| sO (or_assign rfl) <| steps_nil
 intro o26 a26 w26 d26 z26 hk26 hf26 hE26
 obtain ⟨e26_1, e26_2, e26_3⟩ := kt3 hk26 ha1 ha2 ha3
 obtain ⟨⟨g24, (e26_4 : a26.eval (.tmp 4) = pt g24 0), (b26_g24 : BlkO o26 25 w26 g24 122 #[.func (.func 48) #[] #[ca], .func (.func 71) #[] #[sv, th]])⟩, -⟩ := hf26 [0] rfl
 have hX26 := Evo.step hE0 hown hE26 rfl
 have b26_Jx := SoO.evo (by decide) hE26 hJx
 have b26_gswaps3 := be_ hE26 hgswaps3
 refine fl_seq (fun Q27 hn27 hp27 => ?_)
 obtain ⟨b28, hb28, hs⟩ := obind hs
 refine rq_seq 24 o26 [0, 1, 0, 0, 15] [dv [] [4] 10 (pt g24 0), dv [0] [] 11 (.func (.func 48) #[] #[ca]), dv [] [2] 12 (Zi b2), dv [] [1] 13 (Zi x1), dv [1, 2, 3] [] 14 (.bool b28)] z26 d26 ?_ ?_
 ·exact sS (fun s => or_field fo122_0 (s.1.trans e26_4) (by rfl)) <| sG to100 b26_g24 <| sM e26_2 <| sM e26_1 <| sFE (fun f hE => or_callf cf48 f.1 (args2 f.2.1 f.2.2.1) rfl (hL _ _ _ _ _ _ _ (SoO.evo (by decide) hE b26_Jx) hb28) post_val) <| steps_nil
 intro o29 a29 w29 d29 z29 hk29 hf29 hE29
 obtain ⟨e29_1, e29_2, e29_3⟩ := kt3 hk29 e26_1 e26_2 e26_3
 have e29_14 := gv (hf29 [4] rfl) rfl
 have hX29 := Evo.step hX26 hown hE29 rfl
 have b29_Jx := SoO.evo (by decide) hE29 b26_Jx
 have b29_gswaps3 := be_ hE29 b26_gswaps3
 refine fl_cond e29_14 hs (fun c30 hs => ?_) (fun c30 hs => ?_)
 ·refine rr_seq 24 [Fct.at_ 2 gswaps3 tswaps3 #[Zi swaps3]] o29 [2] (bz 6) [dv [] [3] 15 (pt gswaps3 0), dv [0] [] 16 (pt gswaps3 0), dv [1, 6] [] 17 (Zi swaps3), dv [2] [] 18 (Zi (ad swaps3 1)), dv [0] [] 19 (pt gswaps3 0), ⟨[4, 3, 6], [], [2], Fct.at_ 31 gswaps3 tswaps3 #[Zi (ad swaps3 1)]⟩] z29 d29 (fm1 b29_gswaps3) ?_ ?_
  ·refine sM e29_3 <| sF (fun f => ok1 f.1) ?_
   refine sc (fun own a wx hf hsl hE => ?_) ?_
   ·obtain ⟨f_16, (b_gswaps3 : BlkO own 2 wx gswaps3 tswaps3 #[Zi swaps3]), -⟩ := hf
    exact px (ld1 to3 f_16 b_gswaps3)
   refine sF (fun f => or_add f.1 rfl rfl) <| sF (fun f => ok1 f.1) ?_
   refine sc (fun own a wx hf hsl hE => ?_) ?_
   ·obtain ⟨f_19, f_18, b_gswaps3, -⟩ := hf
    exact px (or_store1 (lab := 2) (lab2 := 31) ts3 f_19 f_18 b_gswaps3 (by simp) rfl (mem_of rfl) (by decide) rfl (fun own' a' w' ha hb => hb))
   exact steps_nil
  intro o32 a32 w32 d32 z32 hk32 hf32 hE32
  obtain ⟨e32_1, e32_2, e32_3⟩ := kt3 hk32 e29_1 e29_2 e29_3
  obtain ⟨(b32_gswaps3 : BlkO o32 31 w32 gswaps3 tswaps3 #[Zi (ad swaps3 1)]), -⟩ := hf32 [5] rfl
  have hX32 := Evo.step hX29 hown hE32 rfl
  have b32_Jx := SoO.evo (by decide) hE32 b29_Jx
  refine rq_seq 24 o32 [0, 0, 1, 7] [dv [] [2] 20 (Zi b2), dv [] [1] 21 (Zi x1), dv [0] [] 8 (Zi b2), dv [1] [] 9 (Zi x1)] z32 d32 ?_ ?_
  ·exact sM e32_2 <| sM e32_1 <| sA <| sA <| steps_nil
  intro o33 a33 w33 d33 z33 hk33 hf33 hE33
  have e33_3 := kt hk33 e32_3
  have e33_8 := gv (hf33 [2] rfl) rfl
  have e33_9 := gv (hf33 [3] rfl) rfl
  have hX33 := Evo.step hX32 hown hE33 rfl
  have b33_Jx := SoO.evo (by decide) hE33 b32_Jx
  have b33_gswaps3 := be_ hE33 b32_gswaps3
  refine fl_ret ?_
  refine hp27 _ _ _ rfl ?_
  obtain rfl := osome hs
  exact hret _ _ _ _ (.inl rfl) d33 (results2_ rfl (RVal.tmp_ e33_8) (RVal.tmp_ e33_9)) ⟨(rl [(31, 2)] o33), rfl, (Evo.rl_ hX33 hown rfl), (BlkO.rl_ b33_gswaps3), (SoO.rl_ b33_Jx)⟩
 refine fl_skip ?_
 refine hn27 _ _ ?_
 refine rq_seq 24 o29 [0, 0, 1, 7] [dv [] [1] 22 (Zi x1), dv [] [2] 23 (Zi b2), dv [0] [] 8 (Zi x1), dv [1] [] 9 (Zi b2)] z29 d29 ?_ ?_
 ·exact sM e29_1 <| sM e29_2 <| sA <| sA <| steps_nil
 intro o34 a34 w34 d34 z34 hk34 hf34 hE34
 have e34_3 := kt hk34 e29_3
 have e34_8 := gv (hf34 [2] rfl) rfl
 have e34_9 := gv (hf34 [3] rfl) rfl
 have hX34 := Evo.step hX29 hown hE34 rfl
 have b34_Jx := SoO.evo (by decide) hE34 b29_Jx
 have b34_gswaps3 := be_ hE34 b29_gswaps3
 refine fl_ret ?_
 obtain rfl := osome hs
 exact hret _ _ _ _ (.inl rfl) d34 (results2_ rfl (RVal.tmp_ e34_8) (RVal.tmp_ e34_9)) ⟨o34, rfl, hX34, b34_gswaps3, b34_Jx⟩
theorem sort_median_func_w (w : World) (own : Own) (Tx : Type) (lf : List Tx → Int → Int → Option Bool) (ca : Value) (sv : Value) (th : Value) (l0 : List Tx) (Jx : Sj (List Tx)) (x1 : Int) (b2 : Int) (c3 : Int) (swaps4 : Int) (gswaps4 : Nat) (tswaps4 : TypeId) (hown : ∀ b, own b ≤ 2) (hL : LessS Try.prog 48 ca lf Jx) (hS : SwapS Try.prog 71 sv th Jx) (hJx : SoO Jx own 1 w l0) (hgswaps4 : BlkO own 2 w gswaps4 tswaps4 #[Zi swaps4]) (r : Int × Int × (List Tx)) (hs : sort_median_func Tx lf l0 x1 b2 c3 swaps4 = some r) :
  Calls Try.prog 87 #[.agg #[.func (.func 48) #[] #[ca], .func (.func 71) #[] #[sv, th]], Zi x1, Zi b2, Zi c3, pt gswaps4 0] w fun e w' => ∃ (own' : Own), e = .returned (Zi r.1) ∧ Evo [1, 2] own own' w w' ∧ BlkO own' 2 w' gswaps4 tswaps4 #[Zi r.2.1] ∧ SoO Jx own' 1 w' r.2.2 := by
 refine fl_enter (n := 36) rfl rfl rfl (Nat.le_of_ble_eq_true rfl) ?_
 intro a0 Q d0 z0 harg hret
 have ha0 := harg 0 _ rfl
 have ha1 := harg 1 _ rfl
 have ha2 := harg 2 _ rfl
 have ha3 := harg 3 _ rfl
 have ha4 := harg 4 _ rfl
 clear harg
 have hE0 : Evo [1, 2] own own w w := Evo.refl _ _ _
 refine rq_seq 36 own [0, 0] [⟨[], [0], [], Fct.blk 30 5 (fun g => pt g 0) 122 #[.func (.func 48) #[] #[ca], .func (.func 71) #[] #[sv, th]]⟩, dv [] [] 10 (Zi 0)] z0 d0 ?_ ?_
 ·exact sS (fun s => nw1 (s.1.trans ha0)) <| sO (or_assign rfl) <| steps_nil
 intro o31 a31 w31 d31 z31 hk31 hf31 hE31
 obtain ⟨e31_1, e31_2, e31_3, e31_4⟩ := kt4 hk31 ha1 ha2 ha3 ha4
 obtain ⟨⟨g29, (e31_5 : a31.eval (.tmp 5) = pt g29 0), (b31_g29 : BlkO o31 30 w31 g29 122 #[.func (.func 48) #[] #[ca], .func (.func 71) #[] #[sv, th]])⟩, -⟩ := hf31 [0] rfl
 have hX31 := Evo.step hE0 hown hE31 rfl
 have b31_Jx := SoO.evo (by decide) hE31 hJx
 have b31_gswaps4 := be_ hE31 hgswaps4
 obtain ⟨r32, hr32, hs⟩ := obind hs
 refine rr_seq 36 [Fct.soAt Jx 1 l0, Fct.at_ 2 gswaps4 tswaps4 #[Zi swaps4]] o31 [1, 2] [0, 0, 0, 0, 15, 31, 63, 63, 127, 511] [dv [] [5] 12 (.agg #[.func (.func 48) #[] #[ca], .func (.func 71) #[] #[sv, th]]), dv [] [1] 13 (Zi x1), dv [] [2] 14 (Zi b2), dv [] [4] 15 (pt gswaps4 0), ⟨[0, 1, 2, 3, 10, 11], [], [1, 2], Fct.mems [33, 34] 16 (fun (_ : Unit) => .tuple #[Zi r32.1, Zi r32.2.1]) (fun (_ : Unit) own w => BlkO own 33 w gswaps4 tswaps4 #[Zi r32.2.2.1] ∧ SoO Jx own 34 w r32.2.2.2) (fun hk he h => ⟨BlkO.evo (not_hit hk (by decide)) he h.1, SoO.evo (not_hit hk (by decide)) he h.2⟩)⟩, dv [4] [] 11 (.tuple #[Zi r32.1, Zi r32.2.1]), dv [5] [] 17 (Zi r32.1), dv [5] [] 18 (Zi r32.2.1), dv [6] [] 1 (Zi r32.1), dv [7] [] 2 (Zi r32.2.1)] z31 d31 (fm2 b31_Jx b31_gswaps4) ?_ ?_
 ·refine sL ta122 e31_5 b31_g29 <| sM e31_1 <| sM e31_2 <| sM e31_4 ?_
  refine sc (fun own a wx hf hsl hE => ?_) ?_
  ·obtain ⟨f_12, f_13, f_14, f_15, b_Jx, b_gswaps4, -⟩ := hf
   exact px (or_call cf88 (args4 f_12 f_13 f_14 f_15) (sort_order2_func_w _ (forth own (look0 [(1, 1), (2, 2)])) Tx lf ca sv th l0 Jx x1 b2 swaps4 gswaps4 tswaps4 (look0_le rfl) hL hS (SoO.forth_ (m := (look0 [(1, 1), (2, 2)])) b_Jx) (BlkO.forth_ (m := (look0 [(1, 1), (2, 2)])) b_gswaps4) r32 hr32) (post_mems0 (m := (look0 [(1, 1), (2, 2)])) (m' := (look0 [(1, 34), (2, 33)])) (hm_of rfl) (fun own' w' a' h1 h => ⟨(), h1, ⟨BlkO.back_ h.1 (by decide), SoO.back_ h.2 (by decide)⟩⟩)))
  refine sc (fun own a wx hf hsl hE => ?_) ?_
  ·obtain ⟨⟨_, f_16, b_gswaps4, b_Jx⟩, -⟩ := hf
   exact px (or_move f_16)
  exact sF (fun f => ok1 f.1) <| sF (fun f => ok1 f.1) <| sA <| sA <| steps_nil
 intro o35 a35 w35 d35 z35 hk35 hf35 hE35
 obtain ⟨e35_3, e35_4, e35_5⟩ := kt3 hk35 e31_3 e31_4 e31_5
 have e35_1 := gv (hf35 [8] rfl) rfl
 have e35_2 := gv (hf35 [9] rfl) rfl
 obtain ⟨⟨_, (f_16 : a35.eval (.tmp 16) = .tuple #[Zi r32.1, Zi r32.2.1]), (b35_gswaps4 : BlkO o35 33 w35 gswaps4 tswaps4 #[Zi r32.2.2.1]), (b35_Jx : SoO Jx o35 34 w35 r32.2.2.2)⟩, -⟩ := hf35 [4] rfl
 have hX35 := Evo.step hX31 hown hE35 rfl
 have b35_g29 := be_ hE35 b31_g29
 obtain ⟨r36, hr36, hs⟩ := obind hs
 refine rr_seq 36 [Fct.soAt Jx 34 r32.2.2.2, Fct.at_ 33 gswaps4 tswaps4 #[Zi r32.2.2.1]] o35 [34, 33] [0, 0, 0, 0, 15, 31, 63, 63, 127, 511] [dv [] [5] 20 (.agg #[.func (.func 48) #[] #[ca], .func (.func 71) #[] #[sv, th]]), dv [] [2] 21 (Zi r32.2.1), dv [] [3] 22 (Zi c3), dv [] [4] 23 (pt gswaps4 0), ⟨[0, 1, 2, 3, 10, 11], [], [34, 33], Fct.mems [37, 38] 24 (fun (_ : Unit) => .tuple #[Zi r36.1, Zi r36.2.1]) (fun (_ : Unit) own w => BlkO own 37 w gswaps4 tswaps4 #[Zi r36.2.2.1] ∧ SoO Jx own 38 w r36.2.2.2) (fun hk he h => ⟨BlkO.evo (not_hit hk (by decide)) he h.1, SoO.evo (not_hit hk (by decide)) he h.2⟩)⟩, dv [4] [] 19 (.tuple #[Zi r36.1, Zi r36.2.1]), dv [5] [] 25 (Zi r36.1), dv [5] [] 26 (Zi r36.2.1), dv [6] [] 2 (Zi r36.1), dv [7] [] 3 (Zi r36.2.1)] z35 d35 (fm2 b35_Jx b35_gswaps4) ?_ ?_
 ·refine sL ta122 e35_5 b35_g29 <| sM e35_2 <| sM e35_3 <| sM e35_4 ?_
  refine sc (fun own a wx hf hsl hE => ?_) ?_
  ·obtain ⟨f_20, f_21, f_22, f_23, b_Jx, b_gswaps4, -⟩ := hf
   exact px (or_call cf88 (args4 f_20 f_21 f_22 f_23) (sort_order2_func_w _ (forth own (look0 [(33, 2), (34, 1)])) Tx lf ca sv th r32.2.2.2 Jx r32.2.1 c3 r32.2.2.1 gswaps4 tswaps4 (look0_le rfl) hL hS (SoO.forth_ (m := (look0 [(33, 2), (34, 1)])) b_Jx) (BlkO.forth_ (m := (look0 [(33, 2), (34, 1)])) b_gswaps4) r36 hr36) (post_mems0 (m := (look0 [(33, 2), (34, 1)])) (m' := (look0 [(1, 38), (2, 37)])) (hm_of rfl) (fun own' w' a' h1 h => ⟨(), h1, ⟨BlkO.back_ h.1 (by decide), SoO.back_ h.2 (by decide)⟩⟩)))
  refine sc (fun own a wx hf hsl hE => ?_) ?_
  ·obtain ⟨⟨_, f_24, b_gswaps4, b_Jx⟩, -⟩ := hf
   exact px (or_move f_24)
  exact sF (fun f => ok1 f.1) <| sF (fun f => ok1 f.1) <| sA <| sA <| steps_nil
 intro o39 a39 w39 d39 z39 hk39 hf39 hE39
 obtain ⟨e39_1, e39_4, e39_5⟩ := kt3 hk39 e35_1 e35_4 e35_5
 have e39_2 := gv (hf39 [8] rfl) rfl
 obtain ⟨⟨_, (f_24 : a39.eval (.tmp 24) = .tuple #[Zi r36.1, Zi r36.2.1]), (b39_gswaps4 : BlkO o39 37 w39 gswaps4 tswaps4 #[Zi r36.2.2.1]), (b39_Jx : SoO Jx o39 38 w39 r36.2.2.2)⟩, -⟩ := hf39 [4] rfl
 have hX39 := Evo.step hX35 hown hE39 rfl
 have b39_g29 := be_ hE39 b35_g29
 obtain ⟨r40, hr40, hs⟩ := obind hs
 refine rr_seq 36 [Fct.soAt Jx 38 r36.2.2.2, Fct.at_ 37 gswaps4 tswaps4 #[Zi r36.2.2.1]] o39 [38, 37] [0, 0, 0, 0, 15, 31, 63, 63, 127, 511] [dv [] [5] 28 (.agg #[.func (.func 48) #[] #[ca], .func (.func 71) #[] #[sv, th]]), dv [] [1] 29 (Zi r32.1), dv [] [2] 30 (Zi r36.1), dv [] [4] 31 (pt gswaps4 0), ⟨[0, 1, 2, 3, 10, 11], [], [38, 37], Fct.mems [41, 42] 32 (fun (_ : Unit) => .tuple #[Zi r40.1, Zi r40.2.1]) (fun (_ : Unit) own w => BlkO own 41 w gswaps4 tswaps4 #[Zi r40.2.2.1] ∧ SoO Jx own 42 w r40.2.2.2) (fun hk he h => ⟨BlkO.evo (not_hit hk (by decide)) he h.1, SoO.evo (not_hit hk (by decide)) he h.2⟩)⟩, dv [4] [] 27 (.tuple #[Zi r40.1, Zi r40.2.1]), dv [5] [] 33 (Zi r40.1), dv [5] [] 34 (Zi r40.2.1), dv [6] [] 1 (Zi r40.1), dv [7] [] 2 (Zi r40.2.1)] z39 d39 (fm2 b39_Jx b39_gswaps4) ?_ ?_
 ·refine sL ta122 e39_5 b39_g29 <| sM e39_1 <| sM e39_2 <| sM e39_4 ?_
  refine sc (fun own a wx hf hsl hE => ?_) ?_
  ·obtain ⟨f_28, f_29, f_30, f_31, b_Jx, b_gswaps4, -⟩ := hf
   exact px (or_call cf88 (args4 f_28 f_29 f_30 f_31) (sort_order2_func_w _ (forth own (look0 [(37, 2), (38, 1)])) Tx lf ca sv th r36.2.2.2 Jx r32.1 r36.1 r36.2.2.1 gswaps4 tswaps4 (look0_le rfl) hL hS (SoO.forth_ (m := (look0 [(37, 2), (38, 1)])) b_Jx) (BlkO.forth_ (m := (look0 [(37, 2), (38, 1)])) b_gswaps4) r40 hr40) (post_mems0 (m := (look0 [(37, 2), (38, 1)])) (m' := (look0 [(1, 42), (2, 41)])) (hm_of rfl) (fun own' w' a' h1 h => ⟨(), h1, ⟨BlkO.back_ h.1 (by decide), SoO.back_ h.2 (by decide)⟩⟩)))
  refine sc (fun own a wx hf hsl hE => ?_) ?_
  ·obtain ⟨⟨_, f_32, b_gswaps4, b_Jx⟩, -⟩ := hf
   exact px (or_move f_32)
  exact sF (fun f => ok1 f.1) <| sF (fun f => ok1 f.1) <| sA <| sA <| steps_nil
 intro o43 a43 w43 d43 z43 hk43 hf43 hE43
 have e43_4 := kt hk43 e39_4
 have e43_2 := gv (hf43 [9] rfl) rfl
 obtain ⟨⟨_, (f_32 : a43.eval (.tmp 32) = .tuple #[Zi r40.1, Zi r40.2.1]), (b43_gswaps4 : BlkO o43 41 w43 gswaps4 tswaps4 #[Zi r40.2.2.1]), (b43_Jx : SoO Jx o43 42 w43 r40.2.2.2)⟩, -⟩ := hf43 [4] rfl
 have hX43 := Evo.step hX39 hown hE43 rfl
 refine rq_seq 36 o43 (bz 2) [dv [] [2] 35 (Zi r40.2.1), dv [0] [] 10 (Zi r40.2.1)] z43 d43 ?_ ?_
 ·exact sM e43_2 <| sA <| steps_nil
 intro o44 a44 w44 d44 z44 hk44 hf44 hE44
 have e44_4 := kt hk44 e43_4
 have e44_10 := gv (hf44 [1] rfl) rfl
 have hX44 := Evo.step hX43 hown hE44 rfl
 have b44_Jx := SoO.evo (by decide) hE44 b43_Jx
 have b44_gswaps4 := be_ hE44 b43_gswaps4
 refine fl_ret ?_
 obtain rfl := osome hs
 exact hret _ _ _ _ (.inl rfl) d44 (results1_ rfl (RVal.tmp_ e44_10)) ⟨(rl [(41, 2), (42, 1)] o44), rfl, (Evo.rl_ hX44 hown rfl), (BlkO.rl_ b44_gswaps4), (SoO.rl_ b44_Jx)⟩
theorem sort_medianAdjacent_func_w (w : World) (own : Own) (Tx : Type) (lf : List Tx → Int → Int → Option Bool) (ca : Value) (sv : Value) (th : Value) (l0 : List Tx) (Jx : Sj (List Tx)) (x1 : Int) (swaps2 : Int) (gswaps2 : Nat) (tswaps2 : TypeId) (hown : ∀ b, own b ≤ 2) (hL : LessS Try.prog 48 ca lf Jx) (hS : SwapS Try.prog 71 sv th Jx) (hJx : SoO Jx own 1 w l0) (hgswaps2 : BlkO own 2 w gswaps2 tswaps2 #[Zi swaps2]) (r : Int × Int × (List Tx)) (hs : sort_medianAdjacent_func Tx lf l0 x1 swaps2 = some r) :
  Calls Try.prog 86 #[.agg #[.func (.func 48) #[] #[ca], .func (.func 71) #[] #[sv, th]], Zi x1, pt gswaps2 0] w fun e w' => ∃ (own' : Own), e = .returned (Zi r.1) ∧ Evo [1, 2] own own' w w' ∧ BlkO own' 2 w' gswaps2 tswaps2 #[Zi r.2.1] ∧ SoO Jx own' 1 w' r.2.2 := by
 refine fl_enter (n := 15) rfl rfl rfl (Nat.le_of_ble_eq_true rfl) ?_
 intro a0 Q d0 z0 harg hret
 have ha0 := harg 0 _ rfl
 have ha1 := harg 1 _ rfl
 have ha2 := harg 2 _ rfl
 clear harg
 have hE0 : Evo [1, 2] own own w w := Evo.refl _ _ _
 refine rq_seq 15 own [0, 0] [⟨[], [0], [], Fct.blk 21 3 (fun g => pt g 0) 122 #[.func (.func 48) #[] #[ca], .func (.func 71) #[] #[sv, th]]⟩, dv [] [] 6 (Zi 0)] z0 d0 ?_ ?_
 ·exact sS (fun s => nw1 (s.1.trans ha0)) <| sO (or_assign rfl) <| steps_nil
 intro o22 a22 w22 d22 z22 hk22 hf22 hE22
 obtain ⟨e22_1, e22_2⟩ := kt2 hk22 ha1 ha2
 obtain ⟨⟨g20, (e22_3 : a22.eval (.tmp 3) = pt g20 0), (b22_g20 : BlkO o22 21 w22 g20 122 #[.func (.func 48) #[] #[ca], .func (.func 71) #[] #[sv, th]])⟩, -⟩ := hf22 [0] rfl
 have hX22 := Evo.step hE0 hown hE22 rfl
 have b22_Jx := SoO.evo (by decide) hE22 hJx
 have b22_gswaps2 := be_ hE22 hgswaps2
 obtain ⟨r23, hr23, hs⟩ := obind hs
 refine rr_seq 15 [Fct.soAt Jx 1 l0, Fct.at_ 2 gswaps2 tswaps2 #[Zi swaps2]] o22 [1, 2] [0, 0, 2, 0, 0, 16, 0, 127, 255] [dv [] [3] 7 (.agg #[.func (.func 48) #[] #[ca], .func (.func 71) #[] #[sv, th]]), dv [] [1] 8 (Zi x1), dv [1] [] 9 (Zi (sb x1 1)), dv [] [1] 10 (Zi x1), dv [] [1] 11 (Zi x1), dv [4] [] 12 (Zi (ad x1 1)), dv [] [2] 13 (pt gswaps2 0), ⟨[0, 2, 3, 5, 6, 9, 10], [], [1, 2], Fct.mems [24, 25] 14 (fun (_ : Unit) => Zi r23.1) (fun (_ : Unit) own w => BlkO own 24 w gswaps2 tswaps2 #[Zi r23.2.1] ∧ SoO Jx own 25 w r23.2.2) (fun hk he h => ⟨BlkO.evo (not_hit hk (by decide)) he h.1, SoO.evo (not_hit hk (by decide)) he h.2⟩)⟩, dv [7] [] 6 (Zi r23.1)] z22 d22 (fm2 b22_Jx b22_gswaps2) ?_ ?_
 ·refine sL ta122 e22_3 b22_g20 <| sM e22_1 <| sF (fun f => or_sub f.1 rfl rfl) <| sM e22_1 <| sM e22_1 <| sF (fun f => or_add f.1 rfl rfl) <| sM e22_2 ?_
  refine sc (fun own a wx hf hsl hE => ?_) ?_
  ·obtain ⟨f_7, f_9, f_10, f_12, f_13, b_Jx, b_gswaps2, -⟩ := hf
   exact px (or_call cf87 (args5 f_7 f_9 f_10 f_12 f_13) (sort_median_func_w _ (forth own (look0 [(1, 1), (2, 2)])) Tx lf ca sv th l0 Jx (sb x1 1) x1 (ad x1 1) swaps2 gswaps2 tswaps2 (look0_le rfl) hL hS (SoO.forth_ (m := (look0 [(1, 1), (2, 2)])) b_Jx) (BlkO.forth_ (m := (look0 [(1, 1), (2, 2)])) b_gswaps2) r23 hr23) (post_mems0 (m := (look0 [(1, 1), (2, 2)])) (m' := (look0 [(1, 25), (2, 24)])) (hm_of rfl) (fun own' w' a' h1 h => ⟨(), h1, ⟨BlkO.back_ h.1 (by decide), SoO.back_ h.2 (by decide)⟩⟩)))
  refine sc (fun own a wx hf hsl hE => ?_) ?_
  ·obtain ⟨⟨_, f_14, b_gswaps2, b_Jx⟩, -⟩ := hf
   exact px (or_assign f_14)
  exact steps_nil
 intro o26 a26 w26 d26 z26 hk26 hf26 hE26
 have e26_2 := kt hk26 e22_2
 have e26_6 := gv (hf26 [8] rfl) rfl
 obtain ⟨⟨_, (f_14 : a26.eval (.tmp 14) = Zi r23.1), (b26_gswaps2 : BlkO o26 24 w26 gswaps2 tswaps2 #[Zi r23.2.1]), (b26_Jx : SoO Jx o26 25 w26 r23.2.2)⟩, -⟩ := hf26 [7] rfl
 have hX26 := Evo.step hX22 hown hE26 rfl
 refine fl_ret ?_
 obtain rfl := osome hs
 exact hret _ _ _ _ (.inl rfl) d26 (results1_ rfl (RVal.tmp_ e26_6)) ⟨(rl [(24, 2), (25, 1)] o26), rfl, (Evo.rl_ hX26 hown rfl), (BlkO.rl_ b26_gswaps2), (SoO.rl_ b26_Jx)⟩
theorem sort_choosePivot_func_w (w : World) (own : Own) (Tx : Type) (lf : List Tx → Int → Int → Option Bool) (ca : Value) (sv : Value) (th : Value) (l0 : List Tx) (Jx : Sj (List Tx)) (x1 : Int) (b2 : Int) (hown : ∀ b, own b ≤ 1) (hL : LessS Try.prog 48 ca lf Jx) (hS : SwapS Try.prog 71 sv th Jx) (hJx : SoO Jx own 1 w l0) (r : Int × Int × (List Tx)) (hs : sort_choosePivot_func Tx lf l0 x1 b2 = some r) :
  Calls Try.prog 77 #[.agg #[.func (.func 48) #[] #[ca], .func (.func 71) #[] #[sv, th]], Zi x1, Zi b2] w fun e w' => ∃ (own' : Own), e = .returned (.tuple #[Zi r.1, Zi r.2.1]) ∧ Evo [1] own own' w w' ∧ SoO Jx own' 1 w' r.2.2 := by
 refine fl_enter (n := 57) rfl rfl rfl (Nat.le_of_ble_eq_true rfl) ?_
 intro a0 Q d0 z0 harg hret
 have ha0 := harg 0 _ rfl
 have ha1 := harg 1 _ rfl
 have ha2 := harg 2 _ rfl
 clear harg
 have hE0 : Evo [1] own own w w := Evo.refl _ _ _
 refine rq_seq 57 own [0, 0, 2] [⟨[], [0], [], Fct.blk 131 3 (fun g => pt g 0) 122 #[.func (.func 48) #[] #[ca], .func (.func 71) #[] #[sv, th]]⟩, dv [] [] 6 (Zi 0), dv [] [] 7 (Zi 0)] z0 d0 ?_ ?_
 ·exact sS (fun s => nw1 (s.1.trans ha0)) <| sO (or_assign rfl) <| sO (or_assign rfl) <| steps_nil
 intro o132 a132 w132 d132 z132 hk132 hf132 hE132
 obtain ⟨e132_1, e132_2⟩ := kt2 hk132 ha1 ha2
 obtain ⟨⟨g130, (e132_3 : a132.eval (.tmp 3) = pt g130 0), (b132_g130 : BlkO o132 131 w132 g130 122 #[.func (.func 48) #[] #[ca], .func (.func 71) #[] #[sv, th]])⟩, -⟩ := hf132 [0] rfl
 have hX132 := Evo.step hE0 hown hE132 rfl
 have b132_Jx := SoO.evo (by decide) hE132 hJx
 refine rq_seq 57 o132 [0, 0, 3, 7] [dv [] [2] 13 (Zi b2), dv [] [1] 14 (Zi x1), dv [0, 1] [] 15 (Zi (sb b2 x1)), dv [2] [] 8 (Zi (sb b2 x1))] z132 d132 ?_ ?_
 ·exact sM e132_2 <| sM e132_1 <| sF (fun f => or_sub f.1 f.2.1 rfl) <| sA <| steps_nil
 intro o133 a133 w133 d133 z133 hk133 hf133 hE133
 obtain ⟨e133_1, e133_3⟩ := kt2 hk133 e132_1 e132_3
 have e133_8 := gv (hf133 [3] rfl) rfl
 have hX133 := Evo.step hX132 hown hE133 rfl
 have b133_Jx := SoO.evo (by decide) hE133 b132_Jx
 have b133_g130 := be_ hE133 b132_g130
 refine rq_seq 57 o133 (bz 1) [⟨[], [], [], Fct.blk 135 9 (fun g => pt g 0) 3 #[Zi 0]⟩] z133 d133 ?_ ?_
 ·exact sO (nw0) <| steps_nil
 intro o136 a136 w136 d136 z136 hk136 hf136 hE136
 obtain ⟨e136_1, e136_3, e136_8⟩ := kt3 hk136 e133_1 e133_3 e133_8
 obtain ⟨⟨g134, (e136_9 : a136.eval (.tmp 9) = pt g134 0), (b136_g134 : BlkO o136 135 w136 g134 3 #[Zi 0])⟩, -⟩ := hf136 [0] rfl
 have hX136 := Evo.step hX133 hown hE136 rfl
 have b136_Jx := SoO.evo (by decide) hE136 b133_Jx
 have b136_g130 := be_ hE136 b133_g130
 obtain ⟨x137, hx137, hs⟩ := obind hs
 refine rq_seq 57 o136 [0, 0, 2, 6, 15, 31] [dv [] [1] 16 (Zi x1), dv [] [8] 17 (Zi (sb b2 x1)), dv [1] [] 18 (Zi x137), dv [2] [] 19 (Zi (ml x137 1)), dv [0, 3] [] 20 (Zi (ad x1 (ml x137 1))), dv [4] [] 10 (Zi (ad x1 (ml x137 1)))] z136 d136 ?_ ?_
 ·exact sM e136_1 <| sM e136_8 <| sF (fun f => or_quo f.1 rfl hx137) <| sF (fun f => or_mul f.1 rfl rfl) <| sF (fun f => or_add f.1 f.2.1 rfl) <| sA <| steps_nil
 intro o138 a138 w138 d138 z138 hk138 hf138 hE138
 obtain ⟨e138_1, e138_3, e138_8, e138_9⟩ := kt4 hk138 e136_1 e136_3 e136_8 e136_9
 have e138_10 := gv (hf138 [5] rfl) rfl
 have hX138 := Evo.step hX136 hown hE138 rfl
 have b138_Jx := SoO.evo (by decide) hE138 b136_Jx
 obtain ⟨b138_g130, b138_g134⟩ := be2 hE138 b136_g130 b136_g134
 obtain ⟨x139, hx139, hs⟩ := obind hs
 refine rq_seq 57 o138 [0, 0, 2, 6, 15, 31] [dv [] [1] 21 (Zi x1), dv [] [8] 22 (Zi (sb b2 x1)), dv [1] [] 23 (Zi x139), dv [2] [] 24 (Zi (ml x139 2)), dv [0, 3] [] 25 (Zi (ad x1 (ml x139 2))), dv [4] [] 11 (Zi (ad x1 (ml x139 2)))] z138 d138 ?_ ?_
 ·exact sM e138_1 <| sM e138_8 <| sF (fun f => or_quo f.1 rfl hx139) <| sF (fun f => or_mul f.1 rfl rfl) <| sF (fun f => or_add f.1 f.2.1 rfl) <| sA <| steps_nil
 intro o140 a140 w140 d140 z140 hk140 hf140 hE140
 obtain ⟨e140_1, e140_3, e140_8, e140_9, e140_10⟩ := kt5 hk140 e138_1 e138_3 e138_8 e138_9 e138_10
 have e140_11 := gv (hf140 [5] rfl) rfl
 have hX140 := Evo.step hX138 hown hE140 rfl
 have b140_Jx := SoO.evo (by decide) hE140 b138_Jx
 obtain ⟨b140_g130, b140_g134⟩ := be2 hE140 b138_g130 b138_g134
 obtain ⟨x141, hx141, hs⟩ := obind hs
 refine rq_seq 57 o140 [0, 0, 2, 6, 15, 31] [dv [] [1] 26 (Zi x1), dv [] [8] 27 (Zi (sb b2 x1)), dv [1] [] 28 (Zi x141), dv [2] [] 29 (Zi (ml x141 3)), dv [0, 3] [] 30 (Zi (ad x1 (ml x141 3))), dv [4] [] 12 (Zi (ad x1 (ml x141 3)))] z140 d140 ?_ ?_
 ·exact sM e140_1 <| sM e140_8 <| sF (fun f => or_quo f.1 rfl hx141) <| sF (fun f => or_mul f.1 rfl rfl) <| sF (fun f => or_add f.1 f.2.1 rfl) <| sA <| steps_nil
 intro o142 a142 w142 d142 z142 hk142 hf142 hE142
 obtain ⟨e142_3, e142_8, e142_9, e142_10, e142_11⟩ := kt5 hk142 e140_3 e140_8 e140_9 e140_10 e140_11
 have e142_12 := gv (hf142 [5] rfl) rfl
 have hX142 := Evo.step hX140 hown hE142 rfl
 have b142_Jx := SoO.evo (by decide) hE142 b140_Jx
 obtain ⟨b142_g130, b142_g134⟩ := be2 hE142 b140_g130 b140_g134
 refine fl_seq (fun Q143 hn143 hp143 => ?_)
 have K193 : ∀ (a193 : Act) (w193 : World) (o193 : Own) (swaps189 : Int) (j190 : Int) (l191 : List Tx), a193.defers = [] → a193.tmps.size = 57 → a193.eval (.tmp 9) = pt g134 0 → a193.eval (.tmp 11) = Zi j190 → Evo [1] own o193 w w193 → BlkO o193 188 w193 g134 3 #[Zi swaps189] → SoO Jx o193 192 w193 l191 → sort_choosePivot_func_k1 Tx swaps189 j190 l191 = some r → Q143 .normal a193 w193 := by
  intro a193 w193 o193 swaps189 j190 l191 d194 z194 e194_9 e194_11 hE194 b194_g134 b194_Jx hs
  refine hn143 _ _ ?_
  refine rq_seq 57 o193 (bz 1) [dv [] [9] 49 (Zi swaps189)] z194 d194 ?_ ?_
  ·exact sL1 to3 e194_9 b194_g134 <| steps_nil
  intro o195 a195 w195 d195 z195 hk195 hf195 hE195
  have e195_11 := kt hk195 e194_11
  have e195_49 := gv (hf195 [0] rfl) rfl
  have hX195 := Evo.step hE194 hown hE195 rfl
  have b195_Jx := SoO.evo (by decide) hE195 b194_Jx
  refine fl_block (fun Q196 hn196 hx196 hp196 => ?_)
  refine rq_seq 57 o195 (bz 2) [dv [] [49] 52 (.bool (decide (swaps189 = 0))), dv [0] [] 51 (.bool (decide (swaps189 = 0)))] z195 d195 ?_ ?_
  ·exact sS (fun s => or_eql (s.1.trans e195_49) rfl rfl) <| sA <| steps_nil
  intro o197 a197 w197 d197 z197 hk197 hf197 hE197
  obtain ⟨e197_11, e197_49⟩ := kt2 hk197 e195_11 e195_49
  have e197_51 := gv (hf197 [1] rfl) rfl
  have hX197 := Evo.step hX195 hown hE197 rfl
  have b197_Jx := SoO.evo (by decide) hE197 b195_Jx
  refine fl_cond e197_51 hs (fun c198 hs => ?_) (fun c198 hs => ?_)
  ·refine rq_seq 57 o197 (bz 3) [dv [] [11] 53 (Zi j190), dv [0] [] 6 (Zi j190), dv [] [] 7 (Zi 1)] z197 d197 ?_ ?_
   ·exact sM e197_11 <| sA <| sO (or_assign rfl) <| steps_nil
   intro o199 a199 w199 d199 z199 hk199 hf199 hE199
   have e199_6 := gv (hf199 [1] rfl) rfl
   have e199_7 := gv (hf199 [2] rfl) rfl
   have hX199 := Evo.step hX197 hown hE199 rfl
   have b199_Jx := SoO.evo (by decide) hE199 b197_Jx
   refine fl_ret ?_
   refine hp196 _ _ _ rfl ?_
   obtain rfl := osome hs
   exact hret _ _ _ _ (.inl rfl) d199 (results2_ rfl (RVal.tmp_ e199_6) (RVal.tmp_ e199_7)) ⟨(rl [(192, 1)] o199), rfl, (Evo.rl_ hX199 hown rfl), (SoO.rl_ b199_Jx)⟩
  refine rq_seq 57 o197 (bz 2) [dv [] [49] 55 (.bool (decide (swaps189 = 12))), dv [0] [] 54 (.bool (decide (swaps189 = 12)))] z197 d197 ?_ ?_
  ·exact sS (fun s => or_eql (s.1.trans e197_49) rfl rfl) <| sA <| steps_nil
  intro o200 a200 w200 d200 z200 hk200 hf200 hE200
  have e200_11 := kt hk200 e197_11
  have e200_54 := gv (hf200 [1] rfl) rfl
  have hX200 := Evo.step hX197 hown hE200 rfl
  have b200_Jx := SoO.evo (by decide) hE200 b197_Jx
  refine fl_cond e200_54 hs (fun c201 hs => ?_) (fun c201 hs => ?_)
  ·refine rq_seq 57 o200 (bz 3) [dv [] [11] 56 (Zi j190), dv [0] [] 6 (Zi j190), dv [] [] 7 (Zi 2)] z200 d200 ?_ ?_
   ·exact sM e200_11 <| sA <| sO (or_assign rfl) <| steps_nil
   intro o202 a202 w202 d202 z202 hk202 hf202 hE202
   have e202_6 := gv (hf202 [1] rfl) rfl
   have e202_7 := gv (hf202 [2] rfl) rfl
   have hX202 := Evo.step hX200 hown hE202 rfl
   have b202_Jx := SoO.evo (by decide) hE202 b200_Jx
   refine fl_ret ?_
   refine hp196 _ _ _ rfl ?_
   obtain rfl := osome hs
   exact hret _ _ _ _ (.inl rfl) d202 (results2_ rfl (RVal.tmp_ e202_6) (RVal.tmp_ e202_7)) ⟨(rl [(192, 1)] o202), rfl, (Evo.rl_ hX202 hown rfl), (SoO.rl_ b202_Jx)⟩
  refine rq_seq 57 o200 (bz 3) [dv [] [11] 50 (Zi j190), dv [0] [] 6 (Zi j190), dv [] [] 7 (Zi 0)] z200 d200 ?_ ?_
  ·exact sM e200_11 <| sA <| sO (or_assign rfl) <| steps_nil
  intro o203 a203 w203 d203 z203 hk203 hf203 hE203
  have e203_6 := gv (hf203 [1] rfl) rfl
  have e203_7 := gv (hf203 [2] rfl) rfl
  have hX203 := Evo.step hX200 hown hE203 rfl
  have b203_Jx := SoO.evo (by decide) hE203 b200_Jx
  refine fl_ret ?_
  refine hp196 _ _ _ rfl ?_
  obtain rfl := osome hs
  exact hret _ _ _ _ (.inl rfl) d203 (results2_ rfl (RVal.tmp_ e203_6) (RVal.tmp_ e203_7)) ⟨(rl [(192, 1)] o203), rfl, (Evo.rl_ hX203 hown rfl), (SoO.rl_ b203_Jx)⟩
 refine rq_seq 57 o142 (bz 2) [dv [] [8] 31 (Zi (sb b2 x1)), dv [0] [] 32 (.bool (decide (8 ≤ (sb b2 x1))))] z142 d142 ?_ ?_
 ·exact sM e142_8 <| sF (fun f => or_geq f.1 rfl rfl) <| steps_nil
 intro o204 a204 w204 d204 z204 hk204 hf204 hE204
 obtain ⟨e204_3, e204_8, e204_9, e204_10, e204_11, e204_12⟩ := kt6 hk204 e142_3 e142_8 e142_9 e142_10 e142_11 e142_12
 have e204_32 := gv (hf204 [1] rfl) rfl
 have hX204 := Evo.step hX142 hown hE204 rfl
 have b204_Jx := SoO.evo (by decide) hE204 b142_Jx
 obtain ⟨b204_g130, b204_g134⟩ := be2 hE204 b142_g130 b142_g134
 refine fl_cond e204_32 hs (fun c205 hs => ?_) (fun c205 hs => ?_)
 ·refine fl_seq (fun Q206 hn206 hp206 => ?_)
  have K228 : ∀ (a228 : Act) (w228 : World) (o228 : Own) (swaps222 : Int) (i223 : Int) (j224 : Int) (k225 : Int) (l226 : List Tx), a228.defers = [] → a228.tmps.size = 57 → a228.eval (.tmp 3) = pt g130 0 → a228.eval (.tmp 9) = pt g134 0 → a228.eval (.tmp 10) = Zi i223 → a228.eval (.tmp 11) = Zi j224 → a228.eval (.tmp 12) = Zi k225 → Evo [1] own o228 w w228 → BlkO o228 131 w228 g130 122 #[.func (.func 48) #[] #[ca], .func (.func 71) #[] #[sv, th]] → BlkO o228 221 w228 g134 3 #[Zi swaps222] → SoO Jx o228 227 w228 l226 → sort_choosePivot_func_k2 Tx lf swaps222 i223 j224 k225 l226 = some r → Q206 .normal a228 w228 := by
   intro a228 w228 o228 swaps222 i223 j224 k225 l226 d229 z229 e229_3 e229_9 e229_10 e229_11 e229_12 hE229 b229_g130 b229_g134 b229_Jx hs
   refine hn206 _ _ ?_
   obtain ⟨r230, hr230, hs⟩ := obind hs
   refine rr 57 [Fct.soAt Jx 227 l226, Fct.at_ 221 g134 3 #[Zi swaps222]] o228 [227, 221] [0, 0, 0, 0, 15, 31] [dv [] [3] 44 (.agg #[.func (.func 48) #[] #[ca], .func (.func 71) #[] #[sv, th]]), dv [] [10] 45 (Zi i223), dv [] [11] 46 (Zi j224), dv [] [12] 47 (Zi k225), ⟨[0, 1, 2, 3, 6, 7], [9], [227, 221], Fct.mems [231, 232] 48 (fun (_ : Unit) => Zi r230.1) (fun (_ : Unit) own w => BlkO own 231 w g134 3 #[Zi r230.2.1] ∧ SoO Jx own 232 w r230.2.2) (fun hk he h => ⟨BlkO.evo (not_hit hk (by decide)) he h.1, SoO.evo (not_hit hk (by decide)) he h.2⟩)⟩, dv [4] [] 11 (Zi r230.1)] z229 d229 (fm2 b229_Jx b229_g134) ?_ ?_
   ·refine sL ta122 e229_3 b229_g130 <| sM e229_10 <| sM e229_11 <| sM e229_12 ?_
    refine sc (fun own a wx hf hsl hE => ?_) ?_
    ·obtain ⟨f_44, f_45, f_46, f_47, b_Jx, b_g134, -⟩ := hf
     obtain ⟨s_9, -⟩ := hsl
     exact px (or_call cf87 (args5 f_44 f_45 f_46 f_47 (s_9.trans e229_9)) (sort_median_func_w _ (forth own (look0 [(221, 2), (227, 1)])) Tx lf ca sv th l226 Jx i223 j224 k225 swaps222 g134 3 (look0_le rfl) hL hS (SoO.forth_ (m := (look0 [(221, 2), (227, 1)])) b_Jx) (BlkO.forth_ (m := (look0 [(221, 2), (227, 1)])) b_g134) r230 hr230) (post_mems0 (m := (look0 [(221, 2), (227, 1)])) (m' := (look0 [(1, 232), (2, 231)])) (hm_of rfl) (fun own' w' a' h1 h => ⟨(), h1, ⟨BlkO.back_ h.1 (by decide), SoO.back_ h.2 (by decide)⟩⟩)))
    refine sc (fun own a wx hf hsl hE => ?_) ?_
    ·obtain ⟨⟨_, f_48, b_g134, b_Jx⟩, -⟩ := hf
     exact px (or_assign f_48)
    exact steps_nil
   intro o233 a233 w233 d233 z233 hk233 hf233 hE233
   have e233_9 := kt hk233 e229_9
   have e233_11 := gv (hf233 [5] rfl) rfl
   obtain ⟨⟨_, (f_48 : a233.eval (.tmp 48) = Zi r230.1), (b233_g134 : BlkO o233 231 w233 g134 3 #[Zi r230.2.1]), (b233_Jx : SoO Jx o233 232 w233 r230.2.2)⟩, -⟩ := hf233 [4] rfl
   have hX233 := Evo.step hE229 hown hE233 rfl
   exact (K193 _ _ (rl [(231, 188), (232, 192)] o233) _ _ _ d233 z233 e233_9 e233_11 (Evo.rl_ hX233 hown rfl) (BlkO.rl_ b233_g134) (SoO.rl_ b233_Jx) hs)
  refine rq_seq 57 o204 (bz 2) [dv [] [8] 33 (Zi (sb b2 x1)), dv [0] [] 34 (.bool (decide (50 ≤ (sb b2 x1))))] z204 d204 ?_ ?_
  ·exact sM e204_8 <| sF (fun f => or_geq f.1 rfl rfl) <| steps_nil
  intro o234 a234 w234 d234 z234 hk234 hf234 hE234
  obtain ⟨e234_3, e234_9, e234_10, e234_11, e234_12⟩ := kt5 hk234 e204_3 e204_9 e204_10 e204_11 e204_12
  have e234_34 := gv (hf234 [1] rfl) rfl
  have hX234 := Evo.step hX204 hown hE234 rfl
  have b234_Jx := SoO.evo (by decide) hE234 b204_Jx
  obtain ⟨b234_g130, b234_g134⟩ := be2 hE234 b204_g130 b204_g134
  refine fl_cond e234_34 hs (fun c235 hs => ?_) (fun c235 hs => ?_)
  ·obtain ⟨r236, hr236, hs⟩ := obind hs
   refine rr_seq 57 [Fct.soAt Jx 1 l0, Fct.at_ 135 g134 3 #[Zi 0]] o234 [1, 135] [0, 0, 3, 7] [dv [] [3] 35 (.agg #[.func (.func 48) #[] #[ca], .func (.func 71) #[] #[sv, th]]), dv [] [10] 36 (Zi (ad x1 (ml x137 1))), ⟨[0, 1, 4, 5], [9], [1, 135], Fct.mems [237, 238] 37 (fun (_ : Unit) => Zi r236.1) (fun (_ : Unit) own w => BlkO own 237 w g134 3 #[Zi r236.2.1] ∧ SoO Jx own 238 w r236.2.2) (fun hk he h => ⟨BlkO.evo (not_hit hk (by decide)) he h.1, SoO.evo (not_hit hk (by decide)) he h.2⟩)⟩, dv [2] [] 10 (Zi r236.1)] z234 d234 (fm2 b234_Jx b234_g134) ?_ ?_
   ·refine sL ta122 e234_3 b234_g130 <| sM e234_10 ?_
    refine sc (fun own a wx hf hsl hE => ?_) ?_
    ·obtain ⟨f_35, f_36, b_Jx, b_g134, -⟩ := hf
     obtain ⟨s_9, -⟩ := hsl
     exact px (or_call cf86 (args3 f_35 f_36 (s_9.trans e234_9)) (sort_medianAdjacent_func_w _ (forth own (look0 [(1, 1), (135, 2)])) Tx lf ca sv th l0 Jx (ad x1 (ml x137 1)) 0 g134 3 (look0_le rfl) hL hS (SoO.forth_ (m := (look0 [(1, 1), (135, 2)])) b_Jx) (BlkO.forth_ (m := (look0 [(1, 1), (135, 2)])) b_g134) r236 hr236) (post_mems0 (m := (look0 [(1, 1), (135, 2)])) (m' := (look0 [(1, 238), (2, 237)])) (hm_of rfl) (fun own' w' a' h1 h => ⟨(), h1, ⟨BlkO.back_ h.1 (by decide), SoO.back_ h.2 (by decide)⟩⟩)))
    refine sc (fun own a wx hf hsl hE => ?_) ?_
    ·obtain ⟨⟨_, f_37, b_g134, b_Jx⟩, -⟩ := hf
     exact px (or_assign f_37)
    exact steps_nil
   intro o239 a239 w239 d239 z239 hk239 hf239 hE239
   obtain ⟨e239_3, e239_9, e239_11, e239_12⟩ := kt4 hk239 e234_3 e234_9 e234_11 e234_12
   have e239_10 := gv (hf239 [3] rfl) rfl
   obtain ⟨⟨_, (f_37 : a239.eval (.tmp 37) = Zi r236.1), (b239_g134 : BlkO o239 237 w239 g134 3 #[Zi r236.2.1]), (b239_Jx : SoO Jx o239 238 w239 r236.2.2)⟩, -⟩ := hf239 [2] rfl
   have hX239 := Evo.step hX234 hown hE239 rfl
   have b239_g130 := be_ hE239 b234_g130
   obtain ⟨r240, hr240, hs⟩ := obind hs
   refine rr_seq 57 [Fct.soAt Jx 238 r236.2.2, Fct.at_ 237 g134 3 #[Zi r236.2.1]] o239 [238, 237] [0, 0, 3, 7] [dv [] [3] 38 (.agg #[.func (.func 48) #[] #[ca], .func (.func 71) #[] #[sv, th]]), dv [] [11] 39 (Zi (ad x1 (ml x139 2))), ⟨[0, 1, 4, 5], [9], [238, 237], Fct.mems [241, 242] 40 (fun (_ : Unit) => Zi r240.1) (fun (_ : Unit) own w => BlkO own 241 w g134 3 #[Zi r240.2.1] ∧ SoO Jx own 242 w r240.2.2) (fun hk he h => ⟨BlkO.evo (not_hit hk (by decide)) he h.1, SoO.evo (not_hit hk (by decide)) he h.2⟩)⟩, dv [2] [] 11 (Zi r240.1)] z239 d239 (fm2 b239_Jx b239_g134) ?_ ?_
   ·refine sL ta122 e239_3 b239_g130 <| sM e239_11 ?_
    refine sc (fun own a wx hf hsl hE => ?_) ?_
    ·obtain ⟨f_38, f_39, b_Jx, b_g134, -⟩ := hf
     obtain ⟨s_9, -⟩ := hsl
     exact px (or_call cf86 (args3 f_38 f_39 (s_9.trans e239_9)) (sort_medianAdjacent_func_w _ (forth own (look0 [(237, 2), (238, 1)])) Tx lf ca sv th r236.2.2 Jx (ad x1 (ml x139 2)) r236.2.1 g134 3 (look0_le rfl) hL hS (SoO.forth_ (m := (look0 [(237, 2), (238, 1)])) b_Jx) (BlkO.forth_ (m := (look0 [(237, 2), (238, 1)])) b_g134) r240 hr240) (post_mems0 (m := (look0 [(237, 2), (238, 1)])) (m' := (look0 [(1, 242), (2, 241)])) (hm_of rfl) (fun own' w' a' h1 h => ⟨(), h1, ⟨BlkO.back_ h.1 (by decide), SoO.back_ h.2 (by decide)⟩⟩)))
    refine sc (fun own a wx hf hsl hE => ?_) ?_
    ·obtain ⟨⟨_, f_40, b_g134, b_Jx⟩, -⟩ := hf
     exact px (or_assign f_40)
    exact steps_nil
   intro o243 a243 w243 d243 z243 hk243 hf243 hE243
   obtain ⟨e243_3, e243_9, e243_10, e243_12⟩ := kt4 hk243 e239_3 e239_9 e239_10 e239_12
   have e243_11 := gv (hf243 [3] rfl) rfl
   obtain ⟨⟨_, (f_40 : a243.eval (.tmp 40) = Zi r240.1), (b243_g134 : BlkO o243 241 w243 g134 3 #[Zi r240.2.1]), (b243_Jx : SoO Jx o243 242 w243 r240.2.2)⟩, -⟩ := hf243 [2] rfl
   have hX243 := Evo.step hX239 hown hE243 rfl
   have b243_g130 := be_ hE243 b239_g130
   obtain ⟨r244, hr244, hs⟩ := obind hs
   refine rr 57 [Fct.soAt Jx 242 r240.2.2, Fct.at_ 241 g134 3 #[Zi r240.2.1]] o243 [242, 241] [0, 0, 3, 7] [dv [] [3] 41 (.agg #[.func (.func 48) #[] #[ca], .func (.func 71) #[] #[sv, th]]), dv [] [12] 42 (Zi (ad x1 (ml x141 3))), ⟨[0, 1, 4, 5], [9], [242, 241], Fct.mems [245, 246] 43 (fun (_ : Unit) => Zi r244.1) (fun (_ : Unit) own w => BlkO own 245 w g134 3 #[Zi r244.2.1] ∧ SoO Jx own 246 w r244.2.2) (fun hk he h => ⟨BlkO.evo (not_hit hk (by decide)) he h.1, SoO.evo (not_hit hk (by decide)) he h.2⟩)⟩, dv [2] [] 12 (Zi r244.1)] z243 d243 (fm2 b243_Jx b243_g134) ?_ ?_
   ·refine sL ta122 e243_3 b243_g130 <| sM e243_12 ?_
    refine sc (fun own a wx hf hsl hE => ?_) ?_
    ·obtain ⟨f_41, f_42, b_Jx, b_g134, -⟩ := hf
     obtain ⟨s_9, -⟩ := hsl
     exact px (or_call cf86 (args3 f_41 f_42 (s_9.trans e243_9)) (sort_medianAdjacent_func_w _ (forth own (look0 [(241, 2), (242, 1)])) Tx lf ca sv th r240.2.2 Jx (ad x1 (ml x141 3)) r240.2.1 g134 3 (look0_le rfl) hL hS (SoO.forth_ (m := (look0 [(241, 2), (242, 1)])) b_Jx) (BlkO.forth_ (m := (look0 [(241, 2), (242, 1)])) b_g134) r244 hr244) (post_mems0 (m := (look0 [(241, 2), (242, 1)])) (m' := (look0 [(1, 246), (2, 245)])) (hm_of rfl) (fun own' w' a' h1 h => ⟨(), h1, ⟨BlkO.back_ h.1 (by decide), SoO.back_ h.2 (by decide)⟩⟩)))
    refine sc (fun own a wx hf hsl hE => ?_) ?_
    ·obtain ⟨⟨_, f_43, b_g134, b_Jx⟩, -⟩ := hf
     exact px (or_assign f_43)
    exact steps_nil
   intro o247 a247 w247 d247 z247 hk247 hf247 hE247
   obtain ⟨e247_3, e247_9, e247_10, e247_11⟩ := kt4 hk247 e243_3 e243_9 e243_10 e243_11
   have e247_12 := gv (hf247 [3] rfl) rfl
   obtain ⟨⟨_, (f_43 : a247.eval (.tmp 43) = Zi r244.1), (b247_g134 : BlkO o247 245 w247 g134 3 #[Zi r244.2.1]), (b247_Jx : SoO Jx o247 246 w247 r244.2.2)⟩, -⟩ := hf247 [2] rfl
   have hX247 := Evo.step hX243 hown hE247 rfl
   have b247_g130 := be_ hE247 b243_g130
   exact (K228 _ _ (rl [(245, 221), (246, 227)] o247) _ _ _ _ _ d247 z247 e247_3 e247_9 e247_10 e247_11 e247_12 (Evo.rl_ hX247 hown rfl) (BlkO.rl_ b247_g130) (BlkO.rl_ b247_g134) (SoO.rl_ b247_Jx) hs)
  refine fl_skip ?_
  exact (K228 _ _ (rl [(1, 227), (135, 221)] o234) _ _ _ _ _ d234 z234 e234_3 e234_9 e234_10 e234_11 e234_12 (Evo.rl_ hX234 hown rfl) (BlkO.rl_ b234_g130) (BlkO.rl_ b234_g134) (SoO.rl_ b234_Jx) hs)
 refine fl_skip ?_
 exact (K193 _ _ (rl [(1, 192), (135, 188)] o204) _ _ _ d204 z204 e204_9 e204_11 (Evo.rl_ hX204 hown rfl) (BlkO.rl_ b204_g134) (SoO.rl_ b204_Jx) hs)
theorem sort_reverseRange_func_w (w : World) (own : Own) (Tx : Type) (lf : List Tx → Int → Int → Option Bool) (ca : Value) (sv : Value) (th : Value) (l0 : List Tx) (Jx : Sj (List Tx)) (x1 : Int) (b2 : Int) (hown : ∀ b, own b ≤ 1) (hL : LessS Try.prog 48 ca lf Jx) (hS : SwapS Try.prog 71 sv th Jx) (hJx : SoO Jx own 1 w l0) (r : List Tx) (hs : sort_reverseRange_func Tx lf l0 x1 b2 = some r) :
  Calls Try.prog 78 #[.agg #[.func (.func 48) #[] #[ca], .func (.func 71) #[] #[sv, th]], Zi x1, Zi b2] w fun e w' => ∃ (own' : Own), e = .returned (.tuple #[]) ∧ Evo [1] own own' w w' ∧ SoO Jx own' 1 w' r := by
 refine fl_enter (n := 23) rfl rfl rfl (Nat.le_of_ble_eq_true rfl) ?_
 intro a0 Q d0 z0 harg hret
 have ha0 := harg 0 _ rfl
 have ha1 := harg 1 _ rfl
 have ha2 := harg 2 _ rfl
 clear harg
 have hE0 : Evo [1] own own w w := Evo.refl _ _ _
 refine rq_seq 23 own (bz 1) [⟨[], [0], [], Fct.blk 54 3 (fun g => pt g 0) 122 #[.func (.func 48) #[] #[ca], .func (.func 71) #[] #[sv, th]]⟩] z0 d0 ?_ ?_
 ·exact sS (fun s => nw1 (s.1.trans ha0)) <| steps_nil
 intro o55 a55 w55 d55 z55 hk55 hf55 hE55
 obtain ⟨e55_1, e55_2⟩ := kt2 hk55 ha1 ha2
 obtain ⟨⟨g53, (e55_3 : a55.eval (.tmp 3) = pt g53 0), (b55_g53 : BlkO o55 54 w55 g53 122 #[.func (.func 48) #[] #[ca], .func (.func 71) #[] #[sv, th]])⟩, -⟩ := hf55 [0] rfl
 have hX55 := Evo.step hE0 hown hE55 rfl
 have b55_Jx := SoO.evo (by decide) hE55 hJx
 refine rq_seq 23 o55 (bz 2) [dv [] [1] 8 (Zi x1), dv [0] [] 6 (Zi x1)] z55 d55 ?_ ?_
 ·exact sM e55_1 <| sA <| steps_nil
 intro o56 a56 w56 d56 z56 hk56 hf56 hE56
 obtain ⟨e56_2, e56_3⟩ := kt2 hk56 e55_2 e55_3
 have e56_6 := gv (hf56 [1] rfl) rfl
 have hX56 := Evo.step hX55 hown hE56 rfl
 have b56_Jx := SoO.evo (by decide) hE56 b55_Jx
 have b56_g53 := be_ hE56 b55_g53
 refine rq_seq 23 o56 (bz 3) [dv [] [2] 9 (Zi b2), dv [0] [] 10 (Zi (sb b2 1)), dv [1] [] 7 (Zi (sb b2 1))] z56 d56 ?_ ?_
 ·exact sM e56_2 <| sF (fun f => or_sub f.1 rfl rfl) <| sA <| steps_nil
 intro o57 a57 w57 d57 z57 hk57 hf57 hE57
 obtain ⟨e57_3, e57_6⟩ := kt2 hk57 e56_3 e56_6
 have e57_7 := gv (hf57 [2] rfl) rfl
 have hX57 := Evo.step hX56 hown hE57 rfl
 have b57_Jx := SoO.evo (by decide) hE57 b56_Jx
 have b57_g53 := be_ hE57 b56_g53
 refine fl_block (fun Q58 hn58 hx58 hp58 => ?_)
 refine fl_loop (body := (fun s => sort_reverseRange_func_b1 Tx s.1 s.2.1 s.2.2)) (z := r) (show loopO _ _ = _ from hs) (fun (s : Int × Int × (List Tx)) a wx => match s with | (i69, j70, l71) => ∃ (ox : Own), a.defers = [] ∧ a.tmps.size = 23 ∧ a.eval (.tmp 3) = pt g53 0 ∧ a.eval (.tmp 6) = Zi i69 ∧ a.eval (.tmp 7) = Zi j70 ∧ Evo [1] own ox w wx ∧ BlkO ox 54 wx g53 122 #[.func (.func 48) #[] #[ca], .func (.func 71) #[] #[sv, th]] ∧ SoO Jx ox 72 wx l71) ?_ ?_
 ·exact ⟨(rl [(1, 72)] o57), d57, z57, e57_3, e57_6, e57_7, (Evo.rl_ hX57 hown rfl), (BlkO.rl_ b57_g53), (SoO.rl_ b57_Jx)⟩
 ·rintro ⟨i69, j70, l71⟩ zz83 a83 w83 ⟨o83, d84, z84, e84_3, e84_6, e84_7, hE84, b84_g53, b84_Jx⟩ hs Q83 hn83 hp83 z83
  have hs : sort_reverseRange_func_b1 Tx i69 j70 l71 = some zz83 := hs
  refine fl_seq (fun Q85 hn85 hp85 => ?_)
  refine rq_seq 23 o83 [0, 0, 3] [dv [] [6] 11 (Zi i69), dv [] [7] 12 (Zi j70), dv [0, 1] [] 13 (.bool (decide (i69 < j70)))] z84 d84 ?_ ?_
  ·exact sM e84_6 <| sM e84_7 <| sF (fun f => or_lss f.1 f.2.1 rfl) <| steps_nil
  intro o86 a86 w86 d86 z86 hk86 hf86 hE86
  obtain ⟨e86_3, e86_6, e86_7⟩ := kt3 hk86 e84_3 e84_6 e84_7
  have e86_13 := gv (hf86 [2] rfl) rfl
  have hX86 := Evo.step hE84 hown hE86 rfl
  have b86_g53 := be_ hE86 b84_g53
  have b86_Jx := SoO.evo (by decide) hE86 b84_Jx
  refine fl_cond e86_13 hs (fun c87 hs => ?_) (fun c87 hs => ?_)
  ·refine fl_skip ?_
   refine hn85 _ _ ?_
   refine fl_block (fun Q88 hn88 hx88 hp88 => ?_)
   obtain ⟨l89, hl89, hs⟩ := obind hs
   refine rr_seq 23 [Fct.soAt Jx 72 l71] o86 [72] [0, 1, 0, 0, 15] [dv [] [3] 14 (pt g53 1), dv [0] [] 15 (.func (.func 71) #[] #[sv, th]), dv [] [6] 16 (Zi i69), dv [] [7] 17 (Zi j70), ⟨[1, 2, 3, 5], [], [72], Fct.so Jx 90 18 l89⟩] z86 d86 (fm1 b86_Jx) ?_ ?_
   ·refine sS (fun s => or_field fo122_1 (s.1.trans e86_3) (by rfl)) <| sG to117 b86_g53 <| sM e86_6 <| sM e86_7 ?_
    refine sc (fun own a wx hf hsl hE => ?_) ?_
    ·obtain ⟨f_15, f_16, f_17, b_Jx, -⟩ := hf
     exact px (or_sswap (lab := 72) (lab2 := 90) f_15 (args2 f_16 f_17) hS b_Jx (by decide) hl89 (mem_of rfl))
    exact steps_nil
   intro o91 a91 w91 d91 z91 hk91 hf91 hE91
   obtain ⟨e91_3, e91_6, e91_7⟩ := kt3 hk91 e86_3 e86_6 e86_7
   obtain ⟨⟨(f_18 : a91.eval (.tmp 18) = .tuple #[]), (b91_Jx : SoO Jx o91 90 w91 l89)⟩, -⟩ := hf91 [4] rfl
   have hX91 := Evo.step hX86 hown hE91 rfl
   have b91_g53 := be_ hE91 b86_g53
   refine rq_seq 23 o91 (bz 3) [dv [] [6] 19 (Zi i69), dv [0] [] 20 (Zi (ad i69 1)), dv [1] [] 6 (Zi (ad i69 1))] z91 d91 ?_ ?_
   ·exact sM e91_6 <| sF (fun f => or_add f.1 rfl rfl) <| sA <| steps_nil
   intro o92 a92 w92 d92 z92 hk92 hf92 hE92
   obtain ⟨e92_3, e92_7⟩ := kt2 hk92 e91_3 e91_7
   have e92_6 := gv (hf92 [2] rfl) rfl
   have hX92 := Evo.step hX91 hown hE92 rfl
   have b92_g53 := be_ hE92 b91_g53
   have b92_Jx := SoO.evo (by decide) hE92 b91_Jx
   refine rq 23 o92 (bz 3) [dv [] [7] 21 (Zi j70), dv [0] [] 22 (Zi (sb j70 1)), dv [1] [] 7 (Zi (sb j70 1))] z92 d92 ?_ ?_
   ·exact sM e92_7 <| sF (fun f => or_sub f.1 rfl rfl) <| sA <| steps_nil
   intro o93 a93 w93 d93 z93 hk93 hf93 hE93
   obtain ⟨e93_3, e93_6⟩ := kt2 hk93 e92_3 e92_6
   have e93_7 := gv (hf93 [2] rfl) rfl
   have hX93 := Evo.step hX92 hown hE93 rfl
   have b93_g53 := be_ hE93 b92_g53
   have b93_Jx := SoO.evo (by decide) hE93 b92_Jx
   refine hn88 _ _ ?_
   exact hn83 _ _ _ hs ⟨(rl [(90, 72)] o93), d93, z93, e93_3, e93_6, e93_7, (Evo.rl_ hX93 hown rfl), (BlkO.rl_ b93_g53), (SoO.rl_ b93_Jx)⟩
  refine fl_exit ?_
  refine hp85 _ _ _ rfl ?_
  replace hs := z83 _ hs
  refine hp83 _ _ _ rfl ?_
  refine hx58 _ _ ?_
  obtain rfl := (osome hs).symm
  exact hret _ _ _ _ (.inr rfl) d86 (results0_ rfl ) ⟨(rl [(72, 1)] o86), rfl, (Evo.rl_ hX86 hown rfl), (SoO.rl_ b86_Jx)⟩
set_option maxHeartbeats 2000000 in
theorem sort_partialInsertionSort_func_w (w : World) (own : Own) (Tx : Type) (lf : List Tx → Int → Int → Option Bool) (ca : Value) (sv : Value) (th : Value) (l0 : List Tx) (Jx : Sj (List Tx)) (x1 : Int) (b2 : Int) (hown : ∀ b, own b ≤ 1) (hL : LessS Try.prog 48 ca lf Jx) (hS : SwapS Try.prog 71 sv th Jx) (hJx : SoO Jx own 1 w l0) (r : Bool × (List Tx)) (hs : sort_partialInsertionSort_func Tx lf l0 x1 b2 = some r) :
  Calls Try.prog 79 #[.agg #[.func (.func 48) #[] #[ca], .func (.func 71) #[] #[sv, th]], Zi x1, Zi b2] w fun e w' => ∃ (own' : Own), e = .returned (.bool r.1) ∧ Evo [1] own own' w w' ∧ SoO Jx own' 1 w' r.2 := by
 refine fl_enter (n := 91) rfl rfl rfl (Nat.le_of_ble_eq_true rfl) ?_
 intro a0 Q d0 z0 harg hret
 have ha0 := harg 0 _ rfl
 have ha1 := harg 1 _ rfl
 have ha2 := harg 2 _ rfl
 clear harg
 have hE0 : Evo [1] own own w w := Evo.refl _ _ _
 refine rq_seq 91 own [0, 0] [⟨[], [0], [], Fct.blk 4139 3 (fun g => pt g 0) 122 #[.func (.func 48) #[] #[ca], .func (.func 71) #[] #[sv, th]]⟩, dv [] [] 6 (.bool false)] z0 d0 ?_ ?_
 ·exact sS (fun s => nw1 (s.1.trans ha0)) <| sO (or_assign rfl) <| steps_nil
 intro o4140 a4140 w4140 d4140 z4140 hk4140 hf4140 hE4140
 obtain ⟨e4140_1, e4140_2⟩ := kt2 hk4140 ha1 ha2
 obtain ⟨⟨g4138, (e4140_3 : a4140.eval (.tmp 3) = pt g4138 0), (b4140_g4138 : BlkO o4140 4139 w4140 g4138 122 #[.func (.func 48) #[] #[ca], .func (.func 71) #[] #[sv, th]])⟩, -⟩ := hf4140 [0] rfl
 have hX4140 := Evo.step hE0 hown hE4140 rfl
 have b4140_Jx := SoO.evo (by decide) hE4140 hJx
 refine rq_seq 91 o4140 (bz 3) [dv [] [1] 11 (Zi x1), dv [0] [] 12 (Zi (ad x1 1)), dv [1] [] 7 (Zi (ad x1 1))] z4140 d4140 ?_ ?_
 ·exact sM e4140_1 <| sF (fun f => or_add f.1 rfl rfl) <| sA <| steps_nil
 intro o4141 a4141 w4141 d4141 z4141 hk4141 hf4141 hE4141
 obtain ⟨e4141_1, e4141_2, e4141_3⟩ := kt3 hk4141 e4140_1 e4140_2 e4140_3
 have e4141_7 := gv (hf4141 [2] rfl) rfl
 have hX4141 := Evo.step hX4140 hown hE4141 rfl
 have b4141_Jx := SoO.evo (by decide) hE4141 b4140_Jx
 have b4141_g4138 := be_ hE4141 b4140_g4138
 refine fl_seq (fun Q4142 hn4142 hp4142 => ?_)
 refine rq_seq 91 o4141 (bz 1) [dv [] [] 8 (Zi 0)] z4141 d4141 ?_ ?_
 ·exact sO (or_assign rfl) <| steps_nil
 intro o4143 a4143 w4143 d4143 z4143 hk4143 hf4143 hE4143
 obtain ⟨e4143_1, e4143_2, e4143_3, e4143_7⟩ := kt4 hk4143 e4141_1 e4141_2 e4141_3 e4141_7
 have e4143_8 := gv (hf4143 [0] rfl) rfl
 have hX4143 := Evo.step hX4141 hown hE4143 rfl
 have b4143_Jx := SoO.evo (by decide) hE4143 b4141_Jx
 have b4143_g4138 := be_ hE4143 b4141_g4138
 refine fl_block (fun Q4144 hn4144 hx4144 hp4144 => ?_)
 refine fl_loop (body := (fun s => sort_partialInsertionSort_func_b1 Tx lf x1 b2 s.1 s.2.1 s.2.2)) (z := r) (show loopO _ _ = _ from hs) (fun (s : Int × Int × (List Tx)) a wx => match s with | (i5518, j5519, l5520) => ∃ (ox : Own), a.defers = [] ∧ a.tmps.size = 91 ∧ a.eval (.tmp 1) = Zi x1 ∧ a.eval (.tmp 2) = Zi b2 ∧ a.eval (.tmp 3) = pt g4138 0 ∧ a.eval (.tmp 7) = Zi i5518 ∧ a.eval (.tmp 8) = Zi j5519 ∧ Evo [1] own ox w wx ∧ BlkO ox 4139 wx g4138 122 #[.func (.func 48) #[] #[ca], .func (.func 71) #[] #[sv, th]] ∧ SoO Jx ox 5521 wx l5520) ?_ ?_
 ·exact ⟨(rl [(1, 5521)] o4143), d4143, z4143, e4143_1, e4143_2, e4143_3, e4143_7, e4143_8, (Evo.rl_ hX4143 hown rfl), (BlkO.rl_ b4143_g4138), (SoO.rl_ b4143_Jx)⟩
 ·rintro ⟨i5518, j5519, l5520⟩ zz6892 a6892 w6892 ⟨o6892, d6893, z6893, e6893_1, e6893_2, e6893_3, e6893_7, e6893_8, hE6893, b6893_g4138, b6893_Jx⟩ hs Q6892 hn6892 hp6892 z6892
  have hs : sort_partialInsertionSort_func_b1 Tx lf x1 b2 i5518 j5519 l5520 = some zz6892 := hs
  refine fl_seq (fun Q6894 hn6894 hp6894 => ?_)
  refine rq_seq 91 o6892 (bz 2) [dv [] [8] 13 (Zi j5519), dv [0] [] 14 (.bool (decide (j5519 < 5)))] z6893 d6893 ?_ ?_
  ·exact sM e6893_8 <| sF (fun f => or_lss f.1 rfl rfl) <| steps_nil
  intro o6895 a6895 w6895 d6895 z6895 hk6895 hf6895 hE6895
  obtain ⟨e6895_1, e6895_2, e6895_3, e6895_7, e6895_8⟩ := kt5 hk6895 e6893_1 e6893_2 e6893_3 e6893_7 e6893_8
  have e6895_14 := gv (hf6895 [1] rfl) rfl
  have hX6895 := Evo.step hE6893 hown hE6895 rfl
  have b6895_g4138 := be_ hE6895 b6893_g4138
  have b6895_Jx := SoO.evo (by decide) hE6895 b6893_Jx
  refine fl_cond e6895_14 hs (fun c6896 hs => ?_) (fun c6896 hs => ?_)
  ·refine fl_skip ?_
   refine hn6894 _ _ ?_
   refine fl_seq (fun Q6897 hn6897 hp6897 => ?_)
   refine fl_block (fun Q7580 hn7580 hx7580 hp7580 => ?_)
   have K7922 : ∀ (a7922 : Act) (w7922 : World) (o7922 : Own) (i7919 : Int) (l7920 : List Tx), a7922.defers = [] → a7922.tmps.size = 91 → a7922.eval (.tmp 1) = Zi x1 → a7922.eval (.tmp 2) = Zi b2 → a7922.eval (.tmp 3) = pt g4138 0 → a7922.eval (.tmp 7) = Zi i7919 → a7922.eval (.tmp 8) = Zi j5519 → Evo [1] own o7922 w w7922 → BlkO o7922 4139 w7922 g4138 122 #[.func (.func 48) #[] #[ca], .func (.func 71) #[] #[sv, th]] → SoO Jx o7922 7921 w7922 l7920 → sort_partialInsertionSort_func_k2 Tx j5519 i7919 l7920 = some zz6892 → (Q7580 .normal a7922 w7922 ∧ Q7580 (.exit 1) a7922 w7922) := by
    intro a7922 w7922 o7922 i7919 l7920 d7923 z7923 e7923_1 e7923_2 e7923_3 e7923_7 e7923_8 hE7923 b7923_g4138 b7923_Jx hs
    refine and_both (hn7580 _ _) (hx7580 _ _) ?_
    refine hn6897 _ _ ?_
    refine rq 91 o7922 (bz 3) [dv [] [8] 15 (Zi j5519), dv [0] [] 16 (Zi (ad j5519 1)), dv [1] [] 8 (Zi (ad j5519 1))] z7923 d7923 ?_ ?_
    ·exact sM e7923_8 <| sF (fun f => or_add f.1 rfl rfl) <| sA <| steps_nil
    intro o7924 a7924 w7924 d7924 z7924 hk7924 hf7924 hE7924
    obtain ⟨e7924_1, e7924_2, e7924_3, e7924_7⟩ := kt4 hk7924 e7923_1 e7923_2 e7923_3 e7923_7
    have e7924_8 := gv (hf7924 [2] rfl) rfl
    have hX7924 := Evo.step hE7923 hown hE7924 rfl
    have b7924_g4138 := be_ hE7924 b7923_g4138
    have b7924_Jx := SoO.evo (by decide) hE7924 b7923_Jx
    exact hn6892 _ _ _ hs ⟨(rl [(7921, 5521)] o7924), d7924, z7924, e7924_1, e7924_2, e7924_3, e7924_7, e7924_8, (Evo.rl_ hX7924 hown rfl), (BlkO.rl_ b7924_g4138), (SoO.rl_ b7924_Jx)⟩
   refine fl_seq (fun Q7925 hn7925 hp7925 => ?_)
   refine fl_block (fun Q7926 hn7926 hx7926 hp7926 => ?_)
   refine fl_loop (body := (fun s => sort_partialInsertionSort_func_b3 Tx lf x1 b2 j5519 l5520 s)) (z := zz6892) (show loopO _ _ = _ from hs) (fun (i7934 : Int) a wx => ∃ (ox : Own), a.defers = [] ∧ a.tmps.size = 91 ∧ a.eval (.tmp 1) = Zi x1 ∧ a.eval (.tmp 2) = Zi b2 ∧ a.eval (.tmp 3) = pt g4138 0 ∧ a.eval (.tmp 7) = Zi i7934 ∧ a.eval (.tmp 8) = Zi j5519 ∧ Evo [1] own ox w wx ∧ BlkO ox 4139 wx g4138 122 #[.func (.func 48) #[] #[ca], .func (.func 71) #[] #[sv, th]] ∧ SoO Jx ox 5521 wx l5520) ?_ ?_
   ·exact ⟨o6895, d6895, z6895, e6895_1, e6895_2, e6895_3, e6895_7, e6895_8, hX6895, b6895_g4138, b6895_Jx⟩
   ·rintro i7934 zz7942 a7942 w7942 ⟨o7942, d7943, z7943, e7943_1, e7943_2, e7943_3, e7943_7, e7943_8, hE7943, b7943_g4138, b7943_Jx⟩ hs Q7942 hn7942 hp7942 z7942
    have hs : sort_partialInsertionSort_func_b3 Tx lf x1 b2 j5519 l5520 i7934 = some zz7942 := hs
    refine fl_seq (fun Q7944 hn7944 hp7944 => ?_)
    obtain ⟨b7945, hb7945, hs⟩ := obind hs
    refine rq_seq 91 o7942 [0, 0, 3, 7, 15, 31, 15, 15, 143, 511, 1023, 2047] [dv [] [7] 17 (Zi i7934), dv [] [2] 18 (Zi b2), dv [0, 1] [] 19 (.bool (decide (i7934 < b2))), dv [2] [] 20 (.bool (decide (i7934 < b2))), dc [3] [3] (decide (i7934 < b2)) 21 (pt g4138 0), dc [3, 4] [] (decide (i7934 < b2)) 22 (.func (.func 48) #[] #[ca]), dc [3] [7] (decide (i7934 < b2)) 23 (Zi i7934), dc [3] [7] (decide (i7934 < b2)) 24 (Zi i7934), dc [3, 7] [] (decide (i7934 < b2)) 25 (Zi (sb i7934 1)), dc [3, 5, 6, 8] [] (decide (i7934 < b2)) 26 (.bool b7945), dc [3, 9] [] (decide (i7934 < b2)) 27 (.bool (!b7945)), dv [3, 10] [] 28 (.bool ((decide (i7934 < b2)) && (!b7945)))] z7943 d7943 ?_ ?_
    ·exact sM e7943_7 <| sM e7943_2 <| sF (fun f => or_lss f.1 f.2.1 rfl) <| sV <| cT (fun _ s _ _ => or_field fo122_0 (s.1.trans e7943_3) (by rfl)) <| cT (fun f _ hE hg => ld1 to100 (f.2.1.1 hg) (be_ hE b7943_g4138)) <| cT (fun _ s _ _ => or_move (s.1.trans e7943_7)) <| cT (fun _ s _ _ => or_move (s.1.trans e7943_7)) <| cT (fun f _ _ hg => or_sub (f.2.1.1 hg) rfl rfl) <| cT (fun f _ hE hg => or_callf cf48 (f.2.1.1 hg) (args2 (f.2.2.1.1 hg) (f.2.2.2.1.1 hg)) rfl (hL _ _ _ _ _ _ _ (SoO.evo (by decide) hE b7943_Jx) (gd_t hb7945 hg)) post_val) <| cT (fun f _ _ hg => or_not (f.2.1.1 hg) rfl) <| sF (fun f => or_and f.1 (fun hx => f.2.1.1 hx) rfl rfl) <| steps_nil
    intro o7946 a7946 w7946 d7946 z7946 hk7946 hf7946 hE7946
    obtain ⟨e7946_1, e7946_2, e7946_3, e7946_7, e7946_8⟩ := kt5 hk7946 e7943_1 e7943_2 e7943_3 e7943_7 e7943_8
    have e7946_28 := gv (hf7946 [11] rfl) rfl
    have hX7946 := Evo.step hE7943 hown hE7946 rfl
    have b7946_g4138 := be_ hE7946 b7943_g4138
    have b7946_Jx := SoO.evo (by decide) hE7946 b7943_Jx
    refine fl_cond e7946_28 hs (fun c7947 hs => ?_) (fun c7947 hs => ?_)
    ·refine fl_skip ?_
     refine hn7944 _ _ ?_
     refine fl_block (fun Q7948 hn7948 hx7948 hp7948 => ?_)
     refine rq 91 o7946 (bz 3) [dv [] [7] 29 (Zi i7934), dv [0] [] 30 (Zi (ad i7934 1)), dv [1] [] 7 (Zi (ad i7934 1))] z7946 d7946 ?_ ?_
     ·exact sM e7946_7 <| sF (fun f => or_add f.1 rfl rfl) <| sA <| steps_nil
     intro o7949 a7949 w7949 d7949 z7949 hk7949 hf7949 hE7949
     obtain ⟨e7949_1, e7949_2, e7949_3, e7949_8⟩ := kt4 hk7949 e7946_1 e7946_2 e7946_3 e7946_8
     have e7949_7 := gv (hf7949 [2] rfl) rfl
     have hX7949 := Evo.step hX7946 hown hE7949 rfl
     have b7949_g4138 := be_ hE7949 b7946_g4138
     have b7949_Jx := SoO.evo (by decide) hE7949 b7946_Jx
     refine hn7948 _ _ ?_
     exact hn7942 _ _ _ hs ⟨o7949, d7949, z7949, e7949_1, e7949_2, e7949_3, e7949_7, e7949_8, hX7949, b7949_g4138, b7949_Jx⟩
    refine fl_exit ?_
    refine hp7944 _ _ _ rfl ?_
    replace hs := z7942 _ hs
    refine hp7942 _ _ _ rfl ?_
    refine hx7926 _ _ ?_
    refine hn7925 _ _ ?_
    refine fl_seq (fun Q7950 hn7950 hp7950 => ?_)
    refine rq_seq 91 o7946 [0, 0, 3] [dv [] [7] 31 (Zi i7934), dv [] [2] 32 (Zi b2), dv [0, 1] [] 33 (.bool (decide (i7934 = b2)))] z7946 d7946 ?_ ?_
    ·exact sM e7946_7 <| sM e7946_2 <| sF (fun f => or_eql f.1 f.2.1 rfl) <| steps_nil
    intro o7951 a7951 w7951 d7951 z7951 hk7951 hf7951 hE7951
    obtain ⟨e7951_1, e7951_2, e7951_3, e7951_7, e7951_8⟩ := kt5 hk7951 e7946_1 e7946_2 e7946_3 e7946_7 e7946_8
    have e7951_33 := gv (hf7951 [2] rfl) rfl
    have hX7951 := Evo.step hX7946 hown hE7951 rfl
    have b7951_g4138 := be_ hE7951 b7946_g4138
    have b7951_Jx := SoO.evo (by decide) hE7951 b7946_Jx
    refine fl_cond e7951_33 hs (fun c7952 hs => ?_) (fun c7952 hs => ?_)
    ·refine rq_seq 91 o7951 (bz 1) [dv [] [] 6 (.bool true)] z7951 d7951 ?_ ?_
     ·exact sO (or_assign rfl) <| steps_nil
     intro o7953 a7953 w7953 d7953 z7953 hk7953 hf7953 hE7953
     have e7953_6 := gv (hf7953 [0] rfl) rfl
     have hX7953 := Evo.step hX7951 hown hE7953 rfl
     have b7953_Jx := SoO.evo (by decide) hE7953 b7951_Jx
     refine fl_ret ?_
     refine hp7950 _ _ _ rfl ?_
     refine hp7580 _ _ _ rfl ?_
     refine hp6897 _ _ _ rfl ?_
     replace hs := z6892 _ hs
     refine hp6892 _ _ _ rfl ?_
     refine hp4144 _ _ _ rfl ?_
     refine hp4142 _ _ _ rfl ?_
     obtain rfl := osome hs
     exact hret _ _ _ _ (.inl rfl) d7953 (results1_ rfl (RVal.tmp_ e7953_6)) ⟨(rl [(5521, 1)] o7953), rfl, (Evo.rl_ hX7953 hown rfl), (SoO.rl_ b7953_Jx)⟩
    refine fl_skip ?_
    refine hn7950 _ _ ?_
    refine fl_seq (fun Q7954 hn7954 hp7954 => ?_)
    refine rq_seq 91 o7951 [0, 0, 3, 7] [dv [] [2] 34 (Zi b2), dv [] [1] 35 (Zi x1), dv [0, 1] [] 36 (Zi (sb b2 x1)), dv [2] [] 37 (.bool (decide ((sb b2 x1) < 50)))] z7951 d7951 ?_ ?_
    ·exact sM e7951_2 <| sM e7951_1 <| sF (fun f => or_sub f.1 f.2.1 rfl) <| sF (fun f => or_lss f.1 rfl rfl) <| steps_nil
    intro o7955 a7955 w7955 d7955 z7955 hk7955 hf7955 hE7955
    obtain ⟨e7955_1, e7955_2, e7955_3, e7955_7, e7955_8⟩ := kt5 hk7955 e7951_1 e7951_2 e7951_3 e7951_7 e7951_8
    have e7955_37 := gv (hf7955 [3] rfl) rfl
    have hX7955 := Evo.step hX7951 hown hE7955 rfl
    have b7955_g4138 := be_ hE7955 b7951_g4138
    have b7955_Jx := SoO.evo (by decide) hE7955 b7951_Jx
    refine fl_cond e7955_37 hs (fun c7956 hs => ?_) (fun c7956 hs => ?_)
    ·refine rq_seq 91 o7955 (bz 1) [dv [] [] 6 (.bool false)] z7955 d7955 ?_ ?_
     ·exact sO (or_assign rfl) <| steps_nil
     intro o7957 a7957 w7957 d7957 z7957 hk7957 hf7957 hE7957
     have e7957_6 := gv (hf7957 [0] rfl) rfl
     have hX7957 := Evo.step hX7955 hown hE7957 rfl
     have b7957_Jx := SoO.evo (by decide) hE7957 b7955_Jx
     refine fl_ret ?_
     refine hp7954 _ _ _ rfl ?_
     refine hp7580 _ _ _ rfl ?_
     refine hp6897 _ _ _ rfl ?_
     replace hs := z6892 _ hs
     refine hp6892 _ _ _ rfl ?_
     refine hp4144 _ _ _ rfl ?_
     refine hp4142 _ _ _ rfl ?_
     obtain rfl := osome hs
     exact hret _ _ _ _ (.inl rfl) d7957 (results1_ rfl (RVal.tmp_ e7957_6)) ⟨(rl [(5521, 1)] o7957), rfl, (Evo.rl_ hX7957 hown rfl), (SoO.rl_ b7957_Jx)⟩
    refine fl_skip ?_
    refine hn7954 _ _ ?_
    obtain ⟨l7958, hl7958, hs⟩ := obind hs
    refine rr_seq 91 [Fct.soAt Jx 5521 l5520] o7955 [5521] [0, 1, 0, 0, 8, 31] [dv [] [3] 38 (pt g4138 1), dv [0] [] 39 (.func (.func 71) #[] #[sv, th]), dv [] [7] 40 (Zi i7934), dv [] [7] 41 (Zi i7934), dv [3] [] 42 (Zi (sb i7934 1)), ⟨[1, 2, 4, 6], [], [5521], Fct.so Jx 7959 43 l7958⟩] z7955 d7955 (fm1 b7955_Jx) ?_ ?_
    ·refine sS (fun s => or_field fo122_1 (s.1.trans e7955_3) (by rfl)) <| sG to117 b7955_g4138 <| sM e7955_7 <| sM e7955_7 <| sF (fun f => or_sub f.1 rfl rfl) ?_
     refine sc (fun own a wx hf hsl hE => ?_) ?_
     ·obtain ⟨f_39, f_40, f_42, b_Jx, -⟩ := hf
      exact px (or_sswap (lab := 5521) (lab2 := 7959) f_39 (args2 f_40 f_42) hS b_Jx (by decide) hl7958 (mem_of rfl))
     exact steps_nil
    intro o7960 a7960 w7960 d7960 z7960 hk7960 hf7960 hE7960
    obtain ⟨e7960_1, e7960_2, e7960_3, e7960_7, e7960_8⟩ := kt5 hk7960 e7955_1 e7955_2 e7955_3 e7955_7 e7955_8
    obtain ⟨⟨(f_43 : a7960.eval (.tmp 43) = .tuple #[]), (b7960_Jx : SoO Jx o7960 7959 w7960 l7958)⟩, -⟩ := hf7960 [5] rfl
    have hX7960 := Evo.step hX7955 hown hE7960 rfl
    have b7960_g4138 := be_ hE7960 b7955_g4138
    refine fl_seq (fun Q7961 hn7961 hp7961 => ?_)
    have K8063 : ∀ (a8063 : Act) (w8063 : World) (o8063 : Own) (l8061 : List Tx), a8063.defers = [] → a8063.tmps.size = 91 → a8063.eval (.tmp 1) = Zi x1 → a8063.eval (.tmp 2) = Zi b2 → a8063.eval (.tmp 3) = pt g4138 0 → a8063.eval (.tmp 7) = Zi i7934 → a8063.eval (.tmp 8) = Zi j5519 → Evo [1] own o8063 w w8063 → BlkO o8063 4139 w8063 g4138 122 #[.func (.func 48) #[] #[ca], .func (.func 71) #[] #[sv, th]] → SoO Jx o8063 8062 w8063 l8061 → sort_partialInsertionSort_func_k4 Tx lf b2 j5519 i7934 l8061 = some zz6892 → Q7961 .normal a8063 w8063 := by
     intro a8063 w8063 o8063 l8061 d8064 z8064 e8064_1 e8064_2 e8064_3 e8064_7 e8064_8 hE8064 b8064_g4138 b8064_Jx hs
     refine hn7961 _ _ ?_
     refine rq_seq 91 o8063 [0, 0, 3, 7] [dv [] [2] 67 (Zi b2), dv [] [7] 68 (Zi i7934), dv [0, 1] [] 69 (Zi (sb b2 i7934)), dv [2] [] 70 (.bool (decide (2 ≤ (sb b2 i7934))))] z8064 d8064 ?_ ?_
     ·exact sM e8064_2 <| sM e8064_7 <| sF (fun f => or_sub f.1 f.2.1 rfl) <| sF (fun f => or_geq f.1 rfl rfl) <| steps_nil
     intro o8065 a8065 w8065 d8065 z8065 hk8065 hf8065 hE8065
     obtain ⟨e8065_1, e8065_2, e8065_3, e8065_7, e8065_8⟩ := kt5 hk8065 e8064_1 e8064_2 e8064_3 e8064_7 e8064_8
     have e8065_70 := gv (hf8065 [3] rfl) rfl
     have hX8065 := Evo.step hE8064 hown hE8065 rfl
     have b8065_g4138 := be_ hE8065 b8064_g4138
     have b8065_Jx := SoO.evo (by decide) hE8065 b8064_Jx
     refine fl_cond e8065_70 hs (fun c8066 hs => ?_) (fun c8066 hs => ?_)
     ·refine rq_seq 91 o8065 (bz 3) [dv [] [7] 71 (Zi i7934), dv [0] [] 72 (Zi (ad i7934 1)), dv [1] [] 10 (Zi (ad i7934 1))] z8065 d8065 ?_ ?_
      ·exact sM e8065_7 <| sF (fun f => or_add f.1 rfl rfl) <| sA <| steps_nil
      intro o8067 a8067 w8067 d8067 z8067 hk8067 hf8067 hE8067
      obtain ⟨e8067_1, e8067_2, e8067_3, e8067_7, e8067_8⟩ := kt5 hk8067 e8065_1 e8065_2 e8065_3 e8065_7 e8065_8
      have e8067_10 := gv (hf8067 [2] rfl) rfl
      have hX8067 := Evo.step hX8065 hown hE8067 rfl
      have b8067_g4138 := be_ hE8067 b8065_g4138
      have b8067_Jx := SoO.evo (by decide) hE8067 b8065_Jx
      refine fl_block (fun Q8068 hn8068 hx8068 hp8068 => ?_)
      have K8116 : ∀ (a8116 : Act) (w8116 : World) (o8116 : Own) (l8115 : List Tx), a8116.defers = [] → a8116.tmps.size = 91 → a8116.eval (.tmp 1) = Zi x1 → a8116.eval (.tmp 2) = Zi b2 → a8116.eval (.tmp 3) = pt g4138 0 → a8116.eval (.tmp 7) = Zi i7934 → a8116.eval (.tmp 8) = Zi j5519 → Evo [1] own o8116 w w8116 → BlkO o8116 4139 w8116 g4138 122 #[.func (.func 48) #[] #[ca], .func (.func 71) #[] #[sv, th]] → SoO Jx o8116 8085 w8116 l8115 → sort_partialInsertionSort_func_k5 Tx j5519 i7934 l8115 = some zz6892 → (Q8068 .normal a8116 w8116 ∧ Q8068 (.exit 6) a8116 w8116) := by
       intro a8116 w8116 o8116 l8115 d8117 z8117 e8117_1 e8117_2 e8117_3 e8117_7 e8117_8 hE8117 b8117_g4138 b8117_Jx hs
       refine and_both (hn8068 _ _) (hx8068 _ _) ?_
       exact (K7922 _ _ (rl [(8085, 7921)] o8116) _ _ d8117 z8117 e8117_1 e8117_2 e8117_3 e8117_7 e8117_8 (Evo.rl_ hE8117 hown rfl) (BlkO.rl_ b8117_g4138) (SoO.rl_ b8117_Jx) hs).1
      refine fl_loop (body := (fun s => sort_partialInsertionSort_func_b6 Tx lf b2 j5519 i7934 s.1 s.2)) (z := zz6892) (show loopO _ _ = _ from hs) (fun (s : Int × (List Tx)) a wx => match s with | (j8132, l8133) => ∃ (ox : Own), a.defers = [] ∧ a.tmps.size = 91 ∧ a.eval (.tmp 1) = Zi x1 ∧ a.eval (.tmp 2) = Zi b2 ∧ a.eval (.tmp 3) = pt g4138 0 ∧ a.eval (.tmp 7) = Zi i7934 ∧ a.eval (.tmp 8) = Zi j5519 ∧ a.eval (.tmp 10) = Zi j8132 ∧ Evo [1] own ox w wx ∧ BlkO ox 4139 wx g4138 122 #[.func (.func 48) #[] #[ca], .func (.func 71) #[] #[sv, th]] ∧ SoO Jx ox 8134 wx l8133) ?_ ?_
      ·exact ⟨(rl [(8062, 8134)] o8067), d8067, z8067, e8067_1, e8067_2, e8067_3, e8067_7, e8067_8, e8067_10, (Evo.rl_ hX8067 hown rfl), (BlkO.rl_ b8067_g4138), (SoO.rl_ b8067_Jx)⟩
      ·rintro ⟨j8132, l8133⟩ zz8149 a8149 w8149 ⟨o8149, d8150, z8150, e8150_1, e8150_2, e8150_3, e8150_7, e8150_8, e8150_10, hE8150, b8150_g4138, b8150_Jx⟩ hs Q8149 hn8149 hp8149 z8149
       have hs : sort_partialInsertionSort_func_b6 Tx lf b2 j5519 i7934 j8132 l8133 = some zz8149 := hs
       refine fl_seq (fun Q8151 hn8151 hp8151 => ?_)
       refine rq_seq 91 o8149 [0, 0, 3] [dv [] [10] 73 (Zi j8132), dv [] [2] 74 (Zi b2), dv [0, 1] [] 75 (.bool (decide (j8132 < b2)))] z8150 d8150 ?_ ?_
       ·exact sM e8150_10 <| sM e8150_2 <| sF (fun f => or_lss f.1 f.2.1 rfl) <| steps_nil
       intro o8152 a8152 w8152 d8152 z8152 hk8152 hf8152 hE8152
       obtain ⟨e8152_1, e8152_2, e8152_3, e8152_7, e8152_8, e8152_10⟩ := kt6 hk8152 e8150_1 e8150_2 e8150_3 e8150_7 e8150_8 e8150_10
       have e8152_75 := gv (hf8152 [2] rfl) rfl
       have hX8152 := Evo.step hE8150 hown hE8152 rfl
       have b8152_g4138 := be_ hE8152 b8150_g4138
       have b8152_Jx := SoO.evo (by decide) hE8152 b8150_Jx
       refine fl_cond e8152_75 hs (fun c8153 hs => ?_) (fun c8153 hs => ?_)
       ·refine fl_skip ?_
        refine hn8151 _ _ ?_
        refine fl_seq (fun Q8154 hn8154 hp8154 => ?_)
        refine fl_block (fun Q8155 hn8155 hx8155 hp8155 => ?_)
        refine fl_seq (fun Q8156 hn8156 hp8156 => ?_)
        obtain ⟨b8157, hb8157, hs⟩ := obind hs
        refine rq_seq 91 o8152 [0, 1, 0, 0, 8, 31, 63] [dv [] [3] 78 (pt g4138 0), dv [0] [] 79 (.func (.func 48) #[] #[ca]), dv [] [10] 80 (Zi j8132), dv [] [10] 81 (Zi j8132), dv [3] [] 82 (Zi (sb j8132 1)), dv [1, 2, 4] [] 83 (.bool b8157), dv [5] [] 84 (.bool (!b8157))] z8152 d8152 ?_ ?_
        ·exact sS (fun s => or_field fo122_0 (s.1.trans e8152_3) (by rfl)) <| sG to100 b8152_g4138 <| sM e8152_10 <| sM e8152_10 <| sF (fun f => or_sub f.1 rfl rfl) <| sFE (fun f hE => or_callf cf48 f.1 (args2 f.2.1 f.2.2.1) rfl (hL _ _ _ _ _ _ _ (SoO.evo (by decide) hE b8152_Jx) hb8157) post_val) <| sF (fun f => or_not f.1 rfl) <| steps_nil
        intro o8158 a8158 w8158 d8158 z8158 hk8158 hf8158 hE8158
        obtain ⟨e8158_1, e8158_2, e8158_3, e8158_7, e8158_8, e8158_10⟩ := kt6 hk8158 e8152_1 e8152_2 e8152_3 e8152_7 e8152_8 e8152_10
        have e8158_84 := gv (hf8158 [6] rfl) rfl
        have hX8158 := Evo.step hX8152 hown hE8158 rfl
        have b8158_g4138 := be_ hE8158 b8152_g4138
        have b8158_Jx := SoO.evo (by decide) hE8158 b8152_Jx
        refine fl_cond e8158_84 hs (fun c8159 hs => ?_) (fun c8159 hs => ?_)
        ·refine fl_exit ?_
         refine hp8156 _ _ _ rfl ?_
         refine hp8155 _ _ _ rfl ?_
         refine hp8154 _ _ _ rfl ?_
         replace hs := z8149 _ hs
         refine hp8149 _ _ _ rfl ?_
         exact (K8116 _ _ (rl [(8134, 8085)] o8158) _ d8158 z8158 e8158_1 e8158_2 e8158_3 e8158_7 e8158_8 (Evo.rl_ hX8158 hown rfl) (BlkO.rl_ b8158_g4138) (SoO.rl_ b8158_Jx) hs).2
        refine fl_skip ?_
        refine hn8156 _ _ ?_
        obtain ⟨l8160, hl8160, hs⟩ := obind hs
        refine rr 91 [Fct.soAt Jx 8134 l8133] o8158 [8134] [0, 1, 0, 0, 8, 31] [dv [] [3] 85 (pt g4138 1), dv [0] [] 86 (.func (.func 71) #[] #[sv, th]), dv [] [10] 87 (Zi j8132), dv [] [10] 88 (Zi j8132), dv [3] [] 89 (Zi (sb j8132 1)), ⟨[1, 2, 4, 6], [], [8134], Fct.so Jx 8161 90 l8160⟩] z8158 d8158 (fm1 b8158_Jx) ?_ ?_
        ·refine sS (fun s => or_field fo122_1 (s.1.trans e8158_3) (by rfl)) <| sG to117 b8158_g4138 <| sM e8158_10 <| sM e8158_10 <| sF (fun f => or_sub f.1 rfl rfl) ?_
         refine sc (fun own a wx hf hsl hE => ?_) ?_
         ·obtain ⟨f_86, f_87, f_89, b_Jx, -⟩ := hf
          exact px (or_sswap (lab := 8134) (lab2 := 8161) f_86 (args2 f_87 f_89) hS b_Jx (by decide) hl8160 (mem_of rfl))
         exact steps_nil
        intro o8162 a8162 w8162 d8162 z8162 hk8162 hf8162 hE8162
        obtain ⟨e8162_1, e8162_2, e8162_3, e8162_7, e8162_8, e8162_10⟩ := kt6 hk8162 e8158_1 e8158_2 e8158_3 e8158_7 e8158_8 e8158_10
        obtain ⟨⟨(f_90 : a8162.eval (.tmp 90) = .tuple #[]), (b8162_Jx : SoO Jx o8162 8161 w8162 l8160)⟩, -⟩ := hf8162 [5] rfl
        have hX8162 := Evo.step hX8158 hown hE8162 rfl
        have b8162_g4138 := be_ hE8162 b8158_g4138
        refine hn8155 _ _ ?_
        refine hn8154 _ _ ?_
        refine rq 91 o8162 (bz 3) [dv [] [10] 76 (Zi j8132), dv [0] [] 77 (Zi (ad j8132 1)), dv [1] [] 10 (Zi (ad j8132 1))] z8162 d8162 ?_ ?_
        ·exact sM e8162_10 <| sF (fun f => or_add f.1 rfl rfl) <| sA <| steps_nil
        intro o8163 a8163 w8163 d8163 z8163 hk8163 hf8163 hE8163
        obtain ⟨e8163_1, e8163_2, e8163_3, e8163_7, e8163_8⟩ := kt5 hk8163 e8162_1 e8162_2 e8162_3 e8162_7 e8162_8
        have e8163_10 := gv (hf8163 [2] rfl) rfl
        have hX8163 := Evo.step hX8162 hown hE8163 rfl
        have b8163_g4138 := be_ hE8163 b8162_g4138
        have b8163_Jx := SoO.evo (by decide) hE8163 b8162_Jx
        exact hn8149 _ _ _ hs ⟨(rl [(8161, 8134)] o8163), d8163, z8163, e8163_1, e8163_2, e8163_3, e8163_7, e8163_8, e8163_10, (Evo.rl_ hX8163 hown rfl), (BlkO.rl_ b8163_g4138), (SoO.rl_ b8163_Jx)⟩
       refine fl_exit ?_
       refine hp8151 _ _ _ rfl ?_
       replace hs := z8149 _ hs
       refine hp8149 _ _ _ rfl ?_
       exact (K8116 _ _ (rl [(8134, 8085)] o8152) _ d8152 z8152 e8152_1 e8152_2 e8152_3 e8152_7 e8152_8 (Evo.rl_ hX8152 hown rfl) (BlkO.rl_ b8152_g4138) (SoO.rl_ b8152_Jx) hs).2
     refine fl_skip ?_
     exact (K7922 _ _ (rl [(8062, 7921)] o8065) _ _ d8065 z8065 e8065_1 e8065_2 e8065_3 e8065_7 e8065_8 (Evo.rl_ hX8065 hown rfl) (BlkO.rl_ b8065_g4138) (SoO.rl_ b8065_Jx) hs).1
    refine rq_seq 91 o7960 [0, 0, 3, 7] [dv [] [7] 44 (Zi i7934), dv [] [1] 45 (Zi x1), dv [0, 1] [] 46 (Zi (sb i7934 x1)), dv [2] [] 47 (.bool (decide (2 ≤ (sb i7934 x1))))] z7960 d7960 ?_ ?_
    ·exact sM e7960_7 <| sM e7960_1 <| sF (fun f => or_sub f.1 f.2.1 rfl) <| sF (fun f => or_geq f.1 rfl rfl) <| steps_nil
    intro o8164 a8164 w8164 d8164 z8164 hk8164 hf8164 hE8164
    obtain ⟨e8164_1, e8164_2, e8164_3, e8164_7, e8164_8⟩ := kt5 hk8164 e7960_1 e7960_2 e7960_3 e7960_7 e7960_8
    have e8164_47 := gv (hf8164 [3] rfl) rfl
    have hX8164 := Evo.step hX7960 hown hE8164 rfl
    have b8164_g4138 := be_ hE8164 b7960_g4138
    have b8164_Jx := SoO.evo (by decide) hE8164 b7960_Jx
    refine fl_cond e8164_47 hs (fun c8165 hs => ?_) (fun c8165 hs => ?_)
    ·refine rq_seq 91 o8164 (bz 3) [dv [] [7] 48 (Zi i7934), dv [0] [] 49 (Zi (sb i7934 1)), dv [1] [] 9 (Zi (sb i7934 1))] z8164 d8164 ?_ ?_
     ·exact sM e8164_7 <| sF (fun f => or_sub f.1 rfl rfl) <| sA <| steps_nil
     intro o8166 a8166 w8166 d8166 z8166 hk8166 hf8166 hE8166
     obtain ⟨e8166_1, e8166_2, e8166_3, e8166_7, e8166_8⟩ := kt5 hk8166 e8164_1 e8164_2 e8164_3 e8164_7 e8164_8
     have e8166_9 := gv (hf8166 [2] rfl) rfl
     have hX8166 := Evo.step hX8164 hown hE8166 rfl
     have b8166_g4138 := be_ hE8166 b8164_g4138
     have b8166_Jx := SoO.evo (by decide) hE8166 b8164_Jx
     refine fl_block (fun Q8167 hn8167 hx8167 hp8167 => ?_)
     have K8215 : ∀ (a8215 : Act) (w8215 : World) (o8215 : Own) (l8214 : List Tx), a8215.defers = [] → a8215.tmps.size = 91 → a8215.eval (.tmp 1) = Zi x1 → a8215.eval (.tmp 2) = Zi b2 → a8215.eval (.tmp 3) = pt g4138 0 → a8215.eval (.tmp 7) = Zi i7934 → a8215.eval (.tmp 8) = Zi j5519 → Evo [1] own o8215 w w8215 → BlkO o8215 4139 w8215 g4138 122 #[.func (.func 48) #[] #[ca], .func (.func 71) #[] #[sv, th]] → SoO Jx o8215 8184 w8215 l8214 → sort_partialInsertionSort_func_k7 Tx lf b2 j5519 i7934 l8214 = some zz6892 → (Q8167 .normal a8215 w8215 ∧ Q8167 (.exit 4) a8215 w8215) := by
      intro a8215 w8215 o8215 l8214 d8216 z8216 e8216_1 e8216_2 e8216_3 e8216_7 e8216_8 hE8216 b8216_g4138 b8216_Jx hs
      refine and_both (hn8167 _ _) (hx8167 _ _) ?_
      exact (K8063 _ _ (rl [(8184, 8062)] o8215) _ d8216 z8216 e8216_1 e8216_2 e8216_3 e8216_7 e8216_8 (Evo.rl_ hE8216 hown rfl) (BlkO.rl_ b8216_g4138) (SoO.rl_ b8216_Jx) hs)
     refine fl_loop (body := (fun s => sort_partialInsertionSort_func_b8 Tx lf b2 j5519 i7934 s.1 s.2)) (z := zz6892) (show loopO _ _ = _ from hs) (fun (s : Int × (List Tx)) a wx => match s with | (j8231, l8232) => ∃ (ox : Own), a.defers = [] ∧ a.tmps.size = 91 ∧ a.eval (.tmp 1) = Zi x1 ∧ a.eval (.tmp 2) = Zi b2 ∧ a.eval (.tmp 3) = pt g4138 0 ∧ a.eval (.tmp 7) = Zi i7934 ∧ a.eval (.tmp 8) = Zi j5519 ∧ a.eval (.tmp 9) = Zi j8231 ∧ Evo [1] own ox w wx ∧ BlkO ox 4139 wx g4138 122 #[.func (.func 48) #[] #[ca], .func (.func 71) #[] #[sv, th]] ∧ SoO Jx ox 8233 wx l8232) ?_ ?_
     ·exact ⟨(rl [(7959, 8233)] o8166), d8166, z8166, e8166_1, e8166_2, e8166_3, e8166_7, e8166_8, e8166_9, (Evo.rl_ hX8166 hown rfl), (BlkO.rl_ b8166_g4138), (SoO.rl_ b8166_Jx)⟩
     ·rintro ⟨j8231, l8232⟩ zz8248 a8248 w8248 ⟨o8248, d8249, z8249, e8249_1, e8249_2, e8249_3, e8249_7, e8249_8, e8249_9, hE8249, b8249_g4138, b8249_Jx⟩ hs Q8248 hn8248 hp8248 z8248
      have hs : sort_partialInsertionSort_func_b8 Tx lf b2 j5519 i7934 j8231 l8232 = some zz8248 := hs
      refine fl_seq (fun Q8250 hn8250 hp8250 => ?_)
      refine rq_seq 91 o8248 (bz 2) [dv [] [9] 50 (Zi j8231), dv [0] [] 51 (.bool (decide (1 ≤ j8231)))] z8249 d8249 ?_ ?_
      ·exact sM e8249_9 <| sF (fun f => or_geq f.1 rfl rfl) <| steps_nil
      intro o8251 a8251 w8251 d8251 z8251 hk8251 hf8251 hE8251
      obtain ⟨e8251_1, e8251_2, e8251_3, e8251_7, e8251_8, e8251_9⟩ := kt6 hk8251 e8249_1 e8249_2 e8249_3 e8249_7 e8249_8 e8249_9
      have e8251_51 := gv (hf8251 [1] rfl) rfl
      have hX8251 := Evo.step hE8249 hown hE8251 rfl
      have b8251_g4138 := be_ hE8251 b8249_g4138
      have b8251_Jx := SoO.evo (by decide) hE8251 b8249_Jx
      refine fl_cond e8251_51 hs (fun c8252 hs => ?_) (fun c8252 hs => ?_)
      ·refine fl_skip ?_
       refine hn8250 _ _ ?_
       refine fl_seq (fun Q8253 hn8253 hp8253 => ?_)
       refine fl_block (fun Q8254 hn8254 hx8254 hp8254 => ?_)
       refine fl_seq (fun Q8255 hn8255 hp8255 => ?_)
       obtain ⟨b8256, hb8256, hs⟩ := obind hs
       refine rq_seq 91 o8251 [0, 1, 0, 0, 8, 31, 63] [dv [] [3] 54 (pt g4138 0), dv [0] [] 55 (.func (.func 48) #[] #[ca]), dv [] [9] 56 (Zi j8231), dv [] [9] 57 (Zi j8231), dv [3] [] 58 (Zi (sb j8231 1)), dv [1, 2, 4] [] 59 (.bool b8256), dv [5] [] 60 (.bool (!b8256))] z8251 d8251 ?_ ?_
       ·exact sS (fun s => or_field fo122_0 (s.1.trans e8251_3) (by rfl)) <| sG to100 b8251_g4138 <| sM e8251_9 <| sM e8251_9 <| sF (fun f => or_sub f.1 rfl rfl) <| sFE (fun f hE => or_callf cf48 f.1 (args2 f.2.1 f.2.2.1) rfl (hL _ _ _ _ _ _ _ (SoO.evo (by decide) hE b8251_Jx) hb8256) post_val) <| sF (fun f => or_not f.1 rfl) <| steps_nil
       intro o8257 a8257 w8257 d8257 z8257 hk8257 hf8257 hE8257
       obtain ⟨e8257_1, e8257_2, e8257_3, e8257_7, e8257_8, e8257_9⟩ := kt6 hk8257 e8251_1 e8251_2 e8251_3 e8251_7 e8251_8 e8251_9
       have e8257_60 := gv (hf8257 [6] rfl) rfl
       have hX8257 := Evo.step hX8251 hown hE8257 rfl
       have b8257_g4138 := be_ hE8257 b8251_g4138
       have b8257_Jx := SoO.evo (by decide) hE8257 b8251_Jx
       refine fl_cond e8257_60 hs (fun c8258 hs => ?_) (fun c8258 hs => ?_)
       ·refine fl_exit ?_
        refine hp8255 _ _ _ rfl ?_
        refine hp8254 _ _ _ rfl ?_
        refine hp8253 _ _ _ rfl ?_
        replace hs := z8248 _ hs
        refine hp8248 _ _ _ rfl ?_
        exact (K8215 _ _ (rl [(8233, 8184)] o8257) _ d8257 z8257 e8257_1 e8257_2 e8257_3 e8257_7 e8257_8 (Evo.rl_ hX8257 hown rfl) (BlkO.rl_ b8257_g4138) (SoO.rl_ b8257_Jx) hs).2
       refine fl_skip ?_
       refine hn8255 _ _ ?_
       obtain ⟨l8259, hl8259, hs⟩ := obind hs
       refine rr 91 [Fct.soAt Jx 8233 l8232] o8257 [8233] [0, 1, 0, 0, 8, 31] [dv [] [3] 61 (pt g4138 1), dv [0] [] 62 (.func (.func 71) #[] #[sv, th]), dv [] [9] 63 (Zi j8231), dv [] [9] 64 (Zi j8231), dv [3] [] 65 (Zi (sb j8231 1)), ⟨[1, 2, 4, 6], [], [8233], Fct.so Jx 8260 66 l8259⟩] z8257 d8257 (fm1 b8257_Jx) ?_ ?_
       ·refine sS (fun s => or_field fo122_1 (s.1.trans e8257_3) (by rfl)) <| sG to117 b8257_g4138 <| sM e8257_9 <| sM e8257_9 <| sF (fun f => or_sub f.1 rfl rfl) ?_
        refine sc (fun own a wx hf hsl hE => ?_) ?_
        ·obtain ⟨f_62, f_63, f_65, b_Jx, -⟩ := hf
         exact px (or_sswap (lab := 8233) (lab2 := 8260) f_62 (args2 f_63 f_65) hS b_Jx (by decide) hl8259 (mem_of rfl))
        exact steps_nil
       intro o8261 a8261 w8261 d8261 z8261 hk8261 hf8261 hE8261
       obtain ⟨e8261_1, e8261_2, e8261_3, e8261_7, e8261_8, e8261_9⟩ := kt6 hk8261 e8257_1 e8257_2 e8257_3 e8257_7 e8257_8 e8257_9
       obtain ⟨⟨(f_66 : a8261.eval (.tmp 66) = .tuple #[]), (b8261_Jx : SoO Jx o8261 8260 w8261 l8259)⟩, -⟩ := hf8261 [5] rfl
       have hX8261 := Evo.step hX8257 hown hE8261 rfl
       have b8261_g4138 := be_ hE8261 b8257_g4138
       refine hn8254 _ _ ?_
       refine hn8253 _ _ ?_
       refine rq 91 o8261 (bz 3) [dv [] [9] 52 (Zi j8231), dv [0] [] 53 (Zi (sb j8231 1)), dv [1] [] 9 (Zi (sb j8231 1))] z8261 d8261 ?_ ?_
       ·exact sM e8261_9 <| sF (fun f => or_sub f.1 rfl rfl) <| sA <| steps_nil
       intro o8262 a8262 w8262 d8262 z8262 hk8262 hf8262 hE8262
       obtain ⟨e8262_1, e8262_2, e8262_3, e8262_7, e8262_8⟩ := kt5 hk8262 e8261_1 e8261_2 e8261_3 e8261_7 e8261_8
       have e8262_9 := gv (hf8262 [2] rfl) rfl
       have hX8262 := Evo.step hX8261 hown hE8262 rfl
       have b8262_g4138 := be_ hE8262 b8261_g4138
       have b8262_Jx := SoO.evo (by decide) hE8262 b8261_Jx
       exact hn8248 _ _ _ hs ⟨(rl [(8260, 8233)] o8262), d8262, z8262, e8262_1, e8262_2, e8262_3, e8262_7, e8262_8, e8262_9, (Evo.rl_ hX8262 hown rfl), (BlkO.rl_ b8262_g4138), (SoO.rl_ b8262_Jx)⟩
      refine fl_exit ?_
      refine hp8250 _ _ _ rfl ?_
      replace hs := z8248 _ hs
      refine hp8248 _ _ _ rfl ?_
      exact (K8215 _ _ (rl [(8233, 8184)] o8251) _ d8251 z8251 e8251_1 e8251_2 e8251_3 e8251_7 e8251_8 (Evo.rl_ hX8251 hown rfl) (BlkO.rl_ b8251_g4138) (SoO.rl_ b8251_Jx) hs).2
    refine fl_skip ?_
    exact (K8063 _ _ (rl [(7959, 8062)] o8164) _ d8164 z8164 e8164_1 e8164_2 e8164_3 e8164_7 e8164_8 (Evo.rl_ hX8164 hown rfl) (BlkO.rl_ b8164_g4138) (SoO.rl_ b8164_Jx) hs)
  refine fl_exit ?_
  refine hp6894 _ _ _ rfl ?_
  replace hs := z6892 _ hs
  refine hp6892 _ _ _ rfl ?_
  refine hx4144 _ _ ?_
  refine hn4142 _ _ ?_
  refine rq_seq 91 o6895 (bz 1) [dv [] [] 6 (.bool false)] z6895 d6895 ?_ ?_
  ·exact sO (or_assign rfl) <| steps_nil
  intro o8263 a8263 w8263 d8263 z8263 hk8263 hf8263 hE8263
  have e8263_6 := gv (hf8263 [0] rfl) rfl
  have hX8263 := Evo.step hX6895 hown hE8263 rfl
  have b8263_Jx := SoO.evo (by decide) hE8263 b6895_Jx
  refine fl_ret ?_
  obtain rfl := osome hs
  exact hret _ _ _ _ (.inl rfl) d8263 (results1_ rfl (RVal.tmp_ e8263_6)) ⟨(rl [(5521, 1)] o8263), rfl, (Evo.rl_ hX8263 hown rfl), (SoO.rl_ b8263_Jx)⟩
theorem sort_partitionEqual_func_w (w : World) (own : Own) (Tx : Type) (lf : List Tx → Int → Int → Option Bool) (ca : Value) (sv : Value) (th : Value) (l0 : List Tx) (Jx : Sj (List Tx)) (x1 : Int) (b2 : Int) (pivot3 : Int) (hown : ∀ b, own b ≤ 1) (hL : LessS Try.prog 48 ca lf Jx) (hS : SwapS Try.prog 71 sv th Jx) (hJx : SoO Jx own 1 w l0) (r : Int × (List Tx)) (hs : sort_partitionEqual_func Tx lf l0 x1 b2 pivot3 = some r) :
  Calls Try.prog 80 #[.agg #[.func (.func 48) #[] #[ca], .func (.func 71) #[] #[sv, th]], Zi x1, Zi b2, Zi pivot3] w fun e w' => ∃ (own' : Own), e = .returned (Zi r.1) ∧ Evo [1] own own' w w' ∧ SoO Jx own' 1 w' r.2 := by
 refine fl_enter (n := 58) rfl rfl rfl (Nat.le_of_ble_eq_true rfl) ?_
 intro a0 Q d0 z0 harg hret
 have ha0 := harg 0 _ rfl
 have ha1 := harg 1 _ rfl
 have ha2 := harg 2 _ rfl
 have ha3 := harg 3 _ rfl
 clear harg
 have hE0 : Evo [1] own own w w := Evo.refl _ _ _
 refine rq_seq 58 own [0, 0] [⟨[], [0], [], Fct.blk 211 4 (fun g => pt g 0) 122 #[.func (.func 48) #[] #[ca], .func (.func 71) #[] #[sv, th]]⟩, dv [] [] 8 (Zi 0)] z0 d0 ?_ ?_
 ·exact sS (fun s => nw1 (s.1.trans ha0)) <| sO (or_assign rfl) <| steps_nil
 intro o212 a212 w212 d212 z212 hk212 hf212 hE212
 obtain ⟨e212_1, e212_2, e212_3⟩ := kt3 hk212 ha1 ha2 ha3
 obtain ⟨⟨g210, (e212_4 : a212.eval (.tmp 4) = pt g210 0), (b212_g210 : BlkO o212 211 w212 g210 122 #[.func (.func 48) #[] #[ca], .func (.func 71) #[] #[sv, th]])⟩, -⟩ := hf212 [0] rfl
 have hX212 := Evo.step hE0 hown hE212 rfl
 have b212_Jx := SoO.evo (by decide) hE212 hJx
 obtain ⟨l213, hl213, hs⟩ := obind hs
 refine rr_seq 58 [Fct.soAt Jx 1 l0] o212 [1] [0, 1, 0, 0, 15] [dv [] [4] 11 (pt g210 1), dv [0] [] 12 (.func (.func 71) #[] #[sv, th]), dv [] [1] 13 (Zi x1), dv [] [3] 14 (Zi pivot3), ⟨[1, 2, 3, 5], [], [1], Fct.so Jx 214 15 l213⟩] z212 d212 (fm1 b212_Jx) ?_ ?_
 ·refine sS (fun s => or_field fo122_1 (s.1.trans e212_4) (by rfl)) <| sG to117 b212_g210 <| sM e212_1 <| sM e212_3 ?_
  refine sc (fun own a wx hf hsl hE => ?_) ?_
  ·obtain ⟨f_12, f_13, f_14, b_Jx, -⟩ := hf
   exact px (or_sswap (lab := 1) (lab2 := 214) f_12 (args2 f_13 f_14) hS b_Jx (by decide) hl213 (mem_of rfl))
  exact steps_nil
 intro o215 a215 w215 d215 z215 hk215 hf215 hE215
 obtain ⟨e215_1, e215_2, e215_4⟩ := kt3 hk215 e212_1 e212_2 e212_4
 obtain ⟨⟨(f_15 : a215.eval (.tmp 15) = .tuple #[]), (b215_Jx : SoO Jx o215 214 w215 l213)⟩, -⟩ := hf215 [4] rfl
 have hX215 := Evo.step hX212 hown hE215 rfl
 have b215_g210 := be_ hE215 b212_g210
 refine rq_seq 58 o215 [0, 1, 0, 4, 3, 31] [dv [] [1] 16 (Zi x1), dv [0] [] 17 (Zi (ad x1 1)), dv [] [2] 18 (Zi b2), dv [2] [] 19 (Zi (sb b2 1)), dv [1] [] 9 (Zi (ad x1 1)), dv [3] [] 10 (Zi (sb b2 1))] z215 d215 ?_ ?_
 ·exact sM e215_1 <| sF (fun f => or_add f.1 rfl rfl) <| sM e215_2 <| sF (fun f => or_sub f.1 rfl rfl) <| sA <| sA <| steps_nil
 intro o216 a216 w216 d216 z216 hk216 hf216 hE216
 obtain ⟨e216_1, e216_4⟩ := kt2 hk216 e215_1 e215_4
 have e216_9 := gv (hf216 [4] rfl) rfl
 have e216_10 := gv (hf216 [5] rfl) rfl
 have hX216 := Evo.step hX215 hown hE216 rfl
 have b216_g210 := be_ hE216 b215_g210
 have b216_Jx := SoO.evo (by decide) hE216 b215_Jx
 refine fl_seq (fun Q217 hn217 hp217 => ?_)
 refine fl_block (fun Q218 hn218 hx218 hp218 => ?_)
 refine fl_loop (body := (fun s => sort_partitionEqual_func_b1 Tx lf x1 s.1 s.2.1 s.2.2)) (z := r) (show loopO _ _ = _ from hs) (fun (s : Int × Int × (List Tx)) a wx => match s with | (i283, j284, l285) => ∃ (ox : Own), a.defers = [] ∧ a.tmps.size = 58 ∧ a.eval (.tmp 1) = Zi x1 ∧ a.eval (.tmp 4) = pt g210 0 ∧ a.eval (.tmp 9) = Zi i283 ∧ a.eval (.tmp 10) = Zi j284 ∧ Evo [1] own ox w wx ∧ BlkO ox 211 wx g210 122 #[.func (.func 48) #[] #[ca], .func (.func 71) #[] #[sv, th]] ∧ SoO Jx ox 286 wx l285) ?_ ?_
 ·exact ⟨(rl [(214, 286)] o216), d216, z216, e216_1, e216_4, e216_9, e216_10, (Evo.rl_ hX216 hown rfl), (BlkO.rl_ b216_g210), (SoO.rl_ b216_Jx)⟩
 ·rintro ⟨i283, j284, l285⟩ zz347 a347 w347 ⟨o347, d348, z348, e348_1, e348_4, e348_9, e348_10, hE348, b348_g210, b348_Jx⟩ hs Q347 hn347 hp347 z347
  have hs : sort_partitionEqual_func_b1 Tx lf x1 i283 j284 l285 = some zz347 := hs
  refine fl_block (fun Q349 hn349 hx349 hp349 => ?_)
  refine fl_seq (fun Q350 hn350 hp350 => ?_)
  refine fl_block (fun Q351 hn351 hx351 hp351 => ?_)
  refine fl_loop (body := (fun s => sort_partitionEqual_func_b2 Tx lf x1 j284 l285 s)) (z := zz347) (show loopO _ _ = _ from hs) (fun (i359 : Int) a wx => ∃ (ox : Own), a.defers = [] ∧ a.tmps.size = 58 ∧ a.eval (.tmp 1) = Zi x1 ∧ a.eval (.tmp 4) = pt g210 0 ∧ a.eval (.tmp 9) = Zi i359 ∧ a.eval (.tmp 10) = Zi j284 ∧ Evo [1] own ox w wx ∧ BlkO ox 211 wx g210 122 #[.func (.func 48) #[] #[ca], .func (.func 71) #[] #[sv, th]] ∧ SoO Jx ox 286 wx l285) ?_ ?_
  ·exact ⟨o347, d348, z348, e348_1, e348_4, e348_9, e348_10, hE348, b348_g210, b348_Jx⟩
  ·rintro i359 zz367 a367 w367 ⟨o367, d368, z368, e368_1, e368_4, e368_9, e368_10, hE368, b368_g210, b368_Jx⟩ hs Q367 hn367 hp367 z367
   have hs : sort_partitionEqual_func_b2 Tx lf x1 j284 l285 i359 = some zz367 := hs
   refine fl_seq (fun Q369 hn369 hp369 => ?_)
   obtain ⟨b370, hb370, hs⟩ := obind hs
   refine rq_seq 58 o367 [0, 0, 3, 7, 15, 31, 15, 15, 255, 511, 1023] [dv [] [9] 20 (Zi i359), dv [] [10] 21 (Zi j284), dv [0, 1] [] 22 (.bool (decide (i359 ≤ j284))), dv [2] [] 23 (.bool (decide (i359 ≤ j284))), dc [3] [4] (decide (i359 ≤ j284)) 24 (pt g210 0), dc [3, 4] [] (decide (i359 ≤ j284)) 25 (.func (.func 48) #[] #[ca]), dc [3] [1] (decide (i359 ≤ j284)) 26 (Zi x1), dc [3] [9] (decide (i359 ≤ j284)) 27 (Zi i359), dc [3, 5, 6, 7] [] (decide (i359 ≤ j284)) 28 (.bool b370), dc [3, 8] [] (decide (i359 ≤ j284)) 29 (.bool (!b370)), dv [3, 9] [] 30 (.bool ((decide (i359 ≤ j284)) && (!b370)))] z368 d368 ?_ ?_
   ·exact sM e368_9 <| sM e368_10 <| sF (fun f => or_leq f.1 f.2.1 rfl) <| sV <| cT (fun _ s _ _ => or_field fo122_0 (s.1.trans e368_4) (by rfl)) <| cT (fun f _ hE hg => ld1 to100 (f.2.1.1 hg) (be_ hE b368_g210)) <| cT (fun _ s _ _ => or_move (s.1.trans e368_1)) <| cT (fun _ s _ _ => or_move (s.1.trans e368_9)) <| cT (fun f _ hE hg => or_callf cf48 (f.2.1.1 hg) (args2 (f.2.2.1.1 hg) (f.2.2.2.1.1 hg)) rfl (hL _ _ _ _ _ _ _ (SoO.evo (by decide) hE b368_Jx) (gd_t hb370 hg)) post_val) <| cT (fun f _ _ hg => or_not (f.2.1.1 hg) rfl) <| sF (fun f => or_and f.1 (fun hx => f.2.1.1 hx) rfl rfl) <| steps_nil
   intro o371 a371 w371 d371 z371 hk371 hf371 hE371
   obtain ⟨e371_1, e371_4, e371_9, e371_10⟩ := kt4 hk371 e368_1 e368_4 e368_9 e368_10
   have e371_30 := gv (hf371 [10] rfl) rfl
   have hX371 := Evo.step hE368 hown hE371 rfl
   have b371_g210 := be_ hE371 b368_g210
   have b371_Jx := SoO.evo (by decide) hE371 b368_Jx
   refine fl_cond e371_30 hs (fun c372 hs => ?_) (fun c372 hs => ?_)
   ·refine fl_skip ?_
    refine hn369 _ _ ?_
    refine fl_block (fun Q373 hn373 hx373 hp373 => ?_)
    refine rq 58 o371 (bz 3) [dv [] [9] 31 (Zi i359), dv [0] [] 32 (Zi (ad i359 1)), dv [1] [] 9 (Zi (ad i359 1))] z371 d371 ?_ ?_
    ·exact sM e371_9 <| sF (fun f => or_add f.1 rfl rfl) <| sA <| steps_nil
    intro o374 a374 w374 d374 z374 hk374 hf374 hE374
    obtain ⟨e374_1, e374_4, e374_10⟩ := kt3 hk374 e371_1 e371_4 e371_10
    have e374_9 := gv (hf374 [2] rfl) rfl
    have hX374 := Evo.step hX371 hown hE374 rfl
    have b374_g210 := be_ hE374 b371_g210
    have b374_Jx := SoO.evo (by decide) hE374 b371_Jx
    refine hn373 _ _ ?_
    exact hn367 _ _ _ hs ⟨o374, d374, z374, e374_1, e374_4, e374_9, e374_10, hX374, b374_g210, b374_Jx⟩
   refine fl_exit ?_
   refine hp369 _ _ _ rfl ?_
   replace hs := z367 _ hs
   refine hp367 _ _ _ rfl ?_
   refine hx351 _ _ ?_
   refine hn350 _ _ ?_
   refine fl_seq (fun Q375 hn375 hp375 => ?_)
   refine fl_block (fun Q376 hn376 hx376 hp376 => ?_)
   refine fl_loop (body := (fun s => sort_partitionEqual_func_b3 Tx lf x1 l285 i359 s)) (z := zz347) (show loopO _ _ = _ from hs) (fun (j384 : Int) a wx => ∃ (ox : Own), a.defers = [] ∧ a.tmps.size = 58 ∧ a.eval (.tmp 1) = Zi x1 ∧ a.eval (.tmp 4) = pt g210 0 ∧ a.eval (.tmp 9) = Zi i359 ∧ a.eval (.tmp 10) = Zi j384 ∧ Evo [1] own ox w wx ∧ BlkO ox 211 wx g210 122 #[.func (.func 48) #[] #[ca], .func (.func 71) #[] #[sv, th]] ∧ SoO Jx ox 286 wx l285) ?_ ?_
   ·exact ⟨o371, d371, z371, e371_1, e371_4, e371_9, e371_10, hX371, b371_g210, b371_Jx⟩
   ·rintro j384 zz392 a392 w392 ⟨o392, d393, z393, e393_1, e393_4, e393_9, e393_10, hE393, b393_g210, b393_Jx⟩ hs Q392 hn392 hp392 z392
    have hs : sort_partitionEqual_func_b3 Tx lf x1 l285 i359 j384 = some zz392 := hs
    refine fl_seq (fun Q394 hn394 hp394 => ?_)
    obtain ⟨b395, hb395, hs⟩ := obind hs
    refine rq_seq 58 o392 [0, 0, 3, 7, 15, 31, 15, 15, 255, 511] [dv [] [9] 33 (Zi i359), dv [] [10] 34 (Zi j384), dv [0, 1] [] 35 (.bool (decide (i359 ≤ j384))), dv [2] [] 36 (.bool (decide (i359 ≤ j384))), dc [3] [4] (decide (i359 ≤ j384)) 37 (pt g210 0), dc [3, 4] [] (decide (i359 ≤ j384)) 38 (.func (.func 48) #[] #[ca]), dc [3] [1] (decide (i359 ≤ j384)) 39 (Zi x1), dc [3] [10] (decide (i359 ≤ j384)) 40 (Zi j384), dc [3, 5, 6, 7] [] (decide (i359 ≤ j384)) 41 (.bool b395), dv [3, 8] [] 42 (.bool ((decide (i359 ≤ j384)) && b395))] z393 d393 ?_ ?_
    ·exact sM e393_9 <| sM e393_10 <| sF (fun f => or_leq f.1 f.2.1 rfl) <| sV <| cT (fun _ s _ _ => or_field fo122_0 (s.1.trans e393_4) (by rfl)) <| cT (fun f _ hE hg => ld1 to100 (f.2.1.1 hg) (be_ hE b393_g210)) <| cT (fun _ s _ _ => or_move (s.1.trans e393_1)) <| cT (fun _ s _ _ => or_move (s.1.trans e393_10)) <| cT (fun f _ hE hg => or_callf cf48 (f.2.1.1 hg) (args2 (f.2.2.1.1 hg) (f.2.2.2.1.1 hg)) rfl (hL _ _ _ _ _ _ _ (SoO.evo (by decide) hE b393_Jx) (gd_t hb395 hg)) post_val) <| sF (fun f => or_and f.1 (fun hx => f.2.1.1 hx) rfl rfl) <| steps_nil
    intro o396 a396 w396 d396 z396 hk396 hf396 hE396
    obtain ⟨e396_1, e396_4, e396_9, e396_10⟩ := kt4 hk396 e393_1 e393_4 e393_9 e393_10
    have e396_42 := gv (hf396 [9] rfl) rfl
    have hX396 := Evo.step hE393 hown hE396 rfl
    have b396_g210 := be_ hE396 b393_g210
    have b396_Jx := SoO.evo (by decide) hE396 b393_Jx
    refine fl_cond e396_42 hs (fun c397 hs => ?_) (fun c397 hs => ?_)
    ·refine fl_skip ?_
     refine hn394 _ _ ?_
     refine fl_block (fun Q398 hn398 hx398 hp398 => ?_)
     refine rq 58 o396 (bz 3) [dv [] [10] 43 (Zi j384), dv [0] [] 44 (Zi (sb j384 1)), dv [1] [] 10 (Zi (sb j384 1))] z396 d396 ?_ ?_
     ·exact sM e396_10 <| sF (fun f => or_sub f.1 rfl rfl) <| sA <| steps_nil
     intro o399 a399 w399 d399 z399 hk399 hf399 hE399
     obtain ⟨e399_1, e399_4, e399_9⟩ := kt3 hk399 e396_1 e396_4 e396_9
     have e399_10 := gv (hf399 [2] rfl) rfl
     have hX399 := Evo.step hX396 hown hE399 rfl
     have b399_g210 := be_ hE399 b396_g210
     have b399_Jx := SoO.evo (by decide) hE399 b396_Jx
     refine hn398 _ _ ?_
     exact hn392 _ _ _ hs ⟨o399, d399, z399, e399_1, e399_4, e399_9, e399_10, hX399, b399_g210, b399_Jx⟩
    refine fl_exit ?_
    refine hp394 _ _ _ rfl ?_
    replace hs := z392 _ hs
    refine hp392 _ _ _ rfl ?_
    refine hx376 _ _ ?_
    refine hn375 _ _ ?_
    refine fl_seq (fun Q400 hn400 hp400 => ?_)
    refine rq_seq 58 o396 [0, 0, 3] [dv [] [9] 45 (Zi i359), dv [] [10] 46 (Zi j384), dv [0, 1] [] 47 (.bool (decide (j384 < i359)))] z396 d396 ?_ ?_
    ·exact sM e396_9 <| sM e396_10 <| sF (fun f => or_gtr f.1 f.2.1 rfl) <| steps_nil
    intro o401 a401 w401 d401 z401 hk401 hf401 hE401
    obtain ⟨e401_1, e401_4, e401_9, e401_10⟩ := kt4 hk401 e396_1 e396_4 e396_9 e396_10
    have e401_47 := gv (hf401 [2] rfl) rfl
    have hX401 := Evo.step hX396 hown hE401 rfl
    have b401_g210 := be_ hE401 b396_g210
    have b401_Jx := SoO.evo (by decide) hE401 b396_Jx
    refine fl_cond e401_47 hs (fun c402 hs => ?_) (fun c402 hs => ?_)
    ·refine fl_exit ?_
     refine hp400 _ _ _ rfl ?_
     refine hp349 _ _ _ rfl ?_
     replace hs := z347 _ hs
     refine hp347 _ _ _ rfl ?_
     refine hx218 _ _ ?_
     refine hn217 _ _ ?_
     refine rq_seq 58 o401 (bz 2) [dv [] [9] 57 (Zi i359), dv [0] [] 8 (Zi i359)] z401 d401 ?_ ?_
     ·exact sM e401_9 <| sA <| steps_nil
     intro o403 a403 w403 d403 z403 hk403 hf403 hE403
     have e403_8 := gv (hf403 [1] rfl) rfl
     have hX403 := Evo.step hX401 hown hE403 rfl
     have b403_Jx := SoO.evo (by decide) hE403 b401_Jx
     refine fl_ret ?_
     obtain rfl := osome hs
     exact hret _ _ _ _ (.inl rfl) d403 (results1_ rfl (RVal.tmp_ e403_8)) ⟨(rl [(286, 1)] o403), rfl, (Evo.rl_ hX403 hown rfl), (SoO.rl_ b403_Jx)⟩
    refine fl_skip ?_
    refine hn400 _ _ ?_
    obtain ⟨l404, hl404, hs⟩ := obind hs
    refine rr_seq 58 [Fct.soAt Jx 286 l285] o401 [286] [0, 1, 0, 0, 15] [dv [] [4] 48 (pt g210 1), dv [0] [] 49 (.func (.func 71) #[] #[sv, th]), dv [] [9] 50 (Zi i359), dv [] [10] 51 (Zi j384), ⟨[1, 2, 3, 5], [], [286], Fct.so Jx 405 52 l404⟩] z401 d401 (fm1 b401_Jx) ?_ ?_
    ·refine sS (fun s => or_field fo122_1 (s.1.trans e401_4) (by rfl)) <| sG to117 b401_g210 <| sM e401_9 <| sM e401_10 ?_
     refine sc (fun own a wx hf hsl hE => ?_) ?_
     ·obtain ⟨f_49, f_50, f_51, b_Jx, -⟩ := hf
      exact px (or_sswap (lab := 286) (lab2 := 405) f_49 (args2 f_50 f_51) hS b_Jx (by decide) hl404 (mem_of rfl))
     exact steps_nil
    intro o406 a406 w406 d406 z406 hk406 hf406 hE406
    obtain ⟨e406_1, e406_4, e406_9, e406_10⟩ := kt4 hk406 e401_1 e401_4 e401_9 e401_10
    obtain ⟨⟨(f_52 : a406.eval (.tmp 52) = .tuple #[]), (b406_Jx : SoO Jx o406 405 w406 l404)⟩, -⟩ := hf406 [4] rfl
    have hX406 := Evo.step hX401 hown hE406 rfl
    have b406_g210 := be_ hE406 b401_g210
    refine rq_seq 58 o406 (bz 3) [dv [] [9] 53 (Zi i359), dv [0] [] 54 (Zi (ad i359 1)), dv [1] [] 9 (Zi (ad i359 1))] z406 d406 ?_ ?_
    ·exact sM e406_9 <| sF (fun f => or_add f.1 rfl rfl) <| sA <| steps_nil
    intro o407 a407 w407 d407 z407 hk407 hf407 hE407
    obtain ⟨e407_1, e407_4, e407_10⟩ := kt3 hk407 e406_1 e406_4 e406_10
    have e407_9 := gv (hf407 [2] rfl) rfl
    have hX407 := Evo.step hX406 hown hE407 rfl
    have b407_g210 := be_ hE407 b406_g210
    have b407_Jx := SoO.evo (by decide) hE407 b406_Jx
    refine rq 58 o407 (bz 3) [dv [] [10] 55 (Zi j384), dv [0] [] 56 (Zi (sb j384 1)), dv [1] [] 10 (Zi (sb j384 1))] z407 d407 ?_ ?_
    ·exact sM e407_10 <| sF (fun f => or_sub f.1 rfl rfl) <| sA <| steps_nil
    intro o408 a408 w408 d408 z408 hk408 hf408 hE408
    obtain ⟨e408_1, e408_4, e408_9⟩ := kt3 hk408 e407_1 e407_4 e407_9
    have e408_10 := gv (hf408 [2] rfl) rfl
    have hX408 := Evo.step hX407 hown hE408 rfl
    have b408_g210 := be_ hE408 b407_g210
    have b408_Jx := SoO.evo (by decide) hE408 b407_Jx
    refine hn349 _ _ ?_
    exact hn347 _ _ _ hs ⟨(rl [(405, 286)] o408), d408, z408, e408_1, e408_4, e408_9, e408_10, (Evo.rl_ hX408 hown rfl), (BlkO.rl_ b408_g210), (SoO.rl_ b408_Jx)⟩
theorem sort_partition_func_w (w : World) (own : Own) (Tx : Type) (lf : List Tx → Int → Int → Option Bool) (ca : Value) (sv : Value) (th : Value) (l0 : List Tx) (Jx : Sj (List Tx)) (x1 : Int) (b2 : Int) (pivot3 : Int) (hown : ∀ b, own b ≤ 1) (hL : LessS Try.prog 48 ca lf Jx) (hS : SwapS Try.prog 71 sv th Jx) (hJx : SoO Jx own 1 w l0) (r : Int × Bool × (List Tx)) (hs : sort_partition_func Tx lf l0 x1 b2 pivot3 = some r) :
  Calls Try.prog 81 #[.agg #[.func (.func 48) #[] #[ca], .func (.func 71) #[] #[sv, th]], Zi x1, Zi b2, Zi pivot3] w fun e w' => ∃ (own' : Own), e = .returned (.tuple #[Zi r.1, .bool r.2.1]) ∧ Evo [1] own own' w w' ∧ SoO Jx own' 1 w' r.2.2 := by
 refine fl_enter (n := 107) rfl rfl rfl (Nat.le_of_ble_eq_true rfl) ?_
 intro a0 Q d0 z0 harg hret
 have ha0 := harg 0 _ rfl
 have ha1 := harg 1 _ rfl
 have ha2 := harg 2 _ rfl
 have ha3 := harg 3 _ rfl
 clear harg
 have hE0 : Evo [1] own own w w := Evo.refl _ _ _
 refine rq_seq 107 own [0, 0, 2] [⟨[], [0], [], Fct.blk 279 4 (fun g => pt g 0) 122 #[.func (.func 48) #[] #[ca], .func (.func 71) #[] #[sv, th]]⟩, dv [] [] 8 (Zi 0), dv [] [] 9 (.bool false)] z0 d0 ?_ ?_
 ·exact sS (fun s => nw1 (s.1.trans ha0)) <| sO (or_assign rfl) <| sO (or_assign rfl) <| steps_nil
 intro o280 a280 w280 d280 z280 hk280 hf280 hE280
 obtain ⟨e280_1, e280_2, e280_3⟩ := kt3 hk280 ha1 ha2 ha3
 obtain ⟨⟨g278, (e280_4 : a280.eval (.tmp 4) = pt g278 0), (b280_g278 : BlkO o280 279 w280 g278 122 #[.func (.func 48) #[] #[ca], .func (.func 71) #[] #[sv, th]])⟩, -⟩ := hf280 [0] rfl
 have hX280 := Evo.step hE0 hown hE280 rfl
 have b280_Jx := SoO.evo (by decide) hE280 hJx
 obtain ⟨l281, hl281, hs⟩ := obind hs
 refine rr_seq 107 [Fct.soAt Jx 1 l0] o280 [1] [0, 1, 0, 0, 15] [dv [] [4] 12 (pt g278 1), dv [0] [] 13 (.func (.func 71) #[] #[sv, th]), dv [] [1] 14 (Zi x1), dv [] [3] 15 (Zi pivot3), ⟨[1, 2, 3, 5], [], [1], Fct.so Jx 282 16 l281⟩] z280 d280 (fm1 b280_Jx) ?_ ?_
 ·refine sS (fun s => or_field fo122_1 (s.1.trans e280_4) (by rfl)) <| sG to117 b280_g278 <| sM e280_1 <| sM e280_3 ?_
  refine sc (fun own a wx hf hsl hE => ?_) ?_
  ·obtain ⟨f_13, f_14, f_15, b_Jx, -⟩ := hf
   exact px (or_sswap (lab := 1) (lab2 := 282) f_13 (args2 f_14 f_15) hS b_Jx (by decide) hl281 (mem_of rfl))
  exact steps_nil
 intro o283 a283 w283 d283 z283 hk283 hf283 hE283
 obtain ⟨e283_1, e283_2, e283_4⟩ := kt3 hk283 e280_1 e280_2 e280_4
 obtain ⟨⟨(f_16 : a283.eval (.tmp 16) = .tuple #[]), (b283_Jx : SoO Jx o283 282 w283 l281)⟩, -⟩ := hf283 [4] rfl
 have hX283 := Evo.step hX280 hown hE283 rfl
 have b283_g278 := be_ hE283 b280_g278
 refine rq_seq 107 o283 [0, 1, 0, 4, 3, 31] [dv [] [1] 17 (Zi x1), dv [0] [] 18 (Zi (ad x1 1)), dv [] [2] 19 (Zi b2), dv [2] [] 20 (Zi (sb b2 1)), dv [1] [] 10 (Zi (ad x1 1)), dv [3] [] 11 (Zi (sb b2 1))] z283 d283 ?_ ?_
 ·exact sM e283_1 <| sF (fun f => or_add f.1 rfl rfl) <| sM e283_2 <| sF (fun f => or_sub f.1 rfl rfl) <| sA <| sA <| steps_nil
 intro o284 a284 w284 d284 z284 hk284 hf284 hE284
 obtain ⟨e284_1, e284_4⟩ := kt2 hk284 e283_1 e283_4
 have e284_10 := gv (hf284 [4] rfl) rfl
 have e284_11 := gv (hf284 [5] rfl) rfl
 have hX284 := Evo.step hX283 hown hE284 rfl
 have b284_g278 := be_ hE284 b283_g278
 have b284_Jx := SoO.evo (by decide) hE284 b283_Jx
 refine fl_seq (fun Q285 hn285 hp285 => ?_)
 refine fl_block (fun Q286 hn286 hx286 hp286 => ?_)
 refine fl_loop (body := (fun s => sort_partition_func_b1 Tx lf x1 b2 l281 s)) (z := r) (show loopO _ _ = _ from hs) (fun (i295 : Int) a wx => ∃ (ox : Own), a.defers = [] ∧ a.tmps.size = 107 ∧ a.eval (.tmp 1) = Zi x1 ∧ a.eval (.tmp 4) = pt g278 0 ∧ a.eval (.tmp 10) = Zi i295 ∧ a.eval (.tmp 11) = Zi (sb b2 1) ∧ Evo [1] own ox w wx ∧ BlkO ox 279 wx g278 122 #[.func (.func 48) #[] #[ca], .func (.func 71) #[] #[sv, th]] ∧ SoO Jx ox 282 wx l281) ?_ ?_
 ·exact ⟨o284, d284, z284, e284_1, e284_4, e284_10, e284_11, hX284, b284_g278, b284_Jx⟩
 ·rintro i295 zz304 a304 w304 ⟨o304, d305, z305, e305_1, e305_4, e305_10, e305_11, hE305, b305_g278, b305_Jx⟩ hs Q304 hn304 hp304 z304
  have hs : sort_partition_func_b1 Tx lf x1 b2 l281 i295 = some zz304 := hs
  refine fl_seq (fun Q306 hn306 hp306 => ?_)
  obtain ⟨b307, hb307, hs⟩ := obind hs
  obtain ⟨x308, hx308, hs⟩ := obind hs
  refine rq_seq 107 o304 [0, 0, 3, 7, 15, 31, 15, 15, 255, 511] [dv [] [10] 21 (Zi i295), dv [] [11] 22 (Zi (sb b2 1)), dv [0, 1] [] 23 (.bool (decide (i295 ≤ (sb b2 1)))), dv [2] [] 24 (.bool (decide (i295 ≤ (sb b2 1)))), dc [3] [4] (decide (i295 ≤ (sb b2 1))) 25 (pt g278 0), dc [3, 4] [] (decide (i295 ≤ (sb b2 1))) 26 (.func (.func 48) #[] #[ca]), dc [3] [10] (decide (i295 ≤ (sb b2 1))) 27 (Zi i295), dc [3] [1] (decide (i295 ≤ (sb b2 1))) 28 (Zi x1), dc [3, 5, 6, 7] [] (decide (i295 ≤ (sb b2 1))) 29 (.bool b307), dv [3, 8] [] 30 (.bool x308)] z305 d305 ?_ ?_
  ·exact sM e305_10 <| sM e305_11 <| sF (fun f => or_leq f.1 f.2.1 rfl) <| sV <| cT (fun _ s _ _ => or_field fo122_0 (s.1.trans e305_4) (by rfl)) <| cT (fun f _ hE hg => ld1 to100 (f.2.1.1 hg) (be_ hE b305_g278)) <| cT (fun _ s _ _ => or_move (s.1.trans e305_10)) <| cT (fun _ s _ _ => or_move (s.1.trans e305_1)) <| cT (fun f _ hE hg => or_callf cf48 (f.2.1.1 hg) (args2 (f.2.2.1.1 hg) (f.2.2.2.1.1 hg)) rfl (hL _ _ _ _ _ _ _ (SoO.evo (by decide) hE b305_Jx) (gd_t hb307 hg)) post_val) <| sF (fun f => or_and f.1 (fun hx => f.2.1.1 hx) rfl (osome hx308).symm) <| steps_nil
  intro o309 a309 w309 d309 z309 hk309 hf309 hE309
  obtain ⟨e309_1, e309_4, e309_10, e309_11⟩ := kt4 hk309 e305_1 e305_4 e305_10 e305_11
  have e309_30 := gv (hf309 [9] rfl) rfl
  have hX309 := Evo.step hE305 hown hE309 rfl
  have b309_g278 := be_ hE309 b305_g278
  have b309_Jx := SoO.evo (by decide) hE309 b305_Jx
  refine fl_cond e309_30 hs (fun c310 hs => ?_) (fun c310 hs => ?_)
  ·refine fl_skip ?_
   refine hn306 _ _ ?_
   refine fl_block (fun Q311 hn311 hx311 hp311 => ?_)
   refine rq 107 o309 (bz 3) [dv [] [10] 31 (Zi i295), dv [0] [] 32 (Zi (ad i295 1)), dv [1] [] 10 (Zi (ad i295 1))] z309 d309 ?_ ?_
   ·exact sM e309_10 <| sF (fun f => or_add f.1 rfl rfl) <| sA <| steps_nil
   intro o312 a312 w312 d312 z312 hk312 hf312 hE312
   obtain ⟨e312_1, e312_4, e312_11⟩ := kt3 hk312 e309_1 e309_4 e309_11
   have e312_10 := gv (hf312 [2] rfl) rfl
   have hX312 := Evo.step hX309 hown hE312 rfl
   have b312_g278 := be_ hE312 b309_g278
   have b312_Jx := SoO.evo (by decide) hE312 b309_Jx
   refine hn311 _ _ ?_
   exact hn304 _ _ _ hs ⟨o312, d312, z312, e312_1, e312_4, e312_10, e312_11, hX312, b312_g278, b312_Jx⟩
  refine fl_exit ?_
  refine hp306 _ _ _ rfl ?_
  replace hs := z304 _ hs
  refine hp304 _ _ _ rfl ?_
  refine hx286 _ _ ?_
  refine hn285 _ _ ?_
  refine fl_seq (fun Q313 hn313 hp313 => ?_)
  refine fl_block (fun Q314 hn314 hx314 hp314 => ?_)
  refine fl_loop (body := (fun s => sort_partition_func_b2 Tx lf x1 l281 i295 s)) (z := r) (show loopO _ _ = _ from hs) (fun (j323 : Int) a wx => ∃ (ox : Own), a.defers = [] ∧ a.tmps.size = 107 ∧ a.eval (.tmp 1) = Zi x1 ∧ a.eval (.tmp 4) = pt g278 0 ∧ a.eval (.tmp 10) = Zi i295 ∧ a.eval (.tmp 11) = Zi j323 ∧ Evo [1] own ox w wx ∧ BlkO ox 279 wx g278 122 #[.func (.func 48) #[] #[ca], .func (.func 71) #[] #[sv, th]] ∧ SoO Jx ox 282 wx l281) ?_ ?_
  ·exact ⟨o309, d309, z309, e309_1, e309_4, e309_10, e309_11, hX309, b309_g278, b309_Jx⟩
  ·rintro j323 zz331 a331 w331 ⟨o331, d332, z332, e332_1, e332_4, e332_10, e332_11, hE332, b332_g278, b332_Jx⟩ hs Q331 hn331 hp331 z331
   have hs : sort_partition_func_b2 Tx lf x1 l281 i295 j323 = some zz331 := hs
   refine fl_seq (fun Q333 hn333 hp333 => ?_)
   obtain ⟨b334, hb334, hs⟩ := obind hs
   refine rq_seq 107 o331 [0, 0, 3, 7, 15, 31, 15, 15, 255, 511, 1023] [dv [] [10] 33 (Zi i295), dv [] [11] 34 (Zi j323), dv [0, 1] [] 35 (.bool (decide (i295 ≤ j323))), dv [2] [] 36 (.bool (decide (i295 ≤ j323))), dc [3] [4] (decide (i295 ≤ j323)) 37 (pt g278 0), dc [3, 4] [] (decide (i295 ≤ j323)) 38 (.func (.func 48) #[] #[ca]), dc [3] [11] (decide (i295 ≤ j323)) 39 (Zi j323), dc [3] [1] (decide (i295 ≤ j323)) 40 (Zi x1), dc [3, 5, 6, 7] [] (decide (i295 ≤ j323)) 41 (.bool b334), dc [3, 8] [] (decide (i295 ≤ j323)) 42 (.bool (!b334)), dv [3, 9] [] 43 (.bool ((decide (i295 ≤ j323)) && (!b334)))] z332 d332 ?_ ?_
   ·exact sM e332_10 <| sM e332_11 <| sF (fun f => or_leq f.1 f.2.1 rfl) <| sV <| cT (fun _ s _ _ => or_field fo122_0 (s.1.trans e332_4) (by rfl)) <| cT (fun f _ hE hg => ld1 to100 (f.2.1.1 hg) (be_ hE b332_g278)) <| cT (fun _ s _ _ => or_move (s.1.trans e332_11)) <| cT (fun _ s _ _ => or_move (s.1.trans e332_1)) <| cT (fun f _ hE hg => or_callf cf48 (f.2.1.1 hg) (args2 (f.2.2.1.1 hg) (f.2.2.2.1.1 hg)) rfl (hL _ _ _ _ _ _ _ (SoO.evo (by decide) hE b332_Jx) (gd_t hb334 hg)) post_val) <| cT (fun f _ _ hg => or_not (f.2.1.1 hg) rfl) <| sF (fun f => or_and f.1 (fun hx => f.2.1.1 hx) rfl rfl) <| steps_nil
   intro o335 a335 w335 d335 z335 hk335 hf335 hE335
   obtain ⟨e335_1, e335_4, e335_10, e335_11⟩ := kt4 hk335 e332_1 e332_4 e332_10 e332_11
   have e335_43 := gv (hf335 [10] rfl) rfl
   have hX335 := Evo.step hE332 hown hE335 rfl
   have b335_g278 := be_ hE335 b332_g278
   have b335_Jx := SoO.evo (by decide) hE335 b332_Jx
   refine fl_cond e335_43 hs (fun c336 hs => ?_) (fun c336 hs => ?_)
   ·refine fl_skip ?_
    refine hn333 _ _ ?_
    refine fl_block (fun Q337 hn337 hx337 hp337 => ?_)
    refine rq 107 o335 (bz 3) [dv [] [11] 44 (Zi j323), dv [0] [] 45 (Zi (sb j323 1)), dv [1] [] 11 (Zi (sb j323 1))] z335 d335 ?_ ?_
    ·exact sM e335_11 <| sF (fun f => or_sub f.1 rfl rfl) <| sA <| steps_nil
    intro o338 a338 w338 d338 z338 hk338 hf338 hE338
    obtain ⟨e338_1, e338_4, e338_10⟩ := kt3 hk338 e335_1 e335_4 e335_10
    have e338_11 := gv (hf338 [2] rfl) rfl
    have hX338 := Evo.step hX335 hown hE338 rfl
    have b338_g278 := be_ hE338 b335_g278
    have b338_Jx := SoO.evo (by decide) hE338 b335_Jx
    refine hn337 _ _ ?_
    exact hn331 _ _ _ hs ⟨o338, d338, z338, e338_1, e338_4, e338_10, e338_11, hX338, b338_g278, b338_Jx⟩
   refine fl_exit ?_
   refine hp333 _ _ _ rfl ?_
   replace hs := z331 _ hs
   refine hp331 _ _ _ rfl ?_
   refine hx314 _ _ ?_
   refine hn313 _ _ ?_
   refine fl_seq (fun Q339 hn339 hp339 => ?_)
   refine rq_seq 107 o335 [0, 0, 3] [dv [] [10] 46 (Zi i295), dv [] [11] 47 (Zi j323), dv [0, 1] [] 48 (.bool (decide (j323 < i295)))] z335 d335 ?_ ?_
   ·exact sM e335_10 <| sM e335_11 <| sF (fun f => or_gtr f.1 f.2.1 rfl) <| steps_nil
   intro o340 a340 w340 d340 z340 hk340 hf340 hE340
   obtain ⟨e340_1, e340_4, e340_10, e340_11⟩ := kt4 hk340 e335_1 e335_4 e335_10 e335_11
   have e340_48 := gv (hf340 [2] rfl) rfl
   have hX340 := Evo.step hX335 hown hE340 rfl
   have b340_g278 := be_ hE340 b335_g278
   have b340_Jx := SoO.evo (by decide) hE340 b335_Jx
   refine fl_cond e340_48 hs (fun c341 hs => ?_) (fun c341 hs => ?_)
   ·obtain ⟨l342, hl342, hs⟩ := obind hs
    refine rr_seq 107 [Fct.soAt Jx 282 l281] o340 [282] [0, 1, 0, 0, 15] [dv [] [4] 49 (pt g278 1), dv [0] [] 50 (.func (.func 71) #[] #[sv, th]), dv [] [11] 51 (Zi j323), dv [] [1] 52 (Zi x1), ⟨[1, 2, 3, 5], [], [282], Fct.so Jx 343 53 l342⟩] z340 d340 (fm1 b340_Jx) ?_ ?_
    ·refine sS (fun s => or_field fo122_1 (s.1.trans e340_4) (by rfl)) <| sG to117 b340_g278 <| sM e340_11 <| sM e340_1 ?_
     refine sc (fun own a wx hf hsl hE => ?_) ?_
     ·obtain ⟨f_50, f_51, f_52, b_Jx, -⟩ := hf
      exact px (or_sswap (lab := 282) (lab2 := 343) f_50 (args2 f_51 f_52) hS b_Jx (by decide) hl342 (mem_of rfl))
     exact steps_nil
    intro o344 a344 w344 d344 z344 hk344 hf344 hE344
    have e344_11 := kt hk344 e340_11
    obtain ⟨⟨(f_53 : a344.eval (.tmp 53) = .tuple #[]), (b344_Jx : SoO Jx o344 343 w344 l342)⟩, -⟩ := hf344 [4] rfl
    have hX344 := Evo.step hX340 hown hE344 rfl
    refine rq_seq 107 o344 (bz 3) [dv [] [11] 54 (Zi j323), dv [0] [] 8 (Zi j323), dv [] [] 9 (.bool true)] z344 d344 ?_ ?_
    ·exact sM e344_11 <| sA <| sO (or_assign rfl) <| steps_nil
    intro o345 a345 w345 d345 z345 hk345 hf345 hE345
    have e345_8 := gv (hf345 [1] rfl) rfl
    have e345_9 := gv (hf345 [2] rfl) rfl
    have hX345 := Evo.step hX344 hown hE345 rfl
    have b345_Jx := SoO.evo (by decide) hE345 b344_Jx
    refine fl_ret ?_
    refine hp339 _ _ _ rfl ?_
    obtain rfl := osome hs
    exact hret _ _ _ _ (.inl rfl) d345 (results2_ rfl (RVal.tmp_ e345_8) (RVal.tmp_ e345_9)) ⟨(rl [(343, 1)] o345), rfl, (Evo.rl_ hX345 hown rfl), (SoO.rl_ b345_Jx)⟩
   refine fl_skip ?_
   refine hn339 _ _ ?_
   obtain ⟨l346, hl346, hs⟩ := obind hs
   refine rr_seq 107 [Fct.soAt Jx 282 l281] o340 [282] [0, 1, 0, 0, 15] [dv [] [4] 55 (pt g278 1), dv [0] [] 56 (.func (.func 71) #[] #[sv, th]), dv [] [10] 57 (Zi i295), dv [] [11] 58 (Zi j323), ⟨[1, 2, 3, 5], [], [282], Fct.so Jx 347 59 l346⟩] z340 d340 (fm1 b340_Jx) ?_ ?_
   ·refine sS (fun s => or_field fo122_1 (s.1.trans e340_4) (by rfl)) <| sG to117 b340_g278 <| sM e340_10 <| sM e340_11 ?_
    refine sc (fun own a wx hf hsl hE => ?_) ?_
    ·obtain ⟨f_56, f_57, f_58, b_Jx, -⟩ := hf
     exact px (or_sswap (lab := 282) (lab2 := 347) f_56 (args2 f_57 f_58) hS b_Jx (by decide) hl346 (mem_of rfl))
    exact steps_nil
   intro o348 a348 w348 d348 z348 hk348 hf348 hE348
   obtain ⟨e348_1, e348_4, e348_10, e348_11⟩ := kt4 hk348 e340_1 e340_4 e340_10 e340_11
   obtain ⟨⟨(f_59 : a348.eval (.tmp 59) = .tuple #[]), (b348_Jx : SoO Jx o348 347 w348 l346)⟩, -⟩ := hf348 [4] rfl
   have hX348 := Evo.step hX340 hown hE348 rfl
   have b348_g278 := be_ hE348 b340_g278
   refine rq_seq 107 o348 (bz 3) [dv [] [10] 60 (Zi i295), dv [0] [] 61 (Zi (ad i295 1)), dv [1] [] 10 (Zi (ad i295 1))] z348 d348 ?_ ?_
   ·exact sM e348_10 <| sF (fun f => or_add f.1 rfl rfl) <| sA <| steps_nil
   intro o349 a349 w349 d349 z349 hk349 hf349 hE349
   obtain ⟨e349_1, e349_4, e349_11⟩ := kt3 hk349 e348_1 e348_4 e348_11
   have e349_10 := gv (hf349 [2] rfl) rfl
   have hX349 := Evo.step hX348 hown hE349 rfl
   have b349_g278 := be_ hE349 b348_g278
   have b349_Jx := SoO.evo (by decide) hE349 b348_Jx
   refine rq_seq 107 o349 (bz 3) [dv [] [11] 62 (Zi j323), dv [0] [] 63 (Zi (sb j323 1)), dv [1] [] 11 (Zi (sb j323 1))] z349 d349 ?_ ?_
   ·exact sM e349_11 <| sF (fun f => or_sub f.1 rfl rfl) <| sA <| steps_nil
   intro o350 a350 w350 d350 z350 hk350 hf350 hE350
   obtain ⟨e350_1, e350_4, e350_10⟩ := kt3 hk350 e349_1 e349_4 e349_10
   have e350_11 := gv (hf350 [2] rfl) rfl
   have hX350 := Evo.step hX349 hown hE350 rfl
   have b350_g278 := be_ hE350 b349_g278
   have b350_Jx := SoO.evo (by decide) hE350 b349_Jx
   refine fl_seq (fun Q351 hn351 hp351 => ?_)
   refine fl_block (fun Q352 hn352 hx352 hp352 => ?_)
   refine fl_loop (body := (fun s => sort_partition_func_b3 Tx lf x1 s.1 s.2.1 s.2.2)) (z := r) (show loopO _ _ = _ from hs) (fun (s : Int × Int × (List Tx)) a wx => match s with | (i417, j418, l419) => ∃ (ox : Own), a.defers = [] ∧ a.tmps.size = 107 ∧ a.eval (.tmp 1) = Zi x1 ∧ a.eval (.tmp 4) = pt g278 0 ∧ a.eval (.tmp 10) = Zi i417 ∧ a.eval (.tmp 11) = Zi j418 ∧ Evo [1] own ox w wx ∧ BlkO ox 279 wx g278 122 #[.func (.func 48) #[] #[ca], .func (.func 71) #[] #[sv, th]] ∧ SoO Jx ox 420 wx l419) ?_ ?_
   ·exact ⟨(rl [(347, 420)] o350), d350, z350, e350_1, e350_4, e350_10, e350_11, (Evo.rl_ hX350 hown rfl), (BlkO.rl_ b350_g278), (SoO.rl_ b350_Jx)⟩
   ·rintro ⟨i417, j418, l419⟩ zz481 a481 w481 ⟨o481, d482, z482, e482_1, e482_4, e482_10, e482_11, hE482, b482_g278, b482_Jx⟩ hs Q481 hn481 hp481 z481
    have hs : sort_partition_func_b3 Tx lf x1 i417 j418 l419 = some zz481 := hs
    refine fl_block (fun Q483 hn483 hx483 hp483 => ?_)
    refine fl_seq (fun Q484 hn484 hp484 => ?_)
    refine fl_block (fun Q485 hn485 hx485 hp485 => ?_)
    refine fl_loop (body := (fun s => sort_partition_func_b4 Tx lf x1 j418 l419 s)) (z := zz481) (show loopO _ _ = _ from hs) (fun (i493 : Int) a wx => ∃ (ox : Own), a.defers = [] ∧ a.tmps.size = 107 ∧ a.eval (.tmp 1) = Zi x1 ∧ a.eval (.tmp 4) = pt g278 0 ∧ a.eval (.tmp 10) = Zi i493 ∧ a.eval (.tmp 11) = Zi j418 ∧ Evo [1] own ox w wx ∧ BlkO ox 279 wx g278 122 #[.func (.func 48) #[] #[ca], .func (.func 71) #[] #[sv, th]] ∧ SoO Jx ox 420 wx l419) ?_ ?_
    ·exact ⟨o481, d482, z482, e482_1, e482_4, e482_10, e482_11, hE482, b482_g278, b482_Jx⟩
    ·rintro i493 zz501 a501 w501 ⟨o501, d502, z502, e502_1, e502_4, e502_10, e502_11, hE502, b502_g278, b502_Jx⟩ hs Q501 hn501 hp501 z501
     have hs : sort_partition_func_b4 Tx lf x1 j418 l419 i493 = some zz501 := hs
     refine fl_seq (fun Q503 hn503 hp503 => ?_)
     obtain ⟨b504, hb504, hs⟩ := obind hs
     refine rq_seq 107 o501 [0, 0, 3, 7, 15, 31, 15, 15, 255, 511] [dv [] [10] 64 (Zi i493), dv [] [11] 65 (Zi j418), dv [0, 1] [] 66 (.bool (decide (i493 ≤ j418))), dv [2] [] 67 (.bool (decide (i493 ≤ j418))), dc [3] [4] (decide (i493 ≤ j418)) 68 (pt g278 0), dc [3, 4] [] (decide (i493 ≤ j418)) 69 (.func (.func 48) #[] #[ca]), dc [3] [10] (decide (i493 ≤ j418)) 70 (Zi i493), dc [3] [1] (decide (i493 ≤ j418)) 71 (Zi x1), dc [3, 5, 6, 7] [] (decide (i493 ≤ j418)) 72 (.bool b504), dv [3, 8] [] 73 (.bool ((decide (i493 ≤ j418)) && b504))] z502 d502 ?_ ?_
     ·exact sM e502_10 <| sM e502_11 <| sF (fun f => or_leq f.1 f.2.1 rfl) <| sV <| cT (fun _ s _ _ => or_field fo122_0 (s.1.trans e502_4) (by rfl)) <| cT (fun f _ hE hg => ld1 to100 (f.2.1.1 hg) (be_ hE b502_g278)) <| cT (fun _ s _ _ => or_move (s.1.trans e502_10)) <| cT (fun _ s _ _ => or_move (s.1.trans e502_1)) <| cT (fun f _ hE hg => or_callf cf48 (f.2.1.1 hg) (args2 (f.2.2.1.1 hg) (f.2.2.2.1.1 hg)) rfl (hL _ _ _ _ _ _ _ (SoO.evo (by decide) hE b502_Jx) (gd_t hb504 hg)) post_val) <| sF (fun f => or_and f.1 (fun hx => f.2.1.1 hx) rfl rfl) <| steps_nil
     intro o505 a505 w505 d505 z505 hk505 hf505 hE505
     obtain ⟨e505_1, e505_4, e505_10, e505_11⟩ := kt4 hk505 e502_1 e502_4 e502_10 e502_11
     have e505_73 := gv (hf505 [9] rfl) rfl
     have hX505 := Evo.step hE502 hown hE505 rfl
     have b505_g278 := be_ hE505 b502_g278
     have b505_Jx := SoO.evo (by decide) hE505 b502_Jx
     refine fl_cond e505_73 hs (fun c506 hs => ?_) (fun c506 hs => ?_)
     ·refine fl_skip ?_
      refine hn503 _ _ ?_
      refine fl_block (fun Q507 hn507 hx507 hp507 => ?_)
      refine rq 107 o505 (bz 3) [dv [] [10] 74 (Zi i493), dv [0] [] 75 (Zi (ad i493 1)), dv [1] [] 10 (Zi (ad i493 1))] z505 d505 ?_ ?_
      ·exact sM e505_10 <| sF (fun f => or_add f.1 rfl rfl) <| sA <| steps_nil
      intro o508 a508 w508 d508 z508 hk508 hf508 hE508
      obtain ⟨e508_1, e508_4, e508_11⟩ := kt3 hk508 e505_1 e505_4 e505_11
      have e508_10 := gv (hf508 [2] rfl) rfl
      have hX508 := Evo.step hX505 hown hE508 rfl
      have b508_g278 := be_ hE508 b505_g278
      have b508_Jx := SoO.evo (by decide) hE508 b505_Jx
      refine hn507 _ _ ?_
      exact hn501 _ _ _ hs ⟨o508, d508, z508, e508_1, e508_4, e508_10, e508_11, hX508, b508_g278, b508_Jx⟩
     refine fl_exit ?_
     refine hp503 _ _ _ rfl ?_
     replace hs := z501 _ hs
     refine hp501 _ _ _ rfl ?_
     refine hx485 _ _ ?_
     refine hn484 _ _ ?_
     refine fl_seq (fun Q509 hn509 hp509 => ?_)
     refine fl_block (fun Q510 hn510 hx510 hp510 => ?_)
     refine fl_loop (body := (fun s => sort_partition_func_b5 Tx lf x1 l419 i493 s)) (z := zz481) (show loopO _ _ = _ from hs) (fun (j518 : Int) a wx => ∃ (ox : Own), a.defers = [] ∧ a.tmps.size = 107 ∧ a.eval (.tmp 1) = Zi x1 ∧ a.eval (.tmp 4) = pt g278 0 ∧ a.eval (.tmp 10) = Zi i493 ∧ a.eval (.tmp 11) = Zi j518 ∧ Evo [1] own ox w wx ∧ BlkO ox 279 wx g278 122 #[.func (.func 48) #[] #[ca], .func (.func 71) #[] #[sv, th]] ∧ SoO Jx ox 420 wx l419) ?_ ?_
     ·exact ⟨o505, d505, z505, e505_1, e505_4, e505_10, e505_11, hX505, b505_g278, b505_Jx⟩
     ·rintro j518 zz526 a526 w526 ⟨o526, d527, z527, e527_1, e527_4, e527_10, e527_11, hE527, b527_g278, b527_Jx⟩ hs Q526 hn526 hp526 z526
      have hs : sort_partition_func_b5 Tx lf x1 l419 i493 j518 = some zz526 := hs
      refine fl_seq (fun Q528 hn528 hp528 => ?_)
      obtain ⟨b529, hb529, hs⟩ := obind hs
      refine rq_seq 107 o526 [0, 0, 3, 7, 15, 31, 15, 15, 255, 511, 1023] [dv [] [10] 76 (Zi i493), dv [] [11] 77 (Zi j518), dv [0, 1] [] 78 (.bool (decide (i493 ≤ j518))), dv [2] [] 79 (.bool (decide (i493 ≤ j518))), dc [3] [4] (decide (i493 ≤ j518)) 80 (pt g278 0), dc [3, 4] [] (decide (i493 ≤ j518)) 81 (.func (.func 48) #[] #[ca]), dc [3] [11] (decide (i493 ≤ j518)) 82 (Zi j518), dc [3] [1] (decide (i493 ≤ j518)) 83 (Zi x1), dc [3, 5, 6, 7] [] (decide (i493 ≤ j518)) 84 (.bool b529), dc [3, 8] [] (decide (i493 ≤ j518)) 85 (.bool (!b529)), dv [3, 9] [] 86 (.bool ((decide (i493 ≤ j518)) && (!b529)))] z527 d527 ?_ ?_
      ·exact sM e527_10 <| sM e527_11 <| sF (fun f => or_leq f.1 f.2.1 rfl) <| sV <| cT (fun _ s _ _ => or_field fo122_0 (s.1.trans e527_4) (by rfl)) <| cT (fun f _ hE hg => ld1 to100 (f.2.1.1 hg) (be_ hE b527_g278)) <| cT (fun _ s _ _ => or_move (s.1.trans e527_11)) <| cT (fun _ s _ _ => or_move (s.1.trans e527_1)) <| cT (fun f _ hE hg => or_callf cf48 (f.2.1.1 hg) (args2 (f.2.2.1.1 hg) (f.2.2.2.1.1 hg)) rfl (hL _ _ _ _ _ _ _ (SoO.evo (by decide) hE b527_Jx) (gd_t hb529 hg)) post_val) <| cT (fun f _ _ hg => or_not (f.2.1.1 hg) rfl) <| sF (fun f => or_and f.1 (fun hx => f.2.1.1 hx) rfl rfl) <| steps_nil
      intro o530 a530 w530 d530 z530 hk530 hf530 hE530
      obtain ⟨e530_1, e530_4, e530_10, e530_11⟩ := kt4 hk530 e527_1 e527_4 e527_10 e527_11
      have e530_86 := gv (hf530 [10] rfl) rfl
      have hX530 := Evo.step hE527 hown hE530 rfl
      have b530_g278 := be_ hE530 b527_g278
      have b530_Jx := SoO.evo (by decide) hE530 b527_Jx
      refine fl_cond e530_86 hs (fun c531 hs => ?_) (fun c531 hs => ?_)
      ·refine fl_skip ?_
       refine hn528 _ _ ?_
       refine fl_block (fun Q532 hn532 hx532 hp532 => ?_)
       refine rq 107 o530 (bz 3) [dv [] [11] 87 (Zi j518), dv [0] [] 88 (Zi (sb j518 1)), dv [1] [] 11 (Zi (sb j518 1))] z530 d530 ?_ ?_
       ·exact sM e530_11 <| sF (fun f => or_sub f.1 rfl rfl) <| sA <| steps_nil
       intro o533 a533 w533 d533 z533 hk533 hf533 hE533
       obtain ⟨e533_1, e533_4, e533_10⟩ := kt3 hk533 e530_1 e530_4 e530_10
       have e533_11 := gv (hf533 [2] rfl) rfl
       have hX533 := Evo.step hX530 hown hE533 rfl
       have b533_g278 := be_ hE533 b530_g278
       have b533_Jx := SoO.evo (by decide) hE533 b530_Jx
       refine hn532 _ _ ?_
       exact hn526 _ _ _ hs ⟨o533, d533, z533, e533_1, e533_4, e533_10, e533_11, hX533, b533_g278, b533_Jx⟩
      refine fl_exit ?_
      refine hp528 _ _ _ rfl ?_
      replace hs := z526 _ hs
      refine hp526 _ _ _ rfl ?_
      refine hx510 _ _ ?_
      refine hn509 _ _ ?_
      refine fl_seq (fun Q534 hn534 hp534 => ?_)
      refine rq_seq 107 o530 [0, 0, 3] [dv [] [10] 89 (Zi i493), dv [] [11] 90 (Zi j518), dv [0, 1] [] 91 (.bool (decide (j518 < i493)))] z530 d530 ?_ ?_
      ·exact sM e530_10 <| sM e530_11 <| sF (fun f => or_gtr f.1 f.2.1 rfl) <| steps_nil
      intro o535 a535 w535 d535 z535 hk535 hf535 hE535
      obtain ⟨e535_1, e535_4, e535_10, e535_11⟩ := kt4 hk535 e530_1 e530_4 e530_10 e530_11
      have e535_91 := gv (hf535 [2] rfl) rfl
      have hX535 := Evo.step hX530 hown hE535 rfl
      have b535_g278 := be_ hE535 b530_g278
      have b535_Jx := SoO.evo (by decide) hE535 b530_Jx
      refine fl_cond e535_91 hs (fun c536 hs => ?_) (fun c536 hs => ?_)
      ·refine fl_exit ?_
       refine hp534 _ _ _ rfl ?_
       refine hp483 _ _ _ rfl ?_
       replace hs := z481 _ hs
       refine hp481 _ _ _ rfl ?_
       refine hx352 _ _ ?_
       refine hn351 _ _ ?_
       obtain ⟨l537, hl537, hs⟩ := obind hs
       refine rr_seq 107 [Fct.soAt Jx 420 l419] o535 [420] [0, 1, 0, 0, 15] [dv [] [4] 101 (pt g278 1), dv [0] [] 102 (.func (.func 71) #[] #[sv, th]), dv [] [11] 103 (Zi j518), dv [] [1] 104 (Zi x1), ⟨[1, 2, 3, 5], [], [420], Fct.so Jx 538 105 l537⟩] z535 d535 (fm1 b535_Jx) ?_ ?_
       ·refine sS (fun s => or_field fo122_1 (s.1.trans e535_4) (by rfl)) <| sG to117 b535_g278 <| sM e535_11 <| sM e535_1 ?_
        refine sc (fun own a wx hf hsl hE => ?_) ?_
        ·obtain ⟨f_102, f_103, f_104, b_Jx, -⟩ := hf
         exact px (or_sswap (lab := 420) (lab2 := 538) f_102 (args2 f_103 f_104) hS b_Jx (by decide) hl537 (mem_of rfl))
        exact steps_nil
       intro o539 a539 w539 d539 z539 hk539 hf539 hE539
       have e539_11 := kt hk539 e535_11
       obtain ⟨⟨(f_105 : a539.eval (.tmp 105) = .tuple #[]), (b539_Jx : SoO Jx o539 538 w539 l537)⟩, -⟩ := hf539 [4] rfl
       have hX539 := Evo.step hX535 hown hE539 rfl
       refine rq_seq 107 o539 (bz 3) [dv [] [11] 106 (Zi j518), dv [0] [] 8 (Zi j518), dv [] [] 9 (.bool false)] z539 d539 ?_ ?_
       ·exact sM e539_11 <| sA <| sO (or_assign rfl) <| steps_nil
       intro o540 a540 w540 d540 z540 hk540 hf540 hE540
       have e540_8 := gv (hf540 [1] rfl) rfl
       have e540_9 := gv (hf540 [2] rfl) rfl
       have hX540 := Evo.step hX539 hown hE540 rfl
       have b540_Jx := SoO.evo (by decide) hE540 b539_Jx
       refine fl_ret ?_
       obtain rfl := osome hs
       exact hret _ _ _ _ (.inl rfl) d540 (results2_ rfl (RVal.tmp_ e540_8) (RVal.tmp_ e540_9)) ⟨(rl [(538, 1)] o540), rfl, (Evo.rl_ hX540 hown rfl), (SoO.rl_ b540_Jx)⟩
      refine fl_skip ?_
      refine hn534 _ _ ?_
      obtain ⟨l541, hl541, hs⟩ := obind hs
      refine rr_seq 107 [Fct.soAt Jx 420 l419] o535 [420] [0, 1, 0, 0, 15] [dv [] [4] 92 (pt g278 1), dv [0] [] 93 (.func (.func 71) #[] #[sv, th]), dv [] [10] 94 (Zi i493), dv [] [11] 95 (Zi j518), ⟨[1, 2, 3, 5], [], [420], Fct.so Jx 542 96 l541⟩] z535 d535 (fm1 b535_Jx) ?_ ?_
      ·refine sS (fun s => or_field fo122_1 (s.1.trans e535_4) (by rfl)) <| sG to117 b535_g278 <| sM e535_10 <| sM e535_11 ?_
       refine sc (fun own a wx hf hsl hE => ?_) ?_
       ·obtain ⟨f_93, f_94, f_95, b_Jx, -⟩ := hf
        exact px (or_sswap (lab := 420) (lab2 := 542) f_93 (args2 f_94 f_95) hS b_Jx (by decide) hl541 (mem_of rfl))
       exact steps_nil
      intro o543 a543 w543 d543 z543 hk543 hf543 hE543
      obtain ⟨e543_1, e543_4, e543_10, e543_11⟩ := kt4 hk543 e535_1 e535_4 e535_10 e535_11
      obtain ⟨⟨(f_96 : a543.eval (.tmp 96) = .tuple #[]), (b543_Jx : SoO Jx o543 542 w543 l541)⟩, -⟩ := hf543 [4] rfl
      have hX543 := Evo.step hX535 hown hE543 rfl
      have b543_g278 := be_ hE543 b535_g278
      refine rq_seq 107 o543 (bz 3) [dv [] [10] 97 (Zi i493), dv [0] [] 98 (Zi (ad i493 1)), dv [1] [] 10 (Zi (ad i493 1))] z543 d543 ?_ ?_
      ·exact sM e543_10 <| sF (fun f => or_add f.1 rfl rfl) <| sA <| steps_nil
      intro o544 a544 w544 d544 z544 hk544 hf544 hE544
      obtain ⟨e544_1, e544_4, e544_11⟩ := kt3 hk544 e543_1 e543_4 e543_11
      have e544_10 := gv (hf544 [2] rfl) rfl
      have hX544 := Evo.step hX543 hown hE544 rfl
      have b544_g278 := be_ hE544 b543_g278
      have b544_Jx := SoO.evo (by decide) hE544 b543_Jx
      refine rq 107 o544 (bz 3) [dv [] [11] 99 (Zi j518), dv [0] [] 100 (Zi (sb j518 1)), dv [1] [] 11 (Zi (sb j518 1))] z544 d544 ?_ ?_
      ·exact sM e544_11 <| sF (fun f => or_sub f.1 rfl rfl) <| sA <| steps_nil
      intro o545 a545 w545 d545 z545 hk545 hf545 hE545
      obtain ⟨e545_1, e545_4, e545_10⟩ := kt3 hk545 e544_1 e544_4 e544_10
      have e545_11 := gv (hf545 [2] rfl) rfl
      have hX545 := Evo.step hX544 hown hE545 rfl
      have b545_g278 := be_ hE545 b544_g278
      have b545_Jx := SoO.evo (by decide) hE545 b544_Jx
      refine hn483 _ _ ?_
      exact hn481 _ _ _ hs ⟨(rl [(542, 420)] o545), d545, z545, e545_1, e545_4, e545_10, e545_11, (Evo.rl_ hX545 hown rfl), (BlkO.rl_ b545_g278), (SoO.rl_ b545_Jx)⟩
end Go.Proofs.Ytnmkonlfnpcoiaa
