import Derived.Test.YtnmkonlfnpcoiaaWp2
import Derived.Test.YtnmkonlfnpcoiaaSp3
namespace Go.Proofs.Ytnmkonlfnpcoiaa
open Go.RowKit
set_option linter.unusedVariables false
set_option maxRecDepth 10000
set_option maxHeartbeats 2000000 in
theorem sort_pdqsort_func_w : ∀ (fu : Nat) (w : World) (own : Own) (Tx : Type) (lf : List Tx → Int → Int → Option Bool) (ca : Value) (sv : Value) (th : Value) (l0 : List Tx) (Jx : Sj (List Tx)) (x1 : Int) (b2 : Int) (limit3 : Int) (hown : ∀ b, own b ≤ 1) (hL : LessS Try.prog 48 ca lf Jx) (hS : SwapS Try.prog 71 sv th Jx) (hJx : SoO Jx own 1 w l0) (r : List Tx) (hs : sort_pdqsort_func_r Tx lf fu l0 x1 b2 limit3 = some r),
  Calls Try.prog 60 #[.agg #[.func (.func 48) #[] #[ca], .func (.func 71) #[] #[sv, th]], Zi x1, Zi b2, Zi limit3] w fun e w' => ∃ (own' : Own), e = .returned (.tuple #[]) ∧ Evo [1] own own' w w' ∧ SoO Jx own' 1 w' r := by
 intro fu
 induction fu with
 | zero => intros; rename_i hs; exact nomatch hs
 | succ fu ih =>
 intro w own Tx lf ca sv th l0 Jx x1 b2 limit3 hown hL hS hJx r hs
 refine fl_enter (n := 130) rfl rfl rfl (Nat.le_of_ble_eq_true rfl) ?_
 replace hs : (sort_pdqsort_func_l1 Tx lf (sort_pdqsort_func_r Tx lf fu) (x1, b2, limit3, true, true, l0)) = some r := hs
 intro a0 Q d0 z0 harg hret
 have ha0 := harg 0 _ rfl
 have ha1 := harg 1 _ rfl
 have ha2 := harg 2 _ rfl
 have ha3 := harg 3 _ rfl
 clear harg
 have hE0 : Evo [1] own own w w := Evo.refl _ _ _
 refine rq_seq 130 own (bz 1) [⟨[], [0], [], Fct.blk 1338 4 (fun g => pt g 0) 122 #[.func (.func 48) #[] #[ca], .func (.func 71) #[] #[sv, th]]⟩] z0 d0 ?_ ?_
 ·exact sS (fun s => nw1 (s.1.trans ha0)) <| steps_nil
 intro o1339 a1339 w1339 d1339 z1339 hk1339 hf1339 hE1339
 obtain ⟨e1339_1, e1339_2, e1339_3⟩ := kt3 hk1339 ha1 ha2 ha3
 obtain ⟨⟨g1337, (e1339_4 : a1339.eval (.tmp 4) = pt g1337 0), (b1339_g1337 : BlkO o1339 1338 w1339 g1337 122 #[.func (.func 48) #[] #[ca], .func (.func 71) #[] #[sv, th]])⟩, -⟩ := hf1339 [0] rfl
 have hX1339 := Evo.step hE0 hown hE1339 rfl
 have b1339_Jx := SoO.evo (by decide) hE1339 hJx
 refine rq_seq 130 o1339 (bz 1) [dv [] [] 8 (.bool true)] z1339 d1339 ?_ ?_
 ·exact sO (or_assign rfl) <| steps_nil
 intro o1340 a1340 w1340 d1340 z1340 hk1340 hf1340 hE1340
 obtain ⟨e1340_1, e1340_2, e1340_3, e1340_4⟩ := kt4 hk1340 e1339_1 e1339_2 e1339_3 e1339_4
 have e1340_8 := gv (hf1340 [0] rfl) rfl
 have hX1340 := Evo.step hX1339 hown hE1340 rfl
 have b1340_Jx := SoO.evo (by decide) hE1340 b1339_Jx
 have b1340_g1337 := be_ hE1340 b1339_g1337
 refine rq_seq 130 o1340 (bz 1) [dv [] [] 9 (.bool true)] z1340 d1340 ?_ ?_
 ·exact sO (or_assign rfl) <| steps_nil
 intro o1341 a1341 w1341 d1341 z1341 hk1341 hf1341 hE1341
 obtain ⟨e1341_1, e1341_2, e1341_3, e1341_4, e1341_8⟩ := kt5 hk1341 e1340_1 e1340_2 e1340_3 e1340_4 e1340_8
 have e1341_9 := gv (hf1341 [0] rfl) rfl
 have hX1341 := Evo.step hX1340 hown hE1341 rfl
 have b1341_Jx := SoO.evo (by decide) hE1341 b1340_Jx
 have b1341_g1337 := be_ hE1341 b1340_g1337
 refine fl_block (fun Q1342 hn1342 hx1342 hp1342 => ?_)
 refine fl_loop (body := (fun s => sort_pdqsort_func_b1 Tx lf (sort_pdqsort_func_r Tx lf fu) s.1 s.2.1 s.2.2.1 s.2.2.2.1 s.2.2.2.2.1 s.2.2.2.2.2)) (z := r) (show loopO _ _ = _ from hs) (fun (s : Int × Int × Int × Bool × Bool × (List Tx)) a wx => match s with | (x1744, b1745, limit1746, wasBalan1747, wasParti1748, l1749) => ∃ (ox : Own), a.defers = [] ∧ a.tmps.size = 130 ∧ a.eval (.tmp 1) = Zi x1744 ∧ a.eval (.tmp 2) = Zi b1745 ∧ a.eval (.tmp 3) = Zi limit1746 ∧ a.eval (.tmp 4) = pt g1337 0 ∧ a.eval (.tmp 8) = .bool wasBalan1747 ∧ a.eval (.tmp 9) = .bool wasParti1748 ∧ Evo [1] own ox w wx ∧ BlkO ox 1338 wx g1337 122 #[.func (.func 48) #[] #[ca], .func (.func 71) #[] #[sv, th]] ∧ SoO Jx ox 1750 wx l1749) ?_ ?_
 ·exact ⟨(rl [(1, 1750)] o1341), d1341, z1341, e1341_1, e1341_2, e1341_3, e1341_4, e1341_8, e1341_9, (Evo.rl_ hX1341 hown rfl), (BlkO.rl_ b1341_g1337), (SoO.rl_ b1341_Jx)⟩
 ·rintro ⟨x1744, b1745, limit1746, wasBalan1747, wasParti1748, l1749⟩ zz1964 a1964 w1964 ⟨o1964, d1965, z1965, e1965_1, e1965_2, e1965_3, e1965_4, e1965_8, e1965_9, hE1965, b1965_g1337, b1965_Jx⟩ hs Q1964 hn1964 hp1964 z1964
  have hs : sort_pdqsort_func_b1 Tx lf (sort_pdqsort_func_r Tx lf fu) x1744 b1745 limit1746 wasBalan1747 wasParti1748 l1749 = some zz1964 := hs
  refine fl_block (fun Q1966 hn1966 hx1966 hp1966 => ?_)
  have K2075 : ∀ (a2075 : Act) (w2075 : World) (o2075 : Own) (x2068 : Int) (b2069 : Int) (limit2070 : Int) (wasBalan2071 : Bool) (wasParti2072 : Bool) (l2073 : List Tx), a2075.defers = [] → a2075.tmps.size = 130 → a2075.eval (.tmp 1) = Zi x2068 → a2075.eval (.tmp 2) = Zi b2069 → a2075.eval (.tmp 3) = Zi limit2070 → a2075.eval (.tmp 4) = pt g1337 0 → a2075.eval (.tmp 8) = .bool wasBalan2071 → a2075.eval (.tmp 9) = .bool wasParti2072 → Evo [1] own o2075 w w2075 → BlkO o2075 1338 w2075 g1337 122 #[.func (.func 48) #[] #[ca], .func (.func 71) #[] #[sv, th]] → SoO Jx o2075 2074 w2075 l2073 → sort_pdqsort_func_k2 Tx x2068 b2069 limit2070 wasBalan2071 wasParti2072 l2073 = some zz1964 → (Q1966 .normal a2075 w2075 ∧ Q1966 (.exit 1) a2075 w2075) := by
   intro a2075 w2075 o2075 x2068 b2069 limit2070 wasBalan2071 wasParti2072 l2073 d2076 z2076 e2076_1 e2076_2 e2076_3 e2076_4 e2076_8 e2076_9 hE2076 b2076_g1337 b2076_Jx hs
   refine and_both (hn1966 _ _) (hx1966 _ _) ?_
   exact hn1964 _ _ _ hs ⟨(rl [(2074, 1750)] o2075), d2076, z2076, e2076_1, e2076_2, e2076_3, e2076_4, e2076_8, e2076_9, (Evo.rl_ hE2076 hown rfl), (BlkO.rl_ b2076_g1337), (SoO.rl_ b2076_Jx)⟩
  refine rq_seq 130 o1964 [0, 0, 3, 7] [dv [] [2] 19 (Zi b1745), dv [] [1] 20 (Zi x1744), dv [0, 1] [] 21 (Zi (sb b1745 x1744)), dv [2] [] 10 (Zi (sb b1745 x1744))] z1965 d1965 ?_ ?_
  ·exact sM e1965_2 <| sM e1965_1 <| sF (fun f => or_sub f.1 f.2.1 rfl) <| sA <| steps_nil
  intro o2077 a2077 w2077 d2077 z2077 hk2077 hf2077 hE2077
  obtain ⟨e2077_1, e2077_2, e2077_3, e2077_4, e2077_8, e2077_9⟩ := kt6 hk2077 e1965_1 e1965_2 e1965_3 e1965_4 e1965_8 e1965_9
  have e2077_10 := gv (hf2077 [3] rfl) rfl
  have hX2077 := Evo.step hE1965 hown hE2077 rfl
  have b2077_g1337 := be_ hE2077 b1965_g1337
  have b2077_Jx := SoO.evo (by decide) hE2077 b1965_Jx
  refine fl_seq (fun Q2078 hn2078 hp2078 => ?_)
  refine rq_seq 130 o2077 (bz 2) [dv [] [10] 22 (Zi (sb b1745 x1744)), dv [0] [] 23 (.bool (decide ((sb b1745 x1744) ≤ 12)))] z2077 d2077 ?_ ?_
  ·exact sM e2077_10 <| sF (fun f => or_leq f.1 rfl rfl) <| steps_nil
  intro o2079 a2079 w2079 d2079 z2079 hk2079 hf2079 hE2079
  obtain ⟨e2079_1, e2079_2, e2079_3, e2079_4, e2079_8, e2079_9, e2079_10⟩ := kt7 hk2079 e2077_1 e2077_2 e2077_3 e2077_4 e2077_8 e2077_9 e2077_10
  have e2079_23 := gv (hf2079 [1] rfl) rfl
  have hX2079 := Evo.step hX2077 hown hE2079 rfl
  have b2079_g1337 := be_ hE2079 b2077_g1337
  have b2079_Jx := SoO.evo (by decide) hE2079 b2077_Jx
  refine fl_cond e2079_23 hs (fun c2080 hs => ?_) (fun c2080 hs => ?_)
  ·obtain ⟨r2081, hr2081, hs⟩ := obind hs
   refine rr_seq 130 [Fct.soAt Jx 1750 l1749] o2079 [1750] [0, 0, 0, 7] [dv [] [4] 24 (.agg #[.func (.func 48) #[] #[ca], .func (.func 71) #[] #[sv, th]]), dv [] [1] 25 (Zi x1744), dv [] [2] 26 (Zi b1745), ⟨[0, 1, 2, 4], [], [1750], Fct.mems [2082] 27 (fun (_ : Unit) => .tuple #[]) (fun (_ : Unit) own w => SoO Jx own 2082 w r2081) (fun hk he h => SoO.evo (not_hit hk (by decide)) he h)⟩] z2079 d2079 (fm1 b2079_Jx) ?_ ?_
   ·refine sL ta122 e2079_4 b2079_g1337 <| sM e2079_1 <| sM e2079_2 ?_
    refine sc (fun own a wx hf hsl hE => ?_) ?_
    ·obtain ⟨f_24, f_25, f_26, b_Jx, -⟩ := hf
     exact px (or_call cf74 (args3 f_24 f_25 f_26) (sort_insertionSort_func_w _ (forth own (look0 [(1750, 1)])) Tx lf ca sv th l1749 Jx x1744 b1745 (look0_le rfl) hL hS (SoO.forth_ (m := (look0 [(1750, 1)])) b_Jx) r2081 hr2081) (post_mems0 (m := (look0 [(1750, 1)])) (m' := (look0 [(1, 2082)])) (hm_of rfl) (fun own' w' a' h1 h => ⟨(), h1, SoO.back_ h (by decide)⟩)))
    exact steps_nil
   intro o2083 a2083 w2083 d2083 z2083 hk2083 hf2083 hE2083
   obtain ⟨⟨_, (f_27 : a2083.eval (.tmp 27) = .tuple #[]), (b2083_Jx : SoO Jx o2083 2082 w2083 r2081)⟩, -⟩ := hf2083 [3] rfl
   have hX2083 := Evo.step hX2079 hown hE2083 rfl
   refine fl_ret ?_
   refine hp2078 _ _ _ rfl ?_
   refine hp1966 _ _ _ rfl ?_
   replace hs := z1964 _ hs
   refine hp1964 _ _ _ rfl ?_
   refine hp1342 _ _ _ rfl ?_
   obtain rfl := (osome hs).symm
   exact hret _ _ _ _ (.inl rfl) d2083 (results0_ rfl ) ⟨(rl [(2082, 1)] o2083), rfl, (Evo.rl_ hX2083 hown rfl), (SoO.rl_ b2083_Jx)⟩
  refine fl_skip ?_
  refine hn2078 _ _ ?_
  refine fl_seq (fun Q2084 hn2084 hp2084 => ?_)
  refine rq_seq 130 o2079 (bz 2) [dv [] [3] 28 (Zi limit1746), dv [0] [] 29 (.bool (decide (limit1746 = 0)))] z2079 d2079 ?_ ?_
  ·exact sM e2079_3 <| sF (fun f => or_eql f.1 rfl rfl) <| steps_nil
  intro o2085 a2085 w2085 d2085 z2085 hk2085 hf2085 hE2085
  obtain ⟨e2085_1, e2085_2, e2085_3, e2085_4, e2085_8, e2085_9, e2085_10⟩ := kt7 hk2085 e2079_1 e2079_2 e2079_3 e2079_4 e2079_8 e2079_9 e2079_10
  have e2085_29 := gv (hf2085 [1] rfl) rfl
  have hX2085 := Evo.step hX2079 hown hE2085 rfl
  have b2085_g1337 := be_ hE2085 b2079_g1337
  have b2085_Jx := SoO.evo (by decide) hE2085 b2079_Jx
  refine fl_cond e2085_29 hs (fun c2086 hs => ?_) (fun c2086 hs => ?_)
  ·obtain ⟨r2087, hr2087, hs⟩ := obind hs
   refine rr_seq 130 [Fct.soAt Jx 1750 l1749] o2085 [1750] [0, 0, 0, 7] [dv [] [4] 30 (.agg #[.func (.func 48) #[] #[ca], .func (.func 71) #[] #[sv, th]]), dv [] [1] 31 (Zi x1744), dv [] [2] 32 (Zi b1745), ⟨[0, 1, 2, 4], [], [1750], Fct.mems [2088] 33 (fun (_ : Unit) => .tuple #[]) (fun (_ : Unit) own w => SoO Jx own 2088 w r2087) (fun hk he h => SoO.evo (not_hit hk (by decide)) he h)⟩] z2085 d2085 (fm1 b2085_Jx) ?_ ?_
   ·refine sL ta122 e2085_4 b2085_g1337 <| sM e2085_1 <| sM e2085_2 ?_
    refine sc (fun own a wx hf hsl hE => ?_) ?_
    ·obtain ⟨f_30, f_31, f_32, b_Jx, -⟩ := hf
     exact px (or_call cf75 (args3 f_30 f_31 f_32) (sort_heapSort_func_w _ (forth own (look0 [(1750, 1)])) Tx lf ca sv th l1749 Jx x1744 b1745 (look0_le rfl) hL hS (SoO.forth_ (m := (look0 [(1750, 1)])) b_Jx) r2087 hr2087) (post_mems0 (m := (look0 [(1750, 1)])) (m' := (look0 [(1, 2088)])) (hm_of rfl) (fun own' w' a' h1 h => ⟨(), h1, SoO.back_ h (by decide)⟩)))
    exact steps_nil
   intro o2089 a2089 w2089 d2089 z2089 hk2089 hf2089 hE2089
   obtain ⟨⟨_, (f_33 : a2089.eval (.tmp 33) = .tuple #[]), (b2089_Jx : SoO Jx o2089 2088 w2089 r2087)⟩, -⟩ := hf2089 [3] rfl
   have hX2089 := Evo.step hX2085 hown hE2089 rfl
   refine fl_ret ?_
   refine hp2084 _ _ _ rfl ?_
   refine hp1966 _ _ _ rfl ?_
   replace hs := z1964 _ hs
   refine hp1964 _ _ _ rfl ?_
   refine hp1342 _ _ _ rfl ?_
   obtain rfl := (osome hs).symm
   exact hret _ _ _ _ (.inl rfl) d2089 (results0_ rfl ) ⟨(rl [(2088, 1)] o2089), rfl, (Evo.rl_ hX2089 hown rfl), (SoO.rl_ b2089_Jx)⟩
  refine fl_skip ?_
  refine hn2084 _ _ ?_
  refine fl_seq (fun Q2090 hn2090 hp2090 => ?_)
  have K2100 : ∀ (a2100 : Act) (w2100 : World) (o2100 : Own) (limit2097 : Int) (l2098 : List Tx), a2100.defers = [] → a2100.tmps.size = 130 → a2100.eval (.tmp 1) = Zi x1744 → a2100.eval (.tmp 2) = Zi b1745 → a2100.eval (.tmp 3) = Zi limit2097 → a2100.eval (.tmp 4) = pt g1337 0 → a2100.eval (.tmp 8) = .bool wasBalan1747 → a2100.eval (.tmp 9) = .bool wasParti1748 → a2100.eval (.tmp 10) = Zi (sb b1745 x1744) → Evo [1] own o2100 w w2100 → BlkO o2100 1338 w2100 g1337 122 #[.func (.func 48) #[] #[ca], .func (.func 71) #[] #[sv, th]] → SoO Jx o2100 2099 w2100 l2098 → sort_pdqsort_func_k3 Tx lf (sort_pdqsort_func_r Tx lf fu) x1744 b1745 wasBalan1747 wasParti1748 limit2097 l2098 = some zz1964 → Q2090 .normal a2100 w2100 := by
   intro a2100 w2100 o2100 limit2097 l2098 d2101 z2101 e2101_1 e2101_2 e2101_3 e2101_4 e2101_8 e2101_9 e2101_10 hE2101 b2101_g1337 b2101_Jx hs
   refine hn2090 _ _ ?_
   obtain ⟨r2102, hr2102, hs⟩ := obind hs
   refine rr_seq 130 [Fct.soAt Jx 2099 l2098] o2100 [2099] [0, 0, 0, 7, 15, 31, 31, 63, 255] [dv [] [4] 43 (.agg #[.func (.func 48) #[] #[ca], .func (.func 71) #[] #[sv, th]]), dv [] [1] 44 (Zi x1744), dv [] [2] 45 (Zi b1745), ⟨[0, 1, 2, 9], [], [2099], Fct.mems [2103] 46 (fun (_ : Unit) => .tuple #[Zi r2102.1, Zi r2102.2.1]) (fun (_ : Unit) own w => SoO Jx own 2103 w r2102.2.2) (fun hk he h => SoO.evo (not_hit hk (by decide)) he h)⟩, dv [3] [] 42 (.tuple #[Zi r2102.1, Zi r2102.2.1]), dv [4] [] 47 (Zi r2102.1), dv [4] [] 48 (Zi r2102.2.1), dv [5] [] 11 (Zi r2102.1), dv [6] [] 12 (Zi r2102.2.1)] z2101 d2101 (fm1 b2101_Jx) ?_ ?_
   ·refine sL ta122 e2101_4 b2101_g1337 <| sM e2101_1 <| sM e2101_2 ?_
    refine sc (fun own a wx hf hsl hE => ?_) ?_
    ·obtain ⟨f_43, f_44, f_45, b_Jx, -⟩ := hf
     exact px (or_call cf77 (args3 f_43 f_44 f_45) (sort_choosePivot_func_w _ (forth own (look0 [(2099, 1)])) Tx lf ca sv th l2098 Jx x1744 b1745 (look0_le rfl) hL hS (SoO.forth_ (m := (look0 [(2099, 1)])) b_Jx) r2102 hr2102) (post_mems0 (m := (look0 [(2099, 1)])) (m' := (look0 [(1, 2103)])) (hm_of rfl) (fun own' w' a' h1 h => ⟨(), h1, SoO.back_ h (by decide)⟩)))
    refine sc (fun own a wx hf hsl hE => ?_) ?_
    ·obtain ⟨⟨_, f_46, b_Jx⟩, -⟩ := hf
     exact px (or_move f_46)
    exact sF (fun f => ok1 f.1) <| sF (fun f => ok1 f.1) <| sA <| sA <| steps_nil
   intro o2104 a2104 w2104 d2104 z2104 hk2104 hf2104 hE2104
   obtain ⟨e2104_1, e2104_2, e2104_3, e2104_4, e2104_8, e2104_9, e2104_10⟩ := kt7 hk2104 e2101_1 e2101_2 e2101_3 e2101_4 e2101_8 e2101_9 e2101_10
   have e2104_11 := gv (hf2104 [7] rfl) rfl
   have e2104_12 := gv (hf2104 [8] rfl) rfl
   obtain ⟨⟨_, (f_46 : a2104.eval (.tmp 46) = .tuple #[Zi r2102.1, Zi r2102.2.1]), (b2104_Jx : SoO Jx o2104 2103 w2104 r2102.2.2)⟩, -⟩ := hf2104 [3] rfl
   have hX2104 := Evo.step hE2101 hown hE2104 rfl
   have b2104_g1337 := be_ hE2104 b2101_g1337
   refine fl_seq (fun Q2105 hn2105 hp2105 => ?_)
   have K2117 : ∀ (a2117 : Act) (w2117 : World) (o2117 : Own) (pivot2113 : Int) (hint2114 : Int) (l2115 : List Tx), a2117.defers = [] → a2117.tmps.size = 130 → a2117.eval (.tmp 1) = Zi x1744 → a2117.eval (.tmp 2) = Zi b1745 → a2117.eval (.tmp 3) = Zi limit2097 → a2117.eval (.tmp 4) = pt g1337 0 → a2117.eval (.tmp 8) = .bool wasBalan1747 → a2117.eval (.tmp 9) = .bool wasParti1748 → a2117.eval (.tmp 10) = Zi (sb b1745 x1744) → a2117.eval (.tmp 11) = Zi pivot2113 → a2117.eval (.tmp 12) = Zi hint2114 → Evo [1] own o2117 w w2117 → BlkO o2117 1338 w2117 g1337 122 #[.func (.func 48) #[] #[ca], .func (.func 71) #[] #[sv, th]] → SoO Jx o2117 2116 w2117 l2115 → sort_pdqsort_func_k4 Tx lf (sort_pdqsort_func_r Tx lf fu) x1744 b1745 wasBalan1747 wasParti1748 limit2097 pivot2113 hint2114 l2115 = some zz1964 → Q2105 .normal a2117 w2117 := by
    intro a2117 w2117 o2117 pivot2113 hint2114 l2115 d2118 z2118 e2118_1 e2118_2 e2118_3 e2118_4 e2118_8 e2118_9 e2118_10 e2118_11 e2118_12 hE2118 b2118_g1337 b2118_Jx hs
    refine hn2105 _ _ ?_
    refine fl_seq (fun Q2119 hn2119 hp2119 => ?_)
    have K2129 : ∀ (a2129 : Act) (w2129 : World) (o2129 : Own) (l2127 : List Tx), a2129.defers = [] → a2129.tmps.size = 130 → a2129.eval (.tmp 1) = Zi x1744 → a2129.eval (.tmp 2) = Zi b1745 → a2129.eval (.tmp 3) = Zi limit2097 → a2129.eval (.tmp 4) = pt g1337 0 → a2129.eval (.tmp 8) = .bool wasBalan1747 → a2129.eval (.tmp 9) = .bool wasParti1748 → a2129.eval (.tmp 10) = Zi (sb b1745 x1744) → a2129.eval (.tmp 11) = Zi pivot2113 → Evo [1] own o2129 w w2129 → BlkO o2129 1338 w2129 g1337 122 #[.func (.func 48) #[] #[ca], .func (.func 71) #[] #[sv, th]] → SoO Jx o2129 2128 w2129 l2127 → sort_pdqsort_func_k5 Tx lf (sort_pdqsort_func_r Tx lf fu) x1744 b1745 wasBalan1747 wasParti1748 limit2097 pivot2113 l2127 = some zz1964 → Q2119 .normal a2129 w2129 := by
     intro a2129 w2129 o2129 l2127 d2130 z2130 e2130_1 e2130_2 e2130_3 e2130_4 e2130_8 e2130_9 e2130_10 e2130_11 hE2130 b2130_g1337 b2130_Jx hs
     refine hn2119 _ _ ?_
     refine fl_seq (fun Q2131 hn2131 hp2131 => ?_)
     obtain ⟨b2132, hb2132, hs⟩ := obind hs
     refine rq_seq 130 o2129 [0, 1, 3, 7, 15, 7, 39, 7, 255, 511, 1023] [dv [] [1] 73 (Zi x1744), dv [0] [] 74 (.bool (decide (0 < x1744))), dv [1] [] 75 (.bool (decide (0 < x1744))), dc [2] [4] (decide (0 < x1744)) 76 (pt g1337 0), dc [2, 3] [] (decide (0 < x1744)) 77 (.func (.func 48) #[] #[ca]), dc [2] [1] (decide (0 < x1744)) 78 (Zi x1744), dc [2, 5] [] (decide (0 < x1744)) 79 (Zi (sb x1744 1)), dc [2] [11] (decide (0 < x1744)) 80 (Zi pivot2113), dc [2, 4, 6, 7] [] (decide (0 < x1744)) 81 (.bool b2132), dc [2, 8] [] (decide (0 < x1744)) 82 (.bool (!b2132)), dv [2, 9] [] 83 (.bool ((decide (0 < x1744)) && (!b2132)))] z2130 d2130 ?_ ?_
     ·exact sM e2130_1 <| sF (fun f => or_gtr f.1 rfl rfl) <| sV <| cT (fun _ s _ _ => or_field fo122_0 (s.1.trans e2130_4) (by rfl)) <| cT (fun f _ hE hg => ld1 to100 (f.2.1.1 hg) (be_ hE b2130_g1337)) <| cT (fun _ s _ _ => or_move (s.1.trans e2130_1)) <| cT (fun f _ _ hg => or_sub (f.2.1.1 hg) rfl rfl) <| cT (fun _ s _ _ => or_move (s.1.trans e2130_11)) <| cT (fun f _ hE hg => or_callf cf48 (f.2.1.1 hg) (args2 (f.2.2.1.1 hg) (f.2.2.2.1.1 hg)) rfl (hL _ _ _ _ _ _ _ (SoO.evo (by decide) hE b2130_Jx) (gd_t hb2132 hg)) post_val) <| cT (fun f _ _ hg => or_not (f.2.1.1 hg) rfl) <| sF (fun f => or_and f.1 (fun hx => f.2.1.1 hx) rfl rfl) <| steps_nil
     intro o2133 a2133 w2133 d2133 z2133 hk2133 hf2133 hE2133
     obtain ⟨e2133_1, e2133_2, e2133_3, e2133_4, e2133_8, e2133_9, e2133_10, e2133_11⟩ := kt8 hk2133 e2130_1 e2130_2 e2130_3 e2130_4 e2130_8 e2130_9 e2130_10 e2130_11
     have e2133_83 := gv (hf2133 [10] rfl) rfl
     have hX2133 := Evo.step hE2130 hown hE2133 rfl
     have b2133_g1337 := be_ hE2133 b2130_g1337
     have b2133_Jx := SoO.evo (by decide) hE2133 b2130_Jx
     refine fl_cond e2133_83 hs (fun c2134 hs => ?_) (fun c2134 hs => ?_)
     ·obtain ⟨r2135, hr2135, hs⟩ := obind hs
      refine rr_seq 130 [Fct.soAt Jx 2128 l2127] o2133 [2128] [0, 0, 0, 0, 15, 31] [dv [] [4] 84 (.agg #[.func (.func 48) #[] #[ca], .func (.func 71) #[] #[sv, th]]), dv [] [1] 85 (Zi x1744), dv [] [2] 86 (Zi b1745), dv [] [11] 87 (Zi pivot2113), ⟨[0, 1, 2, 3, 6], [], [2128], Fct.mems [2136] 88 (fun (_ : Unit) => Zi r2135.1) (fun (_ : Unit) own w => SoO Jx own 2136 w r2135.2) (fun hk he h => SoO.evo (not_hit hk (by decide)) he h)⟩, dv [4] [] 13 (Zi r2135.1)] z2133 d2133 (fm1 b2133_Jx) ?_ ?_
      ·refine sL ta122 e2133_4 b2133_g1337 <| sM e2133_1 <| sM e2133_2 <| sM e2133_11 ?_
       refine sc (fun own a wx hf hsl hE => ?_) ?_
       ·obtain ⟨f_84, f_85, f_86, f_87, b_Jx, -⟩ := hf
        exact px (or_call cf80 (args4 f_84 f_85 f_86 f_87) (sort_partitionEqual_func_w _ (forth own (look0 [(2128, 1)])) Tx lf ca sv th l2127 Jx x1744 b1745 pivot2113 (look0_le rfl) hL hS (SoO.forth_ (m := (look0 [(2128, 1)])) b_Jx) r2135 hr2135) (post_mems0 (m := (look0 [(2128, 1)])) (m' := (look0 [(1, 2136)])) (hm_of rfl) (fun own' w' a' h1 h => ⟨(), h1, SoO.back_ h (by decide)⟩)))
       refine sc (fun own a wx hf hsl hE => ?_) ?_
       ·obtain ⟨⟨_, f_88, b_Jx⟩, -⟩ := hf
        exact px (or_assign f_88)
       exact steps_nil
      intro o2137 a2137 w2137 d2137 z2137 hk2137 hf2137 hE2137
      obtain ⟨e2137_2, e2137_3, e2137_4, e2137_8, e2137_9⟩ := kt5 hk2137 e2133_2 e2133_3 e2133_4 e2133_8 e2133_9
      have e2137_13 := gv (hf2137 [5] rfl) rfl
      obtain ⟨⟨_, (f_88 : a2137.eval (.tmp 88) = Zi r2135.1), (b2137_Jx : SoO Jx o2137 2136 w2137 r2135.2)⟩, -⟩ := hf2137 [4] rfl
      have hX2137 := Evo.step hX2133 hown hE2137 rfl
      have b2137_g1337 := be_ hE2137 b2133_g1337
      refine rq_seq 130 o2137 (bz 2) [dv [] [13] 89 (Zi r2135.1), dv [0] [] 1 (Zi r2135.1)] z2137 d2137 ?_ ?_
      ·exact sM e2137_13 <| sA <| steps_nil
      intro o2138 a2138 w2138 d2138 z2138 hk2138 hf2138 hE2138
      obtain ⟨e2138_2, e2138_3, e2138_4, e2138_8, e2138_9⟩ := kt5 hk2138 e2137_2 e2137_3 e2137_4 e2137_8 e2137_9
      have e2138_1 := gv (hf2138 [1] rfl) rfl
      have hX2138 := Evo.step hX2137 hown hE2138 rfl
      have b2138_g1337 := be_ hE2138 b2137_g1337
      have b2138_Jx := SoO.evo (by decide) hE2138 b2137_Jx
      refine fl_exit ?_
      refine hp2131 _ _ _ rfl ?_
      exact (K2075 _ _ (rl [(2136, 2074)] o2138) _ _ _ _ _ _ d2138 z2138 e2138_1 e2138_2 e2138_3 e2138_4 e2138_8 e2138_9 (Evo.rl_ hX2138 hown rfl) (BlkO.rl_ b2138_g1337) (SoO.rl_ b2138_Jx) hs).2
     refine fl_skip ?_
     refine hn2131 _ _ ?_
     obtain ⟨r2139, hr2139, hs⟩ := obind hs
     refine rr_seq 130 [Fct.soAt Jx 2128 l2127] o2133 [2128] [0, 0, 0, 0, 15, 31, 63, 63, 127, 511] [dv [] [4] 91 (.agg #[.func (.func 48) #[] #[ca], .func (.func 71) #[] #[sv, th]]), dv [] [1] 92 (Zi x1744), dv [] [2] 93 (Zi b1745), dv [] [11] 94 (Zi pivot2113), ⟨[0, 1, 2, 3, 10], [], [2128], Fct.mems [2140] 95 (fun (_ : Unit) => .tuple #[Zi r2139.1, .bool r2139.2.1]) (fun (_ : Unit) own w => SoO Jx own 2140 w r2139.2.2) (fun hk he h => SoO.evo (not_hit hk (by decide)) he h)⟩, dv [4] [] 90 (.tuple #[Zi r2139.1, .bool r2139.2.1]), dv [5] [] 96 (Zi r2139.1), dv [5] [] 97 (.bool r2139.2.1), dv [6] [] 14 (Zi r2139.1), dv [7] [] 15 (.bool r2139.2.1)] z2133 d2133 (fm1 b2133_Jx) ?_ ?_
     ·refine sL ta122 e2133_4 b2133_g1337 <| sM e2133_1 <| sM e2133_2 <| sM e2133_11 ?_
      refine sc (fun own a wx hf hsl hE => ?_) ?_
      ·obtain ⟨f_91, f_92, f_93, f_94, b_Jx, -⟩ := hf
       exact px (or_call cf81 (args4 f_91 f_92 f_93 f_94) (sort_partition_func_w _ (forth own (look0 [(2128, 1)])) Tx lf ca sv th l2127 Jx x1744 b1745 pivot2113 (look0_le rfl) hL hS (SoO.forth_ (m := (look0 [(2128, 1)])) b_Jx) r2139 hr2139) (post_mems0 (m := (look0 [(2128, 1)])) (m' := (look0 [(1, 2140)])) (hm_of rfl) (fun own' w' a' h1 h => ⟨(), h1, SoO.back_ h (by decide)⟩)))
      refine sc (fun own a wx hf hsl hE => ?_) ?_
      ·obtain ⟨⟨_, f_95, b_Jx⟩, -⟩ := hf
       exact px (or_move f_95)
      exact sF (fun f => ok1 f.1) <| sF (fun f => ok1 f.1) <| sA <| sA <| steps_nil
     intro o2141 a2141 w2141 d2141 z2141 hk2141 hf2141 hE2141
     obtain ⟨e2141_1, e2141_2, e2141_3, e2141_4, e2141_10⟩ := kt5 hk2141 e2133_1 e2133_2 e2133_3 e2133_4 e2133_10
     have e2141_14 := gv (hf2141 [8] rfl) rfl
     have e2141_15 := gv (hf2141 [9] rfl) rfl
     obtain ⟨⟨_, (f_95 : a2141.eval (.tmp 95) = .tuple #[Zi r2139.1, .bool r2139.2.1]), (b2141_Jx : SoO Jx o2141 2140 w2141 r2139.2.2)⟩, -⟩ := hf2141 [4] rfl
     have hX2141 := Evo.step hX2133 hown hE2141 rfl
     have b2141_g1337 := be_ hE2141 b2133_g1337
     refine rq_seq 130 o2141 (bz 2) [dv [] [15] 98 (.bool r2139.2.1), dv [0] [] 9 (.bool r2139.2.1)] z2141 d2141 ?_ ?_
     ·exact sM e2141_15 <| sA <| steps_nil
     intro o2142 a2142 w2142 d2142 z2142 hk2142 hf2142 hE2142
     obtain ⟨e2142_1, e2142_2, e2142_3, e2142_4, e2142_10, e2142_14⟩ := kt6 hk2142 e2141_1 e2141_2 e2141_3 e2141_4 e2141_10 e2141_14
     have e2142_9 := gv (hf2142 [1] rfl) rfl
     have hX2142 := Evo.step hX2141 hown hE2142 rfl
     have b2142_g1337 := be_ hE2142 b2141_g1337
     have b2142_Jx := SoO.evo (by decide) hE2142 b2141_Jx
     refine rq_seq 130 o2142 [0, 0, 3, 0, 0, 24, 7, 127] [dv [] [14] 99 (Zi r2139.1), dv [] [1] 100 (Zi x1744), dv [0, 1] [] 101 (Zi (sb r2139.1 x1744)), dv [] [2] 102 (Zi b1745), dv [] [14] 103 (Zi r2139.1), dv [3, 4] [] 104 (Zi (sb b1745 r2139.1)), dv [2] [] 16 (Zi (sb r2139.1 x1744)), dv [5] [] 17 (Zi (sb b1745 r2139.1))] z2142 d2142 ?_ ?_
     ·exact sM e2142_14 <| sM e2142_1 <| sF (fun f => or_sub f.1 f.2.1 rfl) <| sM e2142_2 <| sM e2142_14 <| sF (fun f => or_sub f.1 f.2.1 rfl) <| sA <| sA <| steps_nil
     intro o2143 a2143 w2143 d2143 z2143 hk2143 hf2143 hE2143
     obtain ⟨e2143_1, e2143_2, e2143_3, e2143_4, e2143_9, e2143_10, e2143_14⟩ := kt7 hk2143 e2142_1 e2142_2 e2142_3 e2142_4 e2142_9 e2142_10 e2142_14
     have e2143_16 := gv (hf2143 [6] rfl) rfl
     have e2143_17 := gv (hf2143 [7] rfl) rfl
     have hX2143 := Evo.step hX2142 hown hE2143 rfl
     have b2143_g1337 := be_ hE2143 b2142_g1337
     have b2143_Jx := SoO.evo (by decide) hE2143 b2142_Jx
     obtain ⟨x2144, hx2144, hs⟩ := obind hs
     refine rq_seq 130 o2143 (bz 3) [dv [] [10] 105 (Zi (sb b1745 x1744)), dv [0] [] 106 (Zi x2144), dv [1] [] 18 (Zi x2144)] z2143 d2143 ?_ ?_
     ·exact sM e2143_10 <| sF (fun f => or_quo f.1 rfl hx2144) <| sA <| steps_nil
     intro o2145 a2145 w2145 d2145 z2145 hk2145 hf2145 hE2145
     obtain ⟨e2145_1, e2145_2, e2145_3, e2145_4, e2145_9, e2145_14, e2145_16, e2145_17⟩ := kt8 hk2145 e2143_1 e2143_2 e2143_3 e2143_4 e2143_9 e2143_14 e2143_16 e2143_17
     have e2145_18 := gv (hf2145 [2] rfl) rfl
     have hX2145 := Evo.step hX2143 hown hE2145 rfl
     have b2145_g1337 := be_ hE2145 b2143_g1337
     have b2145_Jx := SoO.evo (by decide) hE2145 b2143_Jx
     refine rq_seq 130 o2145 [0, 0, 3] [dv [] [16] 107 (Zi (sb r2139.1 x1744)), dv [] [17] 108 (Zi (sb b1745 r2139.1)), dv [0, 1] [] 109 (.bool (decide ((sb r2139.1 x1744) < (sb b1745 r2139.1))))] z2145 d2145 ?_ ?_
     ·exact sM e2145_16 <| sM e2145_17 <| sF (fun f => or_lss f.1 f.2.1 rfl) <| steps_nil
     intro o2146 a2146 w2146 d2146 z2146 hk2146 hf2146 hE2146
     obtain ⟨e2146_1, e2146_2, e2146_3, e2146_4, e2146_9, e2146_14, e2146_16, e2146_17⟩ := kt8 hk2146 e2145_1 e2145_2 e2145_3 e2145_4 e2145_9 e2145_14 e2145_16 e2145_17
     have e2146_18 := kt hk2146 e2145_18
     have e2146_109 := gv (hf2146 [2] rfl) rfl
     have hX2146 := Evo.step hX2145 hown hE2146 rfl
     have b2146_g1337 := be_ hE2146 b2145_g1337
     have b2146_Jx := SoO.evo (by decide) hE2146 b2145_Jx
     refine fl_cond e2146_109 hs (fun c2147 hs => ?_) (fun c2147 hs => ?_)
     ·refine rq_seq 130 o2146 [0, 0, 3, 7] [dv [] [16] 110 (Zi (sb r2139.1 x1744)), dv [] [18] 111 (Zi x2144), dv [0, 1] [] 112 (.bool (decide (x2144 ≤ (sb r2139.1 x1744)))), dv [2] [] 8 (.bool (decide (x2144 ≤ (sb r2139.1 x1744))))] z2146 d2146 ?_ ?_
      ·exact sM e2146_16 <| sM e2146_18 <| sF (fun f => or_geq f.1 f.2.1 rfl) <| sA <| steps_nil
      intro o2148 a2148 w2148 d2148 z2148 hk2148 hf2148 hE2148
      obtain ⟨e2148_1, e2148_2, e2148_3, e2148_4, e2148_9, e2148_14⟩ := kt6 hk2148 e2146_1 e2146_2 e2146_3 e2146_4 e2146_9 e2146_14
      have e2148_8 := gv (hf2148 [3] rfl) rfl
      have hX2148 := Evo.step hX2146 hown hE2148 rfl
      have b2148_g1337 := be_ hE2148 b2146_g1337
      have b2148_Jx := SoO.evo (by decide) hE2148 b2146_Jx
      obtain ⟨r2149, hr2149, hs⟩ := obind hs
      refine rr_seq 130 [Fct.soAt Jx 2140 r2139.2.2] o2148 [2140] [0, 0, 0, 0, 15] [dv [] [4] 113 (.agg #[.func (.func 48) #[] #[ca], .func (.func 71) #[] #[sv, th]]), dv [] [1] 114 (Zi x1744), dv [] [14] 115 (Zi r2139.1), dv [] [3] 116 (Zi limit2097), ⟨[0, 1, 2, 3, 5], [], [2140], Fct.mems [2150] 117 (fun (_ : Unit) => .tuple #[]) (fun (_ : Unit) own w => SoO Jx own 2150 w r2149) (fun hk he h => SoO.evo (not_hit hk (by decide)) he h)⟩] z2148 d2148 (fm1 b2148_Jx) ?_ ?_
      ·refine sL ta122 e2148_4 b2148_g1337 <| sM e2148_1 <| sM e2148_14 <| sM e2148_3 ?_
       refine sc (fun own a wx hf hsl hE => ?_) ?_
       ·obtain ⟨f_113, f_114, f_115, f_116, b_Jx, -⟩ := hf
        exact px (or_call cf60 (args4 f_113 f_114 f_115 f_116) (ih _ (forth own (look0 [(2140, 1)])) Tx lf ca sv th r2139.2.2 Jx x1744 r2139.1 limit2097 (look0_le rfl) hL hS (SoO.forth_ (m := (look0 [(2140, 1)])) b_Jx) r2149 hr2149) (post_mems0 (m := (look0 [(2140, 1)])) (m' := (look0 [(1, 2150)])) (hm_of rfl) (fun own' w' a' h1 h => ⟨(), h1, SoO.back_ h (by decide)⟩)))
       exact steps_nil
      intro o2151 a2151 w2151 d2151 z2151 hk2151 hf2151 hE2151
      obtain ⟨e2151_2, e2151_3, e2151_4, e2151_8, e2151_9, e2151_14⟩ := kt6 hk2151 e2148_2 e2148_3 e2148_4 e2148_8 e2148_9 e2148_14
      obtain ⟨⟨_, (f_117 : a2151.eval (.tmp 117) = .tuple #[]), (b2151_Jx : SoO Jx o2151 2150 w2151 r2149)⟩, -⟩ := hf2151 [4] rfl
      have hX2151 := Evo.step hX2148 hown hE2151 rfl
      have b2151_g1337 := be_ hE2151 b2148_g1337
      refine rq 130 o2151 (bz 3) [dv [] [14] 118 (Zi r2139.1), dv [0] [] 119 (Zi (ad r2139.1 1)), dv [1] [] 1 (Zi (ad r2139.1 1))] z2151 d2151 ?_ ?_
      ·exact sM e2151_14 <| sF (fun f => or_add f.1 rfl rfl) <| sA <| steps_nil
      intro o2152 a2152 w2152 d2152 z2152 hk2152 hf2152 hE2152
      obtain ⟨e2152_2, e2152_3, e2152_4, e2152_8, e2152_9⟩ := kt5 hk2152 e2151_2 e2151_3 e2151_4 e2151_8 e2151_9
      have e2152_1 := gv (hf2152 [2] rfl) rfl
      have hX2152 := Evo.step hX2151 hown hE2152 rfl
      have b2152_g1337 := be_ hE2152 b2151_g1337
      have b2152_Jx := SoO.evo (by decide) hE2152 b2151_Jx
      exact (K2075 _ _ (rl [(2150, 2074)] o2152) _ _ _ _ _ _ d2152 z2152 e2152_1 e2152_2 e2152_3 e2152_4 e2152_8 e2152_9 (Evo.rl_ hX2152 hown rfl) (BlkO.rl_ b2152_g1337) (SoO.rl_ b2152_Jx) hs).1
     refine rq_seq 130 o2146 [0, 0, 3, 7] [dv [] [17] 120 (Zi (sb b1745 r2139.1)), dv [] [18] 121 (Zi x2144), dv [0, 1] [] 122 (.bool (decide (x2144 ≤ (sb b1745 r2139.1)))), dv [2] [] 8 (.bool (decide (x2144 ≤ (sb b1745 r2139.1))))] z2146 d2146 ?_ ?_
     ·exact sM e2146_17 <| sM e2146_18 <| sF (fun f => or_geq f.1 f.2.1 rfl) <| sA <| steps_nil
     intro o2153 a2153 w2153 d2153 z2153 hk2153 hf2153 hE2153
     obtain ⟨e2153_1, e2153_2, e2153_3, e2153_4, e2153_9, e2153_14⟩ := kt6 hk2153 e2146_1 e2146_2 e2146_3 e2146_4 e2146_9 e2146_14
     have e2153_8 := gv (hf2153 [3] rfl) rfl
     have hX2153 := Evo.step hX2146 hown hE2153 rfl
     have b2153_g1337 := be_ hE2153 b2146_g1337
     have b2153_Jx := SoO.evo (by decide) hE2153 b2146_Jx
     obtain ⟨r2154, hr2154, hs⟩ := obind hs
     refine rr_seq 130 [Fct.soAt Jx 2140 r2139.2.2] o2153 [2140] [0, 0, 2, 0, 0, 31] [dv [] [4] 123 (.agg #[.func (.func 48) #[] #[ca], .func (.func 71) #[] #[sv, th]]), dv [] [14] 124 (Zi r2139.1), dv [1] [] 125 (Zi (ad r2139.1 1)), dv [] [2] 126 (Zi b1745), dv [] [3] 127 (Zi limit2097), ⟨[0, 2, 3, 4, 6], [], [2140], Fct.mems [2155] 128 (fun (_ : Unit) => .tuple #[]) (fun (_ : Unit) own w => SoO Jx own 2155 w r2154) (fun hk he h => SoO.evo (not_hit hk (by decide)) he h)⟩] z2153 d2153 (fm1 b2153_Jx) ?_ ?_
     ·refine sL ta122 e2153_4 b2153_g1337 <| sM e2153_14 <| sF (fun f => or_add f.1 rfl rfl) <| sM e2153_2 <| sM e2153_3 ?_
      refine sc (fun own a wx hf hsl hE => ?_) ?_
      ·obtain ⟨f_123, f_125, f_126, f_127, b_Jx, -⟩ := hf
       exact px (or_call cf60 (args4 f_123 f_125 f_126 f_127) (ih _ (forth own (look0 [(2140, 1)])) Tx lf ca sv th r2139.2.2 Jx (ad r2139.1 1) b1745 limit2097 (look0_le rfl) hL hS (SoO.forth_ (m := (look0 [(2140, 1)])) b_Jx) r2154 hr2154) (post_mems0 (m := (look0 [(2140, 1)])) (m' := (look0 [(1, 2155)])) (hm_of rfl) (fun own' w' a' h1 h => ⟨(), h1, SoO.back_ h (by decide)⟩)))
      exact steps_nil
     intro o2156 a2156 w2156 d2156 z2156 hk2156 hf2156 hE2156
     obtain ⟨e2156_1, e2156_3, e2156_4, e2156_8, e2156_9, e2156_14⟩ := kt6 hk2156 e2153_1 e2153_3 e2153_4 e2153_8 e2153_9 e2153_14
     obtain ⟨⟨_, (f_128 : a2156.eval (.tmp 128) = .tuple #[]), (b2156_Jx : SoO Jx o2156 2155 w2156 r2154)⟩, -⟩ := hf2156 [5] rfl
     have hX2156 := Evo.step hX2153 hown hE2156 rfl
     have b2156_g1337 := be_ hE2156 b2153_g1337
     refine rq 130 o2156 (bz 2) [dv [] [14] 129 (Zi r2139.1), dv [0] [] 2 (Zi r2139.1)] z2156 d2156 ?_ ?_
     ·exact sM e2156_14 <| sA <| steps_nil
     intro o2157 a2157 w2157 d2157 z2157 hk2157 hf2157 hE2157
     obtain ⟨e2157_1, e2157_3, e2157_4, e2157_8, e2157_9⟩ := kt5 hk2157 e2156_1 e2156_3 e2156_4 e2156_8 e2156_9
     have e2157_2 := gv (hf2157 [1] rfl) rfl
     have hX2157 := Evo.step hX2156 hown hE2157 rfl
     have b2157_g1337 := be_ hE2157 b2156_g1337
     have b2157_Jx := SoO.evo (by decide) hE2157 b2156_Jx
     exact (K2075 _ _ (rl [(2155, 2074)] o2157) _ _ _ _ _ _ d2157 z2157 e2157_1 e2157_2 e2157_3 e2157_4 e2157_8 e2157_9 (Evo.rl_ hX2157 hown rfl) (BlkO.rl_ b2157_g1337) (SoO.rl_ b2157_Jx) hs).1
    obtain ⟨x2158, hx2158, hs⟩ := obind hs
    refine rq_seq 130 o2117 (bz 8) [dv [] [8] 61 (.bool wasBalan1747), dv [0] [] 62 (.bool wasBalan1747), dc [1] [9] wasBalan1747 63 (.bool wasParti1748), dv [1, 2] [] 64 (.bool (wasBalan1747 && wasParti1748)), dv [3] [] 65 (.bool (wasBalan1747 && wasParti1748)), dc [4] [12] (wasBalan1747 && wasParti1748) 66 (Zi hint2114), dc [4, 5] [] (wasBalan1747 && wasParti1748) 67 (.bool (decide (hint2114 = 1))), dv [4, 6] [] 68 (.bool x2158)] z2118 d2118 ?_ ?_
    ·exact sM e2118_8 <| sV <| cT (fun _ s _ _ => or_move (s.1.trans e2118_9)) <| sF (fun f => or_and f.1 (fun hx => f.2.1.1 hx) rfl rfl) <| sV <| cT (fun _ s _ _ => or_move (s.1.trans e2118_12)) <| cT (fun f _ _ hg => or_eql (f.2.1.1 hg) rfl rfl) <| sF (fun f => or_and f.1 (fun hx => f.2.1.1 hx) rfl (osome hx2158).symm) <| steps_nil
    intro o2159 a2159 w2159 d2159 z2159 hk2159 hf2159 hE2159
    obtain ⟨e2159_1, e2159_2, e2159_3, e2159_4, e2159_8, e2159_9, e2159_10, e2159_11⟩ := kt8 hk2159 e2118_1 e2118_2 e2118_3 e2118_4 e2118_8 e2118_9 e2118_10 e2118_11
    have e2159_68 := gv (hf2159 [7] rfl) rfl
    have hX2159 := Evo.step hE2118 hown hE2159 rfl
    have b2159_g1337 := be_ hE2159 b2118_g1337
    have b2159_Jx := SoO.evo (by decide) hE2159 b2118_Jx
    refine fl_cond e2159_68 hs (fun c2160 hs => ?_) (fun c2160 hs => ?_)
    ·obtain ⟨r2161, hr2161, hs⟩ := obind hs
     refine rr_seq 130 [Fct.soAt Jx 2116 l2115] o2159 [2116] [0, 0, 0, 7] [dv [] [4] 69 (.agg #[.func (.func 48) #[] #[ca], .func (.func 71) #[] #[sv, th]]), dv [] [1] 70 (Zi x1744), dv [] [2] 71 (Zi b1745), ⟨[0, 1, 2, 4], [], [2116], Fct.mems [2162] 72 (fun (_ : Unit) => .bool r2161.1) (fun (_ : Unit) own w => SoO Jx own 2162 w r2161.2) (fun hk he h => SoO.evo (not_hit hk (by decide)) he h)⟩] z2159 d2159 (fm1 b2159_Jx) ?_ ?_
     ·refine sL ta122 e2159_4 b2159_g1337 <| sM e2159_1 <| sM e2159_2 ?_
      refine sc (fun own a wx hf hsl hE => ?_) ?_
      ·obtain ⟨f_69, f_70, f_71, b_Jx, -⟩ := hf
       exact px (or_call cf79 (args3 f_69 f_70 f_71) (sort_partialInsertionSort_func_w _ (forth own (look0 [(2116, 1)])) Tx lf ca sv th l2115 Jx x1744 b1745 (look0_le rfl) hL hS (SoO.forth_ (m := (look0 [(2116, 1)])) b_Jx) r2161 hr2161) (post_mems0 (m := (look0 [(2116, 1)])) (m' := (look0 [(1, 2162)])) (hm_of rfl) (fun own' w' a' h1 h => ⟨(), h1, SoO.back_ h (by decide)⟩)))
      exact steps_nil
     intro o2163 a2163 w2163 d2163 z2163 hk2163 hf2163 hE2163
     obtain ⟨e2163_1, e2163_2, e2163_3, e2163_4, e2163_8, e2163_9, e2163_10, e2163_11⟩ := kt8 hk2163 e2159_1 e2159_2 e2159_3 e2159_4 e2159_8 e2159_9 e2159_10 e2159_11
     obtain ⟨⟨_, (e2163_72 : a2163.eval (.tmp 72) = .bool r2161.1), (b2163_Jx : SoO Jx o2163 2162 w2163 r2161.2)⟩, -⟩ := hf2163 [3] rfl
     have hX2163 := Evo.step hX2159 hown hE2163 rfl
     have b2163_g1337 := be_ hE2163 b2159_g1337
     refine fl_cond e2163_72 hs (fun c2164 hs => ?_) (fun c2164 hs => ?_)
     ·refine fl_ret ?_
      refine hp2119 _ _ _ rfl ?_
      refine hp1966 _ _ _ rfl ?_
      replace hs := z1964 _ hs
      refine hp1964 _ _ _ rfl ?_
      refine hp1342 _ _ _ rfl ?_
      obtain rfl := osome hs
      exact hret _ _ _ _ (.inl rfl) d2163 (results0_ rfl ) ⟨(rl [(2162, 1)] o2163), rfl, (Evo.rl_ hX2163 hown rfl), (SoO.rl_ b2163_Jx)⟩
     refine fl_skip ?_
     exact (K2129 _ _ (rl [(2162, 2128)] o2163) _ d2163 z2163 e2163_1 e2163_2 e2163_3 e2163_4 e2163_8 e2163_9 e2163_10 e2163_11 (Evo.rl_ hX2163 hown rfl) (BlkO.rl_ b2163_g1337) (SoO.rl_ b2163_Jx) hs)
    refine fl_skip ?_
    exact (K2129 _ _ (rl [(2116, 2128)] o2159) _ d2159 z2159 e2159_1 e2159_2 e2159_3 e2159_4 e2159_8 e2159_9 e2159_10 e2159_11 (Evo.rl_ hX2159 hown rfl) (BlkO.rl_ b2159_g1337) (SoO.rl_ b2159_Jx) hs)
   refine rq_seq 130 o2104 (bz 2) [dv [] [12] 49 (Zi r2102.2.1), dv [0] [] 50 (.bool (decide (r2102.2.1 = 2)))] z2104 d2104 ?_ ?_
   ·exact sM e2104_12 <| sF (fun f => or_eql f.1 rfl rfl) <| steps_nil
   intro o2165 a2165 w2165 d2165 z2165 hk2165 hf2165 hE2165
   obtain ⟨e2165_1, e2165_2, e2165_3, e2165_4, e2165_8, e2165_9, e2165_10, e2165_11⟩ := kt8 hk2165 e2104_1 e2104_2 e2104_3 e2104_4 e2104_8 e2104_9 e2104_10 e2104_11
   have e2165_12 := kt hk2165 e2104_12
   have e2165_50 := gv (hf2165 [1] rfl) rfl
   have hX2165 := Evo.step hX2104 hown hE2165 rfl
   have b2165_g1337 := be_ hE2165 b2104_g1337
   have b2165_Jx := SoO.evo (by decide) hE2165 b2104_Jx
   refine fl_cond e2165_50 hs (fun c2166 hs => ?_) (fun c2166 hs => ?_)
   ·obtain ⟨r2167, hr2167, hs⟩ := obind hs
    refine rr_seq 130 [Fct.soAt Jx 2103 r2102.2.2] o2165 [2103] [0, 0, 0, 7] [dv [] [4] 51 (.agg #[.func (.func 48) #[] #[ca], .func (.func 71) #[] #[sv, th]]), dv [] [1] 52 (Zi x1744), dv [] [2] 53 (Zi b1745), ⟨[0, 1, 2, 4], [], [2103], Fct.mems [2168] 54 (fun (_ : Unit) => .tuple #[]) (fun (_ : Unit) own w => SoO Jx own 2168 w r2167) (fun hk he h => SoO.evo (not_hit hk (by decide)) he h)⟩] z2165 d2165 (fm1 b2165_Jx) ?_ ?_
    ·refine sL ta122 e2165_4 b2165_g1337 <| sM e2165_1 <| sM e2165_2 ?_
     refine sc (fun own a wx hf hsl hE => ?_) ?_
     ·obtain ⟨f_51, f_52, f_53, b_Jx, -⟩ := hf
      exact px (or_call cf78 (args3 f_51 f_52 f_53) (sort_reverseRange_func_w _ (forth own (look0 [(2103, 1)])) Tx lf ca sv th r2102.2.2 Jx x1744 b1745 (look0_le rfl) hL hS (SoO.forth_ (m := (look0 [(2103, 1)])) b_Jx) r2167 hr2167) (post_mems0 (m := (look0 [(2103, 1)])) (m' := (look0 [(1, 2168)])) (hm_of rfl) (fun own' w' a' h1 h => ⟨(), h1, SoO.back_ h (by decide)⟩)))
     exact steps_nil
    intro o2169 a2169 w2169 d2169 z2169 hk2169 hf2169 hE2169
    obtain ⟨e2169_1, e2169_2, e2169_3, e2169_4, e2169_8, e2169_9, e2169_10, e2169_11⟩ := kt8 hk2169 e2165_1 e2165_2 e2165_3 e2165_4 e2165_8 e2165_9 e2165_10 e2165_11
    obtain ⟨⟨_, (f_54 : a2169.eval (.tmp 54) = .tuple #[]), (b2169_Jx : SoO Jx o2169 2168 w2169 r2167)⟩, -⟩ := hf2169 [3] rfl
    have hX2169 := Evo.step hX2165 hown hE2169 rfl
    have b2169_g1337 := be_ hE2169 b2165_g1337
    refine rq_seq 130 o2169 [0, 1, 0, 0, 12, 31, 63] [dv [] [2] 55 (Zi b1745), dv [0] [] 56 (Zi (sb b1745 1)), dv [] [11] 57 (Zi r2102.1), dv [] [1] 58 (Zi x1744), dv [2, 3] [] 59 (Zi (sb r2102.1 x1744)), dv [1, 4] [] 60 (Zi (sb (sb b1745 1) (sb r2102.1 x1744))), dv [5] [] 11 (Zi (sb (sb b1745 1) (sb r2102.1 x1744)))] z2169 d2169 ?_ ?_
    ·exact sM e2169_2 <| sF (fun f => or_sub f.1 rfl rfl) <| sM e2169_11 <| sM e2169_1 <| sF (fun f => or_sub f.1 f.2.1 rfl) <| sF (fun f => or_sub f.1 f.2.1 rfl) <| sA <| steps_nil
    intro o2170 a2170 w2170 d2170 z2170 hk2170 hf2170 hE2170
    obtain ⟨e2170_1, e2170_2, e2170_3, e2170_4, e2170_8, e2170_9, e2170_10⟩ := kt7 hk2170 e2169_1 e2169_2 e2169_3 e2169_4 e2169_8 e2169_9 e2169_10
    have e2170_11 := gv (hf2170 [6] rfl) rfl
    have hX2170 := Evo.step hX2169 hown hE2170 rfl
    have b2170_g1337 := be_ hE2170 b2169_g1337
    have b2170_Jx := SoO.evo (by decide) hE2170 b2169_Jx
    refine rq 130 o2170 (bz 1) [dv [] [] 12 (Zi 1)] z2170 d2170 ?_ ?_
    ·exact sO (or_assign rfl) <| steps_nil
    intro o2171 a2171 w2171 d2171 z2171 hk2171 hf2171 hE2171
    obtain ⟨e2171_1, e2171_2, e2171_3, e2171_4, e2171_8, e2171_9, e2171_10, e2171_11⟩ := kt8 hk2171 e2170_1 e2170_2 e2170_3 e2170_4 e2170_8 e2170_9 e2170_10 e2170_11
    have e2171_12 := gv (hf2171 [0] rfl) rfl
    have hX2171 := Evo.step hX2170 hown hE2171 rfl
    have b2171_g1337 := be_ hE2171 b2170_g1337
    have b2171_Jx := SoO.evo (by decide) hE2171 b2170_Jx
    exact (K2117 _ _ (rl [(2168, 2116)] o2171) _ _ _ d2171 z2171 e2171_1 e2171_2 e2171_3 e2171_4 e2171_8 e2171_9 e2171_10 e2171_11 e2171_12 (Evo.rl_ hX2171 hown rfl) (BlkO.rl_ b2171_g1337) (SoO.rl_ b2171_Jx) hs)
   refine fl_skip ?_
   exact (K2117 _ _ (rl [(2103, 2116)] o2165) _ _ _ d2165 z2165 e2165_1 e2165_2 e2165_3 e2165_4 e2165_8 e2165_9 e2165_10 e2165_11 e2165_12 (Evo.rl_ hX2165 hown rfl) (BlkO.rl_ b2165_g1337) (SoO.rl_ b2165_Jx) hs)
  refine rq_seq 130 o2085 (bz 2) [dv [] [8] 34 (.bool wasBalan1747), dv [0] [] 35 (.bool (!wasBalan1747))] z2085 d2085 ?_ ?_
  ·exact sM e2085_8 <| sF (fun f => or_not f.1 rfl) <| steps_nil
  intro o2172 a2172 w2172 d2172 z2172 hk2172 hf2172 hE2172
  obtain ⟨e2172_1, e2172_2, e2172_3, e2172_4, e2172_8, e2172_9, e2172_10⟩ := kt7 hk2172 e2085_1 e2085_2 e2085_3 e2085_4 e2085_8 e2085_9 e2085_10
  have e2172_35 := gv (hf2172 [1] rfl) rfl
  have hX2172 := Evo.step hX2085 hown hE2172 rfl
  have b2172_g1337 := be_ hE2172 b2085_g1337
  have b2172_Jx := SoO.evo (by decide) hE2172 b2085_Jx
  refine fl_cond e2172_35 hs (fun c2173 hs => ?_) (fun c2173 hs => ?_)
  ·obtain ⟨r2174, hr2174, hs⟩ := obind hs
   refine rr_seq 130 [Fct.soAt Jx 1750 l1749] o2172 [1750] [0, 0, 0, 7] [dv [] [4] 36 (.agg #[.func (.func 48) #[] #[ca], .func (.func 71) #[] #[sv, th]]), dv [] [1] 37 (Zi x1744), dv [] [2] 38 (Zi b1745), ⟨[0, 1, 2, 4], [], [1750], Fct.mems [2175] 39 (fun (_ : Unit) => .tuple #[]) (fun (_ : Unit) own w => SoO Jx own 2175 w r2174) (fun hk he h => SoO.evo (not_hit hk (by decide)) he h)⟩] z2172 d2172 (fm1 b2172_Jx) ?_ ?_
   ·refine sL ta122 e2172_4 b2172_g1337 <| sM e2172_1 <| sM e2172_2 ?_
    refine sc (fun own a wx hf hsl hE => ?_) ?_
    ·obtain ⟨f_36, f_37, f_38, b_Jx, -⟩ := hf
     exact px (or_call cf76 (args3 f_36 f_37 f_38) (sort_breakPatterns_func_w _ (forth own (look0 [(1750, 1)])) Tx lf ca sv th l1749 Jx x1744 b1745 (look0_le rfl) hL hS (SoO.forth_ (m := (look0 [(1750, 1)])) b_Jx) r2174 hr2174) (post_mems0 (m := (look0 [(1750, 1)])) (m' := (look0 [(1, 2175)])) (hm_of rfl) (fun own' w' a' h1 h => ⟨(), h1, SoO.back_ h (by decide)⟩)))
    exact steps_nil
   intro o2176 a2176 w2176 d2176 z2176 hk2176 hf2176 hE2176
   obtain ⟨e2176_1, e2176_2, e2176_3, e2176_4, e2176_8, e2176_9, e2176_10⟩ := kt7 hk2176 e2172_1 e2172_2 e2172_3 e2172_4 e2172_8 e2172_9 e2172_10
   obtain ⟨⟨_, (f_39 : a2176.eval (.tmp 39) = .tuple #[]), (b2176_Jx : SoO Jx o2176 2175 w2176 r2174)⟩, -⟩ := hf2176 [3] rfl
   have hX2176 := Evo.step hX2172 hown hE2176 rfl
   have b2176_g1337 := be_ hE2176 b2172_g1337
   refine rq 130 o2176 (bz 3) [dv [] [3] 40 (Zi limit1746), dv [0] [] 41 (Zi (sb limit1746 1)), dv [1] [] 3 (Zi (sb limit1746 1))] z2176 d2176 ?_ ?_
   ·exact sM e2176_3 <| sF (fun f => or_sub f.1 rfl rfl) <| sA <| steps_nil
   intro o2177 a2177 w2177 d2177 z2177 hk2177 hf2177 hE2177
   obtain ⟨e2177_1, e2177_2, e2177_4, e2177_8, e2177_9, e2177_10⟩ := kt6 hk2177 e2176_1 e2176_2 e2176_4 e2176_8 e2176_9 e2176_10
   have e2177_3 := gv (hf2177 [2] rfl) rfl
   have hX2177 := Evo.step hX2176 hown hE2177 rfl
   have b2177_g1337 := be_ hE2177 b2176_g1337
   have b2177_Jx := SoO.evo (by decide) hE2177 b2176_Jx
   exact (K2100 _ _ (rl [(2175, 2099)] o2177) _ _ d2177 z2177 e2177_1 e2177_2 e2177_3 e2177_4 e2177_8 e2177_9 e2177_10 (Evo.rl_ hX2177 hown rfl) (BlkO.rl_ b2177_g1337) (SoO.rl_ b2177_Jx) hs)
  refine fl_skip ?_
  exact (K2100 _ _ (rl [(1750, 2099)] o2172) _ _ d2172 z2172 e2172_1 e2172_2 e2172_3 e2172_4 e2172_8 e2172_9 e2172_10 (Evo.rl_ hX2172 hown rfl) (BlkO.rl_ b2172_g1337) (SoO.rl_ b2172_Jx) hs)
theorem exact_Less_w (w : World) (x1 : Int × Int) (b2 : Int × Int) (r : Bool) (hs : exact_Less x1 b2 = some r) :
  Calls Try.prog 54 #[P2 x1, P2 b2] w fun e w' => ∃ own' : Own, e = .returned (.bool r) ∧ Evo [] (fun _ => 0) own' w w' := by
 refine fl_enter (n := 24) rfl rfl rfl (Nat.le_of_ble_eq_true rfl) ?_
 intro a0 Q d0 z0 harg hret
 have ha0 := harg 0 _ rfl
 have ha1 := harg 1 _ rfl
 clear harg
 have hE0 : Evo [] (fun _ => 0) (fun _ => 0) w w := Evo.refl _ _ _
 refine rq_seq 24 (fun _ => 0) [0, 0, 0] [⟨[], [0], [], Fct.blk 19 2 (fun g => pt g 0) 111 #[Zi x1.1, Zi x1.2]⟩, ⟨[], [1], [], Fct.blk 21 3 (fun g => pt g 0) 111 #[Zi b2.1, Zi b2.2]⟩, dv [] [] 4 (.bool false)] z0 d0 ?_ ?_
 ·exact sS (fun s => nw1 (s.1.trans ha0)) <| sS (fun s => nw1 (s.1.trans ha1)) <| sO (or_assign rfl) <| steps_nil
 intro o22 a22 w22 d22 z22 hk22 hf22 hE22
 obtain ⟨⟨g18, (e22_2 : a22.eval (.tmp 2) = pt g18 0), (b22_g18 : BlkO o22 19 w22 g18 111 #[Zi x1.1, Zi x1.2])⟩, ⟨g20, (e22_3 : a22.eval (.tmp 3) = pt g20 0), (b22_g20 : BlkO o22 21 w22 g20 111 #[Zi b2.1, Zi b2.2])⟩, -⟩ := hf22 [0, 1] rfl
 have hX22 := es_ hE0 hE22
 obtain ⟨x23, hx23, hs⟩ := obind hs
 refine rq_seq 24 o22 [0, 1, 0, 4, 15, 31, 63, 127, 63, 319, 1023, 2047, 4095, 8191, 4095, 20479, 65535, 131071, 262143, 524287] [dv [] [2] 5 (pt g18 0), dv [0] [] 6 (Zi x1.1), dv [] [3] 7 (pt g20 0), dv [2] [] 8 (Zi b2.1), dv [1, 3] [] 9 (.bool (decide (x1.1 < b2.1))), dv [4] [] 10 (.bool (decide (x1.1 < b2.1))), dc [5] [2] (!(decide (x1.1 < b2.1))) 11 (pt g18 0), dc [5, 6] [] (!(decide (x1.1 < b2.1))) 12 (Zi x1.1), dc [5] [3] (!(decide (x1.1 < b2.1))) 13 (pt g20 0), dc [5, 8] [] (!(decide (x1.1 < b2.1))) 14 (Zi b2.1), dc [5, 7, 9] [] (!(decide (x1.1 < b2.1))) 15 (.bool (decide (x1.1 = b2.1))), dc [5, 10] [] (!(decide (x1.1 < b2.1))) 16 (.bool (decide (x1.1 = b2.1))), dc [11] [2] ((!(decide (x1.1 < b2.1))) && (decide (x1.1 = b2.1))) 17 (pt g18 1), dc [11, 12] [] ((!(decide (x1.1 < b2.1))) && (decide (x1.1 = b2.1))) 18 (Zi x1.2), dc [11] [3] ((!(decide (x1.1 < b2.1))) && (decide (x1.1 = b2.1))) 19 (pt g20 1), dc [11, 14] [] ((!(decide (x1.1 < b2.1))) && (decide (x1.1 = b2.1))) 20 (Zi b2.2), dc [11, 13, 15] [] ((!(decide (x1.1 < b2.1))) && (decide (x1.1 = b2.1))) 21 (.bool (decide (x1.2 < b2.2))), dc [5, 11, 16] [] (!(decide (x1.1 < b2.1))) 22 (.bool x23), dv [5, 17] [] 23 (.bool ((decide (x1.1 < b2.1)) || x23)), dv [18] [] 4 (.bool ((decide (x1.1 < b2.1)) || x23))] z22 d22 ?_ ?_
 ·exact sS (fun s => or_field fo111_0 (s.1.trans e22_2) (by rfl)) <| sG to3 b22_g18 <| sS (fun s => or_field fo111_0 (s.1.trans e22_3) (by rfl)) <| sG to3 b22_g20 <| sF (fun f => or_lss f.1 f.2.1 rfl) <| sV <| cF (fun _ s _ _ => or_field fo111_0 (s.1.trans e22_2) (by rfl)) <| cF (fun f _ hE hg => ld1 to3 (f.2.1.1 hg) (be_ hE b22_g18)) <| cF (fun _ s _ _ => or_field fo111_0 (s.1.trans e22_3) (by rfl)) <| cF (fun f _ hE hg => ld1 to3 (f.2.1.1 hg) (be_ hE b22_g20)) <| cF (fun f _ _ hg => or_eql (f.2.1.1 hg) (f.2.2.1.1 hg) rfl) <| cF (fun f _ _ hg => or_move (f.2.1.1 hg)) <| cTc (fun _ s _ _ => or_field fo111_1 (s.1.trans e22_2) (by rfl)) <| cTc (fun f _ hE hg => ld1 to3 (f.2.1.1 hg) (be_ hE b22_g18)) <| cTc (fun _ s _ _ => or_field fo111_1 (s.1.trans e22_3) (by rfl)) <| cTc (fun f _ hE hg => ld1 to3 (f.2.1.1 hg) (be_ hE b22_g20)) <| cTc (fun f _ _ hg => or_lss (f.2.1.1 hg) (f.2.2.1.1 hg) rfl) <| cF (fun f _ _ hg => or_and (f.2.1.1 hg) (fun hx => f.2.2.1.1 (gI hg hx)) rfl (osome hx23).symm) <| sF (fun f => or_or f.1 rfl (fun hx => f.2.1.1 hx) rfl) <| sA <| steps_nil
 intro o24 a24 w24 d24 z24 hk24 hf24 hE24
 have e24_4 := gv (hf24 [19] rfl) rfl
 have hX24 := es_ hX22 hE24
 refine fl_ret ?_
 obtain rfl := osome hs
 exact hret _ _ _ _ (.inl rfl) d24 (results1_ rfl (RVal.tmp_ e24_4)) ⟨o24, rfl, hX24⟩
theorem window_Less_w (w : World) (x1 : Int × Int × Int) (b2 : Int × Int × Int) (r : Bool) (hs : window_Less x1 b2 = some r) :
  Calls Try.prog 44 #[.agg #[Zi x1.1, Zi x1.2.1, Zi x1.2.2], .agg #[Zi b2.1, Zi b2.2.1, Zi b2.2.2]] w fun e w' => ∃ own' : Own, e = .returned (.bool r) ∧ Evo [] (fun _ => 0) own' w w' := by
 refine fl_enter (n := 26) rfl rfl rfl (Nat.le_of_ble_eq_true rfl) ?_
 intro a0 Q d0 z0 harg hret
 have ha0 := harg 0 _ rfl
 have ha1 := harg 1 _ rfl
 clear harg
 have hE0 : Evo [] (fun _ => 0) (fun _ => 0) w w := Evo.refl _ _ _
 refine rq_seq 26 (fun _ => 0) [0, 0, 0] [⟨[], [0], [], Fct.blk 23 2 (fun g => pt g 0) 28 #[Zi x1.1, Zi x1.2.1, Zi x1.2.2]⟩, ⟨[], [1], [], Fct.blk 25 3 (fun g => pt g 0) 28 #[Zi b2.1, Zi b2.2.1, Zi b2.2.2]⟩, dv [] [] 4 (.bool false)] z0 d0 ?_ ?_
 ·exact sS (fun s => nw1 (s.1.trans ha0)) <| sS (fun s => nw1 (s.1.trans ha1)) <| sO (or_assign rfl) <| steps_nil
 intro o26 a26 w26 d26 z26 hk26 hf26 hE26
 obtain ⟨⟨g22, (e26_2 : a26.eval (.tmp 2) = pt g22 0), (b26_g22 : BlkO o26 23 w26 g22 28 #[Zi x1.1, Zi x1.2.1, Zi x1.2.2])⟩, ⟨g24, (e26_3 : a26.eval (.tmp 3) = pt g24 0), (b26_g24 : BlkO o26 25 w26 g24 28 #[Zi b2.1, Zi b2.2.1, Zi b2.2.2])⟩, -⟩ := hf26 [0, 1] rfl
 have hX26 := es_ hE0 hE26
 refine fl_seq (fun Q27 hn27 hp27 => ?_)
 refine rq_seq 26 o26 [0, 1, 0, 4, 15] [dv [] [2] 5 (pt g22 0), dv [0] [] 6 (Zi x1.1), dv [] [3] 7 (pt g24 0), dv [2] [] 8 (Zi b2.1), dv [1, 3] [] 9 (.bool (!decide (x1.1 = b2.1)))] z26 d26 ?_ ?_
 ·exact sS (fun s => or_field fo28_0 (s.1.trans e26_2) (by rfl)) <| sG to3 b26_g22 <| sS (fun s => or_field fo28_0 (s.1.trans e26_3) (by rfl)) <| sG to3 b26_g24 <| sF (fun f => or_neq f.1 f.2.1 rfl) <| steps_nil
 intro o28 a28 w28 d28 z28 hk28 hf28 hE28
 obtain ⟨e28_2, e28_3⟩ := kt2 hk28 e26_2 e26_3
 have e28_9 := gv (hf28 [4] rfl) rfl
 have hX28 := es_ hX26 hE28
 obtain ⟨b28_g22, b28_g24⟩ := be2 hE28 b26_g22 b26_g24
 refine fl_cond e28_9 hs (fun c29 hs => ?_) (fun c29 hs => ?_)
 ·refine rq_seq 26 o28 [0, 1, 0, 4, 15, 31] [dv [] [2] 10 (pt g22 0), dv [0] [] 11 (Zi x1.1), dv [] [3] 12 (pt g24 0), dv [2] [] 13 (Zi b2.1), dv [1, 3] [] 14 (.bool (decide (x1.1 < b2.1))), dv [4] [] 4 (.bool (decide (x1.1 < b2.1)))] z28 d28 ?_ ?_
  ·exact sS (fun s => or_field fo28_0 (s.1.trans e28_2) (by rfl)) <| sG to3 b28_g22 <| sS (fun s => or_field fo28_0 (s.1.trans e28_3) (by rfl)) <| sG to3 b28_g24 <| sF (fun f => or_lss f.1 f.2.1 rfl) <| sA <| steps_nil
  intro o30 a30 w30 d30 z30 hk30 hf30 hE30
  have e30_4 := gv (hf30 [5] rfl) rfl
  have hX30 := es_ hX28 hE30
  refine fl_ret ?_
  refine hp27 _ _ _ rfl ?_
  obtain rfl := osome hs
  exact hret _ _ _ _ (.inl rfl) d30 (results1_ rfl (RVal.tmp_ e30_4)) ⟨o30, rfl, hX30⟩
 refine fl_skip ?_
 refine hn27 _ _ ?_
 obtain ⟨r31, hr31, hs⟩ := obind hs
 refine rq_seq 26 o28 [0, 1, 0, 4, 15, 0, 32, 0, 128, 480, 1023, 2047] [dv [] [2] 15 (pt g22 1), dv [0] [] 16 (Zi x1.2.1), dv [] [2] 17 (pt g22 2), dv [2] [] 18 (Zi x1.2.2), dv [1, 3] [] 19 (P2 x1.2), dv [] [3] 20 (pt g24 1), dv [5] [] 21 (Zi b2.2.1), dv [] [3] 22 (pt g24 2), dv [7] [] 23 (Zi b2.2.2), dv [6, 8] [] 24 (P2 b2.2), dv [4, 9] [] 25 (.bool r31), dv [10] [] 4 (.bool r31)] z28 d28 ?_ ?_
 ·exact sS (fun s => or_field fo28_1 (s.1.trans e28_2) (by rfl)) <| sG to3 b28_g22 <| sS (fun s => or_field fo28_2 (s.1.trans e28_2) (by rfl)) <| sG to3 b28_g22 <| sF (fun f => ok2 f.1 f.2.1) <| sS (fun s => or_field fo28_1 (s.1.trans e28_3) (by rfl)) <| sG to3 b28_g24 <| sS (fun s => or_field fo28_2 (s.1.trans e28_3) (by rfl)) <| sG to3 b28_g24 <| sF (fun f => ok2 f.1 f.2.1) <| sF (fun f => or_call cf54 (args2 f.1 f.2.1) (exact_Less_w _ x1.2 b2.2  r31 hr31) post_val) <| sA <| steps_nil
 intro o32 a32 w32 d32 z32 hk32 hf32 hE32
 have e32_4 := gv (hf32 [11] rfl) rfl
 have hX32 := es_ hX28 hE32
 refine fl_ret ?_
 obtain rfl := (osome hs).symm
 exact hret _ _ _ _ (.inl rfl) d32 (results1_ rfl (RVal.tmp_ e32_4)) ⟨o32, rfl, hX32⟩
theorem pack_packed_1_w (w : World) (i1 : Int) (k2 : Int) (f2 : List ((Int × Int × Int) × (List Int))) (gf2 : Nat) (tf2 : TypeId) (Af2_0 : Option Addr) (cf2_0 : Nat) (hgf2 : BlkO (fun _ => 0) 0 w gf2 tf2 #[sl Af2_0 f2 cf2_0]) (hAf2_0 : RdO (fun _ => 0) [0] w R30 Af2_0 cf2_0 f2) (r : Bool) (hs : pack_packed_1 i1 k2 f2 = some r) :
  Calls Try.prog 48 #[Zi i1, Zi k2, pt gf2 0] w fun e w' => ∃ own' : Own, e = .returned (.bool r) ∧ Evo [] (fun _ => 0) own' w w' := by
 refine fl_enter (n := 17) rfl rfl rfl (Nat.le_of_ble_eq_true rfl) ?_
 intro a0 Q d0 z0 harg hret
 have ha0 := harg 0 _ rfl
 have ha1 := harg 1 _ rfl
 have ha2 := harg 2 _ rfl
 clear harg
 have hE0 : Evo [] (fun _ => 0) (fun _ => 0) w w := Evo.refl _ _ _
 refine rq_seq 17 (fun _ => 0) (bz 1) [dv [] [] 5 (.bool false)] z0 d0 ?_ ?_
 ·exact sO (or_assign rfl) <| steps_nil
 intro o16 a16 w16 d16 z16 hk16 hf16 hE16
 obtain ⟨e16_0, e16_1, e16_2⟩ := kt3 hk16 ha0 ha1 ha2
 have hX16 := es_ hE0 hE16
 obtain ⟨x17, hx17, hs⟩ := obind hs
 obtain ⟨x18, hx18, hs⟩ := obind hs
 obtain ⟨r19, hr19, hs⟩ := obind hs
 refine rd_seq g_mixed 17 [] o16 [] [0, 0, 3, 7, 15, 0, 0, 96, 224, 480, 1023, 2047] [dv [] [2] 6 (sl Af2_0 f2 cf2_0), dv [] [0] 7 (Zi i1), dv [0, 1] [] 8 (.pointer (some ((adr Af2_0).add ((i1 : Int).toNat * R30.s)))), dv [2] [] 9 (.pointer (some ((adr Af2_0).add ((i1 : Int).toNat * R30.s)))), ⟨[3], [], [], Fct.nest X30 [0] 10 (fun (y : (Unit × (Option Addr × Nat))) => .agg #[Zi x17.1.1, Zi x17.1.2.1, Zi x17.1.2.2]) x17⟩, dv [] [2] 11 (sl Af2_0 f2 cf2_0), dv [] [1] 12 (Zi k2), dv [5, 6] [] 13 (.pointer (some ((adr Af2_0).add ((k2 : Int).toNat * R30.s)))), dv [7] [] 14 (.pointer (some ((adr Af2_0).add ((k2 : Int).toNat * R30.s)))), ⟨[8], [], [], Fct.nest X30 [0] 15 (fun (y : (Unit × (Option Addr × Nat))) => .agg #[Zi x18.1.1, Zi x18.1.2.1, Zi x18.1.2.2]) x18⟩, dv [4, 9] [] 16 (.bool r19), dv [10] [] 5 (.bool r19)] z16 d16 nm_ ?_ ?_
 ·refine sL1 to23 e16_2 (be_ hX16 hgf2) <| sM e16_0 <| sF (fun f => or_index (R := R30) (l := f2) tl23 f.1 f.2.1 (RdO.some_ (RdO.evo rfl hX16 hAf2_0) hx17) hx17) <| sF (fun f => or_field fo30_0 f.1 (Addr.add_zero' _)) <| sFE (fun f hE => or_loadN X30 0 3 ta28 f.1 (Addr.add_zero' _).symm (RdO.evo rfl hE (RdO.evo rfl hX16 hAf2_0)) hx17 (fun _ => rfl) (fun _ => rfl)) <| sL1 to23 e16_2 (be_ hX16 hgf2) <| sM e16_1 <| sF (fun f => or_index (R := R30) (l := f2) tl23 f.1 f.2.1 (RdO.some_ (RdO.evo rfl hX16 hAf2_0) hx18) hx18) <| sF (fun f => or_field fo30_0 f.1 (Addr.add_zero' _)) <| sFE (fun f hE => or_loadN X30 0 3 ta28 f.1 (Addr.add_zero' _).symm (RdO.evo rfl hE (RdO.evo rfl hX16 hAf2_0)) hx18 (fun _ => rfl) (fun _ => rfl)) ?_
  refine sc (fun own a wx hf hsl hE => ?_) ?_
  ·obtain ⟨⟨⟨_, _⟩, f_10, ⟨-, -⟩⟩, ⟨⟨_, _⟩, f_15, ⟨-, -⟩⟩, -⟩ := hf
   exact px (or_call cf44 (args2 f_10 f_15) (window_Less_w _ x17.1 x18.1  r19 hr19) post_val)
  exact sA <| steps_nil
 intro o20 a20 w20 d20 z20 hk20 hf20 hE20
 have e20_5 := gv (hf20 [11] rfl) rfl
 have hX20 := es_ hX16 hE20
 refine fl_ret ?_
 obtain rfl := (osome hs).symm
 exact hret _ _ _ _ (.inl rfl) d20 (results1_ rfl (RVal.tmp_ e20_5)) ⟨o20, rfl, hX20⟩
theorem sortAll23_48_w {own : Own} {lab lab2 labB : Nat} {L : List Nat} {w : World} {gb : Nat} {tb : TypeId} {A : Option Addr} {c : Nat} {l l' : List ((Int × Int × Int) × (List Int))} (hrow : RwO own lab L w 30 R30 A c l) (hbox : BlkO own labB w gb tb #[sl A l c]) (h0 : lab ≠ 0) (hL : lab ∉ L) (hB : labB ≠ lab) (hz : sortAll23_48 l = some l') :
  Calls Try.prog 47 #[.iface 23 (sl A l c), .func (.func 48) #[] #[pt gb 0]] w fun e' w' => e' = .returned (.tuple #[]) ∧ ∃ own' : Own, Evo [lab] own own' w w' ∧ RwO own' lab2 L w' 30 R30 A c l' := by
 rcases srtO_cases hz with ⟨h1, rfl⟩ | ⟨h1, h2, hz, _⟩
 ·exact (sortTiny23 h1).mono fun e' w' ⟨he, hw⟩ => ⟨he, sortT hrow h0 hL hw⟩
 ·exact sortSl (ρ := srt_ren) srt6 (ie := srtE23) (i := srtT23) (t := 23) (by kernel_rfl) (by kernel_rfl) (by kernel_rfl) (by kernel_rfl) 25 (fun _ => by kernel_rfl) (fun _ => by kernel_rfl) (R := R30) (by kernel_rfl) (gS := false) srtX
   (fun w gb tb A c l x y r hb ha hr => pack_packed_1_w w x y l gb tb A c hb ha r hr) (fun own w ca sv th l J a b lim r ho hl hs hj hr => sort_pdqsort_func_w 12 w own _ _ ca sv th l J a b lim ho hl hs hj r hr) hrow hbox h0 hL hB h1 h2 (srtK9 h1 ▸ by decide) (fun p K q => Any.sort_Slice_of_pdq srt6 23 _ srtT23 srtE23 (by kernel_rfl) (by kernel_rfl) (by kernel_rfl) (by kernel_rfl) 25 (fun _ => by kernel_rfl) p _ _ h2 _ (by rw [srtK9 h1]; kernel_rfl) _ _ _ _ K q) hz
set_option maxHeartbeats 2000000 in
theorem pack_packed_z (w : World) (own : Own) (head1 : List Int) (Ahead1 : Option Addr) (chead1 : Nat) (l2 : List ((Int × Int × Int) × (List Int))) (Al2 : Option Addr) (cl2 : Nat) (hown : ∀ b, own b ≤ 1) (hhead1 : RdO own [1] w R5 Ahead1 chead1 head1) (hl2 : RdO own [1] w R30 Al2 cl2 l2) (r : (((List Int) × (List (List Int)) × (List ((Int × Int × Int) × Int))) × Int) ⊕ (Unit × Int)) (hs : pack_packed head1 l2 = some r) :
  Calls Try.prog 23 #[sl Ahead1 head1 chead1, sl Al2 l2 cl2] w fun e w' => match r with
   | .inl r => ∃ (own' : Own) (x : (Option Addr × Nat) × (Option Addr × Nat) × (Option Addr × Nat) × (Option Addr × Nat)), e = .returned (.tuple #[.pointer (some ⟨x.1.2, 0, none⟩), Zi r.2]) ∧ Evo [] own own' w w' ∧ RdO own' [1, 3] w' R5 x.2.1.1 x.2.1.2 r.1.1 ∧ RwO own' 4 [1, 5] w' 22 R22 x.2.2.1.1 x.2.2.1.2 r.1.2.1 ∧ RwO own' 6 [] w' 66 R66 x.2.2.2.1 x.2.2.2.2 r.1.2.2 ∧ BlkO own' 2 w' x.1.2 64 #[.slice x.2.1.1 r.1.1.length x.2.1.2, .slice x.2.2.1.1 r.1.2.1.length x.2.2.1.2, .slice x.2.2.2.1 r.1.2.2.length x.2.2.2.2]
   | .inr x => ∃ own' : Own, e = .returned (.tuple #[.pointer none, Zi x.2]) ∧ Evo [] own own' w w' := by
 refine fl_enter (n := 99) rfl rfl rfl (Nat.le_of_ble_eq_true rfl) ?_
 intro a0 Q d0 z0 harg hret
 have ha0 := harg 0 _ rfl
 have ha1 := harg 1 _ rfl
 clear harg
 have hE0 : Evo [] own own w w := Evo.refl _ _ _
 refine rq_seq 99 own (bz 2) [dv [] [] 4 (.pointer none), dv [] [] 5 (Zi 0)] z0 d0 ?_ ?_
 ·exact sO (or_assign rfl) <| sO (or_assign rfl) <| steps_nil
 intro o384 a384 w384 d384 z384 hk384 hf384 hE384
 obtain ⟨e384_0, e384_1⟩ := kt2 hk384 ha0 ha1
 have hX384 := Evo.step hE0 hown hE384 rfl
 refine rq_seq 99 o384 (bz 2) [⟨[], [], [], Fct.map_ 386 16 vv28 vv4 ([] : List ((Int × Int × Int) × Bool))⟩, ⟨[0], [], [], Fct.rel [6, 16] (fun l => ∀ (g385 : Nat), l.getD 1 undef = .map (some g385) → l.getD 0 undef = .map (some g385))⟩] z384 d384 ?_ ?_
 ·refine sO (or_makeMap) ?_
  refine sc (fun own a wx hf hsl hE => ?_) ?_
  ·obtain ⟨⟨g385, (f_16 : a.eval (.tmp 16) = .map (some g385)), b_g385⟩, -⟩ := hf
   exact px (or_mono (f := Fct.val 6 (.map (some g385))) (or_assign f_16) (fun own' a' w' v' hp h => fun _ h0' => by cases (f_16.symm.trans ((hp.2 16 (by decide)).symm.trans h0')); exact h))
  exact steps_nil
 intro o387 a387 w387 d387 z387 hk387 hf387 hE387
 obtain ⟨e387_0, e387_1⟩ := kt2 hk387 e384_0 e384_1
 obtain ⟨⟨g385, (f_16 : a387.eval (.tmp 16) = .map (some g385)), (b387_g385 : MpO o387 386 w387 g385 vv28 vv4 ([] : List ((Int × Int × Int) × Bool)))⟩, (q_6 : ∀ (g385 : Nat), a387.eval (.tmp 16) = .map (some g385) → a387.eval (.tmp 6) = .map (some g385)), -⟩ := hf387 [0, 1] rfl
 have e387_6 := q_6 _ f_16
 have hX387 := Evo.step hX384 hown hE387 rfl
 refine fl_seq (fun Q388 hn388 hp388 => ?_)
 refine rq_seq 99 o387 [0, 1, 0] [dv [] [1] 17 (sl Al2 l2 cl2), dv [0] [] 18 (Zi (l2.length : Int)), dv [] [] 19 (Zi 0)] z387 d387 ?_ ?_
 ·exact sM e387_1 <| sF (fun f => or_len tu23 f.1 rfl) <| sO (or_move rfl) <| steps_nil
 intro o389 a389 w389 d389 z389 hk389 hf389 hE389
 obtain ⟨e389_0, e389_1, e389_6⟩ := kt3 hk389 e387_0 e387_1 e387_6
 have e389_17 := gv (hf389 [0] rfl) rfl
 have e389_18 := gv (hf389 [1] rfl) rfl
 have e389_19 := gv (hf389 [2] rfl) rfl
 have hX389 := Evo.step hX387 hown hE389 rfl
 have b389_g385 := MpO.evo (by decide) hE389 b387_g385
 refine fl_block (fun Q390 hn390 hx390 hp390 => ?_)
 refine fl_loop (body := (fun s => pack_packed_b1 head1 l2 s.1 s.2)) (z := r) (show loopO _ _ = _ from hs) (fun (s : (List ((Int × Int × Int) × Bool)) × Int) a wx => match s with | (met418, x419) => ∃ (ox : Own), a.defers = [] ∧ a.tmps.size = 99 ∧ a.eval (.tmp 0) = sl Ahead1 head1 chead1 ∧ a.eval (.tmp 1) = sl Al2 l2 cl2 ∧ a.eval (.tmp 6) = .map (some g385) ∧ a.eval (.tmp 17) = sl Al2 l2 cl2 ∧ a.eval (.tmp 18) = Zi (l2.length : Int) ∧ a.eval (.tmp 19) = Zi x419 ∧ Evo [] own ox w wx ∧ MpO ox 417 wx g385 vv28 vv4 met418) ?_ ?_
 ·exact ⟨(rl [(386, 417)] o389), d389, z389, e389_0, e389_1, e389_6, e389_17, e389_18, e389_19, (Evo.rl_ hX389 hown rfl), (MpO.rl_ b389_g385)⟩
 ·rintro ⟨met418, x419⟩ zz445 a445 w445 ⟨o445, d446, z446, e446_0, e446_1, e446_6, e446_17, e446_18, e446_19, hE446, b446_g385⟩ hs Q445 hn445 hp445 z445
  have hs : pack_packed_b1 head1 l2 met418 x419 = some zz445 := hs
  refine rq_seq 99 o445 (bz 1) [dv [] [19, 18] 20 (.bool (decide (x419 < (l2.length : Int))))] z446 d446 ?_ ?_
  ·exact sS (fun s => or_lss (s.1.trans e446_19) (s.2.1.trans e446_18) rfl) <| steps_nil
  intro o447 a447 w447 d447 z447 hk447 hf447 hE447
  obtain ⟨e447_0, e447_1, e447_6, e447_17, e447_18, e447_19⟩ := kt6 hk447 e446_0 e446_1 e446_6 e446_17 e446_18 e446_19
  have e447_20 := gv (hf447 [0] rfl) rfl
  have hX447 := Evo.step hE446 hown hE447 rfl
  have b447_g385 := MpO.evo (by decide) hE447 b446_g385
  refine fl_seq (fun Q448 hn448 hp448 => ?_)
  refine fl_cond e447_20 hs (fun c449 hs => ?_) (fun c449 hs => ?_)
  ·refine fl_skip ?_
   refine hn448 _ _ ?_
   refine fl_seq (fun Q450 hn450 hp450 => ?_)
   refine fl_block (fun Q451 hn451 hx451 hp451 => ?_)
   obtain ⟨x452, hx452, hs⟩ := obind hs
   refine rp_seq 99 o447 [455] [0, 1, 0, 7] [dv [] [17, 19] 21 (.pointer (some ((adr Al2).add ((x419 : Int).toNat * R30.s)))), ⟨[0], [], [], Fct.nest X30 [1] 22 (fun (y : (Unit × (Option Addr × Nat))) => .agg #[Zi x452.1.1, Zi x452.1.2.1, Zi x452.1.2.2, .slice y.2.1 x452.2.length y.2.2]) x452⟩, ⟨[], [], [], Fct.blk 455 8 (fun g => pt g 0) 30 #[Zi 0, Zi 0, Zi 0, .slice none 0 0]⟩, ⟨[2, 1], [], [455], Fct.by_ [456] [8, 22] (fun l own w => ∃ g454 : Nat, l.getD 0 undef = pt g454 0 ∧ (∀ (A453 : Option Addr) (cA453 : Nat), l.getD 1 undef = .agg #[Zi x452.1.1, Zi x452.1.2.1, Zi x452.1.2.2, sl A453 x452.2 cA453] → BlkO own 456 w g454 30 #[Zi x452.1.1, Zi x452.1.2.1, Zi x452.1.2.2, sl A453 x452.2 cA453])) (fun hk he h => by obtain ⟨g, e, h⟩ := h; exact ⟨g, e, fun _ _ h0' => BlkO.evo (not_hit hk (by decide)) he (h _ _ h0')⟩)⟩] z447 d447 ?_ ?_
   ·refine sS (fun s => or_index (R := R30) (l := l2) tl23 (s.1.trans e447_17) (s.2.1.trans e447_19) (RdO.some_ (RdO.evo rfl hX447 hl2) hx452) hx452) <| sFE (fun f hE => or_loadN X30 0 4 ta30 f.1 (Addr.add_zero' _).symm (RdO.evo rfl hE (RdO.evo rfl hX447 hl2)) hx452 (fun _ => rfl) (fun _ => rfl)) <| sO (nw0) ?_
    refine sc (fun own a wx hf hsl hE => ?_) ?_
    ·obtain ⟨⟨g454, f_8, b_g454⟩, ⟨⟨_, ⟨A453, cA453⟩⟩, (f_22 : a.eval (.tmp 22) = .agg #[Zi x452.1.1, Zi x452.1.2.1, Zi x452.1.2.2, sl A453 x452.2 cA453]), ⟨-, b_A453⟩⟩, -⟩ := hf
     exact px (or_store (l := #[Zi x452.1.1, Zi x452.1.2.1, Zi x452.1.2.2, sl A453 x452.2 cA453]) (lab := 455) (lab2 := 456) ts30 f_8 f_22 b_g454 (by simp) (by kernel_rfl) (mem_of rfl) (by decide) (by kernel_rfl) (fun own' a' w' ha hb => ⟨_, (ha 8).trans f_8, fun _ _ h0' => by cases (f_22.symm.trans ((ha 22).symm.trans h0')); exact hb⟩))
    exact steps_nil
   intro o457 a457 w457 d457 z457 hk457 hf457 hE457
   obtain ⟨e457_0, e457_1, e457_6, e457_17, e457_18, e457_19⟩ := kt6 hk457 e447_0 e447_1 e447_6 e447_17 e447_18 e447_19
   obtain ⟨⟨⟨_, ⟨A453, cA453⟩⟩, (f_22 : a457.eval (.tmp 22) = .agg #[Zi x452.1.1, Zi x452.1.2.1, Zi x452.1.2.2, sl A453 x452.2 cA453]), ⟨-, (b457_A453 : RdO o457 [1] w457 R5 A453 cA453 x452.2)⟩⟩, ⟨g454, (e457_8 : a457.eval (.tmp 8) = pt g454 0), (bq_g454 : ∀ (A453 : Option Addr) (cA453 : Nat), a457.eval (.tmp 22) = .agg #[Zi x452.1.1, Zi x452.1.2.1, Zi x452.1.2.2, sl A453 x452.2 cA453] → BlkO o457 456 w457 g454 30 #[Zi x452.1.1, Zi x452.1.2.1, Zi x452.1.2.2, sl A453 x452.2 cA453])⟩, -⟩ := hf457 [1, 3] rfl
   have b457_g454 := bq_g454 _ _ f_22
   have hX457 := Evo.step hX447 hown hE457 rfl
   have b457_g385 := MpO.evo (by decide) hE457 b447_g385
   refine fl_seq (fun Q458 hn458 hp458 => ?_)
   refine fl_block (fun Q459 hn459 hx459 hp459 => ?_)
   obtain ⟨r460, hr460, hs⟩ := obind hs
   refine rq_seq 99 o457 (bz 5) [dv [] [8] 24 (pt g454 0), dv [0] [] 25 (.agg #[Zi x452.1.1, Zi x452.1.2.1, Zi x452.1.2.2]), dv [1] [] 26 (.bool r460), dv [2] [] 27 (.bool (!r460)), dv [3] [] 23 (.bool (!r460))] z457 d457 ?_ ?_
   ·exact sS (fun s => or_field fo30_0 (s.1.trans e457_8) (by rfl)) <| sFE (fun f hE => ldS ta28 f.1 (be_ hE b457_g454)) <| sF (fun f => or_call cf45 (args1 f.1) (window_Right_w _ x452.1  r460 hr460) post_val) <| sF (fun f => or_not f.1 rfl) <| sA <| steps_nil
   intro o461 a461 w461 d461 z461 hk461 hf461 hE461
   obtain ⟨e461_0, e461_1, e461_6, e461_8, e461_17, e461_18, e461_19⟩ := kt7 hk461 e457_0 e457_1 e457_6 e457_8 e457_17 e457_18 e457_19
   have e461_23 := gv (hf461 [4] rfl) rfl
   have hX461 := Evo.step hX457 hown hE461 rfl
   have b461_g454 := be_ hE461 b457_g454
   have b461_g385 := MpO.evo (by decide) hE461 b457_g385
   have b461_A453 := RdO.evo rfl hE461 b457_A453
   refine fl_cond e461_23 hs (fun c462 hs => ?_) (fun c462 hs => ?_)
   ·refine rq_seq 99 o461 (bz 2) [dv [] [] 4 (.pointer none), dv [] [] 5 (Zi 5)] z461 d461 ?_ ?_
    ·exact sO (or_assign rfl) <| sO (or_assign rfl) <| steps_nil
    intro o463 a463 w463 d463 z463 hk463 hf463 hE463
    have e463_4 := gv (hf463 [0] rfl) rfl
    have e463_5 := gv (hf463 [1] rfl) rfl
    have hX463 := Evo.step hX461 hown hE463 rfl
    refine fl_ret ?_
    refine hp459 _ _ _ rfl ?_
    refine hp458 _ _ _ rfl ?_
    refine hp451 _ _ _ rfl ?_
    refine hp450 _ _ _ rfl ?_
    replace hs := z445 _ hs
    refine hp445 _ _ _ rfl ?_
    refine hp390 _ _ _ rfl ?_
    refine hp388 _ _ _ rfl ?_
    obtain rfl := osome hs
    exact hret _ _ _ _ (.inl rfl) d463 (results2_ rfl (RVal.tmp_ e463_4) (RVal.tmp_ e463_5)) ⟨o463, rfl, hX463⟩
   refine rq_seq 99 o461 [0, 0, 2, 7, 15] [dv [] [6] 29 (.map (some g385)), dv [] [8] 30 (pt g454 0), dv [1] [] 31 (.agg #[Zi x452.1.1, Zi x452.1.2.1, Zi x452.1.2.2]), dv [0, 2] [] 32 (.bool ((lkM met418 x452.1).getD false)), dv [3] [] 28 (.bool ((lkM met418 x452.1).getD false))] z461 d461 ?_ ?_
   ·exact sM e461_6 <| sS (fun s => or_field fo30_0 (s.1.trans e461_8) (by rfl)) <| sFE (fun f hE => ldS ta28 f.1 (be_ hE b461_g454)) <| sFE (fun f hE => or_lookupE (kf := vv28) (vf := vv4) (k := x452.1) (dv := false) ko28 tm98 tzv98 f.1 f.2.1 (MpO.evo (by decide) hE b461_g385) rfl) <| sA <| steps_nil
   intro o464 a464 w464 d464 z464 hk464 hf464 hE464
   obtain ⟨e464_0, e464_1, e464_6, e464_8, e464_17, e464_18, e464_19⟩ := kt7 hk464 e461_0 e461_1 e461_6 e461_8 e461_17 e461_18 e461_19
   have e464_28 := gv (hf464 [4] rfl) rfl
   have hX464 := Evo.step hX461 hown hE464 rfl
   have b464_g454 := be_ hE464 b461_g454
   have b464_g385 := MpO.evo (by decide) hE464 b461_g385
   have b464_A453 := RdO.evo rfl hE464 b461_A453
   refine fl_cond e464_28 hs (fun c465 hs => ?_) (fun c465 hs => ?_)
   ·refine rq_seq 99 o464 (bz 2) [dv [] [] 4 (.pointer none), dv [] [] 5 (Zi 8)] z464 d464 ?_ ?_
    ·exact sO (or_assign rfl) <| sO (or_assign rfl) <| steps_nil
    intro o466 a466 w466 d466 z466 hk466 hf466 hE466
    have e466_4 := gv (hf466 [0] rfl) rfl
    have e466_5 := gv (hf466 [1] rfl) rfl
    have hX466 := Evo.step hX464 hown hE466 rfl
    refine fl_ret ?_
    refine hp459 _ _ _ rfl ?_
    refine hp458 _ _ _ rfl ?_
    refine hp451 _ _ _ rfl ?_
    refine hp450 _ _ _ rfl ?_
    replace hs := z445 _ hs
    refine hp445 _ _ _ rfl ?_
    refine hp390 _ _ _ rfl ?_
    refine hp388 _ _ _ rfl ?_
    obtain rfl := osome hs
    exact hret _ _ _ _ (.inl rfl) d466 (results2_ rfl (RVal.tmp_ e466_4) (RVal.tmp_ e466_5)) ⟨o466, rfl, hX466⟩
   refine fl_skip ?_
   refine hn459 _ _ ?_
   refine hn458 _ _ ?_
   obtain ⟨D467, hD467, hs⟩ := obind hs
   refine rr 99 [Fct.mapAt 417 g385 vv28 vv4 met418] o464 [417] [0, 0, 2, 7] [dv [] [6] 33 (.map (some g385)), dv [] [8] 34 (pt g454 0), dv [1] [] 35 (.agg #[Zi x452.1.1, Zi x452.1.2.1, Zi x452.1.2.2]), ⟨[0, 2, 4], [], [417], Fct.mapAt 468 g385 vv28 vv4 D467⟩] z464 d464 (fm1 b464_g385) ?_ ?_
   ·refine sM e464_6 <| sS (fun s => or_field fo30_0 (s.1.trans e464_8) (by rfl)) <| sFE (fun f hE => ldS ta28 f.1 (be_ hE b464_g454)) ?_
    refine sc (fun own a wx hf hsl hE => ?_) ?_
    ·obtain ⟨f_33, f_35, b_g385, -⟩ := hf
     exact px (or_mapUpdate (kf := vv28) (vf := vv4) (k := x452.1) (v := true) (lab := 417) (lab2 := 468) ko28 tm98 f_33 f_35 rfl b_g385 (osome hD467).symm (mem_of rfl) (by decide) (fun own' a' w' hb => hb))
    exact steps_nil
   intro o469 a469 w469 d469 z469 hk469 hf469 hE469
   obtain ⟨e469_0, e469_1, e469_6, e469_17, e469_18, e469_19⟩ := kt6 hk469 e464_0 e464_1 e464_6 e464_17 e464_18 e464_19
   obtain ⟨(b469_g385 : MpO o469 468 w469 g385 vv28 vv4 D467), -⟩ := hf469 [3] rfl
   have hX469 := Evo.step hX464 hown hE469 rfl
   refine hn451 _ _ ?_
   refine hn450 _ _ ?_
   refine rq 99 o469 (bz 2) [dv [] [19] 36 (Zi (ad x419 1)), dv [0] [] 19 (Zi (ad x419 1))] z469 d469 ?_ ?_
   ·exact sS (fun s => or_add (s.1.trans e469_19) rfl rfl) <| sV <| steps_nil
   intro o470 a470 w470 d470 z470 hk470 hf470 hE470
   obtain ⟨e470_0, e470_1, e470_6, e470_17, e470_18⟩ := kt5 hk470 e469_0 e469_1 e469_6 e469_17 e469_18
   have e470_19 := gv (hf470 [1] rfl) rfl
   have hX470 := Evo.step hX469 hown hE470 rfl
   have b470_g385 := MpO.evo (by decide) hE470 b469_g385
   exact hn445 _ _ _ hs ⟨(rl [(468, 417)] o470), d470, z470, e470_0, e470_1, e470_6, e470_17, e470_18, e470_19, (Evo.rl_ hX470 hown rfl), (MpO.rl_ b470_g385)⟩
  refine fl_exit ?_
  refine hp448 _ _ _ rfl ?_
  replace hs := z445 _ hs
  refine hp445 _ _ _ rfl ?_
  refine hx390 _ _ ?_
  refine hn388 _ _ ?_
  refine rq_seq 99 o447 (bz 4) [dv [] [0] 37 (sl Ahead1 head1 chead1), dv [0] [] 38 (.agg #[sl Ahead1 head1 chead1, .slice none 0 0, .slice none 0 0]), ⟨[1], [], [], Fct.blk 472 39 (fun g => pt g 0) 64 #[sl Ahead1 head1 chead1, .slice none 0 0, .slice none 0 0]⟩, ⟨[2], [], [], Fct.rel [9, 39] (fun l => ∀ (g471 : Nat), l.getD 1 undef = pt g471 0 → l.getD 0 undef = pt g471 0)⟩] z447 d447 ?_ ?_
  ·refine sM e447_0 <| sF (fun f => ok1 f.1) <| sF (fun f => nw1 f.1) ?_
   refine sc (fun own a wx hf hsl hE => ?_) ?_
   ·obtain ⟨⟨g471, (f_39 : a.eval (.tmp 39) = pt g471 0), b_g471⟩, -⟩ := hf
    exact px (or_mono (f := Fct.val 9 (pt g471 0)) (or_assign f_39) (fun own' a' w' v' hp h => fun _ h0' => by cases (f_39.symm.trans ((hp.2 39 (by decide)).symm.trans h0')); exact h))
   exact steps_nil
  intro o473 a473 w473 d473 z473 hk473 hf473 hE473
  have e473_1 := kt hk473 e447_1
  obtain ⟨⟨g471, (f_39 : a473.eval (.tmp 39) = pt g471 0), (b473_g471 : BlkO o473 472 w473 g471 64 #[sl Ahead1 head1 chead1, .slice none 0 0, .slice none 0 0])⟩, (q_9 : ∀ (g471 : Nat), a473.eval (.tmp 39) = pt g471 0 → a473.eval (.tmp 9) = pt g471 0), -⟩ := hf473 [2, 3] rfl
  have e473_9 := q_9 _ f_39
  have hX473 := Evo.step hX447 hown hE473 rfl
  obtain ⟨r474, hr474, hs⟩ := obind hs
  refine rp_seq 99 o473 [480] [0, 1, 0, 7] [dv [] [1] 40 (sl Al2 l2 cl2), ⟨[0], [], [], Fct.mems [476, 477, 478, 1] 41 (fun (x : Option Addr × Nat) => .slice x.1 r474.length x.2) (fun (x : Option Addr × Nat) own w => RwO own 476 [477, 478, 1] w 30 R30 x.1 x.2 r474) (fun hk he h => RwO.evo (hits_sub hk (by decide)) he h)⟩, ⟨[], [], [], Fct.blk 480 10 (fun g => pt g 0) 23 #[.slice none 0 0]⟩, ⟨[2, 1], [], [480], Fct.by_ [481] [10, 41] (fun l own w => ∃ g479 : Nat, l.getD 0 undef = pt g479 0 ∧ (∀ (A475 : Option Addr) (cA475 : Nat), l.getD 1 undef = sl A475 r474 cA475 → BlkO own 481 w g479 23 #[sl A475 r474 cA475])) (fun hk he h => by obtain ⟨g, e, h⟩ := h; exact ⟨g, e, fun _ _ h0' => BlkO.evo (not_hit hk (by decide)) he (h _ _ h0')⟩)⟩] z473 d473 ?_ ?_
  ·refine sM e473_1 ?_
   refine sc (fun own _ _ f _ hE => px (or_call cf46 (args1 f.1) (slices_Clone_pack_Entry_pack_Entry_w _ (forth own (inL [1])) l2 Al2 cl2 inL_le (RdO.alias_ (La := [1]) (RdO.evo rfl hE (RdO.evo rfl hX473 hl2)) (by decide)) r474 hr474) (post_alias (La := [1]) (m' := (look0 [(1, 477), (2, 476), (3, 478)])) (fun own' w' a' x ho hsz h1 h => ⟨x, h1, RwO.backM_ ho h (by decide) (by decide) (by decide) (by decide)⟩)))) ?_
   refine sO (nw0) ?_
   refine sc (fun own a wx hf hsl hE => ?_) ?_
   ·obtain ⟨⟨g479, f_10, b_g479⟩, ⟨⟨A475, cA475⟩, (f_41 : a.eval (.tmp 41) = sl A475 r474 cA475), b_A475⟩, -⟩ := hf
    exact px (or_store1 (lab := 480) (lab2 := 481) ts23 f_10 f_41 b_g479 (by simp) rfl (mem_of rfl) (by decide) rfl (fun own' a' w' ha hb => ⟨_, (ha 10).trans f_10, fun _ _ h0' => by cases (f_41.symm.trans ((ha 41).symm.trans h0')); exact hb⟩))
   exact steps_nil
  intro o482 a482 w482 d482 z482 hk482 hf482 hE482
  have e482_9 := kt hk482 e473_9
  obtain ⟨⟨⟨A475, cA475⟩, (f_41 : a482.eval (.tmp 41) = sl A475 r474 cA475), (b482_A475 : RwO o482 476 [477, 478, 1] w482 30 R30 A475 cA475 r474)⟩, ⟨g479, (e482_10 : a482.eval (.tmp 10) = pt g479 0), (bq_g479 : ∀ (A475 : Option Addr) (cA475 : Nat), a482.eval (.tmp 41) = sl A475 r474 cA475 → BlkO o482 481 w482 g479 23 #[sl A475 r474 cA475])⟩, -⟩ := hf482 [1, 3] rfl
  have b482_g479 := bq_g479 _ _ f_41
  have hX482 := Evo.step hX473 hown hE482 rfl
  have b482_g471 := be_ hE482 b473_g471
  obtain ⟨l483, hl483, hs⟩ := obind hs
  refine rr_seq 99 [Fct.rowAt 476 [477, 478, 1] 30 R30 A475 cA475 r474] o482 [476] [0, 1, 0, 7] [dv [] [10] 42 (sl A475 r474 cA475), dv [0] [] 43 (.iface 23 (sl A475 r474 cA475)), dv [] [10] 44 (.func (.func 48) #[] #[pt g479 0]), ⟨[1, 2, 4], [], [476], Fct.rowAt 484 [477, 478, 1] 30 R30 A475 cA475 l483⟩] z482 d482 (fm1 b482_A475) ?_ ?_
  ·refine sL1 to23 e482_10 b482_g479 <| sF (fun f => ok1 f.1) <| sS (fun s => ok1 (s.1.trans e482_10)) ?_
   refine sc (fun own a wx hf hsl hE => ?_) ?_
   ·obtain ⟨f_43, f_44, b_A475, -⟩ := hf
    exact px (or_sortS (lab := 476) cf47 (args2 f_43 f_44) (mem_of rfl) (sortAll23_48_w b_A475 (be_ hE b482_g479) (by decide) (by decide) (by decide) hl483))
   exact steps_nil
  intro o485 a485 w485 d485 z485 hk485 hf485 hE485
  obtain ⟨e485_9, e485_10⟩ := kt2 hk485 e482_9 e482_10
  obtain ⟨(b485_A475 : RwO o485 484 [477, 478, 1] w485 30 R30 A475 cA475 l483), -⟩ := hf485 [3] rfl
  have hX485 := Evo.step hX482 hown hE485 rfl
  obtain ⟨b485_g471, b485_g479⟩ := be2 hE485 b482_g471 b482_g479
  have m486_g479 : BlkO o485 481 w485 g479 23 #[sl A475 l483 cA475] := BlkO.cs_ b485_g479 (by (try unfold sl); rw [(sortAll23_48_len hl483)])
  refine rq_seq 99 o485 (bz 2) [⟨[], [], [], Fct.map_ 488 46 vv9 vv3 ([] : List (ByteArray × Int))⟩, ⟨[0], [], [], Fct.rel [11, 46] (fun l => ∀ (g487 : Nat), l.getD 1 undef = .map (some g487) → l.getD 0 undef = .map (some g487))⟩] z485 d485 ?_ ?_
  ·refine sO (or_makeMap) ?_
   refine sc (fun own a wx hf hsl hE => ?_) ?_
   ·obtain ⟨⟨g487, (f_46 : a.eval (.tmp 46) = .map (some g487)), b_g487⟩, -⟩ := hf
    exact px (or_mono (f := Fct.val 11 (.map (some g487))) (or_assign f_46) (fun own' a' w' v' hp h => fun _ h0' => by cases (f_46.symm.trans ((hp.2 46 (by decide)).symm.trans h0')); exact h))
   exact steps_nil
  intro o489 a489 w489 d489 z489 hk489 hf489 hE489
  obtain ⟨e489_9, e489_10⟩ := kt2 hk489 e485_9 e485_10
  obtain ⟨⟨g487, (f_46 : a489.eval (.tmp 46) = .map (some g487)), (b489_g487 : MpO o489 488 w489 g487 vv9 vv3 ([] : List (ByteArray × Int)))⟩, (q_11 : ∀ (g487 : Nat), a489.eval (.tmp 46) = .map (some g487) → a489.eval (.tmp 11) = .map (some g487)), -⟩ := hf489 [0, 1] rfl
  have e489_11 := q_11 _ f_46
  have hX489 := Evo.step hX485 hown hE489 rfl
  obtain ⟨b489_g471, b489_g479⟩ := be2 hE489 b485_g471 m486_g479
  have b489_A475 := re_ hE489 b485_A475
  refine fl_seq (fun Q490 hn490 hp490 => ?_)
  refine rq_seq 99 o489 [0, 1, 0] [dv [] [10] 47 (sl A475 l483 cA475), dv [0] [] 48 (Zi (l483.length : Int)), dv [] [] 49 (Zi 0)] z489 d489 ?_ ?_
  ·exact sL1 to23 e489_10 b489_g479 <| sF (fun f => or_len tu23 f.1 rfl) <| sO (or_move rfl) <| steps_nil
  intro o491 a491 w491 d491 z491 hk491 hf491 hE491
  obtain ⟨e491_9, e491_11⟩ := kt2 hk491 e489_9 e489_11
  have e491_47 := gv (hf491 [0] rfl) rfl
  have e491_48 := gv (hf491 [1] rfl) rfl
  have e491_49 := gv (hf491 [2] rfl) rfl
  have hX491 := Evo.step hX489 hown hE491 rfl
  have b491_g471 := be_ hE491 b489_g471
  have b491_A475 := re_ hE491 b489_A475
  have b491_g487 := MpO.evo (by decide) hE491 b489_g487
  refine fl_block (fun Q492 hn492 hx492 hp492 => ?_)
  refine fl_loop (body := (fun s => pack_packed_b2 head1 l483 s.1 s.2.1 s.2.2.1 s.2.2.2)) (z := r) (show loopO _ _ = _ from hs) (fun (s : (List (List Int)) × (List ((Int × Int × Int) × Int)) × (List (ByteArray × Int)) × Int) a wx => match s with | (p580, p585, numbers588, x591) => ∃ (ox : Own) (A578 : Option Addr) (c579 : Nat) (A583 : Option Addr) (c584 : Nat), a.defers = [] ∧ a.tmps.size = 99 ∧ a.eval (.tmp 9) = pt g471 0 ∧ a.eval (.tmp 11) = .map (some g487) ∧ a.eval (.tmp 47) = sl A475 l483 cA475 ∧ a.eval (.tmp 48) = Zi (l483.length : Int) ∧ a.eval (.tmp 49) = Zi x591 ∧ Evo [] own ox w wx ∧ BlkO ox 577 wx g471 64 #[sl Ahead1 head1 chead1, sl A578 p580 c579, sl A583 p585 c584] ∧ RwO ox 581 [1, 582] wx 22 R22 A578 c579 p580 ∧ RwO ox 586 [] wx 66 R66 A583 c584 p585 ∧ MpO ox 587 wx g487 vv9 vv3 numbers588 ∧ RwO ox 582 [1, 582] wx 30 R30 A475 cA475 l483) ?_ ?_
  ·exact ⟨(rl [(472, 577), (477, 582), (478, 582), (484, 582), (488, 587)] o491), none, 0, none, 0, d491, z491, e491_9, e491_11, e491_47, e491_48, e491_49, (Evo.rl_ hX491 hown rfl), (BlkO.rl_ b491_g471), RwO.nil_, RwO.nil_, (MpO.rl_ b491_g487), (RwO.more (RwO.rl_ b491_A475) (by decide))⟩
  ·rintro ⟨p580, p585, numbers588, x591⟩ zz673 a673 w673 ⟨o673, A578, c579, A583, c584, d674, z674, e674_9, e674_11, e674_47, e674_48, e674_49, hE674, b674_g471, b674_A578, b674_A583, b674_g487, b674_A475⟩ hs Q673 hn673 hp673 z673
   have hs : pack_packed_b2 head1 l483 p580 p585 numbers588 x591 = some zz673 := hs
   refine rq_seq 99 o673 (bz 1) [dv [] [49, 48] 50 (.bool (decide (x591 < (l483.length : Int))))] z674 d674 ?_ ?_
   ·exact sS (fun s => or_lss (s.1.trans e674_49) (s.2.1.trans e674_48) rfl) <| steps_nil
   intro o675 a675 w675 d675 z675 hk675 hf675 hE675
   obtain ⟨e675_9, e675_11, e675_47, e675_48, e675_49⟩ := kt5 hk675 e674_9 e674_11 e674_47 e674_48 e674_49
   have e675_50 := gv (hf675 [0] rfl) rfl
   have hX675 := Evo.step hE674 hown hE675 rfl
   have b675_g471 := be_ hE675 b674_g471
   have b675_A578 := re_ hE675 b674_A578
   have b675_A583 := re_ hE675 b674_A583
   have b675_g487 := MpO.evo (by decide) hE675 b674_g487
   have b675_A475 := re_ hE675 b674_A475
   refine fl_seq (fun Q676 hn676 hp676 => ?_)
   refine fl_cond e675_50 hs (fun c677 hs => ?_) (fun c677 hs => ?_)
   ·refine fl_skip ?_
    refine hn676 _ _ ?_
    refine fl_seq (fun Q678 hn678 hp678 => ?_)
    refine fl_block (fun Q679 hn679 hx679 hp679 => ?_)
    obtain ⟨x680, hx680, hs⟩ := obind hs
    refine rp_seq 99 o675 [683] [0, 1, 0, 7] [dv [] [47, 49] 51 (.pointer (some ((adr A475).add ((x591 : Int).toNat * R30.s)))), ⟨[0], [], [], Fct.nest X30 [582, 1, 582] 52 (fun (y : (Unit × (Option Addr × Nat))) => .agg #[Zi x680.1.1, Zi x680.1.2.1, Zi x680.1.2.2, .slice y.2.1 x680.2.length y.2.2]) x680⟩, ⟨[], [], [], Fct.blk 683 13 (fun g => pt g 0) 30 #[Zi 0, Zi 0, Zi 0, .slice none 0 0]⟩, ⟨[2, 1], [], [683], Fct.by_ [684] [13, 52] (fun l own w => ∃ g682 : Nat, l.getD 0 undef = pt g682 0 ∧ (∀ (A681 : Option Addr) (cA681 : Nat), l.getD 1 undef = .agg #[Zi x680.1.1, Zi x680.1.2.1, Zi x680.1.2.2, sl A681 x680.2 cA681] → BlkO own 684 w g682 30 #[Zi x680.1.1, Zi x680.1.2.1, Zi x680.1.2.2, sl A681 x680.2 cA681])) (fun hk he h => by obtain ⟨g, e, h⟩ := h; exact ⟨g, e, fun _ _ h0' => BlkO.evo (not_hit hk (by decide)) he (h _ _ h0')⟩)⟩] z675 d675 ?_ ?_
    ·refine sS (fun s => or_index (R := R30) (l := l483) tl23 (s.1.trans e675_47) (s.2.1.trans e675_49) (RdO.some_ (RwO.rd b675_A475) hx680) hx680) <| sFE (fun f hE => or_loadN X30 0 4 ta30 f.1 (Addr.add_zero' _).symm (RwO.rd (re_ hE b675_A475)) hx680 (fun _ => rfl) (fun _ => rfl)) <| sO (nw0) ?_
     refine sc (fun own a wx hf hsl hE => ?_) ?_
     ·obtain ⟨⟨g682, f_13, b_g682⟩, ⟨⟨_, ⟨A681, cA681⟩⟩, (f_52 : a.eval (.tmp 52) = .agg #[Zi x680.1.1, Zi x680.1.2.1, Zi x680.1.2.2, sl A681 x680.2 cA681]), ⟨-, b_A681⟩⟩, -⟩ := hf
      exact px (or_store (l := #[Zi x680.1.1, Zi x680.1.2.1, Zi x680.1.2.2, sl A681 x680.2 cA681]) (lab := 683) (lab2 := 684) ts30 f_13 f_52 b_g682 (by simp) (by kernel_rfl) (mem_of rfl) (by decide) (by kernel_rfl) (fun own' a' w' ha hb => ⟨_, (ha 13).trans f_13, fun _ _ h0' => by cases (f_52.symm.trans ((ha 52).symm.trans h0')); exact hb⟩))
     exact steps_nil
    intro o685 a685 w685 d685 z685 hk685 hf685 hE685
    obtain ⟨e685_9, e685_11, e685_47, e685_48, e685_49⟩ := kt5 hk685 e675_9 e675_11 e675_47 e675_48 e675_49
    obtain ⟨⟨⟨_, ⟨A681, cA681⟩⟩, (f_52 : a685.eval (.tmp 52) = .agg #[Zi x680.1.1, Zi x680.1.2.1, Zi x680.1.2.2, sl A681 x680.2 cA681]), ⟨-, (b685_A681 : RdO o685 [582, 1, 582] w685 R5 A681 cA681 x680.2)⟩⟩, ⟨g682, (e685_13 : a685.eval (.tmp 13) = pt g682 0), (bq_g682 : ∀ (A681 : Option Addr) (cA681 : Nat), a685.eval (.tmp 52) = .agg #[Zi x680.1.1, Zi x680.1.2.1, Zi x680.1.2.2, sl A681 x680.2 cA681] → BlkO o685 684 w685 g682 30 #[Zi x680.1.1, Zi x680.1.2.1, Zi x680.1.2.2, sl A681 x680.2 cA681])⟩, -⟩ := hf685 [1, 3] rfl
    have b685_g682 := bq_g682 _ _ f_52
    have hX685 := Evo.step hX675 hown hE685 rfl
    have b685_g471 := be_ hE685 b675_g471
    have b685_A578 := re_ hE685 b675_A578
    have b685_A583 := re_ hE685 b675_A583
    have b685_g487 := MpO.evo (by decide) hE685 b675_g487
    have b685_A475 := re_ hE685 b675_A475
    refine rq_seq 99 o685 [0, 0, 2, 6, 15, 31, 63, 63, 127, 511] [dv [] [11] 54 (.map (some g487)), dv [] [13] 55 (pt g682 3), dv [1] [] 56 (sl A681 x680.2 cA681), dv [2] [] 57 (.string (bsS x680.2)), dv [0, 3] [] 58 (.tuple #[Zi ((lkM numbers588 (bsS x680.2)).getD 0), .bool ((lkM numbers588 (bsS x680.2)).isSome)]), dv [4] [] 53 (.tuple #[Zi ((lkM numbers588 (bsS x680.2)).getD 0), .bool ((lkM numbers588 (bsS x680.2)).isSome)]), dv [5] [] 59 (Zi ((lkM numbers588 (bsS x680.2)).getD 0)), dv [5] [] 60 (.bool ((lkM numbers588 (bsS x680.2)).isSome)), dv [6] [] 14 (Zi ((lkM numbers588 (bsS x680.2)).getD 0)), dv [7] [] 15 (.bool ((lkM numbers588 (bsS x680.2)).isSome))] z685 d685 ?_ ?_
    ·exact sM e685_11 <| sS (fun s => or_field fo30_1 (s.1.trans e685_13) (by rfl)) <| sG to22 b685_g682 <| sFE (fun f hE => or_convBS tu22 tn5 tS9 f.1 (RdO.evo rfl hE b685_A681)) <| sFE (fun f hE => or_lookup2 (kf := vv9) (vf := vv3) (k := (bsS x680.2)) (dv := 0) ko9 tm101 tzv101 f.1 f.2.1 (MpO.evo (by decide) hE b685_g487) rfl rfl) <| sV <| sF (fun f => ok1 f.1) <| sF (fun f => ok1 f.1) <| sA <| sA <| steps_nil
    intro o686 a686 w686 d686 z686 hk686 hf686 hE686
    obtain ⟨e686_9, e686_11, e686_13, e686_47, e686_48, e686_49⟩ := kt6 hk686 e685_9 e685_11 e685_13 e685_47 e685_48 e685_49
    have e686_14 := gv (hf686 [8] rfl) rfl
    have e686_15 := gv (hf686 [9] rfl) rfl
    have hX686 := Evo.step hX685 hown hE686 rfl
    obtain ⟨b686_g471, b686_g682⟩ := be2 hE686 b685_g471 b685_g682
    have b686_A578 := re_ hE686 b685_A578
    have b686_A583 := re_ hE686 b685_A583
    have b686_g487 := MpO.evo (by decide) hE686 b685_g487
    have b686_A475 := re_ hE686 b685_A475
    have b686_A681 := RdO.evo rfl hE686 b685_A681
    refine fl_seq (fun Q687 hn687 hp687 => ?_)
    have K718 : ∀ (a718 : Act) (w718 : World) (o718 : Own) (p711 : List (List Int)) (numbers715 : List (ByteArray × Int)) (n716 : Int) (A709 : Option Addr) (c710 : Nat), a718.defers = [] → a718.tmps.size = 99 → a718.eval (.tmp 9) = pt g471 0 → a718.eval (.tmp 11) = .map (some g487) → a718.eval (.tmp 13) = pt g682 0 → a718.eval (.tmp 14) = Zi n716 → a718.eval (.tmp 47) = sl A475 l483 cA475 → a718.eval (.tmp 48) = Zi (l483.length : Int) → a718.eval (.tmp 49) = Zi x591 → Evo [] own o718 w w718 → BlkO o718 708 w718 g471 64 #[sl Ahead1 head1 chead1, sl A709 p711 c710, sl A583 p585 c584] → RwO o718 712 [1, 713] w718 22 R22 A709 c710 p711 → RwO o718 586 [] w718 66 R66 A583 c584 p585 → MpO o718 714 w718 g487 vv9 vv3 numbers715 → BlkO o718 684 w718 g682 30 #[Zi x680.1.1, Zi x680.1.2.1, Zi x680.1.2.2, sl A681 x680.2 cA681] → RdO o718 [1, 713] w718 R5 A681 cA681 x680.2 → RwO o718 713 [1, 713] w718 30 R30 A475 cA475 l483 → pack_packed_k3 p585 x591 x680 p711 numbers715 n716 = some zz673 → Q687 .normal a718 w718 := by
     intro a718 w718 o718 p711 numbers715 n716 A709 c710 d719 z719 e719_9 e719_11 e719_13 e719_14 e719_47 e719_48 e719_49 hE719 b719_g471 b719_A709 b719_A583 b719_g487 b719_g682 b719_A681 b719_A475 hs
     refine hn687 _ _ ?_
     obtain ⟨x729, hx729, hs⟩ := obind hs
     refine rd_ g_mixed 99 [Fct.rowAt 586 [] 66 R66 A583 c584 p585, Fct.at_ 708 g471 64 #[sl Ahead1 head1 chead1, sl A709 p711 c710, sl A583 p585 c584]] o718 [586, 708] [0, 0, 2, 6, 14, 0, 32, 0, 224, 480, 1022, 2047, 4095, 8191] [dv [] [9] 84 (pt g471 0), dv [] [9] 85 (pt g471 0), dv [1] [] 86 (pt g471 0), dv [2] [] 87 (pt g471 2), dv [3, 15] [] 88 (sl A583 p585 c584), dv [] [13] 89 (pt g682 0), dv [5] [] 90 (.agg #[Zi x680.1.1, Zi x680.1.2.1, Zi x680.1.2.2]), dv [] [14] 91 (Zi n716), dv [6, 7] [] 92 (.agg #[Zi x680.1.1, Zi x680.1.2.1, Zi x680.1.2.2, Zi n716]), ⟨[8], [], [], Fct.row 728 [] 93 66 R66 [(x680.1, n716)]⟩, ⟨[4, 9, 14], [], [586], Fct.row 730 [] 94 66 R66 x729⟩, dv [0] [] 95 (pt g471 0), dv [11] [] 96 (pt g471 2), ⟨[12, 10, 15], [], [708], Fct.by_ [732] [94] (fun l own w => ∀ (A731 : Option Addr) (cA731 : Nat), l.getD 0 undef = sl A731 x729 cA731 → BlkO own 732 w g471 64 #[sl Ahead1 head1 chead1, sl A709 p711 c710, sl A731 x729 cA731]) (fun hk he h _ _ h0' => BlkO.evo (not_hit hk (by decide)) he (h _ _ h0'))⟩] z719 d719 (fm2 b719_A583 b719_g471) ?_ ?_
     ·refine sM e719_9 <| sM e719_9 <| sF (fun f => ok1 f.1) <| sF (fun f => or_field fo64_2 f.1 (by rfl)) ?_
      refine sc (fun own a wx hf hsl hE => ?_) ?_
      ·obtain ⟨f_87, (b_g471 : BlkO own 708 wx g471 64 #[sl Ahead1 head1 chead1, sl A709 p711 c710, sl A583 p585 c584]), -⟩ := hf
       exact px (ld1 to62 f_87 b_g471)
      refine sS (fun s => or_field fo30_0 (s.1.trans e719_13) (by rfl)) <| sFE (fun f hE => ldS ta28 f.1 (be_ hE b719_g682)) <| sM e719_14 <| sF (fun f => ok2 f.1 f.2.1) <| sF (fun f => or_lit (lab := 728) (e := 66) (cs := #[Zi x680.1.1, Zi x680.1.2.1, Zi x680.1.2.2, Zi n716]) (F := E66) (nw1 f.1) rfl rfl (show 1 ≤ maxLen by decide)) ?_
      refine sc (fun own a wx hf hsl hE => ?_) ?_
      ·obtain ⟨f_88, ⟨⟨A727, cA727⟩, f_93, b_A727⟩, b_A583, -⟩ := hf
       exact px (or_append (R := R66) (lab := 586) (lab2 := 730) (L := []) (L3 := []) tp62 f_88 b_A583 (by decide) f_93 (RwO.rd b_A727) hx729 (by decide) (by decide) (mem_of rfl) (.inl (Rep.fl_flat _)))
      refine sF (fun f => ok1 f.1) <| sF (fun f => or_field fo64_2 f.1 (by rfl)) ?_
      refine sc (fun own a wx hf hsl hE => ?_) ?_
      ·obtain ⟨f_96, ⟨⟨A731, cA731⟩, (f_94 : a.eval (.tmp 94) = sl A731 x729 cA731), b_A731⟩, b_g471, -⟩ := hf
       exact px (or_store1 (lab := 708) (lab2 := 732) ts62 f_96 f_94 b_g471 (by simp) rfl (mem_of rfl) (by decide) rfl (fun own' a' w' ha hb => fun _ _ h0' => by cases (f_94.symm.trans ((ha 94).symm.trans h0')); exact hb))
      exact steps_nil
     intro o733 a733 w733 d733 z733 hk733 hf733 hE733
     obtain ⟨e733_9, e733_11, e733_47, e733_48, e733_49⟩ := kt5 hk733 e719_9 e719_11 e719_47 e719_48 e719_49
     obtain ⟨⟨⟨A731, cA731⟩, (f_94 : a733.eval (.tmp 94) = sl A731 x729 cA731), (b733_A731 : RwO o733 730 [] w733 66 R66 A731 cA731 x729)⟩, (bq_g471 : ∀ (A731 : Option Addr) (cA731 : Nat), a733.eval (.tmp 94) = sl A731 x729 cA731 → BlkO o733 732 w733 g471 64 #[sl Ahead1 head1 chead1, sl A709 p711 c710, sl A731 x729 cA731]), -⟩ := hf733 [10, 13] rfl
     have b733_g471 := bq_g471 _ _ f_94
     have hX733 := Evo.step hE719 hown hE733 rfl
     have b733_A709 := re_ hE733 b719_A709
     have b733_g487 := MpO.evo (by decide) hE733 b719_g487
     have b733_A475 := re_ hE733 b719_A475
     refine hn679 _ _ ?_
     refine hn678 _ _ ?_
     refine rq 99 o733 (bz 2) [dv [] [49] 97 (Zi (ad x591 1)), dv [0] [] 49 (Zi (ad x591 1))] z733 d733 ?_ ?_
     ·exact sS (fun s => or_add (s.1.trans e733_49) rfl rfl) <| sV <| steps_nil
     intro o734 a734 w734 d734 z734 hk734 hf734 hE734
     obtain ⟨e734_9, e734_11, e734_47, e734_48⟩ := kt4 hk734 e733_9 e733_11 e733_47 e733_48
     have e734_49 := gv (hf734 [1] rfl) rfl
     have hX734 := Evo.step hX733 hown hE734 rfl
     have b734_g471 := be_ hE734 b733_g471
     have b734_A709 := re_ hE734 b733_A709
     have b734_g487 := MpO.evo (by decide) hE734 b733_g487
     have b734_A475 := re_ hE734 b733_A475
     have b734_A731 := re_ hE734 b733_A731
     exact hn673 _ _ _ hs ⟨(rl [(712, 581), (713, 582), (714, 587), (730, 586), (732, 577)] o734), A709, c710, A731, cA731, d734, z734, e734_9, e734_11, e734_47, e734_48, e734_49, (Evo.rl_ hX734 hown rfl), (BlkO.rl_ b734_g471), (RwO.rl_ b734_A709), (RwO.rl_ b734_A731), (MpO.rl_ b734_g487), (RwO.rl_ b734_A475)⟩
    refine rq_seq 99 o686 (bz 2) [dv [] [15] 61 (.bool ((lkM numbers588 (bsS x680.2)).isSome)), dv [0] [] 62 (.bool (!((lkM numbers588 (bsS x680.2)).isSome)))] z686 d686 ?_ ?_
    ·exact sM e686_15 <| sF (fun f => or_not f.1 rfl) <| steps_nil
    intro o735 a735 w735 d735 z735 hk735 hf735 hE735
    obtain ⟨e735_9, e735_11, e735_13, e735_14, e735_47, e735_48, e735_49⟩ := kt7 hk735 e686_9 e686_11 e686_13 e686_14 e686_47 e686_48 e686_49
    have e735_62 := gv (hf735 [1] rfl) rfl
    have hX735 := Evo.step hX686 hown hE735 rfl
    obtain ⟨b735_g471, b735_g682⟩ := be2 hE735 b686_g471 b686_g682
    have b735_A578 := re_ hE735 b686_A578
    have b735_A583 := re_ hE735 b686_A583
    have b735_g487 := MpO.evo (by decide) hE735 b686_g487
    have b735_A475 := re_ hE735 b686_A475
    have b735_A681 := RdO.evo rfl hE735 b686_A681
    refine fl_cond e735_62 hs (fun c736 hs => ?_) (fun c736 hs => ?_)
    ·refine rq_seq 99 o735 (bz 6) [dv [] [9] 63 (pt g471 0), dv [0] [] 64 (pt g471 0), dv [1] [] 65 (pt g471 1), dv [2] [] 66 (sl A578 p580 c579), dv [3] [] 67 (Zi (p580.length : Int)), dv [4] [] 14 (Zi (p580.length : Int))] z735 d735 ?_ ?_
     ·exact sM e735_9 <| sF (fun f => ok1 f.1) <| sF (fun f => or_field fo64_1 f.1 (by rfl)) <| sG to61 b735_g471 <| sF (fun f => or_len tu61 f.1 rfl) <| sA <| steps_nil
     intro o737 a737 w737 d737 z737 hk737 hf737 hE737
     obtain ⟨e737_9, e737_11, e737_13, e737_47, e737_48, e737_49⟩ := kt6 hk737 e735_9 e735_11 e735_13 e735_47 e735_48 e735_49
     have e737_14 := gv (hf737 [5] rfl) rfl
     have hX737 := Evo.step hX735 hown hE737 rfl
     obtain ⟨b737_g471, b737_g682⟩ := be2 hE737 b735_g471 b735_g682
     have b737_A578 := re_ hE737 b735_A578
     have b737_A583 := re_ hE737 b735_A583
     have b737_g487 := MpO.evo (by decide) hE737 b735_g487
     have b737_A475 := re_ hE737 b735_A475
     have b737_A681 := RdO.evo rfl hE737 b735_A681
     obtain ⟨D738, hD738, hs⟩ := obind hs
     refine rr_seq 99 [Fct.mapAt 587 g487 vv9 vv3 numbers588] o737 [587] [0, 0, 2, 6, 0, 31] [dv [] [11] 68 (.map (some g487)), dv [] [13] 69 (pt g682 3), dv [1] [] 70 (sl A681 x680.2 cA681), dv [2] [] 71 (.string (bsS x680.2)), dv [] [14] 72 (Zi (p580.length : Int)), ⟨[0, 3, 4, 6], [], [587], Fct.mapAt 739 g487 vv9 vv3 D738⟩] z737 d737 (fm1 b737_g487) ?_ ?_
     ·refine sM e737_11 <| sS (fun s => or_field fo30_1 (s.1.trans e737_13) (by rfl)) <| sG to22 b737_g682 <| sFE (fun f hE => or_convBS tu22 tn5 tS9 f.1 (RdO.evo rfl hE b737_A681)) <| sM e737_14 ?_
      refine sc (fun own a wx hf hsl hE => ?_) ?_
      ·obtain ⟨f_68, f_71, f_72, b_g487, -⟩ := hf
       exact px (or_mapUpdate (kf := vv9) (vf := vv3) (k := (bsS x680.2)) (v := (p580.length : Int)) (lab := 587) (lab2 := 739) ko9 tm101 f_68 f_71 f_72 b_g487 (osome hD738).symm (mem_of rfl) (by decide) (fun own' a' w' hb => hb))
      exact steps_nil
     intro o740 a740 w740 d740 z740 hk740 hf740 hE740
     obtain ⟨e740_9, e740_11, e740_13, e740_14, e740_47, e740_48, e740_49⟩ := kt7 hk740 e737_9 e737_11 e737_13 e737_14 e737_47 e737_48 e737_49
     obtain ⟨(b740_g487 : MpO o740 739 w740 g487 vv9 vv3 D738), -⟩ := hf740 [5] rfl
     have hX740 := Evo.step hX737 hown hE740 rfl
     obtain ⟨b740_g471, b740_g682⟩ := be2 hE740 b737_g471 b737_g682
     have b740_A578 := re_ hE740 b737_A578
     have b740_A583 := re_ hE740 b737_A583
     have b740_A475 := re_ hE740 b737_A475
     have b740_A681 := RdO.evo rfl hE740 b737_A681
     obtain ⟨x750, hx750, hs⟩ := obind hs
     refine rd_ g_mixed 99 [Fct.rowAt 581 [1, 582] 22 R22 A578 c579 p580, Fct.at_ 577 g471 64 #[sl Ahead1 head1 chead1, sl A578 p580 c579, sl A583 p585 c584]] o740 [581, 577] [0, 0, 2, 6, 14, 0, 32, 96, 254, 511, 1023, 2047] [dv [] [9] 73 (pt g471 0), dv [] [9] 74 (pt g471 0), dv [1] [] 75 (pt g471 0), dv [2] [] 76 (pt g471 1), dv [3, 13] [] 77 (sl A578 p580 c579), dv [] [13] 78 (pt g682 3), dv [5] [] 79 (sl A681 x680.2 cA681), ⟨[6], [], [], Fct.row 749 [1, 582] 80 22 R22 [x680.2]⟩, ⟨[4, 7, 12], [], [581], Fct.row 751 [1, 582, 749] 81 22 R22 x750⟩, dv [0] [] 82 (pt g471 0), dv [9] [] 83 (pt g471 1), ⟨[10, 8, 13], [], [577], Fct.by_ [753] [81] (fun l own w => ∀ (A752 : Option Addr) (cA752 : Nat), l.getD 0 undef = sl A752 x750 cA752 → BlkO own 753 w g471 64 #[sl Ahead1 head1 chead1, sl A752 x750 cA752, sl A583 p585 c584]) (fun hk he h _ _ h0' => BlkO.evo (not_hit hk (by decide)) he (h _ _ h0'))⟩] z740 d740 (fm2 b740_A578 b740_g471) ?_ ?_
     ·refine sM e740_9 <| sM e740_9 <| sF (fun f => ok1 f.1) <| sF (fun f => or_field fo64_1 f.1 (by rfl)) ?_
      refine sc (fun own a wx hf hsl hE => ?_) ?_
      ·obtain ⟨f_76, (b_g471 : BlkO own 577 wx g471 64 #[sl Ahead1 head1 chead1, sl A578 p580 c579, sl A583 p585 c584]), -⟩ := hf
       exact px (ld1 to61 f_76 b_g471)
      refine sS (fun s => or_field fo30_1 (s.1.trans e740_13) (by rfl)) <| sG to22 b740_g682 <| sFE (fun f hE => or_litN (R := R22) (lab := 749) (L := [1, 582]) (e := 22) (cs := #[sl A681 x680.2 cA681]) (l := [x680.2]) (n := 1) [(79, sl A681 x680.2 cA681)] rfl rfl ⟨f.1, trivial⟩ (by kernel_rfl) rfl (by decide) ⟨(Ex.iff X22).2 ⟨(A681, cA681), rfl, (RdO.more (RdO.evo rfl hE b740_A681) (by decide))⟩, rfl⟩ rfl) ?_
      refine sc (fun own a wx hf hsl hE => ?_) ?_
      ·obtain ⟨f_77, ⟨⟨A748, cA748⟩, f_80, b_A748⟩, b_A578, -⟩ := hf
       exact px (or_append (R := R22) (lab := 581) (lab2 := 751) (L := [1, 582]) (L3 := [1, 582, 749]) tp61 f_77 b_A578 (by decide) f_80 (RwO.rd b_A748) hx750 (by decide) (by decide) (mem_of rfl) (.inr ⟨rfl, rfl, by decide, by decide⟩))
      refine sF (fun f => ok1 f.1) <| sF (fun f => or_field fo64_1 f.1 (by rfl)) ?_
      refine sc (fun own a wx hf hsl hE => ?_) ?_
      ·obtain ⟨f_83, ⟨⟨A752, cA752⟩, (f_81 : a.eval (.tmp 81) = sl A752 x750 cA752), b_A752⟩, b_g471, -⟩ := hf
       exact px (or_store1 (lab := 577) (lab2 := 753) ts61 f_83 f_81 b_g471 (by simp) rfl (mem_of rfl) (by decide) rfl (fun own' a' w' ha hb => fun _ _ h0' => by cases (f_81.symm.trans ((ha 81).symm.trans h0')); exact hb))
      exact steps_nil
     intro o754 a754 w754 d754 z754 hk754 hf754 hE754
     obtain ⟨e754_9, e754_11, e754_13, e754_14, e754_47, e754_48, e754_49⟩ := kt7 hk754 e740_9 e740_11 e740_13 e740_14 e740_47 e740_48 e740_49
     obtain ⟨⟨⟨A752, cA752⟩, (f_81 : a754.eval (.tmp 81) = sl A752 x750 cA752), (b754_A752 : RwO o754 751 [1, 582, 749] w754 22 R22 A752 cA752 x750)⟩, (bq_g471 : ∀ (A752 : Option Addr) (cA752 : Nat), a754.eval (.tmp 81) = sl A752 x750 cA752 → BlkO o754 753 w754 g471 64 #[sl Ahead1 head1 chead1, sl A752 x750 cA752, sl A583 p585 c584]), -⟩ := hf754 [8, 11] rfl
     have b754_g471 := bq_g471 _ _ f_81
     have hX754 := Evo.step hX740 hown hE754 rfl
     have b754_g682 := be_ hE754 b740_g682
     have b754_A583 := re_ hE754 b740_A583
     have b754_A475 := re_ hE754 b740_A475
     have b754_A681 := RdO.evo rfl hE754 b740_A681
     have b754_g487 := MpO.evo (by decide) hE754 b740_g487
     exact (K718 _ _ (rl [(582, 713), (739, 714), (749, 713), (751, 712), (753, 708)] o754) _ _ _ A752 cA752 d754 z754 e754_9 e754_11 e754_13 e754_14 e754_47 e754_48 e754_49 (Evo.rl_ hX754 hown rfl) (BlkO.rl_ b754_g471) (RwO.more (RwO.rl_ b754_A752) (by decide)) (RwO.rl_ b754_A583) (MpO.rl_ b754_g487) (BlkO.rl_ b754_g682) (RdO.more (RdO.rl_ b754_A681) (by decide)) (RwO.rl_ b754_A475) hs)
    refine fl_skip ?_
    exact (K718 _ _ (rl [(577, 708), (581, 712), (582, 713), (587, 714)] o735) _ _ _ A578 c579 d735 z735 e735_9 e735_11 e735_13 e735_14 e735_47 e735_48 e735_49 (Evo.rl_ hX735 hown rfl) (BlkO.rl_ b735_g471) (RwO.rl_ b735_A578) (RwO.rl_ b735_A583) (MpO.rl_ b735_g487) (BlkO.rl_ b735_g682) (RdO.more (RdO.rl_ b735_A681) (by decide)) (RwO.rl_ b735_A475) hs)
   refine fl_exit ?_
   refine hp676 _ _ _ rfl ?_
   replace hs := z673 _ hs
   refine hp673 _ _ _ rfl ?_
   refine hx492 _ _ ?_
   refine hn490 _ _ ?_
   refine rq_seq 99 o675 (bz 3) [dv [] [9] 98 (pt g471 0), dv [0] [] 4 (pt g471 0), dv [] [] 5 (Zi 0)] z675 d675 ?_ ?_
   ·exact sM e675_9 <| sA <| sO (or_assign rfl) <| steps_nil
   intro o755 a755 w755 d755 z755 hk755 hf755 hE755
   have e755_4 := gv (hf755 [1] rfl) rfl
   have e755_5 := gv (hf755 [2] rfl) rfl
   have hX755 := Evo.step hX675 hown hE755 rfl
   have b755_g471 := be_ hE755 b675_g471
   have b755_A578 := re_ hE755 b675_A578
   have b755_A583 := re_ hE755 b675_A583
   refine fl_ret ?_
   obtain rfl := osome hs
   exact hret _ _ _ _ (.inl rfl) d755 (results2_ rfl (RVal.tmp_ e755_4) (RVal.tmp_ e755_5)) ⟨(rl [(577, 2), (581, 4), (582, 5), (586, 6)] o755), ((none, g471), (Ahead1, chead1), (A578, c579), (A583, c584)), rfl, (Evo.rl_ hX755 hown rfl), (RdO.more (RdO.rl_ (RdO.evo rfl hX755 hhead1)) (by decide)), (RwO.rl_ b755_A578), (RwO.rl_ b755_A583), (BlkO.rl_ b755_g471)⟩
theorem pack_packed_w (w : World) (own : Own) (head1 : List Int) (Ahead1 : Option Addr) (chead1 : Nat) (l2 : List ((Int × Int × Int) × (List Int))) (Al2 : Option Addr) (cl2 : Nat) (hown : ∀ b, own b ≤ 1) (hhead1 : RdO own [1] w R5 Ahead1 chead1 head1) (hl2 : RdO own [1] w R30 Al2 cl2 l2) (r : ((List Int) × (List (List Int)) × (List ((Int × Int × Int) × Int))) × Int) (hs : pack_packed head1 l2 = some (.inl r)) :
  Calls Try.prog 23 #[sl Ahead1 head1 chead1, sl Al2 l2 cl2] w fun e w' => ∃ (own' : Own) (x : (Option Addr × Nat) × (Option Addr × Nat) × (Option Addr × Nat) × (Option Addr × Nat)), e = .returned (.tuple #[.pointer (some ⟨x.1.2, 0, none⟩), Zi r.2]) ∧ Evo [] own own' w w' ∧ RdO own' [1, 3] w' R5 x.2.1.1 x.2.1.2 r.1.1 ∧ RwO own' 4 [1, 5] w' 22 R22 x.2.2.1.1 x.2.2.1.2 r.1.2.1 ∧ RwO own' 6 [] w' 66 R66 x.2.2.2.1 x.2.2.2.2 r.1.2.2 ∧ BlkO own' 2 w' x.1.2 64 #[.slice x.2.1.1 r.1.1.length x.2.1.2, .slice x.2.2.1.1 r.1.2.1.length x.2.2.1.2, .slice x.2.2.2.1 r.1.2.2.length x.2.2.2.2] := pack_packed_z w own head1 Ahead1 chead1 l2 Al2 cl2 hown hhead1 hl2 (.inl r) hs
theorem pack_packed_n (w : World) (own : Own) (head1 : List Int) (Ahead1 : Option Addr) (chead1 : Nat) (l2 : List ((Int × Int × Int) × (List Int))) (Al2 : Option Addr) (cl2 : Nat) (hown : ∀ b, own b ≤ 1) (hhead1 : RdO own [1] w R5 Ahead1 chead1 head1) (hl2 : RdO own [1] w R30 Al2 cl2 l2) (x : Unit × Int) (hs : pack_packed head1 l2 = some (.inr x)) :
  Calls Try.prog 23 #[sl Ahead1 head1 chead1, sl Al2 l2 cl2] w fun e w' => ∃ own' : Own, e = .returned (.tuple #[.pointer none, Zi x.2]) ∧ Evo [] own own' w w' := pack_packed_z w own head1 Ahead1 chead1 l2 Al2 cl2 hown hhead1 hl2 (.inr x) hs
theorem varint_Bytes_w (w : World) (l1 : List Int) (Al1 : Option Addr) (cl1 : Nat) (hl1 : RdO (fun _ => 0) [0] w R26 Al1 cl1 l1) (r : List Int) (hs : varint_Bytes l1 = some r) :
  Calls Try.prog 25 #[sl Al1 l1 cl1] w fun e w' => ∃ (own' : Own) (x : Option Addr × Nat), e = .returned (.slice x.1 r.length x.2) ∧ Evo [] (fun _ => 0) own' w w' ∧ RwO own' 1 [] w' 5 R5 x.1 x.2 r := by
 refine fl_enter (n := 29) rfl rfl rfl (Nat.le_of_ble_eq_true rfl) ?_
 intro a0 Q d0 z0 harg hret
 have ha0 := harg 0 _ rfl
 clear harg
 have hE0 : Evo [] (fun _ => 0) (fun _ => 0) w w := Evo.refl _ _ _
 refine rq_seq 29 (fun _ => 0) (bz 1) [dv [] [] 2 (.slice none 0 0)] z0 d0 ?_ ?_
 ·exact sO (or_assign rfl) <| steps_nil
 intro o939 a939 w939 d939 z939 hk939 hf939 hE939
 have e939_0 := kt hk939 ha0
 have hX939 := es_ hE0 hE939
 refine rq_seq 29 o939 (bz 1) [dv [] [] 3 (.slice none 0 0)] z939 d939 ?_ ?_
 ·exact sO (or_assign rfl) <| steps_nil
 intro o940 a940 w940 d940 z940 hk940 hf940 hE940
 have e940_0 := kt hk940 e939_0
 have e940_3 := gv (hf940 [0] rfl) rfl
 have hX940 := es_ hX939 hE940
 refine fl_seq (fun Q941 hn941 hp941 => ?_)
 refine rq_seq 29 o940 [0, 1, 0] [dv [] [0] 6 (sl Al1 l1 cl1), dv [0] [] 7 (Zi (l1.length : Int)), dv [] [] 8 (Zi 0)] z940 d940 ?_ ?_
 ·exact sM e940_0 <| sF (fun f => or_len tu103 f.1 rfl) <| sO (or_move rfl) <| steps_nil
 intro o942 a942 w942 d942 z942 hk942 hf942 hE942
 have e942_3 := kt hk942 e940_3
 have e942_6 := gv (hf942 [0] rfl) rfl
 have e942_7 := gv (hf942 [1] rfl) rfl
 have e942_8 := gv (hf942 [2] rfl) rfl
 have hX942 := es_ hX940 hE942
 refine fl_block (fun Q943 hn943 hx943 hp943 => ?_)
 refine fl_loop (body := (fun s => varint_Bytes_b1 l1 s.1 s.2)) (z := r) (show loopO _ _ = _ from hs) (fun (s : (List Int) × Int) a wx => match s with | (out1246, x1248) => ∃ (ox : Own) (A1244 : Option Addr) (c1245 : Nat), a.defers = [] ∧ a.tmps.size = 29 ∧ a.eval (.tmp 3) = sl A1244 out1246 c1245 ∧ a.eval (.tmp 6) = sl Al1 l1 cl1 ∧ a.eval (.tmp 7) = Zi (l1.length : Int) ∧ a.eval (.tmp 8) = Zi x1248 ∧ Evo [] (fun _ => 0) ox w wx ∧ RwO ox 1247 [] wx 5 R5 A1244 c1245 out1246) ?_ ?_
 ·exact ⟨o942, none, 0, d942, z942, e942_3, e942_6, e942_7, e942_8, hX942, RwO.nil_⟩
 ·rintro ⟨out1246, x1248⟩ zz1557 a1557 w1557 ⟨o1557, A1244, c1245, d1558, z1558, e1558_3, e1558_6, e1558_7, e1558_8, hE1558, b1558_A1244⟩ hs Q1557 hn1557 hp1557 z1557
  have hs : varint_Bytes_b1 l1 out1246 x1248 = some zz1557 := hs
  refine rq_seq 29 o1557 (bz 1) [dv [] [8, 7] 9 (.bool (decide (x1248 < (l1.length : Int))))] z1558 d1558 ?_ ?_
  ·exact sS (fun s => or_lss (s.1.trans e1558_8) (s.2.1.trans e1558_7) rfl) <| steps_nil
  intro o1559 a1559 w1559 d1559 z1559 hk1559 hf1559 hE1559
  obtain ⟨e1559_3, e1559_6, e1559_7, e1559_8⟩ := kt4 hk1559 e1558_3 e1558_6 e1558_7 e1558_8
  have e1559_9 := gv (hf1559 [0] rfl) rfl
  have hX1559 := es_ hE1558 hE1559
  have b1559_A1244 := re_ hE1559 b1558_A1244
  refine fl_seq (fun Q1560 hn1560 hp1560 => ?_)
  refine fl_cond e1559_9 hs (fun c1561 hs => ?_) (fun c1561 hs => ?_)
  ·refine fl_skip ?_
   refine hn1560 _ _ ?_
   refine fl_seq (fun Q1562 hn1562 hp1562 => ?_)
   refine fl_block (fun Q1714 hn1714 hx1714 hp1714 => ?_)
   obtain ⟨x1790, hx1790, hs⟩ := obind hs
   refine rq_seq 29 o1559 (bz 3) [dv [] [6, 8] 10 (.pointer (some ((adr Al1).add ((x1248 : Int).toNat * R26.s)))), dv [0] [] 11 (.int .u64 x1790), dv [1] [] 5 (.int .u64 x1790)] z1559 d1559 ?_ ?_
   ·exact sS (fun s => or_index (R := R26) (l := l1) tl103 (s.1.trans e1559_6) (s.2.1.trans e1559_8) (RdO.some_ (RdO.evo rfl hX1559 hl1) hx1790) hx1790) <| sFE (fun f hE => or_load1 to26 f.1 (CellsAt.zero (RdO.cells (F := E26) (RdO.evo rfl hE (RdO.evo rfl hX1559 hl1)) hx1790) rfl)) <| sA <| steps_nil
   intro o1791 a1791 w1791 d1791 z1791 hk1791 hf1791 hE1791
   obtain ⟨e1791_3, e1791_6, e1791_7, e1791_8⟩ := kt4 hk1791 e1559_3 e1559_6 e1559_7 e1559_8
   have e1791_5 := gv (hf1791 [2] rfl) rfl
   have hX1791 := es_ hX1559 hE1791
   have b1791_A1244 := re_ hE1791 b1559_A1244
   refine fl_scope_head (body := (fun s => varint_Bytes_b2_0 x1248 s.1 s.2)) (z := zz1557) (show loopO _ _ = _ from hs) (fun (s : (List Int) × Int) a wx => match s with | (out1816, n1817) => ∃ (ox : Own) (A1814 : Option Addr) (c1815 : Nat), a.defers = [] ∧ a.tmps.size = 29 ∧ a.eval (.tmp 3) = sl A1814 out1816 c1815 ∧ a.eval (.tmp 5) = .int .u64 n1817 ∧ a.eval (.tmp 6) = sl Al1 l1 cl1 ∧ a.eval (.tmp 7) = Zi (l1.length : Int) ∧ a.eval (.tmp 8) = Zi x1248 ∧ Evo [] (fun _ => 0) ox w wx ∧ RwO ox 1809 [] wx 5 R5 A1814 c1815 out1816) ?_ ?_
   ·exact ⟨(rl [(1247, 1809)] o1791), A1244, c1245, d1791, z1791, e1791_3, e1791_5, e1791_6, e1791_7, e1791_8, (Evo.rl_ hX1791 (fun _ => Nat.le_refl 0) rfl), (RwO.rl_ b1791_A1244)⟩
   ·rintro ⟨out1816, n1817⟩
    rintro zz1841 a1842 w1842 ⟨o1842, A1814, c1815, d1843, z1843, e1843_3, e1843_5, e1843_6, e1843_7, e1843_8, hE1843, b1843_A1814⟩ hs Q1842 hj1842 hp1842 z1842
    have hs : varint_Bytes_b2_0 x1248 out1816 n1817 = some zz1841 := hs
    refine fl_seq (fun Q1844 hn1844 hp1844 => ?_)
    refine rq_seq 29 o1842 (bz 2) [dv [] [5] 12 (.int .u64 n1817), dv [0] [] 13 (.bool (decide (n1817 < 128)))] z1843 d1843 ?_ ?_
    ·exact sM e1843_5 <| sF (fun f => or_lss f.1 rfl rfl) <| steps_nil
    intro o1845 a1845 w1845 d1845 z1845 hk1845 hf1845 hE1845
    obtain ⟨e1845_3, e1845_5, e1845_6, e1845_7, e1845_8⟩ := kt5 hk1845 e1843_3 e1843_5 e1843_6 e1843_7 e1843_8
    have e1845_13 := gv (hf1845 [1] rfl) rfl
    have hX1845 := es_ hE1843 hE1845
    have b1845_A1814 := re_ hE1845 b1843_A1814
    refine fl_cond e1845_13 hs (fun c1846 hs => ?_) (fun c1846 hs => ?_)
    ·obtain ⟨x1851, hx1851, hs⟩ := obind hs
     refine rr_seq 29 [Fct.rowAt 1809 [] 5 R5 A1814 c1815 out1816] o1845 [1809] [0, 0, 2, 6, 15, 31] [dv [] [3] 14 (sl A1814 out1816 c1815), dv [] [5] 15 (.int .u64 n1817), dv [1] [] 16 (.int .u8 (IntKind.u8.wrap n1817)), ⟨[2], [], [], Fct.row 1850 [] 17 5 R5 [IntKind.u8.wrap n1817]⟩, ⟨[0, 3, 6], [], [1809], Fct.row 1852 [] 18 5 R5 x1851⟩, ⟨[4], [], [], Fct.rel [3, 18] (fun l => ∀ (A1853 : Option Addr) (cA1853 : Nat), l.getD 1 undef = sl A1853 x1851 cA1853 → l.getD 0 undef = sl A1853 x1851 cA1853)⟩] z1845 d1845 (fm1 b1845_A1814) ?_ ?_
     ·refine sM e1845_3 <| sM e1845_5 <| sF (fun f => or_conv f.1 tn26 tn5 rfl) <| sF (fun f => or_lit (lab := 1850) (e := 5) (cs := #[.int .u8 (IntKind.u8.wrap n1817)]) (F := E5) (nw1 f.1) rfl rfl (show 1 ≤ maxLen by decide)) ?_
      refine sc (fun own a wx hf hsl hE => ?_) ?_
      ·obtain ⟨f_14, ⟨⟨A1849, cA1849⟩, f_17, b_A1849⟩, b_A1814, -⟩ := hf
       exact px (or_append (R := R5) (lab := 1809) (lab2 := 1852) (L := []) (L3 := []) tp22 f_14 b_A1814 (by decide) f_17 (RwO.rd b_A1849) hx1851 (by decide) (by decide) (mem_of rfl) (.inl (Rep.fl_flat _)))
      refine sc (fun own a wx hf hsl hE => ?_) ?_
      ·obtain ⟨⟨⟨A1853, cA1853⟩, (f_18 : a.eval (.tmp 18) = sl A1853 x1851 cA1853), b_A1853⟩, -⟩ := hf
       exact px (or_mono (f := Fct.val 3 (sl A1853 x1851 cA1853)) (or_assign f_18) (fun own' a' w' v' hp h => fun _ _ h0' => by cases (f_18.symm.trans ((hp.2 18 (by decide)).symm.trans h0')); exact h))
      exact steps_nil
     intro o1854 a1854 w1854 d1854 z1854 hk1854 hf1854 hE1854
     obtain ⟨e1854_6, e1854_7, e1854_8⟩ := kt3 hk1854 e1845_6 e1845_7 e1845_8
     obtain ⟨⟨⟨A1853, cA1853⟩, (f_18 : a1854.eval (.tmp 18) = sl A1853 x1851 cA1853), (b1854_A1853 : RwO o1854 1852 [] w1854 5 R5 A1853 cA1853 x1851)⟩, (q_3 : ∀ (A1853 : Option Addr) (cA1853 : Nat), a1854.eval (.tmp 18) = sl A1853 x1851 cA1853 → a1854.eval (.tmp 3) = sl A1853 x1851 cA1853), -⟩ := hf1854 [4, 5] rfl
     have e1854_3 := q_3 _ _ f_18
     have hX1854 := es_ hX1845 hE1854
     refine fl_exit ?_
     refine hp1844 _ _ _ rfl ?_
     replace hs := z1842 _ hs
     refine hp1842.leaves _ _ _ rfl ?_
     refine hx1714 _ _ ?_
     refine hn1562 _ _ ?_
     refine rq 29 o1854 (bz 2) [dv [] [8] 27 (Zi (ad x1248 1)), dv [0] [] 8 (Zi (ad x1248 1))] z1854 d1854 ?_ ?_
     ·exact sS (fun s => or_add (s.1.trans e1854_8) rfl rfl) <| sV <| steps_nil
     intro o1855 a1855 w1855 d1855 z1855 hk1855 hf1855 hE1855
     obtain ⟨e1855_3, e1855_6, e1855_7⟩ := kt3 hk1855 e1854_3 e1854_6 e1854_7
     have e1855_8 := gv (hf1855 [1] rfl) rfl
     have hX1855 := es_ hX1854 hE1855
     have b1855_A1853 := re_ hE1855 b1854_A1853
     exact hn1557 _ _ _ hs ⟨(rl [(1852, 1247)] o1855), A1853, cA1853, d1855, z1855, e1855_3, e1855_6, e1855_7, e1855_8, (Evo.rl_ hX1855 (fun _ => Nat.le_refl 0) rfl), (RwO.rl_ b1855_A1853)⟩
    refine fl_skip ?_
    refine hn1844 _ _ ?_
    obtain ⟨x1860, hx1860, hs⟩ := obind hs
    refine rr_seq 29 [Fct.rowAt 1809 [] 5 R5 A1814 c1815 out1816] o1845 [1809] [0, 0, 2, 6, 14, 31, 63] [dv [] [3] 19 (sl A1814 out1816 c1815), dv [] [5] 20 (.int .u64 n1817), dv [1] [] 21 (.int .u8 (IntKind.u8.wrap n1817)), dv [2] [] 22 (.int .u8 (orK .u8 (IntKind.u8.wrap n1817) 128)), ⟨[3], [], [], Fct.row 1859 [] 23 5 R5 [orK .u8 (IntKind.u8.wrap n1817) 128]⟩, ⟨[0, 4, 7], [], [1809], Fct.row 1861 [] 24 5 R5 x1860⟩, ⟨[5], [], [], Fct.rel [3, 24] (fun l => ∀ (A1862 : Option Addr) (cA1862 : Nat), l.getD 1 undef = sl A1862 x1860 cA1862 → l.getD 0 undef = sl A1862 x1860 cA1862)⟩] z1845 d1845 (fm1 b1845_A1814) ?_ ?_
    ·refine sM e1845_3 <| sM e1845_5 <| sF (fun f => or_conv f.1 tn26 tn5 rfl) <| sF (fun f => or_bor f.1 rfl rfl) <| sF (fun f => or_lit (lab := 1859) (e := 5) (cs := #[.int .u8 (orK .u8 (IntKind.u8.wrap n1817) 128)]) (F := E5) (nw1 f.1) rfl rfl (show 1 ≤ maxLen by decide)) ?_
     refine sc (fun own a wx hf hsl hE => ?_) ?_
     ·obtain ⟨f_19, ⟨⟨A1858, cA1858⟩, f_23, b_A1858⟩, b_A1814, -⟩ := hf
      exact px (or_append (R := R5) (lab := 1809) (lab2 := 1861) (L := []) (L3 := []) tp22 f_19 b_A1814 (by decide) f_23 (RwO.rd b_A1858) hx1860 (by decide) (by decide) (mem_of rfl) (.inl (Rep.fl_flat _)))
     refine sc (fun own a wx hf hsl hE => ?_) ?_
     ·obtain ⟨⟨⟨A1862, cA1862⟩, (f_24 : a.eval (.tmp 24) = sl A1862 x1860 cA1862), b_A1862⟩, -⟩ := hf
      exact px (or_mono (f := Fct.val 3 (sl A1862 x1860 cA1862)) (or_assign f_24) (fun own' a' w' v' hp h => fun _ _ h0' => by cases (f_24.symm.trans ((hp.2 24 (by decide)).symm.trans h0')); exact h))
     exact steps_nil
    intro o1863 a1863 w1863 d1863 z1863 hk1863 hf1863 hE1863
    obtain ⟨e1863_5, e1863_6, e1863_7, e1863_8⟩ := kt4 hk1863 e1845_5 e1845_6 e1845_7 e1845_8
    obtain ⟨⟨⟨A1862, cA1862⟩, (f_24 : a1863.eval (.tmp 24) = sl A1862 x1860 cA1862), (b1863_A1862 : RwO o1863 1861 [] w1863 5 R5 A1862 cA1862 x1860)⟩, (q_3 : ∀ (A1862 : Option Addr) (cA1862 : Nat), a1863.eval (.tmp 24) = sl A1862 x1860 cA1862 → a1863.eval (.tmp 3) = sl A1862 x1860 cA1862), -⟩ := hf1863 [5, 6] rfl
    have e1863_3 := q_3 _ _ f_24
    have hX1863 := es_ hX1845 hE1863
    obtain ⟨x1864, hx1864, hs⟩ := obind hs
    refine rq_seq 29 o1863 (bz 3) [dv [] [5] 25 (.int .u64 n1817), dv [0] [] 26 (.int .u64 x1864), dv [1] [] 5 (.int .u64 x1864)] z1863 d1863 ?_ ?_
    ·exact sM e1863_5 <| sF (fun f => or_shr f.1 rfl hx1864) <| sA <| steps_nil
    intro o1865 a1865 w1865 d1865 z1865 hk1865 hf1865 hE1865
    obtain ⟨e1865_3, e1865_6, e1865_7, e1865_8⟩ := kt4 hk1865 e1863_3 e1863_6 e1863_7 e1863_8
    have e1865_5 := gv (hf1865 [2] rfl) rfl
    have hX1865 := es_ hX1863 hE1865
    have b1865_A1862 := re_ hE1865 b1863_A1862
    refine fl_goto ?_
    exact hj1842 (x1860, x1864) _ _ hs ⟨(rl [(1861, 1809)] o1865), A1862, cA1862, d1865, z1865, e1865_3, e1865_5, e1865_6, e1865_7, e1865_8, (Evo.rl_ hX1865 (fun _ => Nat.le_refl 0) rfl), (RwO.rl_ b1865_A1862)⟩
  refine fl_exit ?_
  refine hp1560 _ _ _ rfl ?_
  replace hs := z1557 _ hs
  refine hp1557 _ _ _ rfl ?_
  refine hx943 _ _ ?_
  refine hn941 _ _ ?_
  refine rq_seq 29 o1559 (bz 2) [dv [] [3] 28 (sl A1244 out1246 c1245), dv [0] [] 2 (sl A1244 out1246 c1245)] z1559 d1559 ?_ ?_
  ·exact sM e1559_3 <| sA <| steps_nil
  intro o1866 a1866 w1866 d1866 z1866 hk1866 hf1866 hE1866
  have e1866_2 := gv (hf1866 [1] rfl) rfl
  have hX1866 := es_ hX1559 hE1866
  have b1866_A1244 := re_ hE1866 b1559_A1244
  refine fl_ret ?_
  obtain rfl := (osome hs).symm
  exact hret _ _ _ _ (.inl rfl) d1866 (results1_ rfl (RVal.tmp_ e1866_2)) ⟨(rl [(1247, 1)] o1866), (A1244, c1245), rfl, (Evo.rl_ hX1866 (fun _ => Nat.le_refl 0) rfl), (RwO.rl_ b1866_A1244)⟩
end Go.Proofs.Ytnmkonlfnpcoiaa
