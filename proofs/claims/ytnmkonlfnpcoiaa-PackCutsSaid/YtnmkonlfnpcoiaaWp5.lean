import Derived.Test.YtnmkonlfnpcoiaaWp4
import Derived.Test.YtnmkonlfnpcoiaaSp5
namespace Go.Proofs.Ytnmkonlfnpcoiaa
open Go.RowKit
set_option linter.unusedVariables false
set_option maxRecDepth 10000
theorem pack_reader_whole_w (w : World) (own : Own) (r1 : (List Int) × Int) (gr1 : Nat) (tr1 : TypeId) (Ar1_0 : Option Addr) (cr1_0 : Nat) (hown : ∀ b, own b ≤ 2) (hgr1 : BlkO own 1 w gr1 tr1 #[sl Ar1_0 r1.1 cr1_0, Zi r1.2]) (hAr1_0 : RdO own [2] w R5 Ar1_0 cr1_0 r1.1) (r : (List Int) × ((List Int) × Int)) (hs : pack_reader_whole r1 = some r) :
  Calls Try.prog 28 #[pt gr1 0] w fun e w' => ∃ (own' : Own) (x : (Option Addr × Nat) × (Option Addr × Nat)), e = .returned (.slice x.1.1 r.1.length x.1.2) ∧ Evo [1] own own' w w' ∧ RwO own' 3 [] w' 5 R5 x.1.1 x.1.2 r.1 ∧ RdO own' [2] w' R5 x.2.1 x.2.2 r.2.1 ∧ BlkO own' 1 w' gr1 tr1 #[.slice x.2.1 r.2.1.length x.2.2, Zi r.2.2] := by
 refine fl_enter (n := 42) rfl rfl rfl (Nat.le_of_ble_eq_true rfl) ?_
 intro a0 Q d0 z0 harg hret
 have ha0 := harg 0 _ rfl
 clear harg
 have hE0 : Evo [1] own own w w := Evo.refl _ _ _
 refine rq_seq 42 own (bz 1) [dv [] [] 2 (.slice none 0 0)] z0 d0 ?_ ?_
 ·exact sO (or_assign rfl) <| steps_nil
 intro o42 a42 w42 d42 z42 hk42 hf42 hE42
 have e42_0 := kt hk42 ha0
 have hX42 := Evo.step hE0 hown hE42 rfl
 have b42_gr1 := be_ hE42 hgr1
 obtain ⟨r43, hr43, hs⟩ := obind hs
 refine rr_seq 42 [Fct.at_ 1 gr1 tr1 #[sl Ar1_0 r1.1 cr1_0, Zi r1.2]] o42 [1] (bz 3) [dv [] [0] 5 (pt gr1 0), ⟨[0, 3], [], [1], Fct.mems [2, 45] 6 (fun (x : Option Addr × Nat) => .int .u64 r43.1) (fun (x : Option Addr × Nat) own w => RdO own [2] w R5 x.1 x.2 r43.2.1 ∧ BlkO own 45 w gr1 tr1 #[.slice x.1 r43.2.1.length x.2, Zi r43.2.2]) (fun hk he h => ⟨RdO.evo (hits_sub hk (by decide)) he h.1, BlkO.evo (not_hit hk (by decide)) he h.2⟩)⟩, dv [1] [] 3 (.int .u64 r43.1)] z42 d42 (fm1 b42_gr1) ?_ ?_
 ·refine sM e42_0 ?_
  refine sc (fun own a wx hf hsl hE => ?_) ?_
  ·obtain ⟨f_5, b_gr1, -⟩ := hf
   exact px (or_call cf50 (args1 f_5) (pack_reader_number_w _ (forth own (look0 [(1, 1), (2, 2)])) r1 gr1 tr1 Ar1_0 cr1_0 (look0_le rfl) (BlkO.forth_ (m := (look0 [(1, 1), (2, 2)])) b_gr1) (RdO.forth_ (m := (look0 [(1, 1), (2, 2)])) (RdO.evo rfl hE (RdO.evo rfl hX42 hAr1_0))) r43 hr43) (post_mems (m := (look0 [(1, 1), (2, 2)])) (m' := (look0 [(1, 45), (2, 2)])) (hm_of2 rfl) (fun own' w' a' x h1 h => ⟨x, h1, ⟨RdO.back_ h.1 (by decide), BlkO.back_ h.2 (by decide)⟩⟩)))
  refine sc (fun own a wx hf hsl hE => ?_) ?_
  ·obtain ⟨⟨⟨A44, cA44⟩, f_6, b_A44, b_gr1⟩, -⟩ := hf
   exact px (or_assign f_6)
  exact steps_nil
 intro o46 a46 w46 d46 z46 hk46 hf46 hE46
 have e46_0 := kt hk46 e42_0
 have e46_3 := gv (hf46 [2] rfl) rfl
 obtain ⟨⟨⟨A44, cA44⟩, (f_6 : a46.eval (.tmp 6) = .int .u64 r43.1), (b46_A44 : RdO o46 [2] w46 R5 A44 cA44 r43.2.1), (b46_gr1 : BlkO o46 45 w46 gr1 tr1 #[sl A44 r43.2.1 cA44, Zi r43.2.2])⟩, -⟩ := hf46 [1] rfl
 have hX46 := Evo.step hX42 hown hE46 rfl
 refine fl_seq (fun Q47 hn47 hp47 => ?_)
 refine fl_block (fun Q48 hn48 hx48 hp48 => ?_)
 refine rq_seq 42 o46 (bz 6) [dv [] [0] 8 (pt gr1 0), dv [0] [] 9 (pt gr1 0), dv [1] [] 10 (pt gr1 1), dv [2] [] 11 (Zi r43.2.2), dv [3] [] 12 (.bool (!decide (r43.2.2 = 0))), dv [4] [] 7 (.bool (!decide (r43.2.2 = 0)))] z46 d46 ?_ ?_
 ·exact sM e46_0 <| sF (fun f => ok1 f.1) <| sF (fun f => or_field fo70_1 f.1 (by rfl)) <| sG to31 b46_gr1 <| sF (fun f => or_neq f.1 rfl rfl) <| sA <| steps_nil
 intro o49 a49 w49 d49 z49 hk49 hf49 hE49
 obtain ⟨e49_0, e49_3⟩ := kt2 hk49 e46_0 e46_3
 have e49_7 := gv (hf49 [5] rfl) rfl
 have hX49 := Evo.step hX46 hown hE49 rfl
 have b49_gr1 := be_ hE49 b46_gr1
 have b49_A44 := RdO.evo rfl hE49 b46_A44
 refine fl_cond e49_7 hs (fun c50 hs => ?_) (fun c50 hs => ?_)
 ·refine rq_seq 42 o49 (bz 1) [dv [] [] 2 (.slice none 0 0)] z49 d49 ?_ ?_
  ·exact sO (or_assign rfl) <| steps_nil
  intro o51 a51 w51 d51 z51 hk51 hf51 hE51
  have e51_0 := kt hk51 e49_0
  have e51_2 := gv (hf51 [0] rfl) rfl
  have hX51 := Evo.step hX49 hown hE51 rfl
  have b51_gr1 := be_ hE51 b49_gr1
  have b51_A44 := RdO.evo rfl hE51 b49_A44
  refine fl_ret ?_
  refine hp48 _ _ _ rfl ?_
  refine hp47 _ _ _ rfl ?_
  obtain rfl := osome hs
  exact hret _ _ _ _ (.inl rfl) d51 (results1_ rfl (RVal.tmp_ e51_2)) ⟨(rl [(45, 1)] o51), ((none, 0), (A44, cA44)), rfl, (Evo.rl_ hX51 hown rfl), RwO.nil_, (RdO.rl_ b51_A44), (BlkO.rl_ b51_gr1)⟩
 obtain ⟨x52, hx52, hs⟩ := obind hs
 refine rq_seq 42 o49 [0, 0, 2, 6, 14, 30, 62, 127, 255] [dv [] [3] 14 (.int .u64 r43.1), dv [] [0] 15 (pt gr1 0), dv [1] [] 16 (pt gr1 0), dv [2] [] 17 (pt gr1 0), dv [3] [] 18 (sl A44 r43.2.1 cA44), dv [4] [] 19 (Zi (r43.2.1.length : Int)), dv [5] [] 20 (.int .u64 x52), dv [0, 6] [] 21 (.bool (decide (x52 < r43.1))), dv [7] [] 13 (.bool (decide (x52 < r43.1)))] z49 d49 ?_ ?_
 ·exact sM e49_3 <| sM e49_0 <| sF (fun f => ok1 f.1) <| sF (fun f => or_field fo70_0 f.1 (by rfl)) <| sG to22 b49_gr1 <| sF (fun f => or_len tu22 f.1 rfl) <| sF (fun f => or_conv f.1 tn3 tn26 (osome hx52).symm) <| sF (fun f => or_gtr f.1 f.2.1 rfl) <| sA <| steps_nil
 intro o53 a53 w53 d53 z53 hk53 hf53 hE53
 obtain ⟨e53_0, e53_3⟩ := kt2 hk53 e49_0 e49_3
 have e53_13 := gv (hf53 [8] rfl) rfl
 have hX53 := Evo.step hX49 hown hE53 rfl
 have b53_gr1 := be_ hE53 b49_gr1
 have b53_A44 := RdO.evo rfl hE53 b49_A44
 refine fl_cond e53_13 hs (fun c54 hs => ?_) (fun c54 hs => ?_)
 ·refine rr_seq 42 [Fct.at_ 45 gr1 tr1 #[sl A44 r43.2.1 cA44, Zi r43.2.2]] o53 [45] (bz 4) [dv [] [0] 22 (pt gr1 0), dv [0] [] 23 (pt gr1 0), dv [1] [] 24 (pt gr1 1), ⟨[2, 4], [], [45], Fct.at_ 55 gr1 tr1 #[sl A44 r43.2.1 cA44, Zi 4]⟩] z53 d53 (fm1 b53_gr1) ?_ ?_
  ·refine sM e53_0 <| sF (fun f => ok1 f.1) <| sF (fun f => or_field fo70_1 f.1 (by rfl)) ?_
   refine sc (fun own a wx hf hsl hE => ?_) ?_
   ·obtain ⟨f_24, b_gr1, -⟩ := hf
    exact px (or_store1 (lab := 45) (lab2 := 55) ts31 f_24 rfl b_gr1 (by simp) rfl (mem_of rfl) (by decide) rfl (fun own' a' w' ha hb => hb))
   exact steps_nil
  intro o56 a56 w56 d56 z56 hk56 hf56 hE56
  have e56_0 := kt hk56 e53_0
  obtain ⟨(b56_gr1 : BlkO o56 55 w56 gr1 tr1 #[sl A44 r43.2.1 cA44, Zi 4]), -⟩ := hf56 [3] rfl
  have hX56 := Evo.step hX53 hown hE56 rfl
  have b56_A44 := RdO.evo rfl hE56 b53_A44
  refine rq_seq 42 o56 (bz 1) [dv [] [] 2 (.slice none 0 0)] z56 d56 ?_ ?_
  ·exact sO (or_assign rfl) <| steps_nil
  intro o57 a57 w57 d57 z57 hk57 hf57 hE57
  have e57_0 := kt hk57 e56_0
  have e57_2 := gv (hf57 [0] rfl) rfl
  have hX57 := Evo.step hX56 hown hE57 rfl
  have b57_gr1 := be_ hE57 b56_gr1
  have b57_A44 := RdO.evo rfl hE57 b56_A44
  refine fl_ret ?_
  refine hp48 _ _ _ rfl ?_
  refine hp47 _ _ _ rfl ?_
  obtain rfl := osome hs
  exact hret _ _ _ _ (.inl rfl) d57 (results1_ rfl (RVal.tmp_ e57_2)) ⟨(rl [(55, 1)] o57), ((none, 0), (A44, cA44)), rfl, (Evo.rl_ hX57 hown rfl), RwO.nil_, (RdO.rl_ b57_A44), (BlkO.rl_ b57_gr1)⟩
 refine fl_skip ?_
 refine hn48 _ _ ?_
 refine hn47 _ _ ?_
 obtain ⟨x58, hx58, hs⟩ := obind hs
 obtain ⟨r60, hr60, hs⟩ := obind hs
 refine rq_seq 42 o53 [0, 1, 3, 7, 0, 31, 63, 127] [dv [] [0] 25 (pt gr1 0), dv [0] [] 26 (pt gr1 0), dv [1] [] 27 (pt gr1 0), dv [2] [] 28 (sl A44 r43.2.1 cA44), dv [] [3] 29 (.int .u64 r43.1), ⟨[3, 4], [], [], Fct.view [2] 30 R5 x58⟩, ⟨[5], [], [], Fct.row 62 [] 31 5 R5 r60⟩, ⟨[6], [], [], Fct.rel [4, 31] (fun l => ∀ (A61 : Option Addr) (cA61 : Nat), l.getD 1 undef = sl A61 r60 cA61 → l.getD 0 undef = sl A61 r60 cA61)⟩] z53 d53 ?_ ?_
 ·refine sM e53_0 <| sF (fun f => ok1 f.1) <| sF (fun f => or_field fo70_0 f.1 (by rfl)) <| sG to22 b53_gr1 <| sM e53_3 <| sFE (fun f hE => or_view (R := R5) (l := r43.2.1) (L := [2]) tu22 ts5 f.1 Bnd.none_ (Bnd.some_ f.2.1) Bnd.none_ (RdO.evo rfl hE b53_A44) hx58 (.inl rfl) (by simp)) ?_
  refine sc (fun own a wx hf hsl hE => ?_) ?_
  ·obtain ⟨⟨⟨A59, cA59⟩, f_30, b_A59⟩, -⟩ := hf
   exact px (or_call cf41 (args1 f_30) (bytes_Clone_w _ x58 A59 cA59 (RdO.zero b_A59) r60 hr60) (post_row (m' := (look0 [(1, 62)])) (.inl (Rep.fl_flat _)) rfl rfl (fun _ => rfl)))
  refine sc (fun own a wx hf hsl hE => ?_) ?_
  ·obtain ⟨⟨⟨A61, cA61⟩, (f_31 : a.eval (.tmp 31) = sl A61 r60 cA61), b_A61⟩, -⟩ := hf
   exact px (or_mono (f := Fct.val 4 (sl A61 r60 cA61)) (or_assign f_31) (fun own' a' w' v' hp h => fun _ _ h0' => by cases (f_31.symm.trans ((hp.2 31 (by decide)).symm.trans h0')); exact h))
  exact steps_nil
 intro o63 a63 w63 d63 z63 hk63 hf63 hE63
 obtain ⟨e63_0, e63_3⟩ := kt2 hk63 e53_0 e53_3
 obtain ⟨⟨⟨A61, cA61⟩, (f_31 : a63.eval (.tmp 31) = sl A61 r60 cA61), (b63_A61 : RwO o63 62 [] w63 5 R5 A61 cA61 r60)⟩, (q_4 : ∀ (A61 : Option Addr) (cA61 : Nat), a63.eval (.tmp 31) = sl A61 r60 cA61 → a63.eval (.tmp 4) = sl A61 r60 cA61), -⟩ := hf63 [6, 7] rfl
 have e63_4 := q_4 _ _ f_31
 have hX63 := Evo.step hX53 hown hE63 rfl
 have b63_gr1 := be_ hE63 b53_gr1
 have b63_A44 := RdO.evo rfl hE63 b53_A44
 obtain ⟨x66, hx66, hs⟩ := obind hs
 refine rr_seq 42 [Fct.at_ 45 gr1 tr1 #[sl A44 r43.2.1 cA44, Zi r43.2.2]] o63 [45] [0, 0, 2, 6, 14, 0, 62, 127, 255, 511] [dv [] [0] 32 (pt gr1 0), dv [] [0] 33 (pt gr1 0), dv [1] [] 34 (pt gr1 0), dv [2] [] 35 (pt gr1 0), dv [3, 10] [] 36 (sl A44 r43.2.1 cA44), dv [] [3] 37 (.int .u64 r43.1), ⟨[4, 5], [], [], Fct.view [2] 38 R5 x66⟩, dv [0] [] 39 (pt gr1 0), dv [7] [] 40 (pt gr1 0), ⟨[8, 6, 10], [], [45], Fct.by_ [68] [38] (fun l own w => ∀ (A67 : Option Addr) (cA67 : Nat), l.getD 0 undef = sl A67 x66 cA67 → BlkO own 68 w gr1 tr1 #[sl A67 x66 cA67, Zi r43.2.2]) (fun hk he h _ _ h0' => BlkO.evo (not_hit hk (by decide)) he (h _ _ h0'))⟩] z63 d63 (fm1 b63_gr1) ?_ ?_
 ·refine sM e63_0 <| sM e63_0 <| sF (fun f => ok1 f.1) <| sF (fun f => or_field fo70_0 f.1 (by rfl)) ?_
  refine sc (fun own a wx hf hsl hE => ?_) ?_
  ·obtain ⟨f_35, (b_gr1 : BlkO own 45 wx gr1 tr1 #[sl A44 r43.2.1 cA44, Zi r43.2.2]), -⟩ := hf
   exact px (ld1 to22 f_35 b_gr1)
  refine sM e63_3 <| sFE (fun f hE => or_view (R := R5) (l := r43.2.1) (L := [2]) tu22 ts5 f.1 (Bnd.some_ f.2.1) Bnd.none_ Bnd.none_ (RdO.evo rfl hE b63_A44) hx66 (.inl rfl) (by simp)) <| sF (fun f => ok1 f.1) <| sF (fun f => or_field fo70_0 f.1 (by rfl)) ?_
  refine sc (fun own a wx hf hsl hE => ?_) ?_
  ·obtain ⟨f_40, ⟨⟨A67, cA67⟩, (f_38 : a.eval (.tmp 38) = sl A67 x66 cA67), b_A67⟩, b_gr1, -⟩ := hf
   exact px (or_store1 (lab := 45) (lab2 := 68) ts22 f_40 f_38 b_gr1 (by simp) rfl (mem_of rfl) (by decide) rfl (fun own' a' w' ha hb => fun _ _ h0' => by cases (f_38.symm.trans ((ha 38).symm.trans h0')); exact hb))
  exact steps_nil
 intro o69 a69 w69 d69 z69 hk69 hf69 hE69
 obtain ⟨e69_0, e69_4⟩ := kt2 hk69 e63_0 e63_4
 obtain ⟨⟨⟨A67, cA67⟩, (f_38 : a69.eval (.tmp 38) = sl A67 x66 cA67), (b69_A67 : RdO o69 [2] w69 R5 A67 cA67 x66)⟩, (bq_gr1 : ∀ (A67 : Option Addr) (cA67 : Nat), a69.eval (.tmp 38) = sl A67 x66 cA67 → BlkO o69 68 w69 gr1 tr1 #[sl A67 x66 cA67, Zi r43.2.2]), -⟩ := hf69 [6, 9] rfl
 have b69_gr1 := bq_gr1 _ _ f_38
 have hX69 := Evo.step hX63 hown hE69 rfl
 have b69_A61 := re_ hE69 b63_A61
 refine rq_seq 42 o69 (bz 2) [dv [] [4] 41 (sl A61 r60 cA61), dv [0] [] 2 (sl A61 r60 cA61)] z69 d69 ?_ ?_
 ·exact sM e69_4 <| sA <| steps_nil
 intro o70 a70 w70 d70 z70 hk70 hf70 hE70
 have e70_0 := kt hk70 e69_0
 have e70_2 := gv (hf70 [1] rfl) rfl
 have hX70 := Evo.step hX69 hown hE70 rfl
 have b70_gr1 := be_ hE70 b69_gr1
 have b70_A61 := re_ hE70 b69_A61
 have b70_A67 := RdO.evo rfl hE70 b69_A67
 refine fl_ret ?_
 obtain rfl := osome hs
 exact hret _ _ _ _ (.inl rfl) d70 (results1_ rfl (RVal.tmp_ e70_2)) ⟨(rl [(62, 3), (68, 1)] o70), ((A61, cA61), (A67, cA67)), rfl, (Evo.rl_ hX70 hown rfl), (RwO.rl_ b70_A61), (RdO.rl_ b70_A67), (BlkO.rl_ b70_gr1)⟩
theorem pack_reader_count_w (w : World) (own : Own) (r1 : (List Int) × Int) (gr1 : Nat) (tr1 : TypeId) (Ar1_0 : Option Addr) (cr1_0 : Nat) (hown : ∀ b, own b ≤ 2) (hgr1 : BlkO own 1 w gr1 tr1 #[sl Ar1_0 r1.1 cr1_0, Zi r1.2]) (hAr1_0 : RdO own [2] w R5 Ar1_0 cr1_0 r1.1) (r : Int × ((List Int) × Int)) (hs : pack_reader_count r1 = some r) :
  Calls Try.prog 29 #[pt gr1 0] w fun e w' => ∃ (own' : Own) (x : Option Addr × Nat), e = .returned (Zi r.1) ∧ Evo [1] own own' w w' ∧ RdO own' [2] w' R5 x.1 x.2 r.2.1 ∧ BlkO own' 1 w' gr1 tr1 #[.slice x.1 r.2.1.length x.2, Zi r.2.2] := by
 refine fl_enter (n := 21) rfl rfl rfl (Nat.le_of_ble_eq_true rfl) ?_
 intro a0 Q d0 z0 harg hret
 have ha0 := harg 0 _ rfl
 clear harg
 have hE0 : Evo [1] own own w w := Evo.refl _ _ _
 refine rq_seq 21 own (bz 1) [dv [] [] 2 (Zi 0)] z0 d0 ?_ ?_
 ·exact sO (or_assign rfl) <| steps_nil
 intro o34 a34 w34 d34 z34 hk34 hf34 hE34
 have e34_0 := kt hk34 ha0
 have hX34 := Evo.step hE0 hown hE34 rfl
 have b34_gr1 := be_ hE34 hgr1
 obtain ⟨r35, hr35, hs⟩ := obind hs
 refine rr_seq 21 [Fct.at_ 1 gr1 tr1 #[sl Ar1_0 r1.1 cr1_0, Zi r1.2]] o34 [1] (bz 3) [dv [] [0] 4 (pt gr1 0), ⟨[0, 3], [], [1], Fct.mems [2, 37] 5 (fun (x : Option Addr × Nat) => .int .u64 r35.1) (fun (x : Option Addr × Nat) own w => RdO own [2] w R5 x.1 x.2 r35.2.1 ∧ BlkO own 37 w gr1 tr1 #[.slice x.1 r35.2.1.length x.2, Zi r35.2.2]) (fun hk he h => ⟨RdO.evo (hits_sub hk (by decide)) he h.1, BlkO.evo (not_hit hk (by decide)) he h.2⟩)⟩, dv [1] [] 3 (.int .u64 r35.1)] z34 d34 (fm1 b34_gr1) ?_ ?_
 ·refine sM e34_0 ?_
  refine sc (fun own a wx hf hsl hE => ?_) ?_
  ·obtain ⟨f_4, b_gr1, -⟩ := hf
   exact px (or_call cf50 (args1 f_4) (pack_reader_number_w _ (forth own (look0 [(1, 1), (2, 2)])) r1 gr1 tr1 Ar1_0 cr1_0 (look0_le rfl) (BlkO.forth_ (m := (look0 [(1, 1), (2, 2)])) b_gr1) (RdO.forth_ (m := (look0 [(1, 1), (2, 2)])) (RdO.evo rfl hE (RdO.evo rfl hX34 hAr1_0))) r35 hr35) (post_mems (m := (look0 [(1, 1), (2, 2)])) (m' := (look0 [(1, 37), (2, 2)])) (hm_of2 rfl) (fun own' w' a' x h1 h => ⟨x, h1, ⟨RdO.back_ h.1 (by decide), BlkO.back_ h.2 (by decide)⟩⟩)))
  refine sc (fun own a wx hf hsl hE => ?_) ?_
  ·obtain ⟨⟨⟨A36, cA36⟩, f_5, b_A36, b_gr1⟩, -⟩ := hf
   exact px (or_assign f_5)
  exact steps_nil
 intro o38 a38 w38 d38 z38 hk38 hf38 hE38
 have e38_0 := kt hk38 e34_0
 have e38_3 := gv (hf38 [2] rfl) rfl
 obtain ⟨⟨⟨A36, cA36⟩, (f_5 : a38.eval (.tmp 5) = .int .u64 r35.1), (b38_A36 : RdO o38 [2] w38 R5 A36 cA36 r35.2.1), (b38_gr1 : BlkO o38 37 w38 gr1 tr1 #[sl A36 r35.2.1 cA36, Zi r35.2.2])⟩, -⟩ := hf38 [1] rfl
 have hX38 := Evo.step hX34 hown hE38 rfl
 refine fl_seq (fun Q39 hn39 hp39 => ?_)
 have K47 : ∀ (a47 : Act) (w47 : World) (o47 : Own) (r46 : Int), a47.defers = [] → a47.tmps.size = 21 → a47.eval (.tmp 0) = pt gr1 0 → a47.eval (.tmp 3) = .int .u64 r35.1 → Evo [1] own o47 w w47 → BlkO o47 45 w47 gr1 tr1 #[sl A36 r35.2.1 cA36, Zi r46] → RdO o47 [2] w47 R5 A36 cA36 r35.2.1 → pack_reader_count_k1 r35 r46 = some r → Q39 .normal a47 w47 := by
  intro a47 w47 o47 r46 d48 z48 e48_0 e48_3 hE48 b48_gr1 b48_A36 hs
  refine hn39 _ _ ?_
  refine rq_seq 21 o47 (bz 4) [dv [] [3] 18 (.int .u64 r35.1), dv [0] [] 19 (.int .u64 (mn r35.1 341)), dv [1] [] 20 (Zi (IntKind.i64.wrap (mn r35.1 341))), dv [2] [] 2 (Zi (IntKind.i64.wrap (mn r35.1 341)))] z48 d48 ?_ ?_
  ·exact sM e48_3 <| sF (fun f => or_min f.1 rfl) <| sF (fun f => or_conv f.1 tn26 tn3 rfl) <| sA <| steps_nil
  intro o49 a49 w49 d49 z49 hk49 hf49 hE49
  have e49_0 := kt hk49 e48_0
  have e49_2 := gv (hf49 [3] rfl) rfl
  have hX49 := Evo.step hE48 hown hE49 rfl
  have b49_gr1 := be_ hE49 b48_gr1
  have b49_A36 := RdO.evo rfl hE49 b48_A36
  refine fl_ret ?_
  obtain rfl := osome hs
  exact hret _ _ _ _ (.inl rfl) d49 (results1_ rfl (RVal.tmp_ e49_2)) ⟨(rl [(45, 1)] o49), (A36, cA36), rfl, (Evo.rl_ hX49 hown rfl), (RdO.rl_ b49_A36), (BlkO.rl_ b49_gr1)⟩
 obtain ⟨x50, hx50, hs⟩ := obind hs
 refine rq_seq 21 o38 (bz 9) [dv [] [0] 6 (pt gr1 0), dv [0] [] 7 (pt gr1 0), dv [1] [] 8 (pt gr1 1), dv [2] [] 9 (Zi r35.2.2), dv [3] [] 10 (.bool (decide (r35.2.2 = 0))), dv [4] [] 11 (.bool (decide (r35.2.2 = 0))), dc [5] [3] (decide (r35.2.2 = 0)) 12 (.int .u64 r35.1), dc [5, 6] [] (decide (r35.2.2 = 0)) 13 (.bool (decide (341 < r35.1))), dv [5, 7] [] 14 (.bool x50)] z38 d38 ?_ ?_
 ·exact sM e38_0 <| sF (fun f => ok1 f.1) <| sF (fun f => or_field fo70_1 f.1 (by rfl)) <| sG to31 b38_gr1 <| sF (fun f => or_eql f.1 rfl rfl) <| sV <| cT (fun _ s _ _ => or_move (s.1.trans e38_3)) <| cT (fun f _ _ hg => or_gtr (f.2.1.1 hg) rfl rfl) <| sF (fun f => or_and f.1 (fun hx => f.2.1.1 hx) rfl (osome hx50).symm) <| steps_nil
 intro o51 a51 w51 d51 z51 hk51 hf51 hE51
 obtain ⟨e51_0, e51_3⟩ := kt2 hk51 e38_0 e38_3
 have e51_14 := gv (hf51 [8] rfl) rfl
 have hX51 := Evo.step hX38 hown hE51 rfl
 have b51_gr1 := be_ hE51 b38_gr1
 have b51_A36 := RdO.evo rfl hE51 b38_A36
 refine fl_cond e51_14 hs (fun c52 hs => ?_) (fun c52 hs => ?_)
 ·refine rr 21 [Fct.at_ 37 gr1 tr1 #[sl A36 r35.2.1 cA36, Zi r35.2.2]] o51 [37] (bz 4) [dv [] [0] 15 (pt gr1 0), dv [0] [] 16 (pt gr1 0), dv [1] [] 17 (pt gr1 1), ⟨[2, 4], [], [37], Fct.at_ 53 gr1 tr1 #[sl A36 r35.2.1 cA36, Zi 6]⟩] z51 d51 (fm1 b51_gr1) ?_ ?_
  ·refine sM e51_0 <| sF (fun f => ok1 f.1) <| sF (fun f => or_field fo70_1 f.1 (by rfl)) ?_
   refine sc (fun own a wx hf hsl hE => ?_) ?_
   ·obtain ⟨f_17, b_gr1, -⟩ := hf
    exact px (or_store1 (lab := 37) (lab2 := 53) ts31 f_17 rfl b_gr1 (by simp) rfl (mem_of rfl) (by decide) rfl (fun own' a' w' ha hb => hb))
   exact steps_nil
  intro o54 a54 w54 d54 z54 hk54 hf54 hE54
  obtain ⟨e54_0, e54_3⟩ := kt2 hk54 e51_0 e51_3
  obtain ⟨(b54_gr1 : BlkO o54 53 w54 gr1 tr1 #[sl A36 r35.2.1 cA36, Zi 6]), -⟩ := hf54 [3] rfl
  have hX54 := Evo.step hX51 hown hE54 rfl
  have b54_A36 := RdO.evo rfl hE54 b51_A36
  exact (K47 _ _ (rl [(53, 45)] o54) _ d54 z54 e54_0 e54_3 (Evo.rl_ hX54 hown rfl) (BlkO.rl_ b54_gr1) (RdO.rl_ b54_A36) hs)
 refine fl_skip ?_
 exact (K47 _ _ (rl [(37, 45)] o51) _ d51 z51 e51_0 e51_3 (Evo.rl_ hX51 hown rfl) (BlkO.rl_ b51_gr1) (RdO.rl_ b51_A36) hs)
theorem pack_reader_tile_w (w : World) (own : Own) (r1 : (List Int) × Int) (gr1 : Nat) (tr1 : TypeId) (Ar1_0 : Option Addr) (cr1_0 : Nat) (last2 : Int × Int × Int) (first3 : Bool) (hown : ∀ b, own b ≤ 2) (hgr1 : BlkO own 1 w gr1 tr1 #[sl Ar1_0 r1.1 cr1_0, Zi r1.2]) (hAr1_0 : RdO own [2] w R5 Ar1_0 cr1_0 r1.1) (r : (Int × Int × Int) × ((List Int) × Int)) (hs : pack_reader_tile r1 last2 first3 = some r) :
  Calls Try.prog 30 #[pt gr1 0, .agg #[Zi last2.1, Zi last2.2.1, Zi last2.2.2], .bool first3] w fun e w' => ∃ (own' : Own) (x : Option Addr × Nat), e = .returned (.agg #[Zi r.1.1, Zi r.1.2.1, Zi r.1.2.2]) ∧ Evo [1] own own' w w' ∧ RdO own' [2] w' R5 x.1 x.2 r.2.1 ∧ BlkO own' 1 w' gr1 tr1 #[.slice x.1 r.2.1.length x.2, Zi r.2.2] := by
 refine fl_enter (n := 53) rfl rfl rfl (Nat.le_of_ble_eq_true rfl) ?_
 intro a0 Q d0 z0 harg hret
 have ha0 := harg 0 _ rfl
 have ha1 := harg 1 _ rfl
 have ha2 := harg 2 _ rfl
 clear harg
 have hE0 : Evo [1] own own w w := Evo.refl _ _ _
 refine rq_seq 53 own [0, 0] [⟨[], [1], [], Fct.blk 94 4 (fun g => pt g 0) 28 #[Zi last2.1, Zi last2.2.1, Zi last2.2.2]⟩, ⟨[], [], [], Fct.blk 96 6 (fun g => pt g 0) 28 #[Zi 0, Zi 0, Zi 0]⟩] z0 d0 ?_ ?_
 ·exact sS (fun s => nw1 (s.1.trans ha1)) <| sO (nw0) <| steps_nil
 intro o97 a97 w97 d97 z97 hk97 hf97 hE97
 obtain ⟨e97_0, e97_2⟩ := kt2 hk97 ha0 ha2
 obtain ⟨⟨g93, (e97_4 : a97.eval (.tmp 4) = pt g93 0), (b97_g93 : BlkO o97 94 w97 g93 28 #[Zi last2.1, Zi last2.2.1, Zi last2.2.2])⟩, ⟨g95, (e97_6 : a97.eval (.tmp 6) = pt g95 0), (b97_g95 : BlkO o97 96 w97 g95 28 #[Zi 0, Zi 0, Zi 0])⟩, -⟩ := hf97 [0, 1] rfl
 have hX97 := Evo.step hE0 hown hE97 rfl
 have b97_gr1 := be_ hE97 hgr1
 obtain ⟨r98, hr98, hs⟩ := obind hs
 obtain ⟨r101, hr101, hs⟩ := obind hs
 obtain ⟨r104, hr104, hs⟩ := obind hs
 refine rr_seq 53 [Fct.at_ 1 gr1 tr1 #[sl Ar1_0 r1.1 cr1_0, Zi r1.2]] o97 [1, 100, 103] [0, 1, 0, 7, 0, 31, 63, 127, 255] [dv [] [0] 11 (pt gr1 0), ⟨[0, 9], [], [1], Fct.mems [2, 100] 12 (fun (x : Option Addr × Nat) => .int .u64 r98.1) (fun (x : Option Addr × Nat) own w => RdO own [2] w R5 x.1 x.2 r98.2.1 ∧ BlkO own 100 w gr1 tr1 #[.slice x.1 r98.2.1.length x.2, Zi r98.2.2]) (fun hk he h => ⟨RdO.evo (hits_sub hk (by decide)) he h.1, BlkO.evo (not_hit hk (by decide)) he h.2⟩)⟩, dv [] [0] 13 (pt gr1 0), ⟨[2, 1], [], [100], Fct.andv (Fct.mems [2, 103] 14 (fun (x : Option Addr × Nat) => .int .u64 r101.1) (fun (x : Option Addr × Nat) own w => RdO own [2] w R5 x.1 x.2 r101.2.1 ∧ BlkO own 103 w gr1 tr1 #[.slice x.1 r101.2.1.length x.2, Zi r101.2.2]) (fun hk he h => ⟨RdO.evo (hits_sub hk (by decide)) he h.1, BlkO.evo (not_hit hk (by decide)) he h.2⟩)) 12 (.int .u64 r98.1)⟩, dv [] [0] 15 (pt gr1 0), ⟨[4, 3], [], [103], Fct.andv (Fct.andv (Fct.mems [2, 106] 16 (fun (x : Option Addr × Nat) => .int .u64 r104.1) (fun (x : Option Addr × Nat) own w => RdO own [2] w R5 x.1 x.2 r104.2.1 ∧ BlkO own 106 w gr1 tr1 #[.slice x.1 r104.2.1.length x.2, Zi r104.2.2]) (fun hk he h => ⟨RdO.evo (hits_sub hk (by decide)) he h.1, BlkO.evo (not_hit hk (by decide)) he h.2⟩)) 12 (.int .u64 r98.1)) 14 (.int .u64 r101.1)⟩, dv [5] [] 7 (.int .u64 r98.1), dv [5] [] 8 (.int .u64 r101.1), dv [5] [] 9 (.int .u64 r104.1)] z97 d97 (fm1 b97_gr1) ?_ ?_
 ·refine sM e97_0 ?_
  refine sc (fun own a wx hf hsl hE => ?_) ?_
  ·obtain ⟨f_11, b_gr1, -⟩ := hf
   exact px (or_call cf50 (args1 f_11) (pack_reader_number_w _ (forth own (look0 [(1, 1), (2, 2)])) r1 gr1 tr1 Ar1_0 cr1_0 (look0_le rfl) (BlkO.forth_ (m := (look0 [(1, 1), (2, 2)])) b_gr1) (RdO.forth_ (m := (look0 [(1, 1), (2, 2)])) (RdO.evo rfl hE (RdO.evo rfl hX97 hAr1_0))) r98 hr98) (post_mems (m := (look0 [(1, 1), (2, 2)])) (m' := (look0 [(1, 100), (2, 2)])) (hm_of2 rfl) (fun own' w' a' x h1 h => ⟨x, h1, ⟨RdO.back_ h.1 (by decide), BlkO.back_ h.2 (by decide)⟩⟩)))
  refine sM e97_0 ?_
  refine sc (fun own a wx hf hsl hE => ?_) ?_
  ·obtain ⟨f_13, ⟨⟨A99, cA99⟩, f_12, b_A99, b_gr1⟩, -⟩ := hf
   exact px (or_andv (by decide) f_12 (or_call cf50 (args1 f_13) (pack_reader_number_w _ (forth own (look0 [(2, 2), (100, 1)])) r98.2 gr1 tr1 A99 cA99 (look0_le rfl) (BlkO.forth_ (m := (look0 [(2, 2), (100, 1)])) b_gr1) (RdO.forth_ (m := (look0 [(2, 2), (100, 1)])) b_A99) r101 hr101) (post_mems (m := (look0 [(2, 2), (100, 1)])) (m' := (look0 [(1, 103), (2, 2)])) (hm_of2 rfl) (fun own' w' a' x h1 h => ⟨x, h1, ⟨RdO.back_ h.1 (by decide), BlkO.back_ h.2 (by decide)⟩⟩))))
  refine sM e97_0 ?_
  refine sc (fun own a wx hf hsl hE => ?_) ?_
  ·obtain ⟨f_15, ⟨f_12, ⟨⟨A102, cA102⟩, f_14, b_A102, b_gr1⟩⟩, -⟩ := hf
   exact px (or_andv (by decide) f_14 (or_andv (by decide) f_12 (or_call cf50 (args1 f_15) (pack_reader_number_w _ (forth own (look0 [(2, 2), (103, 1)])) r101.2 gr1 tr1 A102 cA102 (look0_le rfl) (BlkO.forth_ (m := (look0 [(2, 2), (103, 1)])) b_gr1) (RdO.forth_ (m := (look0 [(2, 2), (103, 1)])) b_A102) r104 hr104) (post_mems (m := (look0 [(2, 2), (103, 1)])) (m' := (look0 [(1, 106), (2, 2)])) (hm_of2 rfl) (fun own' w' a' x h1 h => ⟨x, h1, ⟨RdO.back_ h.1 (by decide), BlkO.back_ h.2 (by decide)⟩⟩)))))
  refine sc (fun own a wx hf hsl hE => ?_) ?_
  ·obtain ⟨⟨f_14, ⟨f_12, ⟨⟨A105, cA105⟩, f_16, b_A105, b_gr1⟩⟩⟩, -⟩ := hf
   exact px (or_assign f_12)
  refine sc (fun own a wx hf hsl hE => ?_) ?_
  ·obtain ⟨⟨f_14, ⟨f_12, ⟨⟨A105, cA105⟩, f_16, b_A105, b_gr1⟩⟩⟩, -⟩ := hf
   exact px (or_assign f_14)
  refine sc (fun own a wx hf hsl hE => ?_) ?_
  ·obtain ⟨⟨f_14, ⟨f_12, ⟨⟨A105, cA105⟩, f_16, b_A105, b_gr1⟩⟩⟩, -⟩ := hf
   exact px (or_assign f_16)
  exact steps_nil
 intro o107 a107 w107 d107 z107 hk107 hf107 hE107
 obtain ⟨e107_0, e107_2, e107_4, e107_6⟩ := kt4 hk107 e97_0 e97_2 e97_4 e97_6
 have e107_7 := gv (hf107 [6] rfl) rfl
 have e107_8 := gv (hf107 [7] rfl) rfl
 have e107_9 := gv (hf107 [8] rfl) rfl
 obtain ⟨⟨(f_14 : a107.eval (.tmp 14) = .int .u64 r101.1), ⟨(f_12 : a107.eval (.tmp 12) = .int .u64 r98.1), ⟨⟨A105, cA105⟩, (f_16 : a107.eval (.tmp 16) = .int .u64 r104.1), (b107_A105 : RdO o107 [2] w107 R5 A105 cA105 r104.2.1), (b107_gr1 : BlkO o107 106 w107 gr1 tr1 #[sl A105 r104.2.1 cA105, Zi r104.2.2])⟩⟩⟩, -⟩ := hf107 [5] rfl
 have hX107 := Evo.step hX97 hown hE107 rfl
 obtain ⟨b107_g93, b107_g95⟩ := be2 hE107 b97_g93 b97_g95
 refine rp_seq 53 o107 [109] [0, 1, 3, 0, 8, 24, 0, 64, 192, 511, 0, 2047] [dv [] [7] 17 (.int .u64 r98.1), dv [0] [] 18 (.int .u64 (mn r98.1 1048576)), dv [1] [] 19 (Zi (IntKind.i64.wrap (mn r98.1 1048576))), dv [] [8] 20 (.int .u64 r101.1), dv [3] [] 21 (.int .u64 (mn r101.1 1048576)), dv [4] [] 22 (Zi (IntKind.i64.wrap (mn r101.1 1048576))), dv [] [9] 23 (.int .u64 r104.1), dv [6] [] 24 (.int .u64 (mn r104.1 1048576)), dv [7] [] 25 (Zi (IntKind.i64.wrap (mn r104.1 1048576))), dv [2, 5, 8] [] 26 (.agg #[Zi (IntKind.i64.wrap (mn r98.1 1048576)), Zi (IntKind.i64.wrap (mn r101.1 1048576)), Zi (IntKind.i64.wrap (mn r104.1 1048576))]), ⟨[], [], [], Fct.blk 109 10 (fun g => pt g 0) 28 #[Zi 0, Zi 0, Zi 0]⟩, ⟨[10, 9], [], [109], Fct.blk 110 10 (fun g => pt g 0) 28 #[Zi (IntKind.i64.wrap (mn r98.1 1048576)), Zi (IntKind.i64.wrap (mn r101.1 1048576)), Zi (IntKind.i64.wrap (mn r104.1 1048576))]⟩] z107 d107 ?_ ?_
 ·refine sM e107_7 <| sF (fun f => or_min f.1 rfl) <| sF (fun f => or_conv f.1 tn26 tn3 rfl) <| sM e107_8 <| sF (fun f => or_min f.1 rfl) <| sF (fun f => or_conv f.1 tn26 tn3 rfl) <| sM e107_9 <| sF (fun f => or_min f.1 rfl) <| sF (fun f => or_conv f.1 tn26 tn3 rfl) <| sF (fun f => ok3 f.1 f.2.1 f.2.2.1) <| sO (nw0) ?_
  refine sc (fun own a wx hf hsl hE => ?_) ?_
  ·obtain ⟨⟨g108, f_10, b_g108⟩, f_26, -⟩ := hf
   exact px (or_store (l := #[Zi (IntKind.i64.wrap (mn r98.1 1048576)), Zi (IntKind.i64.wrap (mn r101.1 1048576)), Zi (IntKind.i64.wrap (mn r104.1 1048576))]) (lab := 109) (lab2 := 110) ts28 f_10 f_26 b_g108 (by simp) (by kernel_rfl) (mem_of rfl) (by decide) (by kernel_rfl) (fun own' a' w' ha hb => ⟨_, (ha 10).trans f_10, hb⟩))
  exact steps_nil
 intro o111 a111 w111 d111 z111 hk111 hf111 hE111
 obtain ⟨e111_0, e111_2, e111_4, e111_6⟩ := kt4 hk111 e107_0 e107_2 e107_4 e107_6
 obtain ⟨⟨g108, (e111_10 : a111.eval (.tmp 10) = pt g108 0), (b111_g108 : BlkO o111 110 w111 g108 28 #[Zi (IntKind.i64.wrap (mn r98.1 1048576)), Zi (IntKind.i64.wrap (mn r101.1 1048576)), Zi (IntKind.i64.wrap (mn r104.1 1048576))])⟩, -⟩ := hf111 [11] rfl
 have hX111 := Evo.step hX107 hown hE111 rfl
 obtain ⟨b111_g93, b111_g95, b111_gr1⟩ := be3 hE111 b107_g93 b107_g95 b107_gr1
 have b111_A105 := RdO.evo rfl hE111 b107_A105
 refine fl_seq (fun Q112 hn112 hp112 => ?_)
 refine fl_block (fun Q142 hn142 hx142 hp142 => ?_)
 have K157 : ∀ (a157 : Act) (w157 : World) (o157 : Own) (r156 : Int), a157.defers = [] → a157.tmps.size = 53 → a157.eval (.tmp 0) = pt gr1 0 → a157.eval (.tmp 6) = pt g95 0 → a157.eval (.tmp 10) = pt g108 0 → Evo [1] own o157 w w157 → BlkO o157 155 w157 gr1 tr1 #[sl A105 r104.2.1 cA105, Zi r156] → RdO o157 [2] w157 R5 A105 cA105 r104.2.1 → BlkO o157 96 w157 g95 28 #[Zi 0, Zi 0, Zi 0] → BlkO o157 110 w157 g108 28 #[Zi (IntKind.i64.wrap (mn r98.1 1048576)), Zi (IntKind.i64.wrap (mn r101.1 1048576)), Zi (IntKind.i64.wrap (mn r104.1 1048576))] → pack_reader_tile_k1 r98 r101 r104 r156 = some r → (Q142 .normal a157 w157 ∧ Q142 (.exit 0) a157 w157) := by
  intro a157 w157 o157 r156 d158 z158 e158_0 e158_6 e158_10 hE158 b158_gr1 b158_A105 b158_g95 b158_g108 hs
  refine and_both (hn142 _ _) (hx142 _ _) ?_
  refine hn112 _ _ ?_
  refine rr_seq 53 [Fct.at_ 96 g95 28 #[Zi 0, Zi 0, Zi 0]] o157 [96] (bz 2) [dv [] [10] 52 (.agg #[Zi (IntKind.i64.wrap (mn r98.1 1048576)), Zi (IntKind.i64.wrap (mn r101.1 1048576)), Zi (IntKind.i64.wrap (mn r104.1 1048576))]), ⟨[0, 2], [6], [96], Fct.at_ 159 g95 28 #[Zi (IntKind.i64.wrap (mn r98.1 1048576)), Zi (IntKind.i64.wrap (mn r101.1 1048576)), Zi (IntKind.i64.wrap (mn r104.1 1048576))]⟩] z158 d158 (fm1 b158_g95) ?_ ?_
  ·refine sL ta28 e158_10 b158_g108 ?_
   refine sc (fun own a wx hf hsl hE => ?_) ?_
   ·obtain ⟨f_52, b_g95, -⟩ := hf
    obtain ⟨s_6, -⟩ := hsl
    exact px (or_store (l := #[Zi (IntKind.i64.wrap (mn r98.1 1048576)), Zi (IntKind.i64.wrap (mn r101.1 1048576)), Zi (IntKind.i64.wrap (mn r104.1 1048576))]) (lab := 96) (lab2 := 159) ts28 (s_6.trans e158_6) f_52 b_g95 (by simp) (by kernel_rfl) (mem_of rfl) (by decide) (by kernel_rfl) (fun own' a' w' ha hb => hb))
   exact steps_nil
  intro o160 a160 w160 d160 z160 hk160 hf160 hE160
  obtain ⟨e160_0, e160_6⟩ := kt2 hk160 e158_0 e158_6
  obtain ⟨(b160_g95 : BlkO o160 159 w160 g95 28 #[Zi (IntKind.i64.wrap (mn r98.1 1048576)), Zi (IntKind.i64.wrap (mn r101.1 1048576)), Zi (IntKind.i64.wrap (mn r104.1 1048576))]), -⟩ := hf160 [1] rfl
  have hX160 := Evo.step hE158 hown hE160 rfl
  have b160_gr1 := be_ hE160 b158_gr1
  have b160_A105 := RdO.evo rfl hE160 b158_A105
  refine fl_ret ?_
  obtain rfl := osome hs
  exact hret _ _ _ _ (.inl rfl) d160 (results1_ rfl (RVal.cell_ e160_6 (run_loadVarAgg (l := [Zi (IntKind.i64.wrap (mn r98.1 1048576)), Zi (IntKind.i64.wrap (mn r101.1 1048576)), Zi (IntKind.i64.wrap (mn r104.1 1048576))]) ta28 (Blk.cellsFrom b160_g95.2 0 rfl) rfl))) ⟨(rl [(155, 1)] o160), (A105, cA105), rfl, (Evo.rl_ hX160 hown rfl), (RdO.rl_ b160_A105), (BlkO.rl_ b160_gr1)⟩
 refine rq_seq 53 o111 (bz 6) [dv [] [0] 28 (pt gr1 0), dv [0] [] 29 (pt gr1 0), dv [1] [] 30 (pt gr1 1), dv [2] [] 31 (Zi r104.2.2), dv [3] [] 32 (.bool (!decide (r104.2.2 = 0))), dv [4] [] 27 (.bool (!decide (r104.2.2 = 0)))] z111 d111 ?_ ?_
 ·exact sM e111_0 <| sF (fun f => ok1 f.1) <| sF (fun f => or_field fo70_1 f.1 (by rfl)) <| sG to31 b111_gr1 <| sF (fun f => or_neq f.1 rfl rfl) <| sA <| steps_nil
 intro o161 a161 w161 d161 z161 hk161 hf161 hE161
 obtain ⟨e161_0, e161_2, e161_4, e161_6, e161_10⟩ := kt5 hk161 e111_0 e111_2 e111_4 e111_6 e111_10
 have e161_27 := gv (hf161 [5] rfl) rfl
 have hX161 := Evo.step hX111 hown hE161 rfl
 obtain ⟨b161_g93, b161_g95, b161_gr1, b161_g108⟩ := be4 hE161 b111_g93 b111_g95 b111_gr1 b111_g108
 have b161_A105 := RdO.evo rfl hE161 b111_A105
 refine fl_cond e161_27 hs (fun c162 hs => ?_) (fun c162 hs => ?_)
 ·refine fl_skip ?_
  exact (K157 _ _ (rl [(106, 155)] o161) _ d161 z161 e161_0 e161_6 e161_10 (Evo.rl_ hX161 hown rfl) (BlkO.rl_ b161_gr1) (RdO.rl_ b161_A105) (BlkO.rl_ b161_g95) (BlkO.rl_ b161_g108) hs).1
 obtain ⟨r163, hr163, hs⟩ := obind hs
 refine rq_seq 53 o161 (bz 4) [dv [] [10] 34 (.agg #[Zi (IntKind.i64.wrap (mn r98.1 1048576)), Zi (IntKind.i64.wrap (mn r101.1 1048576)), Zi (IntKind.i64.wrap (mn r104.1 1048576))]), dv [0] [] 35 (.bool r163), dv [1] [] 36 (.bool (!r163)), dv [2] [] 33 (.bool (!r163))] z161 d161 ?_ ?_
 ·exact sL ta28 e161_10 b161_g108 <| sF (fun f => or_call cf45 (args1 f.1) (window_Right_w _ (IntKind.i64.wrap (mn r98.1 1048576), IntKind.i64.wrap (mn r101.1 1048576), IntKind.i64.wrap (mn r104.1 1048576))  r163 hr163) post_val) <| sF (fun f => or_not f.1 rfl) <| sA <| steps_nil
 intro o164 a164 w164 d164 z164 hk164 hf164 hE164
 obtain ⟨e164_0, e164_2, e164_4, e164_6, e164_10⟩ := kt5 hk164 e161_0 e161_2 e161_4 e161_6 e161_10
 have e164_33 := gv (hf164 [3] rfl) rfl
 have hX164 := Evo.step hX161 hown hE164 rfl
 obtain ⟨b164_g93, b164_g95, b164_gr1, b164_g108⟩ := be4 hE164 b161_g93 b161_g95 b161_gr1 b161_g108
 have b164_A105 := RdO.evo rfl hE164 b161_A105
 refine fl_cond e164_33 hs (fun c165 hs => ?_) (fun c165 hs => ?_)
 ·refine rr 53 [Fct.at_ 106 gr1 tr1 #[sl A105 r104.2.1 cA105, Zi r104.2.2]] o164 [106] (bz 4) [dv [] [0] 37 (pt gr1 0), dv [0] [] 38 (pt gr1 0), dv [1] [] 39 (pt gr1 1), ⟨[2, 4], [], [106], Fct.at_ 166 gr1 tr1 #[sl A105 r104.2.1 cA105, Zi 5]⟩] z164 d164 (fm1 b164_gr1) ?_ ?_
  ·refine sM e164_0 <| sF (fun f => ok1 f.1) <| sF (fun f => or_field fo70_1 f.1 (by rfl)) ?_
   refine sc (fun own a wx hf hsl hE => ?_) ?_
   ·obtain ⟨f_39, b_gr1, -⟩ := hf
    exact px (or_store1 (lab := 106) (lab2 := 166) ts31 f_39 rfl b_gr1 (by simp) rfl (mem_of rfl) (by decide) rfl (fun own' a' w' ha hb => hb))
   exact steps_nil
  intro o167 a167 w167 d167 z167 hk167 hf167 hE167
  obtain ⟨e167_0, e167_6, e167_10⟩ := kt3 hk167 e164_0 e164_6 e164_10
  obtain ⟨(b167_gr1 : BlkO o167 166 w167 gr1 tr1 #[sl A105 r104.2.1 cA105, Zi 5]), -⟩ := hf167 [3] rfl
  have hX167 := Evo.step hX164 hown hE167 rfl
  obtain ⟨b167_g95, b167_g108⟩ := be2 hE167 b164_g95 b164_g108
  have b167_A105 := RdO.evo rfl hE167 b164_A105
  exact (K157 _ _ (rl [(166, 155)] o167) _ d167 z167 e167_0 e167_6 e167_10 (Evo.rl_ hX167 hown rfl) (BlkO.rl_ b167_gr1) (RdO.rl_ b167_A105) (BlkO.rl_ b167_g95) (BlkO.rl_ b167_g108) hs).1
 obtain ⟨r168, hr168, hs⟩ := obind hs
 refine rq_seq 53 o164 [0, 1, 3, 7, 7, 31, 63, 127, 255] [dv [] [2] 41 (.bool first3), dv [0] [] 42 (.bool (!first3)), dv [1] [] 43 (.bool (!first3)), dc [2] [4] (!first3) 44 (.agg #[Zi last2.1, Zi last2.2.1, Zi last2.2.2]), dc [2] [10] (!first3) 45 (.agg #[Zi (IntKind.i64.wrap (mn r98.1 1048576)), Zi (IntKind.i64.wrap (mn r101.1 1048576)), Zi (IntKind.i64.wrap (mn r104.1 1048576))]), dc [2, 3, 4] [] (!first3) 46 (.bool r168), dc [2, 5] [] (!first3) 47 (.bool (!r168)), dv [2, 6] [] 48 (.bool ((!first3) && (!r168))), dv [7] [] 40 (.bool ((!first3) && (!r168)))] z164 d164 ?_ ?_
 ·exact sM e164_2 <| sF (fun f => or_not f.1 rfl) <| sV <| cTL ta28 e164_4 b164_g93 <| cTL ta28 e164_10 b164_g108 <| cT (fun f _ _ hg => or_call cf44 (args2 (f.2.1.1 hg) (f.2.2.1.1 hg)) (window_Less_w _ last2 (IntKind.i64.wrap (mn r98.1 1048576), IntKind.i64.wrap (mn r101.1 1048576), IntKind.i64.wrap (mn r104.1 1048576))  r168 (gd_t hr168 hg)) post_val) <| cT (fun f _ _ hg => or_not (f.2.1.1 hg) rfl) <| sF (fun f => or_and f.1 (fun hx => f.2.1.1 hx) rfl rfl) <| sA <| steps_nil
 intro o169 a169 w169 d169 z169 hk169 hf169 hE169
 obtain ⟨e169_0, e169_6, e169_10⟩ := kt3 hk169 e164_0 e164_6 e164_10
 have e169_40 := gv (hf169 [8] rfl) rfl
 have hX169 := Evo.step hX164 hown hE169 rfl
 obtain ⟨b169_g95, b169_gr1, b169_g108⟩ := be3 hE169 b164_g95 b164_gr1 b164_g108
 have b169_A105 := RdO.evo rfl hE169 b164_A105
 refine fl_cond e169_40 hs (fun c170 hs => ?_) (fun c170 hs => ?_)
 ·refine rr 53 [Fct.at_ 106 gr1 tr1 #[sl A105 r104.2.1 cA105, Zi r104.2.2]] o169 [106] (bz 4) [dv [] [0] 49 (pt gr1 0), dv [0] [] 50 (pt gr1 0), dv [1] [] 51 (pt gr1 1), ⟨[2, 4], [], [106], Fct.at_ 171 gr1 tr1 #[sl A105 r104.2.1 cA105, Zi 18]⟩] z169 d169 (fm1 b169_gr1) ?_ ?_
  ·refine sM e169_0 <| sF (fun f => ok1 f.1) <| sF (fun f => or_field fo70_1 f.1 (by rfl)) ?_
   refine sc (fun own a wx hf hsl hE => ?_) ?_
   ·obtain ⟨f_51, b_gr1, -⟩ := hf
    exact px (or_store1 (lab := 106) (lab2 := 171) ts31 f_51 rfl b_gr1 (by simp) rfl (mem_of rfl) (by decide) rfl (fun own' a' w' ha hb => hb))
   exact steps_nil
  intro o172 a172 w172 d172 z172 hk172 hf172 hE172
  obtain ⟨e172_0, e172_6, e172_10⟩ := kt3 hk172 e169_0 e169_6 e169_10
  obtain ⟨(b172_gr1 : BlkO o172 171 w172 gr1 tr1 #[sl A105 r104.2.1 cA105, Zi 18]), -⟩ := hf172 [3] rfl
  have hX172 := Evo.step hX169 hown hE172 rfl
  obtain ⟨b172_g95, b172_g108⟩ := be2 hE172 b169_g95 b169_g108
  have b172_A105 := RdO.evo rfl hE172 b169_A105
  exact (K157 _ _ (rl [(171, 155)] o172) _ d172 z172 e172_0 e172_6 e172_10 (Evo.rl_ hX172 hown rfl) (BlkO.rl_ b172_gr1) (RdO.rl_ b172_A105) (BlkO.rl_ b172_g95) (BlkO.rl_ b172_g108) hs).1
 refine fl_skip ?_
 exact (K157 _ _ (rl [(106, 155)] o169) _ d169 z169 e169_0 e169_6 e169_10 (Evo.rl_ hX169 hown rfl) (BlkO.rl_ b169_gr1) (RdO.rl_ b169_A105) (BlkO.rl_ b169_g95) (BlkO.rl_ b169_g108) hs).1
theorem pack_reader_blob_w (w : World) (own : Own) (r1 : (List Int) × Int) (gr1 : Nat) (tr1 : TypeId) (Ar1_0 : Option Addr) (cr1_0 : Nat) (all2 : Int) (used3 : Int) (hown : ∀ b, own b ≤ 2) (hgr1 : BlkO own 1 w gr1 tr1 #[sl Ar1_0 r1.1 cr1_0, Zi r1.2]) (hAr1_0 : RdO own [2] w R5 Ar1_0 cr1_0 r1.1) (r : Int × ((List Int) × Int)) (hs : pack_reader_blob r1 all2 used3 = some r) :
  Calls Try.prog 31 #[pt gr1 0, Zi all2, Zi used3] w fun e w' => ∃ (own' : Own) (x : Option Addr × Nat), e = .returned (Zi r.1) ∧ Evo [1] own own' w w' ∧ RdO own' [2] w' R5 x.1 x.2 r.2.1 ∧ BlkO own' 1 w' gr1 tr1 #[.slice x.1 r.2.1.length x.2, Zi r.2.2] := by
 refine fl_enter (n := 34) rfl rfl rfl (Nat.le_of_ble_eq_true rfl) ?_
 intro a0 Q d0 z0 harg hret
 have ha0 := harg 0 _ rfl
 have ha1 := harg 1 _ rfl
 have ha2 := harg 2 _ rfl
 clear harg
 have hE0 : Evo [1] own own w w := Evo.refl _ _ _
 refine rq_seq 34 own (bz 1) [dv [] [] 6 (Zi 0)] z0 d0 ?_ ?_
 ·exact sO (or_assign rfl) <| steps_nil
 intro o78 a78 w78 d78 z78 hk78 hf78 hE78
 obtain ⟨e78_0, e78_1, e78_2⟩ := kt3 hk78 ha0 ha1 ha2
 have hX78 := Evo.step hE0 hown hE78 rfl
 have b78_gr1 := be_ hE78 hgr1
 obtain ⟨r79, hr79, hs⟩ := obind hs
 refine rr_seq 34 [Fct.at_ 1 gr1 tr1 #[sl Ar1_0 r1.1 cr1_0, Zi r1.2]] o78 [1] (bz 3) [dv [] [0] 8 (pt gr1 0), ⟨[0, 3], [], [1], Fct.mems [2, 81] 9 (fun (x : Option Addr × Nat) => .int .u64 r79.1) (fun (x : Option Addr × Nat) own w => RdO own [2] w R5 x.1 x.2 r79.2.1 ∧ BlkO own 81 w gr1 tr1 #[.slice x.1 r79.2.1.length x.2, Zi r79.2.2]) (fun hk he h => ⟨RdO.evo (hits_sub hk (by decide)) he h.1, BlkO.evo (not_hit hk (by decide)) he h.2⟩)⟩, dv [1] [] 7 (.int .u64 r79.1)] z78 d78 (fm1 b78_gr1) ?_ ?_
 ·refine sM e78_0 ?_
  refine sc (fun own a wx hf hsl hE => ?_) ?_
  ·obtain ⟨f_8, b_gr1, -⟩ := hf
   exact px (or_call cf50 (args1 f_8) (pack_reader_number_w _ (forth own (look0 [(1, 1), (2, 2)])) r1 gr1 tr1 Ar1_0 cr1_0 (look0_le rfl) (BlkO.forth_ (m := (look0 [(1, 1), (2, 2)])) b_gr1) (RdO.forth_ (m := (look0 [(1, 1), (2, 2)])) (RdO.evo rfl hE (RdO.evo rfl hX78 hAr1_0))) r79 hr79) (post_mems (m := (look0 [(1, 1), (2, 2)])) (m' := (look0 [(1, 81), (2, 2)])) (hm_of2 rfl) (fun own' w' a' x h1 h => ⟨x, h1, ⟨RdO.back_ h.1 (by decide), BlkO.back_ h.2 (by decide)⟩⟩)))
  refine sc (fun own a wx hf hsl hE => ?_) ?_
  ·obtain ⟨⟨⟨A80, cA80⟩, f_9, b_A80, b_gr1⟩, -⟩ := hf
   exact px (or_assign f_9)
  exact steps_nil
 intro o82 a82 w82 d82 z82 hk82 hf82 hE82
 obtain ⟨e82_0, e82_1, e82_2⟩ := kt3 hk82 e78_0 e78_1 e78_2
 have e82_7 := gv (hf82 [2] rfl) rfl
 obtain ⟨⟨⟨A80, cA80⟩, (f_9 : a82.eval (.tmp 9) = .int .u64 r79.1), (b82_A80 : RdO o82 [2] w82 R5 A80 cA80 r79.2.1), (b82_gr1 : BlkO o82 81 w82 gr1 tr1 #[sl A80 r79.2.1 cA80, Zi r79.2.2])⟩, -⟩ := hf82 [1] rfl
 have hX82 := Evo.step hX78 hown hE82 rfl
 refine fl_seq (fun Q83 hn83 hp83 => ?_)
 refine fl_block (fun Q113 hn113 hx113 hp113 => ?_)
 have K128 : ∀ (a128 : Act) (w128 : World) (o128 : Own) (r127 : Int), a128.defers = [] → a128.tmps.size = 34 → a128.eval (.tmp 0) = pt gr1 0 → a128.eval (.tmp 7) = .int .u64 r79.1 → Evo [1] own o128 w w128 → BlkO o128 126 w128 gr1 tr1 #[sl A80 r79.2.1 cA80, Zi r127] → RdO o128 [2] w128 R5 A80 cA80 r79.2.1 → pack_reader_blob_k1 r79 r127 = some r → (Q113 .normal a128 w128 ∧ Q113 (.exit 0) a128 w128) := by
  intro a128 w128 o128 r127 d129 z129 e129_0 e129_7 hE129 b129_gr1 b129_A80 hs
  refine and_both (hn113 _ _) (hx113 _ _) ?_
  refine hn83 _ _ ?_
  refine rq_seq 34 o128 (bz 3) [dv [] [7] 32 (.int .u64 r79.1), dv [0] [] 33 (Zi (IntKind.i64.wrap r79.1)), dv [1] [] 6 (Zi (IntKind.i64.wrap r79.1))] z129 d129 ?_ ?_
  ·exact sM e129_7 <| sF (fun f => or_conv f.1 tn26 tn3 rfl) <| sA <| steps_nil
  intro o130 a130 w130 d130 z130 hk130 hf130 hE130
  have e130_0 := kt hk130 e129_0
  have e130_6 := gv (hf130 [2] rfl) rfl
  have hX130 := Evo.step hE129 hown hE130 rfl
  have b130_gr1 := be_ hE130 b129_gr1
  have b130_A80 := RdO.evo rfl hE130 b129_A80
  refine fl_ret ?_
  obtain rfl := osome hs
  exact hret _ _ _ _ (.inl rfl) d130 (results1_ rfl (RVal.tmp_ e130_6)) ⟨(rl [(126, 1)] o130), (A80, cA80), rfl, (Evo.rl_ hX130 hown rfl), (RdO.rl_ b130_A80), (BlkO.rl_ b130_gr1)⟩
 refine rq_seq 34 o82 (bz 6) [dv [] [0] 11 (pt gr1 0), dv [0] [] 12 (pt gr1 0), dv [1] [] 13 (pt gr1 1), dv [2] [] 14 (Zi r79.2.2), dv [3] [] 15 (.bool (!decide (r79.2.2 = 0))), dv [4] [] 10 (.bool (!decide (r79.2.2 = 0)))] z82 d82 ?_ ?_
 ·exact sM e82_0 <| sF (fun f => ok1 f.1) <| sF (fun f => or_field fo70_1 f.1 (by rfl)) <| sG to31 b82_gr1 <| sF (fun f => or_neq f.1 rfl rfl) <| sA <| steps_nil
 intro o131 a131 w131 d131 z131 hk131 hf131 hE131
 obtain ⟨e131_0, e131_1, e131_2, e131_7⟩ := kt4 hk131 e82_0 e82_1 e82_2 e82_7
 have e131_10 := gv (hf131 [5] rfl) rfl
 have hX131 := Evo.step hX82 hown hE131 rfl
 have b131_gr1 := be_ hE131 b82_gr1
 have b131_A80 := RdO.evo rfl hE131 b82_A80
 refine fl_cond e131_10 hs (fun c132 hs => ?_) (fun c132 hs => ?_)
 ·refine rq_seq 34 o131 (bz 1) [dv [] [] 6 (Zi 0)] z131 d131 ?_ ?_
  ·exact sO (or_assign rfl) <| steps_nil
  intro o133 a133 w133 d133 z133 hk133 hf133 hE133
  have e133_0 := kt hk133 e131_0
  have e133_6 := gv (hf133 [0] rfl) rfl
  have hX133 := Evo.step hX131 hown hE133 rfl
  have b133_gr1 := be_ hE133 b131_gr1
  have b133_A80 := RdO.evo rfl hE133 b131_A80
  refine fl_ret ?_
  refine hp113 _ _ _ rfl ?_
  refine hp83 _ _ _ rfl ?_
  obtain rfl := osome hs
  exact hret _ _ _ _ (.inl rfl) d133 (results1_ rfl (RVal.tmp_ e133_6)) ⟨(rl [(81, 1)] o133), (A80, cA80), rfl, (Evo.rl_ hX133 hown rfl), (RdO.rl_ b133_A80), (BlkO.rl_ b133_gr1)⟩
 refine rq_seq 34 o131 [0, 0, 2, 7, 15] [dv [] [7] 17 (.int .u64 r79.1), dv [] [1] 18 (Zi all2), dv [1] [] 19 (.int .u64 (IntKind.u64.wrap all2)), dv [0, 2] [] 20 (.bool (decide ((IntKind.u64.wrap all2) ≤ r79.1))), dv [3] [] 16 (.bool (decide ((IntKind.u64.wrap all2) ≤ r79.1)))] z131 d131 ?_ ?_
 ·exact sM e131_7 <| sM e131_1 <| sF (fun f => or_conv f.1 tn3 tn26 rfl) <| sF (fun f => or_geq f.1 f.2.1 rfl) <| sA <| steps_nil
 intro o134 a134 w134 d134 z134 hk134 hf134 hE134
 obtain ⟨e134_0, e134_2, e134_7⟩ := kt3 hk134 e131_0 e131_2 e131_7
 have e134_16 := gv (hf134 [4] rfl) rfl
 have hX134 := Evo.step hX131 hown hE134 rfl
 have b134_gr1 := be_ hE134 b131_gr1
 have b134_A80 := RdO.evo rfl hE134 b131_A80
 refine fl_cond e134_16 hs (fun c135 hs => ?_) (fun c135 hs => ?_)
 ·refine rr_seq 34 [Fct.at_ 81 gr1 tr1 #[sl A80 r79.2.1 cA80, Zi r79.2.2]] o134 [81] (bz 4) [dv [] [0] 21 (pt gr1 0), dv [0] [] 22 (pt gr1 0), dv [1] [] 23 (pt gr1 1), ⟨[2, 4], [], [81], Fct.at_ 136 gr1 tr1 #[sl A80 r79.2.1 cA80, Zi 5]⟩] z134 d134 (fm1 b134_gr1) ?_ ?_
  ·refine sM e134_0 <| sF (fun f => ok1 f.1) <| sF (fun f => or_field fo70_1 f.1 (by rfl)) ?_
   refine sc (fun own a wx hf hsl hE => ?_) ?_
   ·obtain ⟨f_23, b_gr1, -⟩ := hf
    exact px (or_store1 (lab := 81) (lab2 := 136) ts31 f_23 rfl b_gr1 (by simp) rfl (mem_of rfl) (by decide) rfl (fun own' a' w' ha hb => hb))
   exact steps_nil
  intro o137 a137 w137 d137 z137 hk137 hf137 hE137
  have e137_0 := kt hk137 e134_0
  obtain ⟨(b137_gr1 : BlkO o137 136 w137 gr1 tr1 #[sl A80 r79.2.1 cA80, Zi 5]), -⟩ := hf137 [3] rfl
  have hX137 := Evo.step hX134 hown hE137 rfl
  have b137_A80 := RdO.evo rfl hE137 b134_A80
  refine rq_seq 34 o137 (bz 1) [dv [] [] 6 (Zi 0)] z137 d137 ?_ ?_
  ·exact sO (or_assign rfl) <| steps_nil
  intro o138 a138 w138 d138 z138 hk138 hf138 hE138
  have e138_0 := kt hk138 e137_0
  have e138_6 := gv (hf138 [0] rfl) rfl
  have hX138 := Evo.step hX137 hown hE138 rfl
  have b138_gr1 := be_ hE138 b137_gr1
  have b138_A80 := RdO.evo rfl hE138 b137_A80
  refine fl_ret ?_
  refine hp113 _ _ _ rfl ?_
  refine hp83 _ _ _ rfl ?_
  obtain rfl := osome hs
  exact hret _ _ _ _ (.inl rfl) d138 (results1_ rfl (RVal.tmp_ e138_6)) ⟨(rl [(136, 1)] o138), (A80, cA80), rfl, (Evo.rl_ hX138 hown rfl), (RdO.rl_ b138_A80), (BlkO.rl_ b138_gr1)⟩
 refine rq_seq 34 o134 [0, 1, 0, 7, 15] [dv [] [7] 25 (.int .u64 r79.1), dv [0] [] 26 (Zi (IntKind.i64.wrap r79.1)), dv [] [2] 27 (Zi used3), dv [1, 2] [] 28 (.bool (decide (used3 < (IntKind.i64.wrap r79.1)))), dv [3] [] 24 (.bool (decide (used3 < (IntKind.i64.wrap r79.1))))] z134 d134 ?_ ?_
 ·exact sM e134_7 <| sF (fun f => or_conv f.1 tn26 tn3 rfl) <| sM e134_2 <| sF (fun f => or_gtr f.1 f.2.1 rfl) <| sA <| steps_nil
 intro o139 a139 w139 d139 z139 hk139 hf139 hE139
 obtain ⟨e139_0, e139_7⟩ := kt2 hk139 e134_0 e134_7
 have e139_24 := gv (hf139 [4] rfl) rfl
 have hX139 := Evo.step hX134 hown hE139 rfl
 have b139_gr1 := be_ hE139 b134_gr1
 have b139_A80 := RdO.evo rfl hE139 b134_A80
 refine fl_cond e139_24 hs (fun c140 hs => ?_) (fun c140 hs => ?_)
 ·refine rr 34 [Fct.at_ 81 gr1 tr1 #[sl A80 r79.2.1 cA80, Zi r79.2.2]] o139 [81] (bz 4) [dv [] [0] 29 (pt gr1 0), dv [0] [] 30 (pt gr1 0), dv [1] [] 31 (pt gr1 1), ⟨[2, 4], [], [81], Fct.at_ 141 gr1 tr1 #[sl A80 r79.2.1 cA80, Zi 18]⟩] z139 d139 (fm1 b139_gr1) ?_ ?_
  ·refine sM e139_0 <| sF (fun f => ok1 f.1) <| sF (fun f => or_field fo70_1 f.1 (by rfl)) ?_
   refine sc (fun own a wx hf hsl hE => ?_) ?_
   ·obtain ⟨f_31, b_gr1, -⟩ := hf
    exact px (or_store1 (lab := 81) (lab2 := 141) ts31 f_31 rfl b_gr1 (by simp) rfl (mem_of rfl) (by decide) rfl (fun own' a' w' ha hb => hb))
   exact steps_nil
  intro o142 a142 w142 d142 z142 hk142 hf142 hE142
  obtain ⟨e142_0, e142_7⟩ := kt2 hk142 e139_0 e139_7
  obtain ⟨(b142_gr1 : BlkO o142 141 w142 gr1 tr1 #[sl A80 r79.2.1 cA80, Zi 18]), -⟩ := hf142 [3] rfl
  have hX142 := Evo.step hX139 hown hE142 rfl
  have b142_A80 := RdO.evo rfl hE142 b139_A80
  exact (K128 _ _ (rl [(141, 126)] o142) _ d142 z142 e142_0 e142_7 (Evo.rl_ hX142 hown rfl) (BlkO.rl_ b142_gr1) (RdO.rl_ b142_A80) hs).1
 refine fl_skip ?_
 exact (K128 _ _ (rl [(81, 126)] o139) _ d139 z139 e139_0 e139_7 (Evo.rl_ hX139 hown rfl) (BlkO.rl_ b139_gr1) (RdO.rl_ b139_A80) hs).1
set_option maxHeartbeats 2000000 in
theorem pack_Open_z (w : World) (b1 : List Int) (Ab1 : Option Addr) (cb1 : Nat) (hb1 : RdO (fun _ => 0) [0] w R5 Ab1 cb1 b1) (r : (((List Int) × (List (List Int)) × (List ((Int × Int × Int) × Int))) × Int) ⊕ (Unit × Int)) (hs : pack_Open b1 = some r) :
  Calls Try.prog 12 #[sl Ab1 b1 cb1] w fun e w' => match r with
   | .inl r => ∃ (own' : Own) (x : (Option Addr × Nat) × (Option Addr × Nat) × (Option Addr × Nat) × (Option Addr × Nat)), e = .returned (.tuple #[.pointer (some ⟨x.1.2, 0, none⟩), Zi r.2]) ∧ Evo [] (fun _ => 0) own' w w' ∧ RwO own' 2 [] w' 5 R5 x.2.1.1 x.2.1.2 r.1.1 ∧ RwO own' 3 [4] w' 22 R22 x.2.2.1.1 x.2.2.1.2 r.1.2.1 ∧ RwO own' 5 [] w' 66 R66 x.2.2.2.1 x.2.2.2.2 r.1.2.2 ∧ BlkO own' 1 w' x.1.2 64 #[.slice x.2.1.1 r.1.1.length x.2.1.2, .slice x.2.2.1.1 r.1.2.1.length x.2.2.1.2, .slice x.2.2.2.1 r.1.2.2.length x.2.2.2.2]
   | .inr x => ∃ own' : Own, e = .returned (.tuple #[.pointer none, Zi x.2]) ∧ Evo [] (fun _ => 0) own' w w' := by
 refine fl_enter (n := 146) rfl rfl rfl (Nat.le_of_ble_eq_true rfl) ?_
 intro a0 Q d0 z0 harg hret
 have ha0 := harg 0 _ rfl
 clear harg
 have hE0 : Evo [] (fun _ => 0) (fun _ => 0) w w := Evo.refl _ _ _
 refine rq_seq 146 (fun _ => 0) (bz 2) [dv [] [] 2 (.pointer none), dv [] [] 3 (Zi 0)] z0 d0 ?_ ?_
 ·exact sO (or_assign rfl) <| sO (or_assign rfl) <| steps_nil
 intro o807 a807 w807 d807 z807 hk807 hf807 hE807
 have e807_0 := kt hk807 ha0
 have hX807 := es_ hE0 hE807
 refine fl_scope (S := ((List Int) × (List (List Int)) × (List (ByteArray × Bool)) × (List Int) × Int × Int × Int) ⊕ ((List Int) × (List (List Int)) × (List ((Int × Int × Int) × Int)) × (List Int) × Int × Int × Int × Int × (Int × Int × Int))) (body := (Sum.elim (fun s => pack_Open_b1_0 s.1 s.2.1 s.2.2.1 s.2.2.2.1 s.2.2.2.2.1 s.2.2.2.2.2.1 s.2.2.2.2.2.2) (fun s => pack_Open_b1_1 s.1 s.2.1 s.2.2.1 s.2.2.2.1 s.2.2.2.2.1 s.2.2.2.2.2.1 s.2.2.2.2.2.2.1 s.2.2.2.2.2.2.2.1 s.2.2.2.2.2.2.2.2))) (z := r) (Sum.elim (fun _ => 0) (fun _ => 1)) ?_ (fun s a wx => ((Sum.elim (fun (s : (List Int) × (List (List Int)) × (List (ByteArray × Bool)) × (List Int) × Int × Int × Int) => match s with | (p1128, p1131, met1136, r1141, r1142, i1143, n1144) => ∃ (ox : Own) (g1124 : Nat) (A1126 : Option Addr) (c1127 : Nat) (A1129 : Option Addr) (c1130 : Nat) (g1134 : Nat) (g1137 : Nat) (A1139 : Option Addr) (c1140 : Nat) (g1145 : Nat), a.defers = [] ∧ a.tmps.size = 146 ∧ a.eval (.tmp 4) = pt g1124 0 ∧ a.eval (.tmp 5) = .map (some g1134) ∧ a.eval (.tmp 6) = pt g1137 0 ∧ a.eval (.tmp 7) = Zi 0 ∧ a.eval (.tmp 8) = Zi i1143 ∧ a.eval (.tmp 9) = Zi n1144 ∧ a.eval (.tmp 10) = pt g1145 0 ∧ Evo [] (fun _ => 0) ox w wx ∧ BlkO ox 1125 wx g1124 64 #[sl A1126 p1128 c1127, sl A1129 p1131 c1130, .slice none 0 0] ∧ RwO ox 841 [] wx 5 R5 A1126 c1127 p1128 ∧ RwN ox 1132 1133 [] wx 22 5 R5 A1129 c1130 p1131 ∧ MpO ox 1135 wx g1134 vv9 vv4 met1136 ∧ BlkO ox 1138 wx g1137 70 #[sl A1139 r1141 c1140, Zi r1142] ∧ RdO ox [0] wx R5 A1139 c1140 r1141 ∧ BlkO ox 820 wx g1145 28 #[Zi 0, Zi 0, Zi 0]) (fun (s : (List Int) × (List (List Int)) × (List ((Int × Int × Int) × Int)) × (List Int) × Int × Int × Int × Int × (Int × Int × Int)) => match s with | (p1150, p1153, p1158, r1164, r1165, used1166, i1167, n1168, last1171) => ∃ (ox : Own) (g1146 : Nat) (A1148 : Option Addr) (c1149 : Nat) (A1151 : Option Addr) (c1152 : Nat) (A1156 : Option Addr) (c1157 : Nat) (g1160 : Nat) (A1162 : Option Addr) (c1163 : Nat) (g1169 : Nat), a.defers = [] ∧ a.tmps.size = 146 ∧ a.eval (.tmp 4) = pt g1146 0 ∧ a.eval (.tmp 6) = pt g1160 0 ∧ a.eval (.tmp 7) = Zi used1166 ∧ a.eval (.tmp 8) = Zi i1167 ∧ a.eval (.tmp 9) = Zi n1168 ∧ a.eval (.tmp 10) = pt g1169 0 ∧ Evo [] (fun _ => 0) ox w wx ∧ BlkO ox 1147 wx g1146 64 #[sl A1148 p1150 c1149, sl A1151 p1153 c1152, sl A1156 p1158 c1157] ∧ RwO ox 841 [] wx 5 R5 A1148 c1149 p1150 ∧ RwN ox 1154 1155 [] wx 22 5 R5 A1151 c1152 p1153 ∧ RwO ox 1159 [] wx 66 R66 A1156 c1157 p1158 ∧ BlkO ox 1161 wx g1160 70 #[sl A1162 r1164 c1163, Zi r1165] ∧ RdO ox [0] wx R5 A1162 c1163 r1164 ∧ BlkO ox 1170 wx g1169 28 #[Zi last1171.1, Zi last1171.2.1, Zi last1171.2.2])) : (((List Int) × (List (List Int)) × (List (ByteArray × Bool)) × (List Int) × Int × Int × Int) ⊕ ((List Int) × (List (List Int)) × (List ((Int × Int × Int) × Int)) × (List Int) × Int × Int × Int × Int × (Int × Int × Int))) → Prop) s) ?_ ?_
 ·intro s; rcases s with s | s <;> rfl
 ·intro Q1316 hj1316 hp1316
  refine rq_seq 146 o807 (bz 3) [dv [] [] 13 (.agg #[.slice none 0 0, .slice none 0 0, .slice none 0 0]), ⟨[0], [], [], Fct.blk 1464 14 (fun g => pt g 0) 64 #[.slice none 0 0, .slice none 0 0, .slice none 0 0]⟩, ⟨[1], [], [], Fct.rel [4, 14] (fun l => ∀ (g1463 : Nat), l.getD 1 undef = pt g1463 0 → l.getD 0 undef = pt g1463 0)⟩] z807 d807 ?_ ?_
  ·refine sO (or_k [] rfl rfl trivial (by kernel_rfl)) <| sF (fun f => nw1 f.1) ?_
   refine sc (fun own a wx hf hsl hE => ?_) ?_
   ·obtain ⟨⟨g1463, (f_14 : a.eval (.tmp 14) = pt g1463 0), b_g1463⟩, -⟩ := hf
    exact px (or_mono (f := Fct.val 4 (pt g1463 0)) (or_assign f_14) (fun own' a' w' v' hp h => fun _ h0' => by cases (f_14.symm.trans ((hp.2 14 (by decide)).symm.trans h0')); exact h))
   exact steps_nil
  intro o1465 a1465 w1465 d1465 z1465 hk1465 hf1465 hE1465
  have e1465_0 := kt hk1465 e807_0
  obtain ⟨⟨g1463, (f_14 : a1465.eval (.tmp 14) = pt g1463 0), (b1465_g1463 : BlkO o1465 1464 w1465 g1463 64 #[.slice none 0 0, .slice none 0 0, .slice none 0 0])⟩, (q_4 : ∀ (g1463 : Nat), a1465.eval (.tmp 14) = pt g1463 0 → a1465.eval (.tmp 4) = pt g1463 0), -⟩ := hf1465 [1, 2] rfl
  have e1465_4 := q_4 _ f_14
  have hX1465 := es_ hX807 hE1465
  refine rq_seq 146 o1465 (bz 2) [⟨[], [], [], Fct.map_ 1467 15 vv9 vv4 ([] : List (ByteArray × Bool))⟩, ⟨[0], [], [], Fct.rel [5, 15] (fun l => ∀ (g1466 : Nat), l.getD 1 undef = .map (some g1466) → l.getD 0 undef = .map (some g1466))⟩] z1465 d1465 ?_ ?_
  ·refine sO (or_makeMap) ?_
   refine sc (fun own a wx hf hsl hE => ?_) ?_
   ·obtain ⟨⟨g1466, (f_15 : a.eval (.tmp 15) = .map (some g1466)), b_g1466⟩, -⟩ := hf
    exact px (or_mono (f := Fct.val 5 (.map (some g1466))) (or_assign f_15) (fun own' a' w' v' hp h => fun _ h0' => by cases (f_15.symm.trans ((hp.2 15 (by decide)).symm.trans h0')); exact h))
   exact steps_nil
  intro o1468 a1468 w1468 d1468 z1468 hk1468 hf1468 hE1468
  obtain ⟨e1468_0, e1468_4⟩ := kt2 hk1468 e1465_0 e1465_4
  obtain ⟨⟨g1466, (f_15 : a1468.eval (.tmp 15) = .map (some g1466)), (b1468_g1466 : MpO o1468 1467 w1468 g1466 vv9 vv4 ([] : List (ByteArray × Bool)))⟩, (q_5 : ∀ (g1466 : Nat), a1468.eval (.tmp 15) = .map (some g1466) → a1468.eval (.tmp 5) = .map (some g1466)), -⟩ := hf1468 [0, 1] rfl
  have e1468_5 := q_5 _ f_15
  have hX1468 := es_ hX1465 hE1468
  have b1468_g1463 := be_ hE1468 b1465_g1463
  refine rq_seq 146 o1468 (bz 4) [dv [] [0] 16 (sl Ab1 b1 cb1), dv [0] [] 17 (.agg #[sl Ab1 b1 cb1, Zi 0]), ⟨[1], [], [], Fct.blk 1470 18 (fun g => pt g 0) 70 #[sl Ab1 b1 cb1, Zi 0]⟩, ⟨[2], [], [], Fct.rel [6, 18] (fun l => ∀ (g1469 : Nat), l.getD 1 undef = pt g1469 0 → l.getD 0 undef = pt g1469 0)⟩] z1468 d1468 ?_ ?_
  ·refine sM e1468_0 <| sF (fun f => ok1 f.1) <| sF (fun f => nw1 f.1) ?_
   refine sc (fun own a wx hf hsl hE => ?_) ?_
   ·obtain ⟨⟨g1469, (f_18 : a.eval (.tmp 18) = pt g1469 0), b_g1469⟩, -⟩ := hf
    exact px (or_mono (f := Fct.val 6 (pt g1469 0)) (or_assign f_18) (fun own' a' w' v' hp h => fun _ h0' => by cases (f_18.symm.trans ((hp.2 18 (by decide)).symm.trans h0')); exact h))
   exact steps_nil
  intro o1471 a1471 w1471 d1471 z1471 hk1471 hf1471 hE1471
  obtain ⟨e1471_0, e1471_4, e1471_5⟩ := kt3 hk1471 e1468_0 e1468_4 e1468_5
  obtain ⟨⟨g1469, (f_18 : a1471.eval (.tmp 18) = pt g1469 0), (b1471_g1469 : BlkO o1471 1470 w1471 g1469 70 #[sl Ab1 b1 cb1, Zi 0])⟩, (q_6 : ∀ (g1469 : Nat), a1471.eval (.tmp 18) = pt g1469 0 → a1471.eval (.tmp 6) = pt g1469 0), -⟩ := hf1471 [2, 3] rfl
  have e1471_6 := q_6 _ f_18
  have hX1471 := es_ hX1468 hE1471
  have b1471_g1463 := be_ hE1471 b1468_g1463
  have b1471_g1466 := MpO.evo (by decide) hE1471 b1468_g1466
  refine rq_seq 146 o1471 (bz 3) [dv [] [] 7 (Zi 0), dv [] [] 8 (Zi 0), dv [] [] 9 (Zi 0)] z1471 d1471 ?_ ?_
  ·exact sO (or_assign rfl) <| sO (or_assign rfl) <| sO (or_assign rfl) <| steps_nil
  intro o1472 a1472 w1472 d1472 z1472 hk1472 hf1472 hE1472
  obtain ⟨e1472_0, e1472_4, e1472_5, e1472_6⟩ := kt4 hk1472 e1471_0 e1471_4 e1471_5 e1471_6
  have e1472_7 := gv (hf1472 [0] rfl) rfl
  have e1472_8 := gv (hf1472 [1] rfl) rfl
  have hX1472 := es_ hX1471 hE1472
  obtain ⟨b1472_g1463, b1472_g1469⟩ := be2 hE1472 b1471_g1463 b1471_g1469
  have b1472_g1466 := MpO.evo (by decide) hE1472 b1471_g1466
  refine rp_seq 146 o1472 [1474] [0, 0, 3] [dv [] [] 19 (.agg #[Zi 0, Zi 0, Zi 0]), ⟨[], [], [], Fct.blk 1474 10 (fun g => pt g 0) 28 #[Zi 0, Zi 0, Zi 0]⟩, ⟨[1, 0], [], [1474], Fct.blk 1475 10 (fun g => pt g 0) 28 #[Zi 0, Zi 0, Zi 0]⟩] z1472 d1472 ?_ ?_
  ·refine sO (or_k [] rfl rfl trivial (by kernel_rfl)) <| sO (nw0) ?_
   refine sc (fun own a wx hf hsl hE => ?_) ?_
   ·obtain ⟨⟨g1473, f_10, b_g1473⟩, f_19, -⟩ := hf
    exact px (or_store (l := #[Zi 0, Zi 0, Zi 0]) (lab := 1474) (lab2 := 1475) ts28 f_10 f_19 b_g1473 (by simp) (by kernel_rfl) (mem_of rfl) (by decide) (by kernel_rfl) (fun own' a' w' ha hb => ⟨_, (ha 10).trans f_10, hb⟩))
   exact steps_nil
  intro o1476 a1476 w1476 d1476 z1476 hk1476 hf1476 hE1476
  obtain ⟨e1476_0, e1476_4, e1476_5, e1476_6, e1476_7, e1476_8⟩ := kt6 hk1476 e1472_0 e1472_4 e1472_5 e1472_6 e1472_7 e1472_8
  obtain ⟨⟨g1473, (e1476_10 : a1476.eval (.tmp 10) = pt g1473 0), (b1476_g1473 : BlkO o1476 1475 w1476 g1473 28 #[Zi 0, Zi 0, Zi 0])⟩, -⟩ := hf1476 [2] rfl
  have hX1476 := es_ hX1472 hE1476
  obtain ⟨b1476_g1463, b1476_g1469⟩ := be2 hE1476 b1472_g1463 b1472_g1469
  have b1476_g1466 := MpO.evo (by decide) hE1476 b1472_g1466
  refine fl_seq (fun Q1477 hn1477 hp1477 => ?_)
  obtain ⟨r1478, hr1478, hs⟩ := obind hs
  refine rq_seq 146 o1476 (bz 4) [dv [] [0] 20 (sl Ab1 b1 cb1), dv [0] [] 21 (.string (bsS b1)), dv [1] [] 22 (.bool r1478), dv [2] [] 23 (.bool (!r1478))] z1476 d1476 ?_ ?_
  ·exact sM e1476_0 <| sFE (fun f hE => or_convBS tu22 tn5 tS9 f.1 (RdO.evo rfl hE (RdO.evo rfl hX1476 hb1))) <| sF (fun f => or_call cf27 (args2 f.1 rfl) (strings_HasPrefix_w _ (bsS b1) (⟨#[71, 82, 84, 49]⟩ : ByteArray)  r1478 hr1478) post_val) <| sF (fun f => or_not f.1 rfl) <| steps_nil
  intro o1479 a1479 w1479 d1479 z1479 hk1479 hf1479 hE1479
  obtain ⟨e1479_0, e1479_4, e1479_5, e1479_6, e1479_7, e1479_8, e1479_10⟩ := kt7 hk1479 e1476_0 e1476_4 e1476_5 e1476_6 e1476_7 e1476_8 e1476_10
  have e1479_23 := gv (hf1479 [3] rfl) rfl
  have hX1479 := es_ hX1476 hE1479
  obtain ⟨b1479_g1463, b1479_g1469, b1479_g1473⟩ := be3 hE1479 b1476_g1463 b1476_g1469 b1476_g1473
  have b1479_g1466 := MpO.evo (by decide) hE1479 b1476_g1466
  refine fl_cond e1479_23 hs (fun c1480 hs => ?_) (fun c1480 hs => ?_)
  ·refine rq_seq 146 o1479 (bz 2) [dv [] [] 2 (.pointer none), dv [] [] 3 (Zi 17)] z1479 d1479 ?_ ?_
   ·exact sO (or_assign rfl) <| sO (or_assign rfl) <| steps_nil
   intro o1481 a1481 w1481 d1481 z1481 hk1481 hf1481 hE1481
   have e1481_2 := gv (hf1481 [0] rfl) rfl
   have e1481_3 := gv (hf1481 [1] rfl) rfl
   have hX1481 := es_ hX1479 hE1481
   refine fl_ret ?_
   refine hp1477 _ _ _ rfl ?_
   refine hp1316.leaves _ _ _ rfl ?_
   obtain rfl := osome hs
   exact hret _ _ _ _ (.inl rfl) d1481 (results2_ rfl (RVal.tmp_ e1481_2) (RVal.tmp_ e1481_3)) ⟨o1481, rfl, hX1481⟩
  refine fl_skip ?_
  refine hn1477 _ _ ?_
  obtain ⟨x1484, hx1484, hs⟩ := obind hs
  refine rr_seq 146 [Fct.at_ 1470 g1469 70 #[sl Ab1 b1 cb1, Zi 0]] o1479 [1470] [0, 0, 2, 7, 15, 31] [dv [] [6] 24 (pt g1469 0), dv [] [0] 25 (sl Ab1 b1 cb1), ⟨[1], [], [], Fct.view [0] 26 R5 x1484⟩, dv [0] [] 27 (pt g1469 0), dv [3] [] 28 (pt g1469 0), ⟨[4, 2, 6], [], [1470], Fct.by_ [1486] [26] (fun l own w => ∀ (A1485 : Option Addr) (cA1485 : Nat), l.getD 0 undef = sl A1485 x1484 cA1485 → BlkO own 1486 w g1469 70 #[sl A1485 x1484 cA1485, Zi 0]) (fun hk he h _ _ h0' => BlkO.evo (not_hit hk (by decide)) he (h _ _ h0'))⟩] z1479 d1479 (fm1 b1479_g1469) ?_ ?_
  ·refine sM e1479_6 <| sM e1479_0 <| sFE (fun f hE => or_view (R := R5) (l := b1) (L := [0]) tu22 ts5 f.1 (Bnd.some_ rfl) Bnd.none_ Bnd.none_ (RdO.evo rfl hE (RdO.evo rfl hX1479 hb1)) hx1484 (.inl rfl) (by simp)) <| sF (fun f => ok1 f.1) <| sF (fun f => or_field fo70_0 f.1 (by rfl)) ?_
   refine sc (fun own a wx hf hsl hE => ?_) ?_
   ·obtain ⟨f_28, ⟨⟨A1485, cA1485⟩, (f_26 : a.eval (.tmp 26) = sl A1485 x1484 cA1485), b_A1485⟩, b_g1469, -⟩ := hf
    exact px (or_store1 (lab := 1470) (lab2 := 1486) ts22 f_28 f_26 b_g1469 (by simp) rfl (mem_of rfl) (by decide) rfl (fun own' a' w' ha hb => fun _ _ h0' => by cases (f_26.symm.trans ((ha 26).symm.trans h0')); exact hb))
   exact steps_nil
  intro o1487 a1487 w1487 d1487 z1487 hk1487 hf1487 hE1487
  obtain ⟨e1487_4, e1487_5, e1487_6, e1487_7, e1487_8, e1487_10⟩ := kt6 hk1487 e1479_4 e1479_5 e1479_6 e1479_7 e1479_8 e1479_10
  obtain ⟨⟨⟨A1485, cA1485⟩, (f_26 : a1487.eval (.tmp 26) = sl A1485 x1484 cA1485), (b1487_A1485 : RdO o1487 [0] w1487 R5 A1485 cA1485 x1484)⟩, (bq_g1469 : ∀ (A1485 : Option Addr) (cA1485 : Nat), a1487.eval (.tmp 26) = sl A1485 x1484 cA1485 → BlkO o1487 1486 w1487 g1469 70 #[sl A1485 x1484 cA1485, Zi 0]), -⟩ := hf1487 [2, 5] rfl
  have b1487_g1469 := bq_g1469 _ _ f_26
  have hX1487 := es_ hX1479 hE1487
  obtain ⟨b1487_g1463, b1487_g1473⟩ := be2 hE1487 b1479_g1463 b1479_g1473
  have b1487_g1466 := MpO.evo (by decide) hE1487 b1479_g1466
  obtain ⟨r1493, hr1493, hs⟩ := obind hs
  refine rr_seq 146 [Fct.at_ 1486 g1469 70 #[sl A1485 x1484 cA1485, Zi 0], Fct.at_ 1464 g1463 64 #[.slice none 0 0, .slice none 0 0, .slice none 0 0]] o1487 [1486, 1464] [0, 0, 2, 7, 15, 31] [dv [] [4] 29 (pt g1463 0), dv [] [6] 30 (pt g1469 0), ⟨[1, 6], [], [1486], Fct.mems [1496, 0, 1497] 31 (fun (x : (Option Addr × Nat) × (Option Addr × Nat)) => .slice x.1.1 r1493.1.length x.1.2) (fun (x : (Option Addr × Nat) × (Option Addr × Nat)) own w => RwO own 1496 [] w 5 R5 x.1.1 x.1.2 r1493.1 ∧ RdO own [0] w R5 x.2.1 x.2.2 r1493.2.1 ∧ BlkO own 1497 w g1469 70 #[.slice x.2.1 r1493.2.1.length x.2.2, Zi r1493.2.2]) (fun hk he h => ⟨RwO.evo (hits_sub hk (by decide)) he h.1, RdO.evo (hits_sub hk (by decide)) he h.2.1, BlkO.evo (not_hit hk (by decide)) he h.2.2⟩)⟩, dv [0] [] 32 (pt g1463 0), dv [3] [] 33 (pt g1463 0), ⟨[4, 2, 7], [], [1464], Fct.by_ [1498] [31] (fun l own w => ∀ (A1494 : Option Addr) (cA1494 : Nat), l.getD 0 undef = sl A1494 r1493.1 cA1494 → BlkO own 1498 w g1463 64 #[sl A1494 r1493.1 cA1494, .slice none 0 0, .slice none 0 0]) (fun hk he h _ _ h0' => BlkO.evo (not_hit hk (by decide)) he (h _ _ h0'))⟩] z1487 d1487 (fm2 b1487_g1469 b1487_g1463) ?_ ?_
  ·refine sM e1487_4 <| sM e1487_6 ?_
   refine sc (fun own a wx hf hsl hE => ?_) ?_
   ·obtain ⟨f_30, b_g1469, -⟩ := hf
    exact px (or_call cf28 (args1 f_30) (pack_reader_whole_w _ (forth own (look0 [(0, 2), (1486, 1)])) (x1484, 0) g1469 70 A1485 cA1485 (look0_le rfl) (BlkO.forth_ (m := (look0 [(0, 2), (1486, 1)])) b_g1469) (RdO.forth_ (m := (look0 [(0, 2), (1486, 1)])) (RdO.evo rfl hE b1487_A1485)) r1493 hr1493) (post_mems (m := (look0 [(0, 2), (1486, 1)])) (m' := (look0 [(1, 1497), (2, 0), (3, 1496)])) (hm_of2 rfl) (fun own' w' a' x h1 h => ⟨x, h1, ⟨RwO.back_ h.1 (by decide) (.inl (Rep.fl_flat _)), RdO.back_ h.2.1 (by decide), BlkO.back_ h.2.2 (by decide)⟩⟩)))
   refine sF (fun f => ok1 f.1) <| sF (fun f => or_field fo64_0 f.1 (by rfl)) ?_
   refine sc (fun own a wx hf hsl hE => ?_) ?_
   ·obtain ⟨f_33, ⟨⟨⟨A1494, cA1494⟩, ⟨A1495, cA1495⟩⟩, (f_31 : a.eval (.tmp 31) = sl A1494 r1493.1 cA1494), b_A1494, b_A1495, b_g1469⟩, b_g1463, -⟩ := hf
    exact px (or_store1 (lab := 1464) (lab2 := 1498) ts22 f_33 f_31 b_g1463 (by simp) rfl (mem_of rfl) (by decide) rfl (fun own' a' w' ha hb => fun _ _ h0' => by cases (f_31.symm.trans ((ha 31).symm.trans h0')); exact hb))
   exact steps_nil
  intro o1499 a1499 w1499 d1499 z1499 hk1499 hf1499 hE1499
  obtain ⟨e1499_4, e1499_5, e1499_6, e1499_7, e1499_8, e1499_10⟩ := kt6 hk1499 e1487_4 e1487_5 e1487_6 e1487_7 e1487_8 e1487_10
  obtain ⟨⟨⟨⟨A1494, cA1494⟩, ⟨A1495, cA1495⟩⟩, (f_31 : a1499.eval (.tmp 31) = sl A1494 r1493.1 cA1494), (b1499_A1494 : RwO o1499 1496 [] w1499 5 R5 A1494 cA1494 r1493.1), (b1499_A1495 : RdO o1499 [0] w1499 R5 A1495 cA1495 r1493.2.1), (b1499_g1469 : BlkO o1499 1497 w1499 g1469 70 #[sl A1495 r1493.2.1 cA1495, Zi r1493.2.2])⟩, (bq_g1463 : ∀ (A1494 : Option Addr) (cA1494 : Nat), a1499.eval (.tmp 31) = sl A1494 r1493.1 cA1494 → BlkO o1499 1498 w1499 g1463 64 #[sl A1494 r1493.1 cA1494, .slice none 0 0, .slice none 0 0]), -⟩ := hf1499 [2, 5] rfl
  have b1499_g1463 := bq_g1463 _ _ f_31
  have hX1499 := es_ hX1487 hE1499
  have b1499_g1473 := be_ hE1499 b1487_g1473
  have b1499_g1466 := MpO.evo (by decide) hE1499 b1487_g1466
  obtain ⟨r1500, hr1500, hs⟩ := obind hs
  refine rr_seq 146 [Fct.at_ 1497 g1469 70 #[sl A1495 r1493.2.1 cA1495, Zi r1493.2.2]] o1499 [1497] (bz 3) [dv [] [6] 34 (pt g1469 0), ⟨[0, 3], [], [1497], Fct.mems [0, 1502] 35 (fun (x : Option Addr × Nat) => Zi r1500.1) (fun (x : Option Addr × Nat) own w => RdO own [0] w R5 x.1 x.2 r1500.2.1 ∧ BlkO own 1502 w g1469 70 #[.slice x.1 r1500.2.1.length x.2, Zi r1500.2.2]) (fun hk he h => ⟨RdO.evo (hits_sub hk (by decide)) he h.1, BlkO.evo (not_hit hk (by decide)) he h.2⟩)⟩, dv [1] [] 9 (Zi r1500.1)] z1499 d1499 (fm1 b1499_g1469) ?_ ?_
  ·refine sM e1499_6 ?_
   refine sc (fun own a wx hf hsl hE => ?_) ?_
   ·obtain ⟨f_34, b_g1469, -⟩ := hf
    exact px (or_call cf29 (args1 f_34) (pack_reader_count_w _ (forth own (look0 [(0, 2), (1497, 1)])) r1493.2 g1469 70 A1495 cA1495 (look0_le rfl) (BlkO.forth_ (m := (look0 [(0, 2), (1497, 1)])) b_g1469) (RdO.forth_ (m := (look0 [(0, 2), (1497, 1)])) (RdO.evo rfl hE b1499_A1495)) r1500 hr1500) (post_mems (m := (look0 [(0, 2), (1497, 1)])) (m' := (look0 [(1, 1502), (2, 0)])) (hm_of2 rfl) (fun own' w' a' x h1 h => ⟨x, h1, ⟨RdO.back_ h.1 (by decide), BlkO.back_ h.2 (by decide)⟩⟩)))
   refine sc (fun own a wx hf hsl hE => ?_) ?_
   ·obtain ⟨⟨⟨A1501, cA1501⟩, f_35, b_A1501, b_g1469⟩, -⟩ := hf
    exact px (or_assign f_35)
   exact steps_nil
  intro o1503 a1503 w1503 d1503 z1503 hk1503 hf1503 hE1503
  obtain ⟨e1503_4, e1503_5, e1503_6, e1503_7, e1503_8, e1503_10⟩ := kt6 hk1503 e1499_4 e1499_5 e1499_6 e1499_7 e1499_8 e1499_10
  have e1503_9 := gv (hf1503 [2] rfl) rfl
  obtain ⟨⟨⟨A1501, cA1501⟩, (f_35 : a1503.eval (.tmp 35) = Zi r1500.1), (b1503_A1501 : RdO o1503 [0] w1503 R5 A1501 cA1501 r1500.2.1), (b1503_g1469 : BlkO o1503 1502 w1503 g1469 70 #[sl A1501 r1500.2.1 cA1501, Zi r1500.2.2])⟩, -⟩ := hf1503 [1] rfl
  have hX1503 := es_ hX1499 hE1503
  obtain ⟨b1503_g1473, b1503_g1463⟩ := be2 hE1503 b1499_g1473 b1499_g1463
  have b1503_g1466 := MpO.evo (by decide) hE1503 b1499_g1466
  have b1503_A1494 := re_ hE1503 b1499_A1494
  refine fl_seq (fun Q1504 hn1504 hp1504 => ?_)
  refine fl_label ?_
  refine hn1504 _ _ ?_
  refine fl_seq (fun Q1505 hn1505 hp1505 => ?_)
  obtain ⟨x1506, hx1506, hs⟩ := obind hs
  refine rq_seq 146 o1503 [0, 0, 3, 7, 15, 31, 63, 127, 255, 511] [dv [] [8] 36 (Zi 0), dv [] [9] 37 (Zi r1500.1), dv [0, 1] [] 38 (.bool (decide (0 < r1500.1))), dv [2] [] 39 (.bool (decide (0 < r1500.1))), dc [3] [6] (decide (0 < r1500.1)) 40 (pt g1469 0), dc [3, 4] [] (decide (0 < r1500.1)) 41 (pt g1469 0), dc [3, 5] [] (decide (0 < r1500.1)) 42 (pt g1469 1), dc [3, 6] [] (decide (0 < r1500.1)) 43 (Zi r1500.2.2), dc [3, 7] [] (decide (0 < r1500.1)) 44 (.bool (decide (r1500.2.2 = 0))), dv [3, 8] [] 45 (.bool x1506)] z1503 d1503 ?_ ?_
  ·exact sM e1503_8 <| sM e1503_9 <| sF (fun f => or_lss f.1 f.2.1 rfl) <| sV <| cT (fun _ s _ _ => or_move (s.1.trans e1503_6)) <| cT (fun f _ _ hg => ok1 (f.2.1.1 hg)) <| cT (fun f _ _ hg => or_field fo70_1 (f.2.1.1 hg) (by rfl)) <| cT (fun f _ hE hg => ld1 to31 (f.2.1.1 hg) (be_ hE b1503_g1469)) <| cT (fun f _ _ hg => or_eql (f.2.1.1 hg) rfl rfl) <| sF (fun f => or_and f.1 (fun hx => f.2.1.1 hx) rfl (osome hx1506).symm) <| steps_nil
  intro o1507 a1507 w1507 d1507 z1507 hk1507 hf1507 hE1507
  obtain ⟨e1507_4, e1507_5, e1507_6, e1507_7, e1507_8, e1507_9, e1507_10⟩ := kt7 hk1507 e1503_4 e1503_5 e1503_6 e1503_7 e1503_8 e1503_9 e1503_10
  have e1507_45 := gv (hf1507 [9] rfl) rfl
  have hX1507 := es_ hX1503 hE1507
  obtain ⟨b1507_g1473, b1507_g1463, b1507_g1469⟩ := be3 hE1507 b1503_g1473 b1503_g1463 b1503_g1469
  have b1507_g1466 := MpO.evo (by decide) hE1507 b1503_g1466
  have b1507_A1494 := re_ hE1507 b1503_A1494
  have b1507_A1501 := RdO.evo rfl hE1507 b1503_A1501
  refine fl_cond e1507_45 hs (fun c1508 hs => ?_) (fun c1508 hs => ?_)
  ·obtain ⟨r1509, hr1509, hs⟩ := obind hs
   refine rr_seq 146 [Fct.at_ 1502 g1469 70 #[sl A1501 r1500.2.1 cA1501, Zi r1500.2.2]] o1507 [1502] (bz 3) [dv [] [6] 46 (pt g1469 0), ⟨[0, 3], [], [1502], Fct.mems [1512, 0, 1513] 47 (fun (x : (Option Addr × Nat) × (Option Addr × Nat)) => .slice x.1.1 r1509.1.length x.1.2) (fun (x : (Option Addr × Nat) × (Option Addr × Nat)) own w => RwO own 1512 [] w 5 R5 x.1.1 x.1.2 r1509.1 ∧ RdO own [0] w R5 x.2.1 x.2.2 r1509.2.1 ∧ BlkO own 1513 w g1469 70 #[.slice x.2.1 r1509.2.1.length x.2.2, Zi r1509.2.2]) (fun hk he h => ⟨RwO.evo (hits_sub hk (by decide)) he h.1, RdO.evo (hits_sub hk (by decide)) he h.2.1, BlkO.evo (not_hit hk (by decide)) he h.2.2⟩)⟩, ⟨[1], [], [], Fct.rel [11, 47] (fun l => ∀ (A1510 : Option Addr) (cA1510 : Nat), l.getD 1 undef = sl A1510 r1509.1 cA1510 → l.getD 0 undef = sl A1510 r1509.1 cA1510)⟩] z1507 d1507 (fm1 b1507_g1469) ?_ ?_
   ·refine sM e1507_6 ?_
    refine sc (fun own a wx hf hsl hE => ?_) ?_
    ·obtain ⟨f_46, b_g1469, -⟩ := hf
     exact px (or_call cf28 (args1 f_46) (pack_reader_whole_w _ (forth own (look0 [(0, 2), (1502, 1)])) r1500.2 g1469 70 A1501 cA1501 (look0_le rfl) (BlkO.forth_ (m := (look0 [(0, 2), (1502, 1)])) b_g1469) (RdO.forth_ (m := (look0 [(0, 2), (1502, 1)])) (RdO.evo rfl hE b1507_A1501)) r1509 hr1509) (post_mems (m := (look0 [(0, 2), (1502, 1)])) (m' := (look0 [(1, 1513), (2, 0), (3, 1512)])) (hm_of2 rfl) (fun own' w' a' x h1 h => ⟨x, h1, ⟨RwO.back_ h.1 (by decide) (.inl (Rep.fl_flat _)), RdO.back_ h.2.1 (by decide), BlkO.back_ h.2.2 (by decide)⟩⟩)))
    refine sc (fun own a wx hf hsl hE => ?_) ?_
    ·obtain ⟨⟨⟨⟨A1510, cA1510⟩, ⟨A1511, cA1511⟩⟩, (f_47 : a.eval (.tmp 47) = sl A1510 r1509.1 cA1510), b_A1510, b_A1511, b_g1469⟩, -⟩ := hf
     exact px (or_mono (f := Fct.val 11 (sl A1510 r1509.1 cA1510)) (or_assign f_47) (fun own' a' w' v' hp h => fun _ _ h0' => by cases (f_47.symm.trans ((hp.2 47 (by decide)).symm.trans h0')); exact h))
    exact steps_nil
   intro o1514 a1514 w1514 d1514 z1514 hk1514 hf1514 hE1514
   obtain ⟨e1514_4, e1514_5, e1514_6, e1514_7, e1514_8, e1514_9, e1514_10⟩ := kt7 hk1514 e1507_4 e1507_5 e1507_6 e1507_7 e1507_8 e1507_9 e1507_10
   obtain ⟨⟨⟨⟨A1510, cA1510⟩, ⟨A1511, cA1511⟩⟩, (f_47 : a1514.eval (.tmp 47) = sl A1510 r1509.1 cA1510), (b1514_A1510 : RwO o1514 1512 [] w1514 5 R5 A1510 cA1510 r1509.1), (b1514_A1511 : RdO o1514 [0] w1514 R5 A1511 cA1511 r1509.2.1), (b1514_g1469 : BlkO o1514 1513 w1514 g1469 70 #[sl A1511 r1509.2.1 cA1511, Zi r1509.2.2])⟩, (q_11 : ∀ (A1510 : Option Addr) (cA1510 : Nat), a1514.eval (.tmp 47) = sl A1510 r1509.1 cA1510 → a1514.eval (.tmp 11) = sl A1510 r1509.1 cA1510), -⟩ := hf1514 [1, 2] rfl
   have e1514_11 := q_11 _ _ f_47
   have hX1514 := es_ hX1507 hE1514
   obtain ⟨b1514_g1473, b1514_g1463⟩ := be2 hE1514 b1507_g1473 b1507_g1463
   have b1514_g1466 := MpO.evo (by decide) hE1514 b1507_g1466
   have b1514_A1494 := re_ hE1514 b1507_A1494
   refine fl_seq (fun Q1515 hn1515 hp1515 => ?_)
   have K1523 : ∀ (a1523 : Act) (w1523 : World) (o1523 : Own) (r1522 : Int), a1523.defers = [] → a1523.tmps.size = 146 → a1523.eval (.tmp 4) = pt g1463 0 → a1523.eval (.tmp 5) = .map (some g1466) → a1523.eval (.tmp 6) = pt g1469 0 → a1523.eval (.tmp 7) = Zi 0 → a1523.eval (.tmp 8) = Zi 0 → a1523.eval (.tmp 9) = Zi r1500.1 → a1523.eval (.tmp 10) = pt g1473 0 → a1523.eval (.tmp 11) = sl A1510 r1509.1 cA1510 → Evo [] (fun _ => 0) o1523 w w1523 → BlkO o1523 1498 w1523 g1463 64 #[sl A1494 r1493.1 cA1494, .slice none 0 0, .slice none 0 0] → RwO o1523 1496 [] w1523 5 R5 A1494 cA1494 r1493.1 → MpO o1523 1467 w1523 g1466 vv9 vv4 ([] : List (ByteArray × Bool)) → BlkO o1523 1521 w1523 g1469 70 #[sl A1511 r1509.2.1 cA1511, Zi r1522] → RdO o1523 [0] w1523 R5 A1511 cA1511 r1509.2.1 → BlkO o1523 1475 w1523 g1473 28 #[Zi 0, Zi 0, Zi 0] → RwO o1523 1512 [] w1523 5 R5 A1510 cA1510 r1509.1 → pack_Open_k3 r1493 r1500 r1509 r1522 = some r → Q1515 .normal a1523 w1523 := by
    intro a1523 w1523 o1523 r1522 d1524 z1524 e1524_4 e1524_5 e1524_6 e1524_7 e1524_8 e1524_9 e1524_10 e1524_11 hE1524 b1524_g1463 b1524_A1494 b1524_g1466 b1524_g1469 b1524_A1511 b1524_g1473 b1524_A1510 hs
    refine hn1515 _ _ ?_
    obtain ⟨D1525, hD1525, hs⟩ := obind hs
    refine rr_seq 146 [Fct.mapAt 1467 g1466 vv9 vv4 ([] : List (ByteArray × Bool))] o1523 [1467] [0, 0, 2, 7] [dv [] [5] 62 (.map (some g1466)), dv [] [11] 63 (sl A1510 r1509.1 cA1510), dv [1] [] 64 (.string (bsS r1509.1)), ⟨[0, 2, 4], [], [1467], Fct.mapAt 1526 g1466 vv9 vv4 D1525⟩] z1524 d1524 (fm1 b1524_g1466) ?_ ?_
    ·refine sM e1524_5 <| sM e1524_11 <| sFE (fun f hE => or_convBS tu22 tn5 tS9 f.1 (RwO.rd (re_ hE b1524_A1510))) ?_
     refine sc (fun own a wx hf hsl hE => ?_) ?_
     ·obtain ⟨f_62, f_64, b_g1466, -⟩ := hf
      exact px (or_mapUpdate (kf := vv9) (vf := vv4) (k := (bsS r1509.1)) (v := true) (lab := 1467) (lab2 := 1526) ko9 tm67 f_62 f_64 rfl b_g1466 (osome hD1525).symm (mem_of rfl) (by decide) (fun own' a' w' hb => hb))
     exact steps_nil
    intro o1527 a1527 w1527 d1527 z1527 hk1527 hf1527 hE1527
    obtain ⟨e1527_4, e1527_5, e1527_6, e1527_7, e1527_8, e1527_9, e1527_10, e1527_11⟩ := kt8 hk1527 e1524_4 e1524_5 e1524_6 e1524_7 e1524_8 e1524_9 e1524_10 e1524_11
    obtain ⟨(b1527_g1466 : MpO o1527 1526 w1527 g1466 vv9 vv4 D1525), -⟩ := hf1527 [3] rfl
    have hX1527 := es_ hE1524 hE1527
    obtain ⟨b1527_g1463, b1527_g1469, b1527_g1473⟩ := be3 hE1527 b1524_g1463 b1524_g1469 b1524_g1473
    have b1527_A1494 := re_ hE1527 b1524_A1494
    have b1527_A1511 := RdO.evo rfl hE1527 b1524_A1511
    have b1527_A1510 := re_ hE1527 b1524_A1510
    obtain ⟨x1544, hx1544, hs⟩ := obind hs
    refine rr_seq 146 [Fct.rowAt 1512 [] 5 R5 A1510 cA1510 r1509.1, Fct.at_ 1498 g1463 64 #[sl A1494 r1493.1 cA1494, .slice none 0 0, .slice none 0 0]] o1527 [1542, 1543, 1512, 1498] [0, 0, 2, 6, 14, 0, 32, 126, 255, 511, 1023] [dv [] [4] 65 (pt g1463 0), dv [] [4] 66 (pt g1463 0), dv [1] [] 67 (pt g1463 0), dv [2] [] 68 (pt g1463 1), dv [3, 12] [] 69 (.slice none 0 0), dv [] [11] 70 (sl A1510 r1509.1 cA1510), ⟨[5, 11], [], [], Fct.rown 1541 1512 [] 71 22 5 R5 [r1509.1]⟩, ⟨[4, 6], [], [1542, 1543, 1512], Fct.rown 1545 1546 [] 72 22 5 R5 x1544⟩, dv [0] [] 73 (pt g1463 0), dv [8] [] 74 (pt g1463 1), ⟨[9, 7, 12], [], [1498], Fct.by_ [1548] [72] (fun l own w => ∀ (A1547 : Option Addr) (cA1547 : Nat), l.getD 0 undef = sl A1547 x1544 cA1547 → BlkO own 1548 w g1463 64 #[sl A1494 r1493.1 cA1494, sl A1547 x1544 cA1547, .slice none 0 0]) (fun hk he h _ _ h0' => BlkO.evo (not_hit hk (by decide)) he (h _ _ h0'))⟩] z1527 d1527 (fm2 b1527_A1510 b1527_g1463) ?_ ?_
    ·refine sM e1527_4 <| sM e1527_4 <| sF (fun f => ok1 f.1) <| sF (fun f => or_field fo64_1 f.1 (by rfl)) ?_
     refine sc (fun own a wx hf hsl hE => ?_) ?_
     ·obtain ⟨f_68, (b_g1463 : BlkO own 1498 wx g1463 64 #[sl A1494 r1493.1 cA1494, .slice none 0 0, .slice none 0 0]), -⟩ := hf
      exact px (ld1 to61 f_68 b_g1463)
     refine sM e1527_11 ?_
     refine sc (fun own a wx hf hsl hE => ?_) ?_
     ·obtain ⟨f_70, b_A1510, -⟩ := hf
      exact px (or_litO (R := R5) (lab := 1541) (labE := 1512) (L := []) (e := 22) (e2 := 5) (xl := r1509.1) [(70, sl A1510 r1509.1 cA1510)] rfl rfl ⟨f_70, trivial⟩ (by kernel_rfl) rfl b_A1510 rfl)
     refine sc (fun own a wx hf hsl hE => ?_) ?_
     ·obtain ⟨(f_69 : a.eval (.tmp 69) = .slice none 0 0), ⟨⟨A1540, cA1540⟩, f_71, b_A1540⟩, -⟩ := hf
      exact px (or_appendO (R := R5) (lab := 1542) (labE := 1543) (lab2 := 1545) (lab3 := 1546) (L := []) (L3 := []) tp61 f_69 RwN.nil_ f_71 b_A1540 hx1544 (by decide) (by decide) (mem_of rfl) (mem_of rfl) (mem_of rfl) (by decide) (by decide) (by decide) (by decide) (by decide) (by decide) (by decide) rfl (by decide) (by decide))
     refine sF (fun f => ok1 f.1) <| sF (fun f => or_field fo64_1 f.1 (by rfl)) ?_
     refine sc (fun own a wx hf hsl hE => ?_) ?_
     ·obtain ⟨f_74, ⟨⟨A1547, cA1547⟩, (f_72 : a.eval (.tmp 72) = sl A1547 x1544 cA1547), b_A1547⟩, b_g1463, -⟩ := hf
      exact px (or_store1 (lab := 1498) (lab2 := 1548) ts61 f_74 f_72 b_g1463 (by simp) rfl (mem_of rfl) (by decide) rfl (fun own' a' w' ha hb => fun _ _ h0' => by cases (f_72.symm.trans ((ha 72).symm.trans h0')); exact hb))
     exact steps_nil
    intro o1549 a1549 w1549 d1549 z1549 hk1549 hf1549 hE1549
    obtain ⟨e1549_4, e1549_5, e1549_6, e1549_7, e1549_8, e1549_9, e1549_10⟩ := kt7 hk1549 e1527_4 e1527_5 e1527_6 e1527_7 e1527_8 e1527_9 e1527_10
    obtain ⟨⟨⟨A1547, cA1547⟩, (f_72 : a1549.eval (.tmp 72) = sl A1547 x1544 cA1547), (b1549_A1547 : RwN o1549 1545 1546 [] w1549 22 5 R5 A1547 cA1547 x1544)⟩, (bq_g1463 : ∀ (A1547 : Option Addr) (cA1547 : Nat), a1549.eval (.tmp 72) = sl A1547 x1544 cA1547 → BlkO o1549 1548 w1549 g1463 64 #[sl A1494 r1493.1 cA1494, sl A1547 x1544 cA1547, .slice none 0 0]), -⟩ := hf1549 [7, 10] rfl
    have b1549_g1463 := bq_g1463 _ _ f_72
    have hX1549 := es_ hX1527 hE1549
    obtain ⟨b1549_g1469, b1549_g1473⟩ := be2 hE1549 b1527_g1469 b1527_g1473
    have b1549_A1494 := re_ hE1549 b1527_A1494
    have b1549_A1511 := RdO.evo rfl hE1549 b1527_A1511
    have b1549_g1466 := MpO.evo (by decide) hE1549 b1527_g1466
    refine rq_seq 146 o1549 (bz 3) [dv [] [8] 75 (Zi 0), dv [0] [] 76 (Zi 1), dv [1] [] 8 (Zi 1)] z1549 d1549 ?_ ?_
    ·exact sM e1549_8 <| sF (fun f => or_add f.1 rfl (by decide)) <| sA <| steps_nil
    intro o1550 a1550 w1550 d1550 z1550 hk1550 hf1550 hE1550
    obtain ⟨e1550_4, e1550_5, e1550_6, e1550_7, e1550_9, e1550_10⟩ := kt6 hk1550 e1549_4 e1549_5 e1549_6 e1549_7 e1549_9 e1549_10
    have e1550_8 := gv (hf1550 [2] rfl) rfl
    have hX1550 := es_ hX1549 hE1550
    obtain ⟨b1550_g1469, b1550_g1473, b1550_g1463⟩ := be3 hE1550 b1549_g1469 b1549_g1473 b1549_g1463
    have b1550_A1494 := re_ hE1550 b1549_A1494
    have b1550_A1511 := RdO.evo rfl hE1550 b1549_A1511
    have b1550_g1466 := MpO.evo (by decide) hE1550 b1549_g1466
    have b1550_A1547 := RwN.evo rfl hE1550 b1549_A1547
    refine fl_goto ?_
    refine hp1505 _ _ _ rfl ?_
    exact hj1316 (Sum.inl (r1493.1, x1544, D1525, r1509.2.1, r1522, 1, r1500.1)) _ _ (show loopO _ _ = _ from hs) ⟨(rl [(1475, 820), (1496, 841), (1521, 1138), (1526, 1135), (1545, 1132), (1546, 1133), (1548, 1125)] o1550), g1463, A1494, cA1494, A1547, cA1547, g1466, g1469, A1511, cA1511, g1473, d1550, z1550, e1550_4, e1550_5, e1550_6, e1550_7, e1550_8, e1550_9, e1550_10, (Evo.rl_ hX1550 (fun _ => Nat.le_refl 0) rfl), (BlkO.rl_ b1550_g1463), (RwO.rl_ b1550_A1494), (RwN.rl_ b1550_A1547), (MpO.rl_ b1550_g1466), (BlkO.rl_ b1550_g1469), (RdO.rl_ b1550_A1511), (BlkO.rl_ b1550_g1473)⟩
   obtain ⟨x1551, hx1551, hs⟩ := obind hs
   refine rq_seq 146 o1514 [0, 1, 3, 7, 15, 31, 63, 63, 191, 511, 1023] [dv [] [6] 48 (pt g1469 0), dv [0] [] 49 (pt g1469 0), dv [1] [] 50 (pt g1469 1), dv [2] [] 51 (Zi r1509.2.2), dv [3] [] 52 (.bool (decide (r1509.2.2 = 0))), dv [4] [] 53 (.bool (decide (r1509.2.2 = 0))), dc [5] [5] (decide (r1509.2.2 = 0)) 54 (.map (some g1466)), dc [5] [11] (decide (r1509.2.2 = 0)) 55 (sl A1510 r1509.1 cA1510), dc [5, 7] [] (decide (r1509.2.2 = 0)) 56 (.string (bsS r1509.1)), dc [5, 6, 8] [] (decide (r1509.2.2 = 0)) 57 (.bool x1551), dv [5, 9] [] 58 (.bool ((decide (r1509.2.2 = 0)) && x1551))] z1514 d1514 ?_ ?_
   ·exact sM e1514_6 <| sF (fun f => ok1 f.1) <| sF (fun f => or_field fo70_1 f.1 (by rfl)) <| sG to31 b1514_g1469 <| sF (fun f => or_eql f.1 rfl rfl) <| sV <| cT (fun _ s _ _ => or_move (s.1.trans e1514_5)) <| cT (fun _ s _ _ => or_move (s.1.trans e1514_11)) <| cT (fun f _ hE hg => or_convBS tu22 tn5 tS9 (f.2.1.1 hg) (RwO.rd (re_ hE b1514_A1510))) <| cT (fun f _ hE hg => or_lookupE (kf := vv9) (vf := vv4) (k := (bsS r1509.1)) (dv := false) ko9 tm67 tzv67 (f.2.1.1 hg) (f.2.2.1.1 hg) (MpO.evo (by decide) hE b1514_g1466) (osome hx1551).symm) <| sF (fun f => or_and f.1 (fun hx => f.2.1.1 hx) rfl rfl) <| steps_nil
   intro o1552 a1552 w1552 d1552 z1552 hk1552 hf1552 hE1552
   obtain ⟨e1552_4, e1552_5, e1552_6, e1552_7, e1552_8, e1552_9, e1552_10, e1552_11⟩ := kt8 hk1552 e1514_4 e1514_5 e1514_6 e1514_7 e1514_8 e1514_9 e1514_10 e1514_11
   have e1552_58 := gv (hf1552 [10] rfl) rfl
   have hX1552 := es_ hX1514 hE1552
   obtain ⟨b1552_g1473, b1552_g1463, b1552_g1469⟩ := be3 hE1552 b1514_g1473 b1514_g1463 b1514_g1469
   have b1552_g1466 := MpO.evo (by decide) hE1552 b1514_g1466
   have b1552_A1494 := re_ hE1552 b1514_A1494
   have b1552_A1510 := re_ hE1552 b1514_A1510
   have b1552_A1511 := RdO.evo rfl hE1552 b1514_A1511
   refine fl_cond e1552_58 hs (fun c1553 hs => ?_) (fun c1553 hs => ?_)
   ·refine rr 146 [Fct.at_ 1513 g1469 70 #[sl A1511 r1509.2.1 cA1511, Zi r1509.2.2]] o1552 [1513] (bz 4) [dv [] [6] 59 (pt g1469 0), dv [0] [] 60 (pt g1469 0), dv [1] [] 61 (pt g1469 1), ⟨[2, 4], [], [1513], Fct.at_ 1554 g1469 70 #[sl A1511 r1509.2.1 cA1511, Zi 8]⟩] z1552 d1552 (fm1 b1552_g1469) ?_ ?_
    ·refine sM e1552_6 <| sF (fun f => ok1 f.1) <| sF (fun f => or_field fo70_1 f.1 (by rfl)) ?_
     refine sc (fun own a wx hf hsl hE => ?_) ?_
     ·obtain ⟨f_61, b_g1469, -⟩ := hf
      exact px (or_store1 (lab := 1513) (lab2 := 1554) ts31 f_61 rfl b_g1469 (by simp) rfl (mem_of rfl) (by decide) rfl (fun own' a' w' ha hb => hb))
     exact steps_nil
    intro o1555 a1555 w1555 d1555 z1555 hk1555 hf1555 hE1555
    obtain ⟨e1555_4, e1555_5, e1555_6, e1555_7, e1555_8, e1555_9, e1555_10, e1555_11⟩ := kt8 hk1555 e1552_4 e1552_5 e1552_6 e1552_7 e1552_8 e1552_9 e1552_10 e1552_11
    obtain ⟨(b1555_g1469 : BlkO o1555 1554 w1555 g1469 70 #[sl A1511 r1509.2.1 cA1511, Zi 8]), -⟩ := hf1555 [3] rfl
    have hX1555 := es_ hX1552 hE1555
    obtain ⟨b1555_g1473, b1555_g1463⟩ := be2 hE1555 b1552_g1473 b1552_g1463
    have b1555_g1466 := MpO.evo (by decide) hE1555 b1552_g1466
    have b1555_A1494 := re_ hE1555 b1552_A1494
    have b1555_A1510 := re_ hE1555 b1552_A1510
    have b1555_A1511 := RdO.evo rfl hE1555 b1552_A1511
    exact (K1523 _ _ (rl [(1554, 1521)] o1555) _ d1555 z1555 e1555_4 e1555_5 e1555_6 e1555_7 e1555_8 e1555_9 e1555_10 e1555_11 (Evo.rl_ hX1555 (fun _ => Nat.le_refl 0) rfl) (BlkO.rl_ b1555_g1463) (RwO.rl_ b1555_A1494) (MpO.rl_ b1555_g1466) (BlkO.rl_ b1555_g1469) (RdO.rl_ b1555_A1511) (BlkO.rl_ b1555_g1473) (RwO.rl_ b1555_A1510) hs)
   refine fl_skip ?_
   exact (K1523 _ _ (rl [(1513, 1521)] o1552) _ d1552 z1552 e1552_4 e1552_5 e1552_6 e1552_7 e1552_8 e1552_9 e1552_10 e1552_11 (Evo.rl_ hX1552 (fun _ => Nat.le_refl 0) rfl) (BlkO.rl_ b1552_g1463) (RwO.rl_ b1552_A1494) (MpO.rl_ b1552_g1466) (BlkO.rl_ b1552_g1469) (RdO.rl_ b1552_A1511) (BlkO.rl_ b1552_g1473) (RwO.rl_ b1552_A1510) hs)
  refine fl_skip ?_
  refine hn1505 _ _ ?_
  obtain ⟨r1556, hr1556, hs⟩ := obind hs
  refine rr_seq 146 [Fct.at_ 1502 g1469 70 #[sl A1501 r1500.2.1 cA1501, Zi r1500.2.2]] o1507 [1502] (bz 4) [dv [] [6] 77 (pt g1469 0), ⟨[0, 4], [], [1502], Fct.mems [0, 1558] 78 (fun (x : Option Addr × Nat) => Zi r1556.1) (fun (x : Option Addr × Nat) own w => RdO own [0] w R5 x.1 x.2 r1556.2.1 ∧ BlkO own 1558 w g1469 70 #[.slice x.1 r1556.2.1.length x.2, Zi r1556.2.2]) (fun hk he h => ⟨RdO.evo (hits_sub hk (by decide)) he h.1, BlkO.evo (not_hit hk (by decide)) he h.2⟩)⟩, dv [] [] 8 (Zi 0), dv [1] [] 9 (Zi r1556.1)] z1507 d1507 (fm1 b1507_g1469) ?_ ?_
  ·refine sM e1507_6 ?_
   refine sc (fun own a wx hf hsl hE => ?_) ?_
   ·obtain ⟨f_77, b_g1469, -⟩ := hf
    exact px (or_call cf29 (args1 f_77) (pack_reader_count_w _ (forth own (look0 [(0, 2), (1502, 1)])) r1500.2 g1469 70 A1501 cA1501 (look0_le rfl) (BlkO.forth_ (m := (look0 [(0, 2), (1502, 1)])) b_g1469) (RdO.forth_ (m := (look0 [(0, 2), (1502, 1)])) (RdO.evo rfl hE b1507_A1501)) r1556 hr1556) (post_mems (m := (look0 [(0, 2), (1502, 1)])) (m' := (look0 [(1, 1558), (2, 0)])) (hm_of2 rfl) (fun own' w' a' x h1 h => ⟨x, h1, ⟨RdO.back_ h.1 (by decide), BlkO.back_ h.2 (by decide)⟩⟩)))
   refine sO (or_assign rfl) ?_
   refine sc (fun own a wx hf hsl hE => ?_) ?_
   ·obtain ⟨⟨⟨A1557, cA1557⟩, f_78, b_A1557, b_g1469⟩, -⟩ := hf
    exact px (or_assign f_78)
   exact steps_nil
  intro o1559 a1559 w1559 d1559 z1559 hk1559 hf1559 hE1559
  obtain ⟨e1559_4, e1559_6, e1559_7, e1559_10⟩ := kt4 hk1559 e1507_4 e1507_6 e1507_7 e1507_10
  have e1559_8 := gv (hf1559 [2] rfl) rfl
  have e1559_9 := gv (hf1559 [3] rfl) rfl
  obtain ⟨⟨⟨A1557, cA1557⟩, (f_78 : a1559.eval (.tmp 78) = Zi r1556.1), (b1559_A1557 : RdO o1559 [0] w1559 R5 A1557 cA1557 r1556.2.1), (b1559_g1469 : BlkO o1559 1558 w1559 g1469 70 #[sl A1557 r1556.2.1 cA1557, Zi r1556.2.2])⟩, -⟩ := hf1559 [1] rfl
  have hX1559 := es_ hX1507 hE1559
  obtain ⟨b1559_g1473, b1559_g1463⟩ := be2 hE1559 b1507_g1473 b1507_g1463
  have b1559_A1494 := re_ hE1559 b1507_A1494
  refine fl_seq (fun Q1560 hn1560 hp1560 => ?_)
  refine fl_label ?_
  refine hn1560 _ _ ?_
  refine fl_seq (fun Q1561 hn1561 hp1561 => ?_)
  obtain ⟨x1562, hx1562, hs⟩ := obind hs
  refine rq_seq 146 o1559 [0, 0, 3, 7, 15, 31, 63, 127, 255, 511] [dv [] [8] 79 (Zi 0), dv [] [9] 80 (Zi r1556.1), dv [0, 1] [] 81 (.bool (decide (0 < r1556.1))), dv [2] [] 82 (.bool (decide (0 < r1556.1))), dc [3] [6] (decide (0 < r1556.1)) 83 (pt g1469 0), dc [3, 4] [] (decide (0 < r1556.1)) 84 (pt g1469 0), dc [3, 5] [] (decide (0 < r1556.1)) 85 (pt g1469 1), dc [3, 6] [] (decide (0 < r1556.1)) 86 (Zi r1556.2.2), dc [3, 7] [] (decide (0 < r1556.1)) 87 (.bool (decide (r1556.2.2 = 0))), dv [3, 8] [] 88 (.bool x1562)] z1559 d1559 ?_ ?_
  ·exact sM e1559_8 <| sM e1559_9 <| sF (fun f => or_lss f.1 f.2.1 rfl) <| sV <| cT (fun _ s _ _ => or_move (s.1.trans e1559_6)) <| cT (fun f _ _ hg => ok1 (f.2.1.1 hg)) <| cT (fun f _ _ hg => or_field fo70_1 (f.2.1.1 hg) (by rfl)) <| cT (fun f _ hE hg => ld1 to31 (f.2.1.1 hg) (be_ hE b1559_g1469)) <| cT (fun f _ _ hg => or_eql (f.2.1.1 hg) rfl rfl) <| sF (fun f => or_and f.1 (fun hx => f.2.1.1 hx) rfl (osome hx1562).symm) <| steps_nil
  intro o1563 a1563 w1563 d1563 z1563 hk1563 hf1563 hE1563
  obtain ⟨e1563_4, e1563_6, e1563_7, e1563_8, e1563_9, e1563_10⟩ := kt6 hk1563 e1559_4 e1559_6 e1559_7 e1559_8 e1559_9 e1559_10
  have e1563_88 := gv (hf1563 [9] rfl) rfl
  have hX1563 := es_ hX1559 hE1563
  obtain ⟨b1563_g1473, b1563_g1463, b1563_g1469⟩ := be3 hE1563 b1559_g1473 b1559_g1463 b1559_g1469
  have b1563_A1494 := re_ hE1563 b1559_A1494
  have b1563_A1557 := RdO.evo rfl hE1563 b1559_A1557
  refine fl_cond e1563_88 hs (fun c1564 hs => ?_) (fun c1564 hs => ?_)
  ·obtain ⟨r1568, hr1568, hs⟩ := obind hs
   refine rr_seq 146 [Fct.at_ 1558 g1469 70 #[sl A1557 r1556.2.1 cA1557, Zi r1556.2.2], Fct.at_ 1475 g1473 28 #[Zi 0, Zi 0, Zi 0]] o1563 [1558, 1475] [0, 0, 0, 4, 15, 31] [dv [] [6] 89 (pt g1469 0), dv [7] [10] 90 (.agg #[Zi 0, Zi 0, Zi 0]), dv [] [8] 91 (Zi 0), dv [2] [] 92 (.bool true), ⟨[0, 1, 3, 6], [], [1558], Fct.mems [0, 1570] 93 (fun (x : Option Addr × Nat) => .agg #[Zi r1568.1.1, Zi r1568.1.2.1, Zi r1568.1.2.2]) (fun (x : Option Addr × Nat) own w => RdO own [0] w R5 x.1 x.2 r1568.2.1 ∧ BlkO own 1570 w g1469 70 #[.slice x.1 r1568.2.1.length x.2, Zi r1568.2.2]) (fun hk he h => ⟨RdO.evo (hits_sub hk (by decide)) he h.1, BlkO.evo (not_hit hk (by decide)) he h.2⟩)⟩, ⟨[4, 7], [10], [1475], Fct.at_ 1571 g1473 28 #[Zi r1568.1.1, Zi r1568.1.2.1, Zi r1568.1.2.2]⟩] z1563 d1563 (fm2 b1563_g1469 b1563_g1473) ?_ ?_
   ·refine sM e1563_6 ?_
    refine sc (fun own a wx hf hsl hE => ?_) ?_
    ·obtain ⟨(b_g1473 : BlkO own 1475 wx g1473 28 #[Zi 0, Zi 0, Zi 0]), -⟩ := hf
     obtain ⟨s_10, -⟩ := hsl
     exact px (ldS ta28 (s_10.trans e1563_10) b_g1473)
    refine sM e1563_8 <| sF (fun f => or_eql f.1 rfl (by decide)) ?_
    refine sc (fun own a wx hf hsl hE => ?_) ?_
    ·obtain ⟨f_89, f_90, f_92, b_g1469, -⟩ := hf
     exact px (or_call cf30 (args3 f_89 f_90 f_92) (pack_reader_tile_w _ (forth own (look0 [(0, 2), (1558, 1)])) r1556.2 g1469 70 A1557 cA1557 (0, 0, 0) true (look0_le rfl) (BlkO.forth_ (m := (look0 [(0, 2), (1558, 1)])) b_g1469) (RdO.forth_ (m := (look0 [(0, 2), (1558, 1)])) (RdO.evo rfl hE b1563_A1557)) r1568 hr1568) (post_mems (m := (look0 [(0, 2), (1558, 1)])) (m' := (look0 [(1, 1570), (2, 0)])) (hm_of2 rfl) (fun own' w' a' x h1 h => ⟨x, h1, ⟨RdO.back_ h.1 (by decide), BlkO.back_ h.2 (by decide)⟩⟩)))
    refine sc (fun own a wx hf hsl hE => ?_) ?_
    ·obtain ⟨⟨⟨A1569, cA1569⟩, f_93, b_A1569, b_g1469⟩, b_g1473, -⟩ := hf
     obtain ⟨s_10, -⟩ := hsl
     exact px (or_store (l := #[Zi r1568.1.1, Zi r1568.1.2.1, Zi r1568.1.2.2]) (lab := 1475) (lab2 := 1571) ts28 (s_10.trans e1563_10) f_93 b_g1473 (by simp) (by kernel_rfl) (mem_of rfl) (by decide) (by kernel_rfl) (fun own' a' w' ha hb => hb))
    exact steps_nil
   intro o1572 a1572 w1572 d1572 z1572 hk1572 hf1572 hE1572
   obtain ⟨e1572_4, e1572_6, e1572_7, e1572_8, e1572_9, e1572_10⟩ := kt6 hk1572 e1563_4 e1563_6 e1563_7 e1563_8 e1563_9 e1563_10
   obtain ⟨⟨⟨A1569, cA1569⟩, (f_93 : a1572.eval (.tmp 93) = .agg #[Zi r1568.1.1, Zi r1568.1.2.1, Zi r1568.1.2.2]), (b1572_A1569 : RdO o1572 [0] w1572 R5 A1569 cA1569 r1568.2.1), (b1572_g1469 : BlkO o1572 1570 w1572 g1469 70 #[sl A1569 r1568.2.1 cA1569, Zi r1568.2.2])⟩, (b1572_g1473 : BlkO o1572 1571 w1572 g1473 28 #[Zi r1568.1.1, Zi r1568.1.2.1, Zi r1568.1.2.2]), -⟩ := hf1572 [4, 5] rfl
   have hX1572 := es_ hX1563 hE1572
   have b1572_g1463 := be_ hE1572 b1563_g1463
   have b1572_A1494 := re_ hE1572 b1563_A1494
   obtain ⟨r1573, hr1573, hs⟩ := obind hs
   refine rr_seq 146 [Fct.at_ 1570 g1469 70 #[sl A1569 r1568.2.1 cA1569, Zi r1568.2.2]] o1572 [1570] [0, 0, 2, 6, 14, 30, 0, 127, 255] [dv [] [6] 94 (pt g1469 0), dv [] [4] 95 (pt g1463 0), dv [1] [] 96 (pt g1463 0), dv [2] [] 97 (pt g1463 1), dv [3] [] 98 (.slice none 0 0), dv [4] [] 99 (Zi 0), dv [] [7] 100 (Zi 0), ⟨[0, 5, 6, 9], [], [1570], Fct.mems [0, 1575] 101 (fun (x : Option Addr × Nat) => Zi r1573.1) (fun (x : Option Addr × Nat) own w => RdO own [0] w R5 x.1 x.2 r1573.2.1 ∧ BlkO own 1575 w g1469 70 #[.slice x.1 r1573.2.1.length x.2, Zi r1573.2.2]) (fun hk he h => ⟨RdO.evo (hits_sub hk (by decide)) he h.1, BlkO.evo (not_hit hk (by decide)) he h.2⟩)⟩, dv [7] [] 12 (Zi r1573.1)] z1572 d1572 (fm1 b1572_g1469) ?_ ?_
   ·refine sM e1572_6 <| sM e1572_4 <| sF (fun f => ok1 f.1) <| sF (fun f => or_field fo64_1 f.1 (by rfl)) <| sG to61 b1572_g1463 <| sF (fun f => or_len tu61 f.1 rfl) <| sM e1572_7 ?_
    refine sc (fun own a wx hf hsl hE => ?_) ?_
    ·obtain ⟨f_94, f_99, f_100, b_g1469, -⟩ := hf
     exact px (or_call cf31 (args3 f_94 f_99 f_100) (pack_reader_blob_w _ (forth own (look0 [(0, 2), (1570, 1)])) r1568.2 g1469 70 A1569 cA1569 0 0 (look0_le rfl) (BlkO.forth_ (m := (look0 [(0, 2), (1570, 1)])) b_g1469) (RdO.forth_ (m := (look0 [(0, 2), (1570, 1)])) (RdO.evo rfl hE b1572_A1569)) r1573 hr1573) (post_mems (m := (look0 [(0, 2), (1570, 1)])) (m' := (look0 [(1, 1575), (2, 0)])) (hm_of2 rfl) (fun own' w' a' x h1 h => ⟨x, h1, ⟨RdO.back_ h.1 (by decide), BlkO.back_ h.2 (by decide)⟩⟩)))
    refine sc (fun own a wx hf hsl hE => ?_) ?_
    ·obtain ⟨⟨⟨A1574, cA1574⟩, f_101, b_A1574, b_g1469⟩, -⟩ := hf
     exact px (or_assign f_101)
    exact steps_nil
   intro o1576 a1576 w1576 d1576 z1576 hk1576 hf1576 hE1576
   obtain ⟨e1576_4, e1576_6, e1576_7, e1576_8, e1576_9, e1576_10⟩ := kt6 hk1576 e1572_4 e1572_6 e1572_7 e1572_8 e1572_9 e1572_10
   have e1576_12 := gv (hf1576 [8] rfl) rfl
   obtain ⟨⟨⟨A1574, cA1574⟩, (f_101 : a1576.eval (.tmp 101) = Zi r1573.1), (b1576_A1574 : RdO o1576 [0] w1576 R5 A1574 cA1574 r1573.2.1), (b1576_g1469 : BlkO o1576 1575 w1576 g1469 70 #[sl A1574 r1573.2.1 cA1574, Zi r1573.2.2])⟩, -⟩ := hf1576 [7] rfl
   have hX1576 := es_ hX1572 hE1576
   obtain ⟨b1576_g1463, b1576_g1473⟩ := be2 hE1576 b1572_g1463 b1572_g1473
   have b1576_A1494 := re_ hE1576 b1572_A1494
   refine rq_seq 146 o1576 [0, 0, 2, 7, 15] [dv [] [7] 102 (Zi 0), dv [] [12] 103 (Zi r1573.1), dv [1] [] 104 (Zi (ad r1573.1 1)), dv [0, 2] [] 105 (Zi (mx 0 (ad r1573.1 1))), dv [3] [] 7 (Zi (mx 0 (ad r1573.1 1)))] z1576 d1576 ?_ ?_
   ·exact sM e1576_7 <| sM e1576_12 <| sF (fun f => or_add f.1 rfl rfl) <| sF (fun f => or_max f.1 f.2.1) <| sA <| steps_nil
   intro o1577 a1577 w1577 d1577 z1577 hk1577 hf1577 hE1577
   obtain ⟨e1577_4, e1577_6, e1577_8, e1577_9, e1577_10, e1577_12⟩ := kt6 hk1577 e1576_4 e1576_6 e1576_8 e1576_9 e1576_10 e1576_12
   have e1577_7 := gv (hf1577 [4] rfl) rfl
   have hX1577 := es_ hX1576 hE1577
   obtain ⟨b1577_g1463, b1577_g1473, b1577_g1469⟩ := be3 hE1577 b1576_g1463 b1576_g1473 b1576_g1469
   have b1577_A1494 := re_ hE1577 b1576_A1494
   have b1577_A1574 := RdO.evo rfl hE1577 b1576_A1574
   obtain ⟨x1587, hx1587, hs⟩ := obind hs
   refine rd_seq g_mixed 146 [Fct.at_ 1498 g1463 64 #[sl A1494 r1493.1 cA1494, .slice none 0 0, .slice none 0 0]] o1577 [1586, 1498] [0, 0, 2, 6, 14, 0, 0, 96, 224, 510, 1023, 2047, 4095] [dv [] [4] 106 (pt g1463 0), dv [] [4] 107 (pt g1463 0), dv [1] [] 108 (pt g1463 0), dv [2] [] 109 (pt g1463 2), dv [3, 13] [] 110 (.slice none 0 0), dv [] [10] 111 (.agg #[Zi r1568.1.1, Zi r1568.1.2.1, Zi r1568.1.2.2]), dv [] [12] 112 (Zi r1573.1), dv [5, 6] [] 113 (.agg #[Zi r1568.1.1, Zi r1568.1.2.1, Zi r1568.1.2.2, Zi r1573.1]), ⟨[7], [], [], Fct.row 1585 [] 114 66 R66 [(r1568.1, r1573.1)]⟩, ⟨[4, 8], [], [1586], Fct.row 1588 [] 115 66 R66 x1587⟩, dv [0] [] 116 (pt g1463 0), dv [10] [] 117 (pt g1463 2), ⟨[11, 9, 13], [], [1498], Fct.by_ [1590] [115] (fun l own w => ∀ (A1589 : Option Addr) (cA1589 : Nat), l.getD 0 undef = sl A1589 x1587 cA1589 → BlkO own 1590 w g1463 64 #[sl A1494 r1493.1 cA1494, .slice none 0 0, sl A1589 x1587 cA1589]) (fun hk he h _ _ h0' => BlkO.evo (not_hit hk (by decide)) he (h _ _ h0'))⟩] z1577 d1577 (fm1 b1577_g1463) ?_ ?_
   ·refine sM e1577_4 <| sM e1577_4 <| sF (fun f => ok1 f.1) <| sF (fun f => or_field fo64_2 f.1 (by rfl)) ?_
    refine sc (fun own a wx hf hsl hE => ?_) ?_
    ·obtain ⟨f_109, (b_g1463 : BlkO own 1498 wx g1463 64 #[sl A1494 r1493.1 cA1494, .slice none 0 0, .slice none 0 0]), -⟩ := hf
     exact px (ld1 to62 f_109 b_g1463)
    refine sL ta28 e1577_10 b1577_g1473 <| sM e1577_12 <| sF (fun f => ok2 f.1 f.2.1) <| sF (fun f => or_lit (lab := 1585) (e := 66) (cs := #[Zi r1568.1.1, Zi r1568.1.2.1, Zi r1568.1.2.2, Zi r1573.1]) (F := E66) (nw1 f.1) rfl rfl (show 1 ≤ maxLen by decide)) ?_
    refine sc (fun own a wx hf hsl hE => ?_) ?_
    ·obtain ⟨(f_110 : a.eval (.tmp 110) = .slice none 0 0), ⟨⟨A1584, cA1584⟩, f_114, b_A1584⟩, -⟩ := hf
     exact px (or_append (R := R66) (lab := 1586) (lab2 := 1588) (L := []) (L3 := []) tp62 f_110 RwO.nil_ (by decide) f_114 (RwO.rd b_A1584) hx1587 (by decide) (by decide) (mem_of rfl) (.inl (Rep.fl_flat _)))
    refine sF (fun f => ok1 f.1) <| sF (fun f => or_field fo64_2 f.1 (by rfl)) ?_
    refine sc (fun own a wx hf hsl hE => ?_) ?_
    ·obtain ⟨f_117, ⟨⟨A1589, cA1589⟩, (f_115 : a.eval (.tmp 115) = sl A1589 x1587 cA1589), b_A1589⟩, b_g1463, -⟩ := hf
     exact px (or_store1 (lab := 1498) (lab2 := 1590) ts62 f_117 f_115 b_g1463 (by simp) rfl (mem_of rfl) (by decide) rfl (fun own' a' w' ha hb => fun _ _ h0' => by cases (f_115.symm.trans ((ha 115).symm.trans h0')); exact hb))
    exact steps_nil
   intro o1591 a1591 w1591 d1591 z1591 hk1591 hf1591 hE1591
   obtain ⟨e1591_4, e1591_6, e1591_7, e1591_8, e1591_9, e1591_10⟩ := kt6 hk1591 e1577_4 e1577_6 e1577_7 e1577_8 e1577_9 e1577_10
   obtain ⟨⟨⟨A1589, cA1589⟩, (f_115 : a1591.eval (.tmp 115) = sl A1589 x1587 cA1589), (b1591_A1589 : RwO o1591 1588 [] w1591 66 R66 A1589 cA1589 x1587)⟩, (bq_g1463 : ∀ (A1589 : Option Addr) (cA1589 : Nat), a1591.eval (.tmp 115) = sl A1589 x1587 cA1589 → BlkO o1591 1590 w1591 g1463 64 #[sl A1494 r1493.1 cA1494, .slice none 0 0, sl A1589 x1587 cA1589]), -⟩ := hf1591 [9, 12] rfl
   have b1591_g1463 := bq_g1463 _ _ f_115
   have hX1591 := es_ hX1577 hE1591
   obtain ⟨b1591_g1473, b1591_g1469⟩ := be2 hE1591 b1577_g1473 b1577_g1469
   have b1591_A1494 := re_ hE1591 b1577_A1494
   have b1591_A1574 := RdO.evo rfl hE1591 b1577_A1574
   refine rq_seq 146 o1591 (bz 3) [dv [] [8] 118 (Zi 0), dv [0] [] 119 (Zi 1), dv [1] [] 8 (Zi 1)] z1591 d1591 ?_ ?_
   ·exact sM e1591_8 <| sF (fun f => or_add f.1 rfl (by decide)) <| sA <| steps_nil
   intro o1592 a1592 w1592 d1592 z1592 hk1592 hf1592 hE1592
   obtain ⟨e1592_4, e1592_6, e1592_7, e1592_9, e1592_10⟩ := kt5 hk1592 e1591_4 e1591_6 e1591_7 e1591_9 e1591_10
   have e1592_8 := gv (hf1592 [2] rfl) rfl
   have hX1592 := es_ hX1591 hE1592
   obtain ⟨b1592_g1473, b1592_g1469, b1592_g1463⟩ := be3 hE1592 b1591_g1473 b1591_g1469 b1591_g1463
   have b1592_A1494 := re_ hE1592 b1591_A1494
   have b1592_A1574 := RdO.evo rfl hE1592 b1591_A1574
   have b1592_A1589 := re_ hE1592 b1591_A1589
   refine fl_goto ?_
   refine hp1561 _ _ _ rfl ?_
   exact hj1316 (Sum.inr (r1493.1, ([] : List (List Int)), x1587, r1573.2.1, r1573.2.2, mx 0 (ad r1573.1 1), 1, r1556.1, r1568.1)) _ _ (show loopO _ _ = _ from hs) ⟨(rl [(1496, 841), (1571, 1170), (1575, 1161), (1588, 1159), (1590, 1147)] o1592), g1463, A1494, cA1494, none, 0, A1589, cA1589, g1469, A1574, cA1574, g1473, d1592, z1592, e1592_4, e1592_6, e1592_7, e1592_8, e1592_9, e1592_10, (Evo.rl_ hX1592 (fun _ => Nat.le_refl 0) rfl), (BlkO.rl_ b1592_g1463), (RwO.rl_ b1592_A1494), RwN.nil_, (RwO.rl_ b1592_A1589), (BlkO.rl_ b1592_g1469), (RdO.rl_ b1592_A1574), (BlkO.rl_ b1592_g1473)⟩
  refine fl_skip ?_
  refine hn1561 _ _ ?_
  refine fl_seq (fun Q1593 hn1593 hp1593 => ?_)
  refine fl_block (fun Q1594 hn1594 hx1594 hp1594 => ?_)
  refine rq_seq 146 o1563 (bz 6) [dv [] [6] 121 (pt g1469 0), dv [0] [] 122 (pt g1469 0), dv [1] [] 123 (pt g1469 1), dv [2] [] 124 (Zi r1556.2.2), dv [3] [] 125 (.bool (!decide (r1556.2.2 = 0))), dv [4] [] 120 (.bool (!decide (r1556.2.2 = 0)))] z1563 d1563 ?_ ?_
  ·exact sM e1563_6 <| sF (fun f => ok1 f.1) <| sF (fun f => or_field fo70_1 f.1 (by rfl)) <| sG to31 b1563_g1469 <| sF (fun f => or_neq f.1 rfl rfl) <| sA <| steps_nil
  intro o1595 a1595 w1595 d1595 z1595 hk1595 hf1595 hE1595
  obtain ⟨e1595_4, e1595_6, e1595_7⟩ := kt3 hk1595 e1563_4 e1563_6 e1563_7
  have e1595_120 := gv (hf1595 [5] rfl) rfl
  have hX1595 := es_ hX1563 hE1595
  obtain ⟨b1595_g1463, b1595_g1469⟩ := be2 hE1595 b1563_g1463 b1563_g1469
  have b1595_A1494 := re_ hE1595 b1563_A1494
  have b1595_A1557 := RdO.evo rfl hE1595 b1563_A1557
  refine fl_cond e1595_120 hs (fun c1596 hs => ?_) (fun c1596 hs => ?_)
  ·refine rd_seq g_mixed 146 [] o1595 [] [0, 1, 3, 7, 0, 31] [dv [] [6] 126 (pt g1469 0), dv [0] [] 127 (pt g1469 0), dv [1] [] 128 (pt g1469 1), dv [2] [] 129 (Zi r1556.2.2), dv [] [] 2 (.pointer none), dv [3] [] 3 (Zi r1556.2.2)] z1595 d1595 nm_ ?_ ?_
   ·exact sM e1595_6 <| sF (fun f => ok1 f.1) <| sF (fun f => or_field fo70_1 f.1 (by rfl)) <| sG to31 b1595_g1469 <| sO (or_assign rfl) <| sA <| steps_nil
   intro o1597 a1597 w1597 d1597 z1597 hk1597 hf1597 hE1597
   have e1597_2 := gv (hf1597 [4] rfl) rfl
   have e1597_3 := gv (hf1597 [5] rfl) rfl
   have hX1597 := es_ hX1595 hE1597
   refine fl_ret ?_
   refine hp1594 _ _ _ rfl ?_
   refine hp1593 _ _ _ rfl ?_
   refine hp1316.leaves _ _ _ rfl ?_
   obtain rfl := osome hs
   exact hret _ _ _ _ (.inl rfl) d1597 (results2_ rfl (RVal.tmp_ e1597_2) (RVal.tmp_ e1597_3)) ⟨o1597, rfl, hX1597⟩
  refine rq_seq 146 o1595 [0, 0, 2, 6, 14, 30, 63, 127] [dv [] [7] 131 (Zi 0), dv [] [4] 132 (pt g1463 0), dv [1] [] 133 (pt g1463 0), dv [2] [] 134 (pt g1463 1), dv [3] [] 135 (.slice none 0 0), dv [4] [] 136 (Zi 0), dv [0, 5] [] 137 (.bool false), dv [6] [] 130 (.bool false)] z1595 d1595 ?_ ?_
  ·exact sM e1595_7 <| sM e1595_4 <| sF (fun f => ok1 f.1) <| sF (fun f => or_field fo64_1 f.1 (by rfl)) <| sG to61 b1595_g1463 <| sF (fun f => or_len tu61 f.1 rfl) <| sF (fun f => or_lss f.1 f.2.1 (by decide)) <| sA <| steps_nil
  intro o1598 a1598 w1598 d1598 z1598 hk1598 hf1598 hE1598
  obtain ⟨e1598_4, e1598_6⟩ := kt2 hk1598 e1595_4 e1595_6
  have e1598_130 := gv (hf1598 [7] rfl) rfl
  have hX1598 := es_ hX1595 hE1598
  obtain ⟨b1598_g1463, b1598_g1469⟩ := be2 hE1598 b1595_g1463 b1595_g1469
  have b1598_A1494 := re_ hE1598 b1595_A1494
  have b1598_A1557 := RdO.evo rfl hE1598 b1595_A1557
  refine fl_f e1598_130 ?_
  refine rq_seq 146 o1598 (bz 7) [dv [] [6] 139 (pt g1469 0), dv [0] [] 140 (pt g1469 0), dv [1] [] 141 (pt g1469 0), dv [2] [] 142 (sl A1557 r1556.2.1 cA1557), dv [3] [] 143 (Zi (r1556.2.1.length : Int)), dv [4] [] 144 (.bool (decide (0 < (r1556.2.1.length : Int)))), dv [5] [] 138 (.bool (decide (0 < (r1556.2.1.length : Int))))] z1598 d1598 ?_ ?_
  ·exact sM e1598_6 <| sF (fun f => ok1 f.1) <| sF (fun f => or_field fo70_0 f.1 (by rfl)) <| sG to22 b1598_g1469 <| sF (fun f => or_len tu22 f.1 rfl) <| sF (fun f => or_gtr f.1 rfl rfl) <| sA <| steps_nil
  intro o1599 a1599 w1599 d1599 z1599 hk1599 hf1599 hE1599
  have e1599_4 := kt hk1599 e1598_4
  have e1599_138 := gv (hf1599 [6] rfl) rfl
  have hX1599 := es_ hX1598 hE1599
  have b1599_g1463 := be_ hE1599 b1598_g1463
  have b1599_A1494 := re_ hE1599 b1598_A1494
  refine fl_cond e1599_138 hs (fun c1600 hs => ?_) (fun c1600 hs => ?_)
  ·refine rq_seq 146 o1599 (bz 2) [dv [] [] 2 (.pointer none), dv [] [] 3 (Zi 3)] z1599 d1599 ?_ ?_
   ·exact sO (or_assign rfl) <| sO (or_assign rfl) <| steps_nil
   intro o1601 a1601 w1601 d1601 z1601 hk1601 hf1601 hE1601
   have e1601_2 := gv (hf1601 [0] rfl) rfl
   have e1601_3 := gv (hf1601 [1] rfl) rfl
   have hX1601 := es_ hX1599 hE1601
   refine fl_ret ?_
   refine hp1594 _ _ _ rfl ?_
   refine hp1593 _ _ _ rfl ?_
   refine hp1316.leaves _ _ _ rfl ?_
   obtain rfl := osome hs
   exact hret _ _ _ _ (.inl rfl) d1601 (results2_ rfl (RVal.tmp_ e1601_2) (RVal.tmp_ e1601_3)) ⟨o1601, rfl, hX1601⟩
  refine fl_skip ?_
  refine hn1594 _ _ ?_
  refine hn1593 _ _ ?_
  refine rq_seq 146 o1599 (bz 3) [dv [] [4] 145 (pt g1463 0), dv [0] [] 2 (pt g1463 0), dv [] [] 3 (Zi 0)] z1599 d1599 ?_ ?_
  ·exact sM e1599_4 <| sA <| sO (or_assign rfl) <| steps_nil
  intro o1602 a1602 w1602 d1602 z1602 hk1602 hf1602 hE1602
  have e1602_2 := gv (hf1602 [1] rfl) rfl
  have e1602_3 := gv (hf1602 [2] rfl) rfl
  have hX1602 := es_ hX1599 hE1602
  have b1602_g1463 := be_ hE1602 b1599_g1463
  have b1602_A1494 := re_ hE1602 b1599_A1494
  refine fl_ret ?_
  refine hp1316.leaves _ _ _ rfl ?_
  obtain rfl := osome hs
  exact hret _ _ _ _ (.inl rfl) d1602 (results2_ rfl (RVal.tmp_ e1602_2) (RVal.tmp_ e1602_3)) ⟨(rl [(1496, 2), (1498, 1)] o1602), ((none, g1463), (A1494, cA1494), (none, 0), (none, 0)), rfl, (Evo.rl_ hX1602 (fun _ => Nat.le_refl 0) rfl), (RwO.rl_ b1602_A1494), RwO.nil_, RwO.nil_, (BlkO.rl_ b1602_g1463)⟩
 ·rintro (⟨p1128, p1131, met1136, r1141, r1142, i1143, n1144⟩ | ⟨p1150, p1153, p1158, r1164, r1165, used1166, i1167, n1168, last1171⟩)
  ·rintro zz1316 a1317 w1317 ⟨o1317, g1124, A1126, c1127, A1129, c1130, g1134, g1137, A1139, c1140, g1145, d1318, z1318, e1318_4, e1318_5, e1318_6, e1318_7, e1318_8, e1318_9, e1318_10, hE1318, b1318_g1124, b1318_A1126, b1318_A1129, b1318_g1134, b1318_g1137, b1318_A1139, b1318_g1145⟩ hs Q1317 hj1317 hp1317 z1317
   have hs : pack_Open_b1_0 p1128 p1131 met1136 r1141 r1142 i1143 n1144 = some zz1316 := hs
   conv => arg 4; whnf
   refine fl_seq (fun Q1319 hn1319 hp1319 => ?_)
   refine fl_skip ?_
   refine hn1319 _ _ ?_
   refine fl_seq (fun Q1320 hn1320 hp1320 => ?_)
   obtain ⟨x1321, hx1321, hs⟩ := obind hs
   refine rq_seq 146 o1317 [0, 0, 3, 7, 15, 31, 63, 127, 255, 511] [dv [] [8] 36 (Zi i1143), dv [] [9] 37 (Zi n1144), dv [0, 1] [] 38 (.bool (decide (i1143 < n1144))), dv [2] [] 39 (.bool (decide (i1143 < n1144))), dc [3] [6] (decide (i1143 < n1144)) 40 (pt g1137 0), dc [3, 4] [] (decide (i1143 < n1144)) 41 (pt g1137 0), dc [3, 5] [] (decide (i1143 < n1144)) 42 (pt g1137 1), dc [3, 6] [] (decide (i1143 < n1144)) 43 (Zi r1142), dc [3, 7] [] (decide (i1143 < n1144)) 44 (.bool (decide (r1142 = 0))), dv [3, 8] [] 45 (.bool x1321)] z1318 d1318 ?_ ?_
   ·exact sM e1318_8 <| sM e1318_9 <| sF (fun f => or_lss f.1 f.2.1 rfl) <| sV <| cT (fun _ s _ _ => or_move (s.1.trans e1318_6)) <| cT (fun f _ _ hg => ok1 (f.2.1.1 hg)) <| cT (fun f _ _ hg => or_field fo70_1 (f.2.1.1 hg) (by rfl)) <| cT (fun f _ hE hg => ld1 to31 (f.2.1.1 hg) (be_ hE b1318_g1137)) <| cT (fun f _ _ hg => or_eql (f.2.1.1 hg) rfl rfl) <| sF (fun f => or_and f.1 (fun hx => f.2.1.1 hx) rfl (osome hx1321).symm) <| steps_nil
   intro o1322 a1322 w1322 d1322 z1322 hk1322 hf1322 hE1322
   obtain ⟨e1322_4, e1322_5, e1322_6, e1322_7, e1322_8, e1322_9, e1322_10⟩ := kt7 hk1322 e1318_4 e1318_5 e1318_6 e1318_7 e1318_8 e1318_9 e1318_10
   have e1322_45 := gv (hf1322 [9] rfl) rfl
   have hX1322 := es_ hE1318 hE1322
   obtain ⟨b1322_g1124, b1322_g1137, b1322_g1145⟩ := be3 hE1322 b1318_g1124 b1318_g1137 b1318_g1145
   have b1322_A1126 := re_ hE1322 b1318_A1126
   have b1322_A1129 := RwN.evo rfl hE1322 b1318_A1129
   have b1322_g1134 := MpO.evo (by decide) hE1322 b1318_g1134
   have b1322_A1139 := RdO.evo rfl hE1322 b1318_A1139
   refine fl_cond e1322_45 hs (fun c1323 hs => ?_) (fun c1323 hs => ?_)
   ·obtain ⟨r1324, hr1324, hs⟩ := obind hs
    refine rr_seq 146 [Fct.at_ 1138 g1137 70 #[sl A1139 r1141 c1140, Zi r1142]] o1322 [1138] (bz 3) [dv [] [6] 46 (pt g1137 0), ⟨[0, 3], [], [1138], Fct.mems [1327, 0, 1328] 47 (fun (x : (Option Addr × Nat) × (Option Addr × Nat)) => .slice x.1.1 r1324.1.length x.1.2) (fun (x : (Option Addr × Nat) × (Option Addr × Nat)) own w => RwO own 1327 [] w 5 R5 x.1.1 x.1.2 r1324.1 ∧ RdO own [0] w R5 x.2.1 x.2.2 r1324.2.1 ∧ BlkO own 1328 w g1137 70 #[.slice x.2.1 r1324.2.1.length x.2.2, Zi r1324.2.2]) (fun hk he h => ⟨RwO.evo (hits_sub hk (by decide)) he h.1, RdO.evo (hits_sub hk (by decide)) he h.2.1, BlkO.evo (not_hit hk (by decide)) he h.2.2⟩)⟩, ⟨[1], [], [], Fct.rel [11, 47] (fun l => ∀ (A1325 : Option Addr) (cA1325 : Nat), l.getD 1 undef = sl A1325 r1324.1 cA1325 → l.getD 0 undef = sl A1325 r1324.1 cA1325)⟩] z1322 d1322 (fm1 b1322_g1137) ?_ ?_
    ·refine sM e1322_6 ?_
     refine sc (fun own a wx hf hsl hE => ?_) ?_
     ·obtain ⟨f_46, b_g1137, -⟩ := hf
      exact px (or_call cf28 (args1 f_46) (pack_reader_whole_w _ (forth own (look0 [(0, 2), (1138, 1)])) (r1141, r1142) g1137 70 A1139 c1140 (look0_le rfl) (BlkO.forth_ (m := (look0 [(0, 2), (1138, 1)])) b_g1137) (RdO.forth_ (m := (look0 [(0, 2), (1138, 1)])) (RdO.evo rfl hE b1322_A1139)) r1324 hr1324) (post_mems (m := (look0 [(0, 2), (1138, 1)])) (m' := (look0 [(1, 1328), (2, 0), (3, 1327)])) (hm_of2 rfl) (fun own' w' a' x h1 h => ⟨x, h1, ⟨RwO.back_ h.1 (by decide) (.inl (Rep.fl_flat _)), RdO.back_ h.2.1 (by decide), BlkO.back_ h.2.2 (by decide)⟩⟩)))
     refine sc (fun own a wx hf hsl hE => ?_) ?_
     ·obtain ⟨⟨⟨⟨A1325, cA1325⟩, ⟨A1326, cA1326⟩⟩, (f_47 : a.eval (.tmp 47) = sl A1325 r1324.1 cA1325), b_A1325, b_A1326, b_g1137⟩, -⟩ := hf
      exact px (or_mono (f := Fct.val 11 (sl A1325 r1324.1 cA1325)) (or_assign f_47) (fun own' a' w' v' hp h => fun _ _ h0' => by cases (f_47.symm.trans ((hp.2 47 (by decide)).symm.trans h0')); exact h))
     exact steps_nil
    intro o1329 a1329 w1329 d1329 z1329 hk1329 hf1329 hE1329
    obtain ⟨e1329_4, e1329_5, e1329_6, e1329_7, e1329_8, e1329_9, e1329_10⟩ := kt7 hk1329 e1322_4 e1322_5 e1322_6 e1322_7 e1322_8 e1322_9 e1322_10
    obtain ⟨⟨⟨⟨A1325, cA1325⟩, ⟨A1326, cA1326⟩⟩, (f_47 : a1329.eval (.tmp 47) = sl A1325 r1324.1 cA1325), (b1329_A1325 : RwO o1329 1327 [] w1329 5 R5 A1325 cA1325 r1324.1), (b1329_A1326 : RdO o1329 [0] w1329 R5 A1326 cA1326 r1324.2.1), (b1329_g1137 : BlkO o1329 1328 w1329 g1137 70 #[sl A1326 r1324.2.1 cA1326, Zi r1324.2.2])⟩, (q_11 : ∀ (A1325 : Option Addr) (cA1325 : Nat), a1329.eval (.tmp 47) = sl A1325 r1324.1 cA1325 → a1329.eval (.tmp 11) = sl A1325 r1324.1 cA1325), -⟩ := hf1329 [1, 2] rfl
    have e1329_11 := q_11 _ _ f_47
    have hX1329 := es_ hX1322 hE1329
    obtain ⟨b1329_g1124, b1329_g1145⟩ := be2 hE1329 b1322_g1124 b1322_g1145
    have b1329_A1126 := re_ hE1329 b1322_A1126
    have b1329_A1129 := RwN.evo rfl hE1329 b1322_A1129
    have b1329_g1134 := MpO.evo (by decide) hE1329 b1322_g1134
    refine fl_seq (fun Q1330 hn1330 hp1330 => ?_)
    have K1338 : ∀ (a1338 : Act) (w1338 : World) (o1338 : Own) (r1337 : Int), a1338.defers = [] → a1338.tmps.size = 146 → a1338.eval (.tmp 4) = pt g1124 0 → a1338.eval (.tmp 5) = .map (some g1134) → a1338.eval (.tmp 6) = pt g1137 0 → a1338.eval (.tmp 7) = Zi 0 → a1338.eval (.tmp 8) = Zi i1143 → a1338.eval (.tmp 9) = Zi n1144 → a1338.eval (.tmp 10) = pt g1145 0 → a1338.eval (.tmp 11) = sl A1325 r1324.1 cA1325 → Evo [] (fun _ => 0) o1338 w w1338 → BlkO o1338 1125 w1338 g1124 64 #[sl A1126 p1128 c1127, sl A1129 p1131 c1130, .slice none 0 0] → RwO o1338 841 [] w1338 5 R5 A1126 c1127 p1128 → RwN o1338 1132 1133 [] w1338 22 5 R5 A1129 c1130 p1131 → MpO o1338 1135 w1338 g1134 vv9 vv4 met1136 → BlkO o1338 1336 w1338 g1137 70 #[sl A1326 r1324.2.1 cA1326, Zi r1337] → RdO o1338 [0] w1338 R5 A1326 cA1326 r1324.2.1 → BlkO o1338 820 w1338 g1145 28 #[Zi 0, Zi 0, Zi 0] → RwO o1338 1327 [] w1338 5 R5 A1325 cA1325 r1324.1 → pack_Open_k2 p1128 p1131 met1136 i1143 n1144 r1324 r1337 = some zz1316 → Q1330 .normal a1338 w1338 := by
     intro a1338 w1338 o1338 r1337 d1339 z1339 e1339_4 e1339_5 e1339_6 e1339_7 e1339_8 e1339_9 e1339_10 e1339_11 hE1339 b1339_g1124 b1339_A1126 b1339_A1129 b1339_g1134 b1339_g1137 b1339_A1326 b1339_g1145 b1339_A1325 hs
     refine hn1330 _ _ ?_
     obtain ⟨D1340, hD1340, hs⟩ := obind hs
     refine rr_seq 146 [Fct.mapAt 1135 g1134 vv9 vv4 met1136] o1338 [1135] [0, 0, 2, 7] [dv [] [5] 62 (.map (some g1134)), dv [] [11] 63 (sl A1325 r1324.1 cA1325), dv [1] [] 64 (.string (bsS r1324.1)), ⟨[0, 2, 4], [], [1135], Fct.mapAt 1341 g1134 vv9 vv4 D1340⟩] z1339 d1339 (fm1 b1339_g1134) ?_ ?_
     ·refine sM e1339_5 <| sM e1339_11 <| sFE (fun f hE => or_convBS tu22 tn5 tS9 f.1 (RwO.rd (re_ hE b1339_A1325))) ?_
      refine sc (fun own a wx hf hsl hE => ?_) ?_
      ·obtain ⟨f_62, f_64, b_g1134, -⟩ := hf
       exact px (or_mapUpdate (kf := vv9) (vf := vv4) (k := (bsS r1324.1)) (v := true) (lab := 1135) (lab2 := 1341) ko9 tm67 f_62 f_64 rfl b_g1134 (osome hD1340).symm (mem_of rfl) (by decide) (fun own' a' w' hb => hb))
      exact steps_nil
     intro o1342 a1342 w1342 d1342 z1342 hk1342 hf1342 hE1342
     obtain ⟨e1342_4, e1342_5, e1342_6, e1342_7, e1342_8, e1342_9, e1342_10, e1342_11⟩ := kt8 hk1342 e1339_4 e1339_5 e1339_6 e1339_7 e1339_8 e1339_9 e1339_10 e1339_11
     obtain ⟨(b1342_g1134 : MpO o1342 1341 w1342 g1134 vv9 vv4 D1340), -⟩ := hf1342 [3] rfl
     have hX1342 := es_ hE1339 hE1342
     obtain ⟨b1342_g1124, b1342_g1137, b1342_g1145⟩ := be3 hE1342 b1339_g1124 b1339_g1137 b1339_g1145
     have b1342_A1126 := re_ hE1342 b1339_A1126
     have b1342_A1129 := RwN.evo rfl hE1342 b1339_A1129
     have b1342_A1326 := RdO.evo rfl hE1342 b1339_A1326
     have b1342_A1325 := re_ hE1342 b1339_A1325
     obtain ⟨x1355, hx1355, hs⟩ := obind hs
     refine rr_seq 146 [Fct.rownAt 1132 1133 [] 22 5 R5 A1129 c1130 p1131, Fct.rowAt 1327 [] 5 R5 A1325 cA1325 r1324.1, Fct.at_ 1125 g1124 64 #[sl A1126 p1128 c1127, sl A1129 p1131 c1130, .slice none 0 0]] o1342 [1132, 1133, 1327, 1125] [0, 0, 2, 6, 14, 0, 32, 126, 255, 511, 1023] [dv [] [4] 65 (pt g1124 0), dv [] [4] 66 (pt g1124 0), dv [1] [] 67 (pt g1124 0), dv [2] [] 68 (pt g1124 1), dv [3, 13] [] 69 (sl A1129 p1131 c1130), dv [] [11] 70 (sl A1325 r1324.1 cA1325), ⟨[5, 12], [], [], Fct.rown 1354 1327 [] 71 22 5 R5 [r1324.1]⟩, ⟨[4, 6, 11], [], [1132, 1133, 1327], Fct.rown 1356 1357 [] 72 22 5 R5 x1355⟩, dv [0] [] 73 (pt g1124 0), dv [8] [] 74 (pt g1124 1), ⟨[9, 7, 13], [], [1125], Fct.by_ [1359] [72] (fun l own w => ∀ (A1358 : Option Addr) (cA1358 : Nat), l.getD 0 undef = sl A1358 x1355 cA1358 → BlkO own 1359 w g1124 64 #[sl A1126 p1128 c1127, sl A1358 x1355 cA1358, .slice none 0 0]) (fun hk he h _ _ h0' => BlkO.evo (not_hit hk (by decide)) he (h _ _ h0'))⟩] z1342 d1342 (fm3 b1342_A1129 b1342_A1325 b1342_g1124) ?_ ?_
     ·refine sM e1342_4 <| sM e1342_4 <| sF (fun f => ok1 f.1) <| sF (fun f => or_field fo64_1 f.1 (by rfl)) ?_
      refine sc (fun own a wx hf hsl hE => ?_) ?_
      ·obtain ⟨f_68, (b_g1124 : BlkO own 1125 wx g1124 64 #[sl A1126 p1128 c1127, sl A1129 p1131 c1130, .slice none 0 0]), -⟩ := hf
       exact px (ld1 to61 f_68 b_g1124)
      refine sM e1342_11 ?_
      refine sc (fun own a wx hf hsl hE => ?_) ?_
      ·obtain ⟨f_70, b_A1325, -⟩ := hf
       exact px (or_litO (R := R5) (lab := 1354) (labE := 1327) (L := []) (e := 22) (e2 := 5) (xl := r1324.1) [(70, sl A1325 r1324.1 cA1325)] rfl rfl ⟨f_70, trivial⟩ (by kernel_rfl) rfl b_A1325 rfl)
      refine sc (fun own a wx hf hsl hE => ?_) ?_
      ·obtain ⟨f_69, ⟨⟨A1353, cA1353⟩, f_71, b_A1353⟩, b_A1129, -⟩ := hf
       exact px (or_appendO (R := R5) (lab := 1132) (labE := 1133) (lab2 := 1356) (lab3 := 1357) (L := []) (L3 := []) tp61 f_69 b_A1129 f_71 b_A1353 hx1355 (by decide) (by decide) (mem_of rfl) (mem_of rfl) (mem_of rfl) (by decide) (by decide) (by decide) (by decide) (by decide) (by decide) (by decide) rfl (by decide) (by decide))
      refine sF (fun f => ok1 f.1) <| sF (fun f => or_field fo64_1 f.1 (by rfl)) ?_
      refine sc (fun own a wx hf hsl hE => ?_) ?_
      ·obtain ⟨f_74, ⟨⟨A1358, cA1358⟩, (f_72 : a.eval (.tmp 72) = sl A1358 x1355 cA1358), b_A1358⟩, b_g1124, -⟩ := hf
       exact px (or_store1 (lab := 1125) (lab2 := 1359) ts61 f_74 f_72 b_g1124 (by simp) rfl (mem_of rfl) (by decide) rfl (fun own' a' w' ha hb => fun _ _ h0' => by cases (f_72.symm.trans ((ha 72).symm.trans h0')); exact hb))
      exact steps_nil
     intro o1360 a1360 w1360 d1360 z1360 hk1360 hf1360 hE1360
     obtain ⟨e1360_4, e1360_5, e1360_6, e1360_7, e1360_8, e1360_9, e1360_10⟩ := kt7 hk1360 e1342_4 e1342_5 e1342_6 e1342_7 e1342_8 e1342_9 e1342_10
     obtain ⟨⟨⟨A1358, cA1358⟩, (f_72 : a1360.eval (.tmp 72) = sl A1358 x1355 cA1358), (b1360_A1358 : RwN o1360 1356 1357 [] w1360 22 5 R5 A1358 cA1358 x1355)⟩, (bq_g1124 : ∀ (A1358 : Option Addr) (cA1358 : Nat), a1360.eval (.tmp 72) = sl A1358 x1355 cA1358 → BlkO o1360 1359 w1360 g1124 64 #[sl A1126 p1128 c1127, sl A1358 x1355 cA1358, .slice none 0 0]), -⟩ := hf1360 [7, 10] rfl
     have b1360_g1124 := bq_g1124 _ _ f_72
     have hX1360 := es_ hX1342 hE1360
     obtain ⟨b1360_g1137, b1360_g1145⟩ := be2 hE1360 b1342_g1137 b1342_g1145
     have b1360_A1126 := re_ hE1360 b1342_A1126
     have b1360_A1326 := RdO.evo rfl hE1360 b1342_A1326
     have b1360_g1134 := MpO.evo (by decide) hE1360 b1342_g1134
     refine rq_seq 146 o1360 (bz 3) [dv [] [8] 75 (Zi i1143), dv [0] [] 76 (Zi (ad i1143 1)), dv [1] [] 8 (Zi (ad i1143 1))] z1360 d1360 ?_ ?_
     ·exact sM e1360_8 <| sF (fun f => or_add f.1 rfl rfl) <| sA <| steps_nil
     intro o1361 a1361 w1361 d1361 z1361 hk1361 hf1361 hE1361
     obtain ⟨e1361_4, e1361_5, e1361_6, e1361_7, e1361_9, e1361_10⟩ := kt6 hk1361 e1360_4 e1360_5 e1360_6 e1360_7 e1360_9 e1360_10
     have e1361_8 := gv (hf1361 [2] rfl) rfl
     have hX1361 := es_ hX1360 hE1361
     obtain ⟨b1361_g1137, b1361_g1145, b1361_g1124⟩ := be3 hE1361 b1360_g1137 b1360_g1145 b1360_g1124
     have b1361_A1126 := re_ hE1361 b1360_A1126
     have b1361_A1326 := RdO.evo rfl hE1361 b1360_A1326
     have b1361_g1134 := MpO.evo (by decide) hE1361 b1360_g1134
     have b1361_A1358 := RwN.evo rfl hE1361 b1360_A1358
     refine fl_goto ?_
     refine hp1320 _ _ _ rfl ?_
     exact hj1317 (Sum.inl (p1128, x1355, D1340, r1324.2.1, r1337, ad i1143 1, n1144)) _ _ hs ⟨(rl [(1336, 1138), (1341, 1135), (1356, 1132), (1357, 1133), (1359, 1125)] o1361), g1124, A1126, c1127, A1358, cA1358, g1134, g1137, A1326, cA1326, g1145, d1361, z1361, e1361_4, e1361_5, e1361_6, e1361_7, e1361_8, e1361_9, e1361_10, (Evo.rl_ hX1361 (fun _ => Nat.le_refl 0) rfl), (BlkO.rl_ b1361_g1124), (RwO.rl_ b1361_A1126), (RwN.rl_ b1361_A1358), (MpO.rl_ b1361_g1134), (BlkO.rl_ b1361_g1137), (RdO.rl_ b1361_A1326), (BlkO.rl_ b1361_g1145)⟩
    obtain ⟨x1362, hx1362, hs⟩ := obind hs
    refine rq_seq 146 o1329 [0, 1, 3, 7, 15, 31, 63, 63, 191, 511, 1023] [dv [] [6] 48 (pt g1137 0), dv [0] [] 49 (pt g1137 0), dv [1] [] 50 (pt g1137 1), dv [2] [] 51 (Zi r1324.2.2), dv [3] [] 52 (.bool (decide (r1324.2.2 = 0))), dv [4] [] 53 (.bool (decide (r1324.2.2 = 0))), dc [5] [5] (decide (r1324.2.2 = 0)) 54 (.map (some g1134)), dc [5] [11] (decide (r1324.2.2 = 0)) 55 (sl A1325 r1324.1 cA1325), dc [5, 7] [] (decide (r1324.2.2 = 0)) 56 (.string (bsS r1324.1)), dc [5, 6, 8] [] (decide (r1324.2.2 = 0)) 57 (.bool x1362), dv [5, 9] [] 58 (.bool ((decide (r1324.2.2 = 0)) && x1362))] z1329 d1329 ?_ ?_
    ·exact sM e1329_6 <| sF (fun f => ok1 f.1) <| sF (fun f => or_field fo70_1 f.1 (by rfl)) <| sG to31 b1329_g1137 <| sF (fun f => or_eql f.1 rfl rfl) <| sV <| cT (fun _ s _ _ => or_move (s.1.trans e1329_5)) <| cT (fun _ s _ _ => or_move (s.1.trans e1329_11)) <| cT (fun f _ hE hg => or_convBS tu22 tn5 tS9 (f.2.1.1 hg) (RwO.rd (re_ hE b1329_A1325))) <| cT (fun f _ hE hg => or_lookupE (kf := vv9) (vf := vv4) (k := (bsS r1324.1)) (dv := false) ko9 tm67 tzv67 (f.2.1.1 hg) (f.2.2.1.1 hg) (MpO.evo (by decide) hE b1329_g1134) (osome hx1362).symm) <| sF (fun f => or_and f.1 (fun hx => f.2.1.1 hx) rfl rfl) <| steps_nil
    intro o1363 a1363 w1363 d1363 z1363 hk1363 hf1363 hE1363
    obtain ⟨e1363_4, e1363_5, e1363_6, e1363_7, e1363_8, e1363_9, e1363_10, e1363_11⟩ := kt8 hk1363 e1329_4 e1329_5 e1329_6 e1329_7 e1329_8 e1329_9 e1329_10 e1329_11
    have e1363_58 := gv (hf1363 [10] rfl) rfl
    have hX1363 := es_ hX1329 hE1363
    obtain ⟨b1363_g1124, b1363_g1145, b1363_g1137⟩ := be3 hE1363 b1329_g1124 b1329_g1145 b1329_g1137
    have b1363_A1126 := re_ hE1363 b1329_A1126
    have b1363_A1129 := RwN.evo rfl hE1363 b1329_A1129
    have b1363_g1134 := MpO.evo (by decide) hE1363 b1329_g1134
    have b1363_A1325 := re_ hE1363 b1329_A1325
    have b1363_A1326 := RdO.evo rfl hE1363 b1329_A1326
    refine fl_cond e1363_58 hs (fun c1364 hs => ?_) (fun c1364 hs => ?_)
    ·refine rr 146 [Fct.at_ 1328 g1137 70 #[sl A1326 r1324.2.1 cA1326, Zi r1324.2.2]] o1363 [1328] (bz 4) [dv [] [6] 59 (pt g1137 0), dv [0] [] 60 (pt g1137 0), dv [1] [] 61 (pt g1137 1), ⟨[2, 4], [], [1328], Fct.at_ 1365 g1137 70 #[sl A1326 r1324.2.1 cA1326, Zi 8]⟩] z1363 d1363 (fm1 b1363_g1137) ?_ ?_
     ·refine sM e1363_6 <| sF (fun f => ok1 f.1) <| sF (fun f => or_field fo70_1 f.1 (by rfl)) ?_
      refine sc (fun own a wx hf hsl hE => ?_) ?_
      ·obtain ⟨f_61, b_g1137, -⟩ := hf
       exact px (or_store1 (lab := 1328) (lab2 := 1365) ts31 f_61 rfl b_g1137 (by simp) rfl (mem_of rfl) (by decide) rfl (fun own' a' w' ha hb => hb))
      exact steps_nil
     intro o1366 a1366 w1366 d1366 z1366 hk1366 hf1366 hE1366
     obtain ⟨e1366_4, e1366_5, e1366_6, e1366_7, e1366_8, e1366_9, e1366_10, e1366_11⟩ := kt8 hk1366 e1363_4 e1363_5 e1363_6 e1363_7 e1363_8 e1363_9 e1363_10 e1363_11
     obtain ⟨(b1366_g1137 : BlkO o1366 1365 w1366 g1137 70 #[sl A1326 r1324.2.1 cA1326, Zi 8]), -⟩ := hf1366 [3] rfl
     have hX1366 := es_ hX1363 hE1366
     obtain ⟨b1366_g1124, b1366_g1145⟩ := be2 hE1366 b1363_g1124 b1363_g1145
     have b1366_A1126 := re_ hE1366 b1363_A1126
     have b1366_A1129 := RwN.evo rfl hE1366 b1363_A1129
     have b1366_g1134 := MpO.evo (by decide) hE1366 b1363_g1134
     have b1366_A1325 := re_ hE1366 b1363_A1325
     have b1366_A1326 := RdO.evo rfl hE1366 b1363_A1326
     exact (K1338 _ _ (rl [(1365, 1336)] o1366) _ d1366 z1366 e1366_4 e1366_5 e1366_6 e1366_7 e1366_8 e1366_9 e1366_10 e1366_11 (Evo.rl_ hX1366 (fun _ => Nat.le_refl 0) rfl) (BlkO.rl_ b1366_g1124) (RwO.rl_ b1366_A1126) (RwN.rl_ b1366_A1129) (MpO.rl_ b1366_g1134) (BlkO.rl_ b1366_g1137) (RdO.rl_ b1366_A1326) (BlkO.rl_ b1366_g1145) (RwO.rl_ b1366_A1325) hs)
    refine fl_skip ?_
    exact (K1338 _ _ (rl [(1328, 1336)] o1363) _ d1363 z1363 e1363_4 e1363_5 e1363_6 e1363_7 e1363_8 e1363_9 e1363_10 e1363_11 (Evo.rl_ hX1363 (fun _ => Nat.le_refl 0) rfl) (BlkO.rl_ b1363_g1124) (RwO.rl_ b1363_A1126) (RwN.rl_ b1363_A1129) (MpO.rl_ b1363_g1134) (BlkO.rl_ b1363_g1137) (RdO.rl_ b1363_A1326) (BlkO.rl_ b1363_g1145) (RwO.rl_ b1363_A1325) hs)
   refine fl_skip ?_
   refine hn1320 _ _ ?_
   obtain ⟨r1367, hr1367, hs⟩ := obind hs
   refine rr_seq 146 [Fct.at_ 1138 g1137 70 #[sl A1139 r1141 c1140, Zi r1142]] o1322 [1138] (bz 4) [dv [] [6] 77 (pt g1137 0), ⟨[0, 4], [], [1138], Fct.mems [0, 1369] 78 (fun (x : Option Addr × Nat) => Zi r1367.1) (fun (x : Option Addr × Nat) own w => RdO own [0] w R5 x.1 x.2 r1367.2.1 ∧ BlkO own 1369 w g1137 70 #[.slice x.1 r1367.2.1.length x.2, Zi r1367.2.2]) (fun hk he h => ⟨RdO.evo (hits_sub hk (by decide)) he h.1, BlkO.evo (not_hit hk (by decide)) he h.2⟩)⟩, dv [] [] 8 (Zi 0), dv [1] [] 9 (Zi r1367.1)] z1322 d1322 (fm1 b1322_g1137) ?_ ?_
   ·refine sM e1322_6 ?_
    refine sc (fun own a wx hf hsl hE => ?_) ?_
    ·obtain ⟨f_77, b_g1137, -⟩ := hf
     exact px (or_call cf29 (args1 f_77) (pack_reader_count_w _ (forth own (look0 [(0, 2), (1138, 1)])) (r1141, r1142) g1137 70 A1139 c1140 (look0_le rfl) (BlkO.forth_ (m := (look0 [(0, 2), (1138, 1)])) b_g1137) (RdO.forth_ (m := (look0 [(0, 2), (1138, 1)])) (RdO.evo rfl hE b1322_A1139)) r1367 hr1367) (post_mems (m := (look0 [(0, 2), (1138, 1)])) (m' := (look0 [(1, 1369), (2, 0)])) (hm_of2 rfl) (fun own' w' a' x h1 h => ⟨x, h1, ⟨RdO.back_ h.1 (by decide), BlkO.back_ h.2 (by decide)⟩⟩)))
    refine sO (or_assign rfl) ?_
    refine sc (fun own a wx hf hsl hE => ?_) ?_
    ·obtain ⟨⟨⟨A1368, cA1368⟩, f_78, b_A1368, b_g1137⟩, -⟩ := hf
     exact px (or_assign f_78)
    exact steps_nil
   intro o1370 a1370 w1370 d1370 z1370 hk1370 hf1370 hE1370
   obtain ⟨e1370_4, e1370_6, e1370_7, e1370_10⟩ := kt4 hk1370 e1322_4 e1322_6 e1322_7 e1322_10
   have e1370_8 := gv (hf1370 [2] rfl) rfl
   have e1370_9 := gv (hf1370 [3] rfl) rfl
   obtain ⟨⟨⟨A1368, cA1368⟩, (f_78 : a1370.eval (.tmp 78) = Zi r1367.1), (b1370_A1368 : RdO o1370 [0] w1370 R5 A1368 cA1368 r1367.2.1), (b1370_g1137 : BlkO o1370 1369 w1370 g1137 70 #[sl A1368 r1367.2.1 cA1368, Zi r1367.2.2])⟩, -⟩ := hf1370 [1] rfl
   have hX1370 := es_ hX1322 hE1370
   obtain ⟨b1370_g1124, b1370_g1145⟩ := be2 hE1370 b1322_g1124 b1322_g1145
   have b1370_A1126 := re_ hE1370 b1322_A1126
   have b1370_A1129 := RwN.evo rfl hE1370 b1322_A1129
   refine fl_seq (fun Q1371 hn1371 hp1371 => ?_)
   refine fl_label ?_
   refine hn1371 _ _ ?_
   refine fl_seq (fun Q1372 hn1372 hp1372 => ?_)
   obtain ⟨x1373, hx1373, hs⟩ := obind hs
   refine rq_seq 146 o1370 [0, 0, 3, 7, 15, 31, 63, 127, 255, 511] [dv [] [8] 79 (Zi 0), dv [] [9] 80 (Zi r1367.1), dv [0, 1] [] 81 (.bool (decide (0 < r1367.1))), dv [2] [] 82 (.bool (decide (0 < r1367.1))), dc [3] [6] (decide (0 < r1367.1)) 83 (pt g1137 0), dc [3, 4] [] (decide (0 < r1367.1)) 84 (pt g1137 0), dc [3, 5] [] (decide (0 < r1367.1)) 85 (pt g1137 1), dc [3, 6] [] (decide (0 < r1367.1)) 86 (Zi r1367.2.2), dc [3, 7] [] (decide (0 < r1367.1)) 87 (.bool (decide (r1367.2.2 = 0))), dv [3, 8] [] 88 (.bool x1373)] z1370 d1370 ?_ ?_
   ·exact sM e1370_8 <| sM e1370_9 <| sF (fun f => or_lss f.1 f.2.1 rfl) <| sV <| cT (fun _ s _ _ => or_move (s.1.trans e1370_6)) <| cT (fun f _ _ hg => ok1 (f.2.1.1 hg)) <| cT (fun f _ _ hg => or_field fo70_1 (f.2.1.1 hg) (by rfl)) <| cT (fun f _ hE hg => ld1 to31 (f.2.1.1 hg) (be_ hE b1370_g1137)) <| cT (fun f _ _ hg => or_eql (f.2.1.1 hg) rfl rfl) <| sF (fun f => or_and f.1 (fun hx => f.2.1.1 hx) rfl (osome hx1373).symm) <| steps_nil
   intro o1374 a1374 w1374 d1374 z1374 hk1374 hf1374 hE1374
   obtain ⟨e1374_4, e1374_6, e1374_7, e1374_8, e1374_9, e1374_10⟩ := kt6 hk1374 e1370_4 e1370_6 e1370_7 e1370_8 e1370_9 e1370_10
   have e1374_88 := gv (hf1374 [9] rfl) rfl
   have hX1374 := es_ hX1370 hE1374
   obtain ⟨b1374_g1124, b1374_g1145, b1374_g1137⟩ := be3 hE1374 b1370_g1124 b1370_g1145 b1370_g1137
   have b1374_A1126 := re_ hE1374 b1370_A1126
   have b1374_A1129 := RwN.evo rfl hE1374 b1370_A1129
   have b1374_A1368 := RdO.evo rfl hE1374 b1370_A1368
   refine fl_cond e1374_88 hs (fun c1375 hs => ?_) (fun c1375 hs => ?_)
   ·obtain ⟨r1379, hr1379, hs⟩ := obind hs
    refine rr_seq 146 [Fct.at_ 1369 g1137 70 #[sl A1368 r1367.2.1 cA1368, Zi r1367.2.2], Fct.at_ 820 g1145 28 #[Zi 0, Zi 0, Zi 0]] o1374 [1369, 820] [0, 0, 0, 4, 15, 31] [dv [] [6] 89 (pt g1137 0), dv [7] [10] 90 (.agg #[Zi 0, Zi 0, Zi 0]), dv [] [8] 91 (Zi 0), dv [2] [] 92 (.bool true), ⟨[0, 1, 3, 6], [], [1369], Fct.mems [0, 1381] 93 (fun (x : Option Addr × Nat) => .agg #[Zi r1379.1.1, Zi r1379.1.2.1, Zi r1379.1.2.2]) (fun (x : Option Addr × Nat) own w => RdO own [0] w R5 x.1 x.2 r1379.2.1 ∧ BlkO own 1381 w g1137 70 #[.slice x.1 r1379.2.1.length x.2, Zi r1379.2.2]) (fun hk he h => ⟨RdO.evo (hits_sub hk (by decide)) he h.1, BlkO.evo (not_hit hk (by decide)) he h.2⟩)⟩, ⟨[4, 7], [10], [820], Fct.at_ 1382 g1145 28 #[Zi r1379.1.1, Zi r1379.1.2.1, Zi r1379.1.2.2]⟩] z1374 d1374 (fm2 b1374_g1137 b1374_g1145) ?_ ?_
    ·refine sM e1374_6 ?_
     refine sc (fun own a wx hf hsl hE => ?_) ?_
     ·obtain ⟨(b_g1145 : BlkO own 820 wx g1145 28 #[Zi 0, Zi 0, Zi 0]), -⟩ := hf
      obtain ⟨s_10, -⟩ := hsl
      exact px (ldS ta28 (s_10.trans e1374_10) b_g1145)
     refine sM e1374_8 <| sF (fun f => or_eql f.1 rfl (by decide)) ?_
     refine sc (fun own a wx hf hsl hE => ?_) ?_
     ·obtain ⟨f_89, f_90, f_92, b_g1137, -⟩ := hf
      exact px (or_call cf30 (args3 f_89 f_90 f_92) (pack_reader_tile_w _ (forth own (look0 [(0, 2), (1369, 1)])) r1367.2 g1137 70 A1368 cA1368 (0, 0, 0) true (look0_le rfl) (BlkO.forth_ (m := (look0 [(0, 2), (1369, 1)])) b_g1137) (RdO.forth_ (m := (look0 [(0, 2), (1369, 1)])) (RdO.evo rfl hE b1374_A1368)) r1379 hr1379) (post_mems (m := (look0 [(0, 2), (1369, 1)])) (m' := (look0 [(1, 1381), (2, 0)])) (hm_of2 rfl) (fun own' w' a' x h1 h => ⟨x, h1, ⟨RdO.back_ h.1 (by decide), BlkO.back_ h.2 (by decide)⟩⟩)))
     refine sc (fun own a wx hf hsl hE => ?_) ?_
     ·obtain ⟨⟨⟨A1380, cA1380⟩, f_93, b_A1380, b_g1137⟩, b_g1145, -⟩ := hf
      obtain ⟨s_10, -⟩ := hsl
      exact px (or_store (l := #[Zi r1379.1.1, Zi r1379.1.2.1, Zi r1379.1.2.2]) (lab := 820) (lab2 := 1382) ts28 (s_10.trans e1374_10) f_93 b_g1145 (by simp) (by kernel_rfl) (mem_of rfl) (by decide) (by kernel_rfl) (fun own' a' w' ha hb => hb))
     exact steps_nil
    intro o1383 a1383 w1383 d1383 z1383 hk1383 hf1383 hE1383
    obtain ⟨e1383_4, e1383_6, e1383_7, e1383_8, e1383_9, e1383_10⟩ := kt6 hk1383 e1374_4 e1374_6 e1374_7 e1374_8 e1374_9 e1374_10
    obtain ⟨⟨⟨A1380, cA1380⟩, (f_93 : a1383.eval (.tmp 93) = .agg #[Zi r1379.1.1, Zi r1379.1.2.1, Zi r1379.1.2.2]), (b1383_A1380 : RdO o1383 [0] w1383 R5 A1380 cA1380 r1379.2.1), (b1383_g1137 : BlkO o1383 1381 w1383 g1137 70 #[sl A1380 r1379.2.1 cA1380, Zi r1379.2.2])⟩, (b1383_g1145 : BlkO o1383 1382 w1383 g1145 28 #[Zi r1379.1.1, Zi r1379.1.2.1, Zi r1379.1.2.2]), -⟩ := hf1383 [4, 5] rfl
    have hX1383 := es_ hX1374 hE1383
    have b1383_g1124 := be_ hE1383 b1374_g1124
    have b1383_A1126 := re_ hE1383 b1374_A1126
    have b1383_A1129 := RwN.evo rfl hE1383 b1374_A1129
    obtain ⟨r1384, hr1384, hs⟩ := obind hs
    refine rr_seq 146 [Fct.at_ 1381 g1137 70 #[sl A1380 r1379.2.1 cA1380, Zi r1379.2.2]] o1383 [1381] [0, 0, 2, 6, 14, 30, 0, 127, 255] [dv [] [6] 94 (pt g1137 0), dv [] [4] 95 (pt g1124 0), dv [1] [] 96 (pt g1124 0), dv [2] [] 97 (pt g1124 1), dv [3] [] 98 (sl A1129 p1131 c1130), dv [4] [] 99 (Zi (p1131.length : Int)), dv [] [7] 100 (Zi 0), ⟨[0, 5, 6, 9], [], [1381], Fct.mems [0, 1386] 101 (fun (x : Option Addr × Nat) => Zi r1384.1) (fun (x : Option Addr × Nat) own w => RdO own [0] w R5 x.1 x.2 r1384.2.1 ∧ BlkO own 1386 w g1137 70 #[.slice x.1 r1384.2.1.length x.2, Zi r1384.2.2]) (fun hk he h => ⟨RdO.evo (hits_sub hk (by decide)) he h.1, BlkO.evo (not_hit hk (by decide)) he h.2⟩)⟩, dv [7] [] 12 (Zi r1384.1)] z1383 d1383 (fm1 b1383_g1137) ?_ ?_
    ·refine sM e1383_6 <| sM e1383_4 <| sF (fun f => ok1 f.1) <| sF (fun f => or_field fo64_1 f.1 (by rfl)) <| sG to61 b1383_g1124 <| sF (fun f => or_len tu61 f.1 rfl) <| sM e1383_7 ?_
     refine sc (fun own a wx hf hsl hE => ?_) ?_
     ·obtain ⟨f_94, f_99, f_100, b_g1137, -⟩ := hf
      exact px (or_call cf31 (args3 f_94 f_99 f_100) (pack_reader_blob_w _ (forth own (look0 [(0, 2), (1381, 1)])) r1379.2 g1137 70 A1380 cA1380 (p1131.length : Int) 0 (look0_le rfl) (BlkO.forth_ (m := (look0 [(0, 2), (1381, 1)])) b_g1137) (RdO.forth_ (m := (look0 [(0, 2), (1381, 1)])) (RdO.evo rfl hE b1383_A1380)) r1384 hr1384) (post_mems (m := (look0 [(0, 2), (1381, 1)])) (m' := (look0 [(1, 1386), (2, 0)])) (hm_of2 rfl) (fun own' w' a' x h1 h => ⟨x, h1, ⟨RdO.back_ h.1 (by decide), BlkO.back_ h.2 (by decide)⟩⟩)))
     refine sc (fun own a wx hf hsl hE => ?_) ?_
     ·obtain ⟨⟨⟨A1385, cA1385⟩, f_101, b_A1385, b_g1137⟩, -⟩ := hf
      exact px (or_assign f_101)
     exact steps_nil
    intro o1387 a1387 w1387 d1387 z1387 hk1387 hf1387 hE1387
    obtain ⟨e1387_4, e1387_6, e1387_7, e1387_8, e1387_9, e1387_10⟩ := kt6 hk1387 e1383_4 e1383_6 e1383_7 e1383_8 e1383_9 e1383_10
    have e1387_12 := gv (hf1387 [8] rfl) rfl
    obtain ⟨⟨⟨A1385, cA1385⟩, (f_101 : a1387.eval (.tmp 101) = Zi r1384.1), (b1387_A1385 : RdO o1387 [0] w1387 R5 A1385 cA1385 r1384.2.1), (b1387_g1137 : BlkO o1387 1386 w1387 g1137 70 #[sl A1385 r1384.2.1 cA1385, Zi r1384.2.2])⟩, -⟩ := hf1387 [7] rfl
    have hX1387 := es_ hX1383 hE1387
    obtain ⟨b1387_g1124, b1387_g1145⟩ := be2 hE1387 b1383_g1124 b1383_g1145
    have b1387_A1126 := re_ hE1387 b1383_A1126
    have b1387_A1129 := RwN.evo rfl hE1387 b1383_A1129
    refine rq_seq 146 o1387 [0, 0, 2, 7, 15] [dv [] [7] 102 (Zi 0), dv [] [12] 103 (Zi r1384.1), dv [1] [] 104 (Zi (ad r1384.1 1)), dv [0, 2] [] 105 (Zi (mx 0 (ad r1384.1 1))), dv [3] [] 7 (Zi (mx 0 (ad r1384.1 1)))] z1387 d1387 ?_ ?_
    ·exact sM e1387_7 <| sM e1387_12 <| sF (fun f => or_add f.1 rfl rfl) <| sF (fun f => or_max f.1 f.2.1) <| sA <| steps_nil
    intro o1388 a1388 w1388 d1388 z1388 hk1388 hf1388 hE1388
    obtain ⟨e1388_4, e1388_6, e1388_8, e1388_9, e1388_10, e1388_12⟩ := kt6 hk1388 e1387_4 e1387_6 e1387_8 e1387_9 e1387_10 e1387_12
    have e1388_7 := gv (hf1388 [4] rfl) rfl
    have hX1388 := es_ hX1387 hE1388
    obtain ⟨b1388_g1124, b1388_g1145, b1388_g1137⟩ := be3 hE1388 b1387_g1124 b1387_g1145 b1387_g1137
    have b1388_A1126 := re_ hE1388 b1387_A1126
    have b1388_A1129 := RwN.evo rfl hE1388 b1387_A1129
    have b1388_A1385 := RdO.evo rfl hE1388 b1387_A1385
    obtain ⟨x1398, hx1398, hs⟩ := obind hs
    refine rd_seq g_mixed 146 [Fct.at_ 1125 g1124 64 #[sl A1126 p1128 c1127, sl A1129 p1131 c1130, .slice none 0 0]] o1388 [1397, 1125] [0, 0, 2, 6, 14, 0, 0, 96, 224, 510, 1023, 2047, 4095] [dv [] [4] 106 (pt g1124 0), dv [] [4] 107 (pt g1124 0), dv [1] [] 108 (pt g1124 0), dv [2] [] 109 (pt g1124 2), dv [3, 13] [] 110 (.slice none 0 0), dv [] [10] 111 (.agg #[Zi r1379.1.1, Zi r1379.1.2.1, Zi r1379.1.2.2]), dv [] [12] 112 (Zi r1384.1), dv [5, 6] [] 113 (.agg #[Zi r1379.1.1, Zi r1379.1.2.1, Zi r1379.1.2.2, Zi r1384.1]), ⟨[7], [], [], Fct.row 1396 [] 114 66 R66 [(r1379.1, r1384.1)]⟩, ⟨[4, 8], [], [1397], Fct.row 1399 [] 115 66 R66 x1398⟩, dv [0] [] 116 (pt g1124 0), dv [10] [] 117 (pt g1124 2), ⟨[11, 9, 13], [], [1125], Fct.by_ [1401] [115] (fun l own w => ∀ (A1400 : Option Addr) (cA1400 : Nat), l.getD 0 undef = sl A1400 x1398 cA1400 → BlkO own 1401 w g1124 64 #[sl A1126 p1128 c1127, sl A1129 p1131 c1130, sl A1400 x1398 cA1400]) (fun hk he h _ _ h0' => BlkO.evo (not_hit hk (by decide)) he (h _ _ h0'))⟩] z1388 d1388 (fm1 b1388_g1124) ?_ ?_
    ·refine sM e1388_4 <| sM e1388_4 <| sF (fun f => ok1 f.1) <| sF (fun f => or_field fo64_2 f.1 (by rfl)) ?_
     refine sc (fun own a wx hf hsl hE => ?_) ?_
     ·obtain ⟨f_109, (b_g1124 : BlkO own 1125 wx g1124 64 #[sl A1126 p1128 c1127, sl A1129 p1131 c1130, .slice none 0 0]), -⟩ := hf
      exact px (ld1 to62 f_109 b_g1124)
     refine sL ta28 e1388_10 b1388_g1145 <| sM e1388_12 <| sF (fun f => ok2 f.1 f.2.1) <| sF (fun f => or_lit (lab := 1396) (e := 66) (cs := #[Zi r1379.1.1, Zi r1379.1.2.1, Zi r1379.1.2.2, Zi r1384.1]) (F := E66) (nw1 f.1) rfl rfl (show 1 ≤ maxLen by decide)) ?_
     refine sc (fun own a wx hf hsl hE => ?_) ?_
     ·obtain ⟨(f_110 : a.eval (.tmp 110) = .slice none 0 0), ⟨⟨A1395, cA1395⟩, f_114, b_A1395⟩, -⟩ := hf
      exact px (or_append (R := R66) (lab := 1397) (lab2 := 1399) (L := []) (L3 := []) tp62 f_110 RwO.nil_ (by decide) f_114 (RwO.rd b_A1395) hx1398 (by decide) (by decide) (mem_of rfl) (.inl (Rep.fl_flat _)))
     refine sF (fun f => ok1 f.1) <| sF (fun f => or_field fo64_2 f.1 (by rfl)) ?_
     refine sc (fun own a wx hf hsl hE => ?_) ?_
     ·obtain ⟨f_117, ⟨⟨A1400, cA1400⟩, (f_115 : a.eval (.tmp 115) = sl A1400 x1398 cA1400), b_A1400⟩, b_g1124, -⟩ := hf
      exact px (or_store1 (lab := 1125) (lab2 := 1401) ts62 f_117 f_115 b_g1124 (by simp) rfl (mem_of rfl) (by decide) rfl (fun own' a' w' ha hb => fun _ _ h0' => by cases (f_115.symm.trans ((ha 115).symm.trans h0')); exact hb))
     exact steps_nil
    intro o1402 a1402 w1402 d1402 z1402 hk1402 hf1402 hE1402
    obtain ⟨e1402_4, e1402_6, e1402_7, e1402_8, e1402_9, e1402_10⟩ := kt6 hk1402 e1388_4 e1388_6 e1388_7 e1388_8 e1388_9 e1388_10
    obtain ⟨⟨⟨A1400, cA1400⟩, (f_115 : a1402.eval (.tmp 115) = sl A1400 x1398 cA1400), (b1402_A1400 : RwO o1402 1399 [] w1402 66 R66 A1400 cA1400 x1398)⟩, (bq_g1124 : ∀ (A1400 : Option Addr) (cA1400 : Nat), a1402.eval (.tmp 115) = sl A1400 x1398 cA1400 → BlkO o1402 1401 w1402 g1124 64 #[sl A1126 p1128 c1127, sl A1129 p1131 c1130, sl A1400 x1398 cA1400]), -⟩ := hf1402 [9, 12] rfl
    have b1402_g1124 := bq_g1124 _ _ f_115
    have hX1402 := es_ hX1388 hE1402
    obtain ⟨b1402_g1145, b1402_g1137⟩ := be2 hE1402 b1388_g1145 b1388_g1137
    have b1402_A1126 := re_ hE1402 b1388_A1126
    have b1402_A1129 := RwN.evo rfl hE1402 b1388_A1129
    have b1402_A1385 := RdO.evo rfl hE1402 b1388_A1385
    refine rq_seq 146 o1402 (bz 3) [dv [] [8] 118 (Zi 0), dv [0] [] 119 (Zi 1), dv [1] [] 8 (Zi 1)] z1402 d1402 ?_ ?_
    ·exact sM e1402_8 <| sF (fun f => or_add f.1 rfl (by decide)) <| sA <| steps_nil
    intro o1403 a1403 w1403 d1403 z1403 hk1403 hf1403 hE1403
    obtain ⟨e1403_4, e1403_6, e1403_7, e1403_9, e1403_10⟩ := kt5 hk1403 e1402_4 e1402_6 e1402_7 e1402_9 e1402_10
    have e1403_8 := gv (hf1403 [2] rfl) rfl
    have hX1403 := es_ hX1402 hE1403
    obtain ⟨b1403_g1145, b1403_g1137, b1403_g1124⟩ := be3 hE1403 b1402_g1145 b1402_g1137 b1402_g1124
    have b1403_A1126 := re_ hE1403 b1402_A1126
    have b1403_A1129 := RwN.evo rfl hE1403 b1402_A1129
    have b1403_A1385 := RdO.evo rfl hE1403 b1402_A1385
    have b1403_A1400 := re_ hE1403 b1402_A1400
    refine fl_goto ?_
    refine hp1372 _ _ _ rfl ?_
    exact hj1317 (Sum.inr (p1128, p1131, x1398, r1384.2.1, r1384.2.2, mx 0 (ad r1384.1 1), 1, r1367.1, r1379.1)) _ _ hs ⟨(rl [(1132, 1154), (1133, 1155), (1382, 1170), (1386, 1161), (1399, 1159), (1401, 1147)] o1403), g1124, A1126, c1127, A1129, c1130, A1400, cA1400, g1137, A1385, cA1385, g1145, d1403, z1403, e1403_4, e1403_6, e1403_7, e1403_8, e1403_9, e1403_10, (Evo.rl_ hX1403 (fun _ => Nat.le_refl 0) rfl), (BlkO.rl_ b1403_g1124), (RwO.rl_ b1403_A1126), (RwN.rl_ b1403_A1129), (RwO.rl_ b1403_A1400), (BlkO.rl_ b1403_g1137), (RdO.rl_ b1403_A1385), (BlkO.rl_ b1403_g1145)⟩
   refine fl_skip ?_
   refine hn1372 _ _ ?_
   refine fl_seq (fun Q1404 hn1404 hp1404 => ?_)
   refine fl_block (fun Q1405 hn1405 hx1405 hp1405 => ?_)
   refine rq_seq 146 o1374 (bz 6) [dv [] [6] 121 (pt g1137 0), dv [0] [] 122 (pt g1137 0), dv [1] [] 123 (pt g1137 1), dv [2] [] 124 (Zi r1367.2.2), dv [3] [] 125 (.bool (!decide (r1367.2.2 = 0))), dv [4] [] 120 (.bool (!decide (r1367.2.2 = 0)))] z1374 d1374 ?_ ?_
   ·exact sM e1374_6 <| sF (fun f => ok1 f.1) <| sF (fun f => or_field fo70_1 f.1 (by rfl)) <| sG to31 b1374_g1137 <| sF (fun f => or_neq f.1 rfl rfl) <| sA <| steps_nil
   intro o1406 a1406 w1406 d1406 z1406 hk1406 hf1406 hE1406
   obtain ⟨e1406_4, e1406_6, e1406_7⟩ := kt3 hk1406 e1374_4 e1374_6 e1374_7
   have e1406_120 := gv (hf1406 [5] rfl) rfl
   have hX1406 := es_ hX1374 hE1406
   obtain ⟨b1406_g1124, b1406_g1137⟩ := be2 hE1406 b1374_g1124 b1374_g1137
   have b1406_A1126 := re_ hE1406 b1374_A1126
   have b1406_A1129 := RwN.evo rfl hE1406 b1374_A1129
   have b1406_A1368 := RdO.evo rfl hE1406 b1374_A1368
   refine fl_cond e1406_120 hs (fun c1407 hs => ?_) (fun c1407 hs => ?_)
   ·refine rd_seq g_mixed 146 [] o1406 [] [0, 1, 3, 7, 0, 31] [dv [] [6] 126 (pt g1137 0), dv [0] [] 127 (pt g1137 0), dv [1] [] 128 (pt g1137 1), dv [2] [] 129 (Zi r1367.2.2), dv [] [] 2 (.pointer none), dv [3] [] 3 (Zi r1367.2.2)] z1406 d1406 nm_ ?_ ?_
    ·exact sM e1406_6 <| sF (fun f => ok1 f.1) <| sF (fun f => or_field fo70_1 f.1 (by rfl)) <| sG to31 b1406_g1137 <| sO (or_assign rfl) <| sA <| steps_nil
    intro o1408 a1408 w1408 d1408 z1408 hk1408 hf1408 hE1408
    have e1408_2 := gv (hf1408 [4] rfl) rfl
    have e1408_3 := gv (hf1408 [5] rfl) rfl
    have hX1408 := es_ hX1406 hE1408
    refine fl_ret ?_
    refine hp1405 _ _ _ rfl ?_
    refine hp1404 _ _ _ rfl ?_
    replace hs := z1317 _ hs
    refine hp1317.leaves _ _ _ rfl ?_
    obtain rfl := osome hs
    exact hret _ _ _ _ (.inl rfl) d1408 (results2_ rfl (RVal.tmp_ e1408_2) (RVal.tmp_ e1408_3)) ⟨o1408, rfl, hX1408⟩
   refine rq_seq 146 o1406 [0, 0, 2, 6, 14, 30, 63, 127] [dv [] [7] 131 (Zi 0), dv [] [4] 132 (pt g1124 0), dv [1] [] 133 (pt g1124 0), dv [2] [] 134 (pt g1124 1), dv [3] [] 135 (sl A1129 p1131 c1130), dv [4] [] 136 (Zi (p1131.length : Int)), dv [0, 5] [] 137 (.bool (decide (0 < (p1131.length : Int)))), dv [6] [] 130 (.bool (decide (0 < (p1131.length : Int))))] z1406 d1406 ?_ ?_
   ·exact sM e1406_7 <| sM e1406_4 <| sF (fun f => ok1 f.1) <| sF (fun f => or_field fo64_1 f.1 (by rfl)) <| sG to61 b1406_g1124 <| sF (fun f => or_len tu61 f.1 rfl) <| sF (fun f => or_lss f.1 f.2.1 rfl) <| sA <| steps_nil
   intro o1409 a1409 w1409 d1409 z1409 hk1409 hf1409 hE1409
   obtain ⟨e1409_4, e1409_6⟩ := kt2 hk1409 e1406_4 e1406_6
   have e1409_130 := gv (hf1409 [7] rfl) rfl
   have hX1409 := es_ hX1406 hE1409
   obtain ⟨b1409_g1124, b1409_g1137⟩ := be2 hE1409 b1406_g1124 b1406_g1137
   have b1409_A1126 := re_ hE1409 b1406_A1126
   have b1409_A1129 := RwN.evo rfl hE1409 b1406_A1129
   have b1409_A1368 := RdO.evo rfl hE1409 b1406_A1368
   refine fl_cond e1409_130 hs (fun c1410 hs => ?_) (fun c1410 hs => ?_)
   ·refine rq_seq 146 o1409 (bz 2) [dv [] [] 2 (.pointer none), dv [] [] 3 (Zi 7)] z1409 d1409 ?_ ?_
    ·exact sO (or_assign rfl) <| sO (or_assign rfl) <| steps_nil
    intro o1411 a1411 w1411 d1411 z1411 hk1411 hf1411 hE1411
    have e1411_2 := gv (hf1411 [0] rfl) rfl
    have e1411_3 := gv (hf1411 [1] rfl) rfl
    have hX1411 := es_ hX1409 hE1411
    refine fl_ret ?_
    refine hp1405 _ _ _ rfl ?_
    refine hp1404 _ _ _ rfl ?_
    replace hs := z1317 _ hs
    refine hp1317.leaves _ _ _ rfl ?_
    obtain rfl := osome hs
    exact hret _ _ _ _ (.inl rfl) d1411 (results2_ rfl (RVal.tmp_ e1411_2) (RVal.tmp_ e1411_3)) ⟨o1411, rfl, hX1411⟩
   refine rq_seq 146 o1409 (bz 7) [dv [] [6] 139 (pt g1137 0), dv [0] [] 140 (pt g1137 0), dv [1] [] 141 (pt g1137 0), dv [2] [] 142 (sl A1368 r1367.2.1 cA1368), dv [3] [] 143 (Zi (r1367.2.1.length : Int)), dv [4] [] 144 (.bool (decide (0 < (r1367.2.1.length : Int)))), dv [5] [] 138 (.bool (decide (0 < (r1367.2.1.length : Int))))] z1409 d1409 ?_ ?_
   ·exact sM e1409_6 <| sF (fun f => ok1 f.1) <| sF (fun f => or_field fo70_0 f.1 (by rfl)) <| sG to22 b1409_g1137 <| sF (fun f => or_len tu22 f.1 rfl) <| sF (fun f => or_gtr f.1 rfl rfl) <| sA <| steps_nil
   intro o1412 a1412 w1412 d1412 z1412 hk1412 hf1412 hE1412
   have e1412_4 := kt hk1412 e1409_4
   have e1412_138 := gv (hf1412 [6] rfl) rfl
   have hX1412 := es_ hX1409 hE1412
   have b1412_g1124 := be_ hE1412 b1409_g1124
   have b1412_A1126 := re_ hE1412 b1409_A1126
   have b1412_A1129 := RwN.evo rfl hE1412 b1409_A1129
   refine fl_cond e1412_138 hs (fun c1413 hs => ?_) (fun c1413 hs => ?_)
   ·refine rq_seq 146 o1412 (bz 2) [dv [] [] 2 (.pointer none), dv [] [] 3 (Zi 3)] z1412 d1412 ?_ ?_
    ·exact sO (or_assign rfl) <| sO (or_assign rfl) <| steps_nil
    intro o1414 a1414 w1414 d1414 z1414 hk1414 hf1414 hE1414
    have e1414_2 := gv (hf1414 [0] rfl) rfl
    have e1414_3 := gv (hf1414 [1] rfl) rfl
    have hX1414 := es_ hX1412 hE1414
    refine fl_ret ?_
    refine hp1405 _ _ _ rfl ?_
    refine hp1404 _ _ _ rfl ?_
    replace hs := z1317 _ hs
    refine hp1317.leaves _ _ _ rfl ?_
    obtain rfl := osome hs
    exact hret _ _ _ _ (.inl rfl) d1414 (results2_ rfl (RVal.tmp_ e1414_2) (RVal.tmp_ e1414_3)) ⟨o1414, rfl, hX1414⟩
   refine fl_skip ?_
   refine hn1405 _ _ ?_
   refine hn1404 _ _ ?_
   refine rq_seq 146 o1412 (bz 3) [dv [] [4] 145 (pt g1124 0), dv [0] [] 2 (pt g1124 0), dv [] [] 3 (Zi 0)] z1412 d1412 ?_ ?_
   ·exact sM e1412_4 <| sA <| sO (or_assign rfl) <| steps_nil
   intro o1415 a1415 w1415 d1415 z1415 hk1415 hf1415 hE1415
   have e1415_2 := gv (hf1415 [1] rfl) rfl
   have e1415_3 := gv (hf1415 [2] rfl) rfl
   have hX1415 := es_ hX1412 hE1415
   have b1415_g1124 := be_ hE1415 b1412_g1124
   have b1415_A1126 := re_ hE1415 b1412_A1126
   have b1415_A1129 := RwN.evo rfl hE1415 b1412_A1129
   refine fl_ret ?_
   replace hs := z1317 _ hs
   refine hp1317.leaves _ _ _ rfl ?_
   obtain rfl := osome hs
   exact hret _ _ _ _ (.inl rfl) d1415 (results2_ rfl (RVal.tmp_ e1415_2) (RVal.tmp_ e1415_3)) ⟨(rl [(841, 2), (1125, 1), (1132, 3), (1133, 4)] o1415), ((none, g1124), (A1126, c1127), (A1129, c1130), (none, 0)), rfl, (Evo.rl_ hX1415 (fun _ => Nat.le_refl 0) rfl), (RwO.rl_ b1415_A1126), (RwO.rl_ (RwN.rw_ b1415_A1129 (by decide))), RwO.nil_, (BlkO.rl_ b1415_g1124)⟩
  ·rintro zz1316 a1416 w1416 ⟨o1416, g1146, A1148, c1149, A1151, c1152, A1156, c1157, g1160, A1162, c1163, g1169, d1417, z1417, e1417_4, e1417_6, e1417_7, e1417_8, e1417_9, e1417_10, hE1417, b1417_g1146, b1417_A1148, b1417_A1151, b1417_A1156, b1417_g1160, b1417_A1162, b1417_g1169⟩ hs Q1416 hj1416 hp1416 z1416
   have hs : pack_Open_b1_1 p1150 p1153 p1158 r1164 r1165 used1166 i1167 n1168 last1171 = some zz1316 := hs
   conv => arg 4; whnf
   refine fl_seq (fun Q1418 hn1418 hp1418 => ?_)
   refine fl_skip ?_
   refine hn1418 _ _ ?_
   refine fl_seq (fun Q1419 hn1419 hp1419 => ?_)
   obtain ⟨x1420, hx1420, hs⟩ := obind hs
   refine rq_seq 146 o1416 [0, 0, 3, 7, 15, 31, 63, 127, 255, 511] [dv [] [8] 79 (Zi i1167), dv [] [9] 80 (Zi n1168), dv [0, 1] [] 81 (.bool (decide (i1167 < n1168))), dv [2] [] 82 (.bool (decide (i1167 < n1168))), dc [3] [6] (decide (i1167 < n1168)) 83 (pt g1160 0), dc [3, 4] [] (decide (i1167 < n1168)) 84 (pt g1160 0), dc [3, 5] [] (decide (i1167 < n1168)) 85 (pt g1160 1), dc [3, 6] [] (decide (i1167 < n1168)) 86 (Zi r1165), dc [3, 7] [] (decide (i1167 < n1168)) 87 (.bool (decide (r1165 = 0))), dv [3, 8] [] 88 (.bool x1420)] z1417 d1417 ?_ ?_
   ·exact sM e1417_8 <| sM e1417_9 <| sF (fun f => or_lss f.1 f.2.1 rfl) <| sV <| cT (fun _ s _ _ => or_move (s.1.trans e1417_6)) <| cT (fun f _ _ hg => ok1 (f.2.1.1 hg)) <| cT (fun f _ _ hg => or_field fo70_1 (f.2.1.1 hg) (by rfl)) <| cT (fun f _ hE hg => ld1 to31 (f.2.1.1 hg) (be_ hE b1417_g1160)) <| cT (fun f _ _ hg => or_eql (f.2.1.1 hg) rfl rfl) <| sF (fun f => or_and f.1 (fun hx => f.2.1.1 hx) rfl (osome hx1420).symm) <| steps_nil
   intro o1421 a1421 w1421 d1421 z1421 hk1421 hf1421 hE1421
   obtain ⟨e1421_4, e1421_6, e1421_7, e1421_8, e1421_9, e1421_10⟩ := kt6 hk1421 e1417_4 e1417_6 e1417_7 e1417_8 e1417_9 e1417_10
   have e1421_88 := gv (hf1421 [9] rfl) rfl
   have hX1421 := es_ hE1417 hE1421
   obtain ⟨b1421_g1146, b1421_g1160, b1421_g1169⟩ := be3 hE1421 b1417_g1146 b1417_g1160 b1417_g1169
   have b1421_A1148 := re_ hE1421 b1417_A1148
   have b1421_A1151 := RwN.evo rfl hE1421 b1417_A1151
   have b1421_A1156 := re_ hE1421 b1417_A1156
   have b1421_A1162 := RdO.evo rfl hE1421 b1417_A1162
   refine fl_cond e1421_88 hs (fun c1422 hs => ?_) (fun c1422 hs => ?_)
   ·obtain ⟨r1426, hr1426, hs⟩ := obind hs
    refine rr_seq 146 [Fct.at_ 1161 g1160 70 #[sl A1162 r1164 c1163, Zi r1165], Fct.at_ 1170 g1169 28 #[Zi last1171.1, Zi last1171.2.1, Zi last1171.2.2]] o1421 [1161, 1170] [0, 0, 0, 4, 15, 31] [dv [] [6] 89 (pt g1160 0), dv [7] [10] 90 (.agg #[Zi last1171.1, Zi last1171.2.1, Zi last1171.2.2]), dv [] [8] 91 (Zi i1167), dv [2] [] 92 (.bool (decide (i1167 = 0))), ⟨[0, 1, 3, 6], [], [1161], Fct.mems [0, 1428] 93 (fun (x : Option Addr × Nat) => .agg #[Zi r1426.1.1, Zi r1426.1.2.1, Zi r1426.1.2.2]) (fun (x : Option Addr × Nat) own w => RdO own [0] w R5 x.1 x.2 r1426.2.1 ∧ BlkO own 1428 w g1160 70 #[.slice x.1 r1426.2.1.length x.2, Zi r1426.2.2]) (fun hk he h => ⟨RdO.evo (hits_sub hk (by decide)) he h.1, BlkO.evo (not_hit hk (by decide)) he h.2⟩)⟩, ⟨[4, 7], [10], [1170], Fct.at_ 1429 g1169 28 #[Zi r1426.1.1, Zi r1426.1.2.1, Zi r1426.1.2.2]⟩] z1421 d1421 (fm2 b1421_g1160 b1421_g1169) ?_ ?_
    ·refine sM e1421_6 ?_
     refine sc (fun own a wx hf hsl hE => ?_) ?_
     ·obtain ⟨(b_g1169 : BlkO own 1170 wx g1169 28 #[Zi last1171.1, Zi last1171.2.1, Zi last1171.2.2]), -⟩ := hf
      obtain ⟨s_10, -⟩ := hsl
      exact px (ldS ta28 (s_10.trans e1421_10) b_g1169)
     refine sM e1421_8 <| sF (fun f => or_eql f.1 rfl rfl) ?_
     refine sc (fun own a wx hf hsl hE => ?_) ?_
     ·obtain ⟨f_89, f_90, f_92, b_g1160, -⟩ := hf
      exact px (or_call cf30 (args3 f_89 f_90 f_92) (pack_reader_tile_w _ (forth own (look0 [(0, 2), (1161, 1)])) (r1164, r1165) g1160 70 A1162 c1163 last1171 (decide (i1167 = 0)) (look0_le rfl) (BlkO.forth_ (m := (look0 [(0, 2), (1161, 1)])) b_g1160) (RdO.forth_ (m := (look0 [(0, 2), (1161, 1)])) (RdO.evo rfl hE b1421_A1162)) r1426 hr1426) (post_mems (m := (look0 [(0, 2), (1161, 1)])) (m' := (look0 [(1, 1428), (2, 0)])) (hm_of2 rfl) (fun own' w' a' x h1 h => ⟨x, h1, ⟨RdO.back_ h.1 (by decide), BlkO.back_ h.2 (by decide)⟩⟩)))
     refine sc (fun own a wx hf hsl hE => ?_) ?_
     ·obtain ⟨⟨⟨A1427, cA1427⟩, f_93, b_A1427, b_g1160⟩, b_g1169, -⟩ := hf
      obtain ⟨s_10, -⟩ := hsl
      exact px (or_store (l := #[Zi r1426.1.1, Zi r1426.1.2.1, Zi r1426.1.2.2]) (lab := 1170) (lab2 := 1429) ts28 (s_10.trans e1421_10) f_93 b_g1169 (by simp) (by kernel_rfl) (mem_of rfl) (by decide) (by kernel_rfl) (fun own' a' w' ha hb => hb))
     exact steps_nil
    intro o1430 a1430 w1430 d1430 z1430 hk1430 hf1430 hE1430
    obtain ⟨e1430_4, e1430_6, e1430_7, e1430_8, e1430_9, e1430_10⟩ := kt6 hk1430 e1421_4 e1421_6 e1421_7 e1421_8 e1421_9 e1421_10
    obtain ⟨⟨⟨A1427, cA1427⟩, (f_93 : a1430.eval (.tmp 93) = .agg #[Zi r1426.1.1, Zi r1426.1.2.1, Zi r1426.1.2.2]), (b1430_A1427 : RdO o1430 [0] w1430 R5 A1427 cA1427 r1426.2.1), (b1430_g1160 : BlkO o1430 1428 w1430 g1160 70 #[sl A1427 r1426.2.1 cA1427, Zi r1426.2.2])⟩, (b1430_g1169 : BlkO o1430 1429 w1430 g1169 28 #[Zi r1426.1.1, Zi r1426.1.2.1, Zi r1426.1.2.2]), -⟩ := hf1430 [4, 5] rfl
    have hX1430 := es_ hX1421 hE1430
    have b1430_g1146 := be_ hE1430 b1421_g1146
    have b1430_A1148 := re_ hE1430 b1421_A1148
    have b1430_A1151 := RwN.evo rfl hE1430 b1421_A1151
    have b1430_A1156 := re_ hE1430 b1421_A1156
    obtain ⟨r1431, hr1431, hs⟩ := obind hs
    refine rr_seq 146 [Fct.at_ 1428 g1160 70 #[sl A1427 r1426.2.1 cA1427, Zi r1426.2.2]] o1430 [1428] [0, 0, 2, 6, 14, 30, 0, 127, 255] [dv [] [6] 94 (pt g1160 0), dv [] [4] 95 (pt g1146 0), dv [1] [] 96 (pt g1146 0), dv [2] [] 97 (pt g1146 1), dv [3] [] 98 (sl A1151 p1153 c1152), dv [4] [] 99 (Zi (p1153.length : Int)), dv [] [7] 100 (Zi used1166), ⟨[0, 5, 6, 9], [], [1428], Fct.mems [0, 1433] 101 (fun (x : Option Addr × Nat) => Zi r1431.1) (fun (x : Option Addr × Nat) own w => RdO own [0] w R5 x.1 x.2 r1431.2.1 ∧ BlkO own 1433 w g1160 70 #[.slice x.1 r1431.2.1.length x.2, Zi r1431.2.2]) (fun hk he h => ⟨RdO.evo (hits_sub hk (by decide)) he h.1, BlkO.evo (not_hit hk (by decide)) he h.2⟩)⟩, dv [7] [] 12 (Zi r1431.1)] z1430 d1430 (fm1 b1430_g1160) ?_ ?_
    ·refine sM e1430_6 <| sM e1430_4 <| sF (fun f => ok1 f.1) <| sF (fun f => or_field fo64_1 f.1 (by rfl)) <| sG to61 b1430_g1146 <| sF (fun f => or_len tu61 f.1 rfl) <| sM e1430_7 ?_
     refine sc (fun own a wx hf hsl hE => ?_) ?_
     ·obtain ⟨f_94, f_99, f_100, b_g1160, -⟩ := hf
      exact px (or_call cf31 (args3 f_94 f_99 f_100) (pack_reader_blob_w _ (forth own (look0 [(0, 2), (1428, 1)])) r1426.2 g1160 70 A1427 cA1427 (p1153.length : Int) used1166 (look0_le rfl) (BlkO.forth_ (m := (look0 [(0, 2), (1428, 1)])) b_g1160) (RdO.forth_ (m := (look0 [(0, 2), (1428, 1)])) (RdO.evo rfl hE b1430_A1427)) r1431 hr1431) (post_mems (m := (look0 [(0, 2), (1428, 1)])) (m' := (look0 [(1, 1433), (2, 0)])) (hm_of2 rfl) (fun own' w' a' x h1 h => ⟨x, h1, ⟨RdO.back_ h.1 (by decide), BlkO.back_ h.2 (by decide)⟩⟩)))
     refine sc (fun own a wx hf hsl hE => ?_) ?_
     ·obtain ⟨⟨⟨A1432, cA1432⟩, f_101, b_A1432, b_g1160⟩, -⟩ := hf
      exact px (or_assign f_101)
     exact steps_nil
    intro o1434 a1434 w1434 d1434 z1434 hk1434 hf1434 hE1434
    obtain ⟨e1434_4, e1434_6, e1434_7, e1434_8, e1434_9, e1434_10⟩ := kt6 hk1434 e1430_4 e1430_6 e1430_7 e1430_8 e1430_9 e1430_10
    have e1434_12 := gv (hf1434 [8] rfl) rfl
    obtain ⟨⟨⟨A1432, cA1432⟩, (f_101 : a1434.eval (.tmp 101) = Zi r1431.1), (b1434_A1432 : RdO o1434 [0] w1434 R5 A1432 cA1432 r1431.2.1), (b1434_g1160 : BlkO o1434 1433 w1434 g1160 70 #[sl A1432 r1431.2.1 cA1432, Zi r1431.2.2])⟩, -⟩ := hf1434 [7] rfl
    have hX1434 := es_ hX1430 hE1434
    obtain ⟨b1434_g1146, b1434_g1169⟩ := be2 hE1434 b1430_g1146 b1430_g1169
    have b1434_A1148 := re_ hE1434 b1430_A1148
    have b1434_A1151 := RwN.evo rfl hE1434 b1430_A1151
    have b1434_A1156 := re_ hE1434 b1430_A1156
    refine rq_seq 146 o1434 [0, 0, 2, 7, 15] [dv [] [7] 102 (Zi used1166), dv [] [12] 103 (Zi r1431.1), dv [1] [] 104 (Zi (ad r1431.1 1)), dv [0, 2] [] 105 (Zi (mx used1166 (ad r1431.1 1))), dv [3] [] 7 (Zi (mx used1166 (ad r1431.1 1)))] z1434 d1434 ?_ ?_
    ·exact sM e1434_7 <| sM e1434_12 <| sF (fun f => or_add f.1 rfl rfl) <| sF (fun f => or_max f.1 f.2.1) <| sA <| steps_nil
    intro o1435 a1435 w1435 d1435 z1435 hk1435 hf1435 hE1435
    obtain ⟨e1435_4, e1435_6, e1435_8, e1435_9, e1435_10, e1435_12⟩ := kt6 hk1435 e1434_4 e1434_6 e1434_8 e1434_9 e1434_10 e1434_12
    have e1435_7 := gv (hf1435 [4] rfl) rfl
    have hX1435 := es_ hX1434 hE1435
    obtain ⟨b1435_g1146, b1435_g1169, b1435_g1160⟩ := be3 hE1435 b1434_g1146 b1434_g1169 b1434_g1160
    have b1435_A1148 := re_ hE1435 b1434_A1148
    have b1435_A1151 := RwN.evo rfl hE1435 b1434_A1151
    have b1435_A1156 := re_ hE1435 b1434_A1156
    have b1435_A1432 := RdO.evo rfl hE1435 b1434_A1432
    obtain ⟨x1445, hx1445, hs⟩ := obind hs
    refine rd_seq g_mixed 146 [Fct.rowAt 1159 [] 66 R66 A1156 c1157 p1158, Fct.at_ 1147 g1146 64 #[sl A1148 p1150 c1149, sl A1151 p1153 c1152, sl A1156 p1158 c1157]] o1435 [1159, 1147] [0, 0, 2, 6, 14, 0, 0, 96, 224, 510, 1023, 2047, 4095] [dv [] [4] 106 (pt g1146 0), dv [] [4] 107 (pt g1146 0), dv [1] [] 108 (pt g1146 0), dv [2] [] 109 (pt g1146 2), dv [3, 14] [] 110 (sl A1156 p1158 c1157), dv [] [10] 111 (.agg #[Zi r1426.1.1, Zi r1426.1.2.1, Zi r1426.1.2.2]), dv [] [12] 112 (Zi r1431.1), dv [5, 6] [] 113 (.agg #[Zi r1426.1.1, Zi r1426.1.2.1, Zi r1426.1.2.2, Zi r1431.1]), ⟨[7], [], [], Fct.row 1444 [] 114 66 R66 [(r1426.1, r1431.1)]⟩, ⟨[4, 8, 13], [], [1159], Fct.row 1446 [] 115 66 R66 x1445⟩, dv [0] [] 116 (pt g1146 0), dv [10] [] 117 (pt g1146 2), ⟨[11, 9, 14], [], [1147], Fct.by_ [1448] [115] (fun l own w => ∀ (A1447 : Option Addr) (cA1447 : Nat), l.getD 0 undef = sl A1447 x1445 cA1447 → BlkO own 1448 w g1146 64 #[sl A1148 p1150 c1149, sl A1151 p1153 c1152, sl A1447 x1445 cA1447]) (fun hk he h _ _ h0' => BlkO.evo (not_hit hk (by decide)) he (h _ _ h0'))⟩] z1435 d1435 (fm2 b1435_A1156 b1435_g1146) ?_ ?_
    ·refine sM e1435_4 <| sM e1435_4 <| sF (fun f => ok1 f.1) <| sF (fun f => or_field fo64_2 f.1 (by rfl)) ?_
     refine sc (fun own a wx hf hsl hE => ?_) ?_
     ·obtain ⟨f_109, (b_g1146 : BlkO own 1147 wx g1146 64 #[sl A1148 p1150 c1149, sl A1151 p1153 c1152, sl A1156 p1158 c1157]), -⟩ := hf
      exact px (ld1 to62 f_109 b_g1146)
     refine sL ta28 e1435_10 b1435_g1169 <| sM e1435_12 <| sF (fun f => ok2 f.1 f.2.1) <| sF (fun f => or_lit (lab := 1444) (e := 66) (cs := #[Zi r1426.1.1, Zi r1426.1.2.1, Zi r1426.1.2.2, Zi r1431.1]) (F := E66) (nw1 f.1) rfl rfl (show 1 ≤ maxLen by decide)) ?_
     refine sc (fun own a wx hf hsl hE => ?_) ?_
     ·obtain ⟨f_110, ⟨⟨A1443, cA1443⟩, f_114, b_A1443⟩, b_A1156, -⟩ := hf
      exact px (or_append (R := R66) (lab := 1159) (lab2 := 1446) (L := []) (L3 := []) tp62 f_110 b_A1156 (by decide) f_114 (RwO.rd b_A1443) hx1445 (by decide) (by decide) (mem_of rfl) (.inl (Rep.fl_flat _)))
     refine sF (fun f => ok1 f.1) <| sF (fun f => or_field fo64_2 f.1 (by rfl)) ?_
     refine sc (fun own a wx hf hsl hE => ?_) ?_
     ·obtain ⟨f_117, ⟨⟨A1447, cA1447⟩, (f_115 : a.eval (.tmp 115) = sl A1447 x1445 cA1447), b_A1447⟩, b_g1146, -⟩ := hf
      exact px (or_store1 (lab := 1147) (lab2 := 1448) ts62 f_117 f_115 b_g1146 (by simp) rfl (mem_of rfl) (by decide) rfl (fun own' a' w' ha hb => fun _ _ h0' => by cases (f_115.symm.trans ((ha 115).symm.trans h0')); exact hb))
     exact steps_nil
    intro o1449 a1449 w1449 d1449 z1449 hk1449 hf1449 hE1449
    obtain ⟨e1449_4, e1449_6, e1449_7, e1449_8, e1449_9, e1449_10⟩ := kt6 hk1449 e1435_4 e1435_6 e1435_7 e1435_8 e1435_9 e1435_10
    obtain ⟨⟨⟨A1447, cA1447⟩, (f_115 : a1449.eval (.tmp 115) = sl A1447 x1445 cA1447), (b1449_A1447 : RwO o1449 1446 [] w1449 66 R66 A1447 cA1447 x1445)⟩, (bq_g1146 : ∀ (A1447 : Option Addr) (cA1447 : Nat), a1449.eval (.tmp 115) = sl A1447 x1445 cA1447 → BlkO o1449 1448 w1449 g1146 64 #[sl A1148 p1150 c1149, sl A1151 p1153 c1152, sl A1447 x1445 cA1447]), -⟩ := hf1449 [9, 12] rfl
    have b1449_g1146 := bq_g1146 _ _ f_115
    have hX1449 := es_ hX1435 hE1449
    obtain ⟨b1449_g1169, b1449_g1160⟩ := be2 hE1449 b1435_g1169 b1435_g1160
    have b1449_A1148 := re_ hE1449 b1435_A1148
    have b1449_A1151 := RwN.evo rfl hE1449 b1435_A1151
    have b1449_A1432 := RdO.evo rfl hE1449 b1435_A1432
    refine rq_seq 146 o1449 (bz 3) [dv [] [8] 118 (Zi i1167), dv [0] [] 119 (Zi (ad i1167 1)), dv [1] [] 8 (Zi (ad i1167 1))] z1449 d1449 ?_ ?_
    ·exact sM e1449_8 <| sF (fun f => or_add f.1 rfl rfl) <| sA <| steps_nil
    intro o1450 a1450 w1450 d1450 z1450 hk1450 hf1450 hE1450
    obtain ⟨e1450_4, e1450_6, e1450_7, e1450_9, e1450_10⟩ := kt5 hk1450 e1449_4 e1449_6 e1449_7 e1449_9 e1449_10
    have e1450_8 := gv (hf1450 [2] rfl) rfl
    have hX1450 := es_ hX1449 hE1450
    obtain ⟨b1450_g1169, b1450_g1160, b1450_g1146⟩ := be3 hE1450 b1449_g1169 b1449_g1160 b1449_g1146
    have b1450_A1148 := re_ hE1450 b1449_A1148
    have b1450_A1151 := RwN.evo rfl hE1450 b1449_A1151
    have b1450_A1432 := RdO.evo rfl hE1450 b1449_A1432
    have b1450_A1447 := re_ hE1450 b1449_A1447
    refine fl_goto ?_
    refine hp1419 _ _ _ rfl ?_
    exact hj1416 (Sum.inr (p1150, p1153, x1445, r1431.2.1, r1431.2.2, mx used1166 (ad r1431.1 1), ad i1167 1, n1168, r1426.1)) _ _ hs ⟨(rl [(1429, 1170), (1433, 1161), (1446, 1159), (1448, 1147)] o1450), g1146, A1148, c1149, A1151, c1152, A1447, cA1447, g1160, A1432, cA1432, g1169, d1450, z1450, e1450_4, e1450_6, e1450_7, e1450_8, e1450_9, e1450_10, (Evo.rl_ hX1450 (fun _ => Nat.le_refl 0) rfl), (BlkO.rl_ b1450_g1146), (RwO.rl_ b1450_A1148), (RwN.rl_ b1450_A1151), (RwO.rl_ b1450_A1447), (BlkO.rl_ b1450_g1160), (RdO.rl_ b1450_A1432), (BlkO.rl_ b1450_g1169)⟩
   refine fl_skip ?_
   refine hn1419 _ _ ?_
   refine fl_seq (fun Q1451 hn1451 hp1451 => ?_)
   refine fl_block (fun Q1452 hn1452 hx1452 hp1452 => ?_)
   refine rq_seq 146 o1421 (bz 6) [dv [] [6] 121 (pt g1160 0), dv [0] [] 122 (pt g1160 0), dv [1] [] 123 (pt g1160 1), dv [2] [] 124 (Zi r1165), dv [3] [] 125 (.bool (!decide (r1165 = 0))), dv [4] [] 120 (.bool (!decide (r1165 = 0)))] z1421 d1421 ?_ ?_
   ·exact sM e1421_6 <| sF (fun f => ok1 f.1) <| sF (fun f => or_field fo70_1 f.1 (by rfl)) <| sG to31 b1421_g1160 <| sF (fun f => or_neq f.1 rfl rfl) <| sA <| steps_nil
   intro o1453 a1453 w1453 d1453 z1453 hk1453 hf1453 hE1453
   obtain ⟨e1453_4, e1453_6, e1453_7⟩ := kt3 hk1453 e1421_4 e1421_6 e1421_7
   have e1453_120 := gv (hf1453 [5] rfl) rfl
   have hX1453 := es_ hX1421 hE1453
   obtain ⟨b1453_g1146, b1453_g1160⟩ := be2 hE1453 b1421_g1146 b1421_g1160
   have b1453_A1148 := re_ hE1453 b1421_A1148
   have b1453_A1151 := RwN.evo rfl hE1453 b1421_A1151
   have b1453_A1156 := re_ hE1453 b1421_A1156
   have b1453_A1162 := RdO.evo rfl hE1453 b1421_A1162
   refine fl_cond e1453_120 hs (fun c1454 hs => ?_) (fun c1454 hs => ?_)
   ·refine rd_seq g_mixed 146 [] o1453 [] [0, 1, 3, 7, 0, 31] [dv [] [6] 126 (pt g1160 0), dv [0] [] 127 (pt g1160 0), dv [1] [] 128 (pt g1160 1), dv [2] [] 129 (Zi r1165), dv [] [] 2 (.pointer none), dv [3] [] 3 (Zi r1165)] z1453 d1453 nm_ ?_ ?_
    ·exact sM e1453_6 <| sF (fun f => ok1 f.1) <| sF (fun f => or_field fo70_1 f.1 (by rfl)) <| sG to31 b1453_g1160 <| sO (or_assign rfl) <| sA <| steps_nil
    intro o1455 a1455 w1455 d1455 z1455 hk1455 hf1455 hE1455
    have e1455_2 := gv (hf1455 [4] rfl) rfl
    have e1455_3 := gv (hf1455 [5] rfl) rfl
    have hX1455 := es_ hX1453 hE1455
    refine fl_ret ?_
    refine hp1452 _ _ _ rfl ?_
    refine hp1451 _ _ _ rfl ?_
    replace hs := z1416 _ hs
    refine hp1416.leaves _ _ _ rfl ?_
    obtain rfl := osome hs
    exact hret _ _ _ _ (.inl rfl) d1455 (results2_ rfl (RVal.tmp_ e1455_2) (RVal.tmp_ e1455_3)) ⟨o1455, rfl, hX1455⟩
   refine rq_seq 146 o1453 [0, 0, 2, 6, 14, 30, 63, 127] [dv [] [7] 131 (Zi used1166), dv [] [4] 132 (pt g1146 0), dv [1] [] 133 (pt g1146 0), dv [2] [] 134 (pt g1146 1), dv [3] [] 135 (sl A1151 p1153 c1152), dv [4] [] 136 (Zi (p1153.length : Int)), dv [0, 5] [] 137 (.bool (decide (used1166 < (p1153.length : Int)))), dv [6] [] 130 (.bool (decide (used1166 < (p1153.length : Int))))] z1453 d1453 ?_ ?_
   ·exact sM e1453_7 <| sM e1453_4 <| sF (fun f => ok1 f.1) <| sF (fun f => or_field fo64_1 f.1 (by rfl)) <| sG to61 b1453_g1146 <| sF (fun f => or_len tu61 f.1 rfl) <| sF (fun f => or_lss f.1 f.2.1 rfl) <| sA <| steps_nil
   intro o1456 a1456 w1456 d1456 z1456 hk1456 hf1456 hE1456
   obtain ⟨e1456_4, e1456_6⟩ := kt2 hk1456 e1453_4 e1453_6
   have e1456_130 := gv (hf1456 [7] rfl) rfl
   have hX1456 := es_ hX1453 hE1456
   obtain ⟨b1456_g1146, b1456_g1160⟩ := be2 hE1456 b1453_g1146 b1453_g1160
   have b1456_A1148 := re_ hE1456 b1453_A1148
   have b1456_A1151 := RwN.evo rfl hE1456 b1453_A1151
   have b1456_A1156 := re_ hE1456 b1453_A1156
   have b1456_A1162 := RdO.evo rfl hE1456 b1453_A1162
   refine fl_cond e1456_130 hs (fun c1457 hs => ?_) (fun c1457 hs => ?_)
   ·refine rq_seq 146 o1456 (bz 2) [dv [] [] 2 (.pointer none), dv [] [] 3 (Zi 7)] z1456 d1456 ?_ ?_
    ·exact sO (or_assign rfl) <| sO (or_assign rfl) <| steps_nil
    intro o1458 a1458 w1458 d1458 z1458 hk1458 hf1458 hE1458
    have e1458_2 := gv (hf1458 [0] rfl) rfl
    have e1458_3 := gv (hf1458 [1] rfl) rfl
    have hX1458 := es_ hX1456 hE1458
    refine fl_ret ?_
    refine hp1452 _ _ _ rfl ?_
    refine hp1451 _ _ _ rfl ?_
    replace hs := z1416 _ hs
    refine hp1416.leaves _ _ _ rfl ?_
    obtain rfl := osome hs
    exact hret _ _ _ _ (.inl rfl) d1458 (results2_ rfl (RVal.tmp_ e1458_2) (RVal.tmp_ e1458_3)) ⟨o1458, rfl, hX1458⟩
   refine rq_seq 146 o1456 (bz 7) [dv [] [6] 139 (pt g1160 0), dv [0] [] 140 (pt g1160 0), dv [1] [] 141 (pt g1160 0), dv [2] [] 142 (sl A1162 r1164 c1163), dv [3] [] 143 (Zi (r1164.length : Int)), dv [4] [] 144 (.bool (decide (0 < (r1164.length : Int)))), dv [5] [] 138 (.bool (decide (0 < (r1164.length : Int))))] z1456 d1456 ?_ ?_
   ·exact sM e1456_6 <| sF (fun f => ok1 f.1) <| sF (fun f => or_field fo70_0 f.1 (by rfl)) <| sG to22 b1456_g1160 <| sF (fun f => or_len tu22 f.1 rfl) <| sF (fun f => or_gtr f.1 rfl rfl) <| sA <| steps_nil
   intro o1459 a1459 w1459 d1459 z1459 hk1459 hf1459 hE1459
   have e1459_4 := kt hk1459 e1456_4
   have e1459_138 := gv (hf1459 [6] rfl) rfl
   have hX1459 := es_ hX1456 hE1459
   have b1459_g1146 := be_ hE1459 b1456_g1146
   have b1459_A1148 := re_ hE1459 b1456_A1148
   have b1459_A1151 := RwN.evo rfl hE1459 b1456_A1151
   have b1459_A1156 := re_ hE1459 b1456_A1156
   refine fl_cond e1459_138 hs (fun c1460 hs => ?_) (fun c1460 hs => ?_)
   ·refine rq_seq 146 o1459 (bz 2) [dv [] [] 2 (.pointer none), dv [] [] 3 (Zi 3)] z1459 d1459 ?_ ?_
    ·exact sO (or_assign rfl) <| sO (or_assign rfl) <| steps_nil
    intro o1461 a1461 w1461 d1461 z1461 hk1461 hf1461 hE1461
    have e1461_2 := gv (hf1461 [0] rfl) rfl
    have e1461_3 := gv (hf1461 [1] rfl) rfl
    have hX1461 := es_ hX1459 hE1461
    refine fl_ret ?_
    refine hp1452 _ _ _ rfl ?_
    refine hp1451 _ _ _ rfl ?_
    replace hs := z1416 _ hs
    refine hp1416.leaves _ _ _ rfl ?_
    obtain rfl := osome hs
    exact hret _ _ _ _ (.inl rfl) d1461 (results2_ rfl (RVal.tmp_ e1461_2) (RVal.tmp_ e1461_3)) ⟨o1461, rfl, hX1461⟩
   refine fl_skip ?_
   refine hn1452 _ _ ?_
   refine hn1451 _ _ ?_
   refine rq_seq 146 o1459 (bz 3) [dv [] [4] 145 (pt g1146 0), dv [0] [] 2 (pt g1146 0), dv [] [] 3 (Zi 0)] z1459 d1459 ?_ ?_
   ·exact sM e1459_4 <| sA <| sO (or_assign rfl) <| steps_nil
   intro o1462 a1462 w1462 d1462 z1462 hk1462 hf1462 hE1462
   have e1462_2 := gv (hf1462 [1] rfl) rfl
   have e1462_3 := gv (hf1462 [2] rfl) rfl
   have hX1462 := es_ hX1459 hE1462
   have b1462_g1146 := be_ hE1462 b1459_g1146
   have b1462_A1148 := re_ hE1462 b1459_A1148
   have b1462_A1151 := RwN.evo rfl hE1462 b1459_A1151
   have b1462_A1156 := re_ hE1462 b1459_A1156
   refine fl_ret ?_
   replace hs := z1416 _ hs
   refine hp1416.leaves _ _ _ rfl ?_
   obtain rfl := osome hs
   exact hret _ _ _ _ (.inl rfl) d1462 (results2_ rfl (RVal.tmp_ e1462_2) (RVal.tmp_ e1462_3)) ⟨(rl [(841, 2), (1147, 1), (1154, 3), (1155, 4), (1159, 5)] o1462), ((none, g1146), (A1148, c1149), (A1151, c1152), (A1156, c1157)), rfl, (Evo.rl_ hX1462 (fun _ => Nat.le_refl 0) rfl), (RwO.rl_ b1462_A1148), (RwO.rl_ (RwN.rw_ b1462_A1151 (by decide))), (RwO.rl_ b1462_A1156), (BlkO.rl_ b1462_g1146)⟩
theorem pack_Open_w (w : World) (b1 : List Int) (Ab1 : Option Addr) (cb1 : Nat) (hb1 : RdO (fun _ => 0) [0] w R5 Ab1 cb1 b1) (r : ((List Int) × (List (List Int)) × (List ((Int × Int × Int) × Int))) × Int) (hs : pack_Open b1 = some (.inl r)) :
  Calls Try.prog 12 #[sl Ab1 b1 cb1] w fun e w' => ∃ (own' : Own) (x : (Option Addr × Nat) × (Option Addr × Nat) × (Option Addr × Nat) × (Option Addr × Nat)), e = .returned (.tuple #[.pointer (some ⟨x.1.2, 0, none⟩), Zi r.2]) ∧ Evo [] (fun _ => 0) own' w w' ∧ RwO own' 2 [] w' 5 R5 x.2.1.1 x.2.1.2 r.1.1 ∧ RwO own' 3 [4] w' 22 R22 x.2.2.1.1 x.2.2.1.2 r.1.2.1 ∧ RwO own' 5 [] w' 66 R66 x.2.2.2.1 x.2.2.2.2 r.1.2.2 ∧ BlkO own' 1 w' x.1.2 64 #[.slice x.2.1.1 r.1.1.length x.2.1.2, .slice x.2.2.1.1 r.1.2.1.length x.2.2.1.2, .slice x.2.2.2.1 r.1.2.2.length x.2.2.2.2] := pack_Open_z w b1 Ab1 cb1 hb1 (.inl r) hs
theorem pack_Open_n (w : World) (b1 : List Int) (Ab1 : Option Addr) (cb1 : Nat) (hb1 : RdO (fun _ => 0) [0] w R5 Ab1 cb1 b1) (x : Unit × Int) (hs : pack_Open b1 = some (.inr x)) :
  Calls Try.prog 12 #[sl Ab1 b1 cb1] w fun e w' => ∃ own' : Own, e = .returned (.tuple #[.pointer none, Zi x.2]) ∧ Evo [] (fun _ => 0) own' w w' := pack_Open_z w b1 Ab1 cb1 hb1 (.inr x) hs
end Go.Proofs.Ytnmkonlfnpcoiaa
