import Derived.Test.YtnmkonlfnpcoiaaWp3
import Derived.Test.YtnmkonlfnpcoiaaSp4
namespace Go.Proofs.Ytnmkonlfnpcoiaa
open Go.RowKit
set_option linter.unusedVariables false
set_option maxRecDepth 10000
theorem pack_Write_1_w (w : World) (own : Own) (n1 : Int) (f1 : List Int) (gf1 : Nat) (tf1 : TypeId) (Af1_0 : Option Addr) (cf1_0 : Nat) (hown : ∀ b, own b ≤ 2) (hgf1 : BlkO own 1 w gf1 tf1 #[sl Af1_0 f1 cf1_0]) (hAf1_0 : RwO own 2 [] w 5 R5 Af1_0 cf1_0 f1) (r : List Int) (hs : pack_Write_1 n1 f1 = some r) :
  Calls Try.prog 24 #[Zi n1, pt gf1 0] w fun e w' => ∃ (own' : Own) (x : Option Addr × Nat), e = .returned (.tuple #[]) ∧ Evo [1, 2] own own' w w' ∧ RwO own' 2 [] w' 5 R5 x.1 x.2 r ∧ BlkO own' 1 w' gf1 tf1 #[.slice x.1 r.length x.2] := by
 refine fl_enter (n := 9) rfl rfl rfl (Nat.le_of_ble_eq_true rfl) ?_
 intro a0 Q d0 z0 harg hret
 have ha0 := harg 0 _ rfl
 have ha1 := harg 1 _ rfl
 clear harg
 have hE0 : Evo [1, 2] own own w w := Evo.refl _ _ _
 obtain ⟨r51, hr51, hs⟩ := obind hs
 obtain ⟨x54, hx54, hs⟩ := obind hs
 refine rd_ g_mixed 9 [Fct.rowAt 2 [] 5 R5 Af1_0 cf1_0 f1, Fct.at_ 1 gf1 tf1 #[sl Af1_0 f1 cf1_0]] own [2, 1] [0, 0, 2, 6, 14, 31, 63] [dv [8] [1] 3 (sl Af1_0 f1 cf1_0), dv [] [0] 4 (Zi n1), dv [1] [] 5 (.int .u64 (IntKind.u64.wrap n1)), ⟨[2], [], [], Fct.row 50 [] 6 26 R26 [IntKind.u64.wrap n1]⟩, ⟨[3], [], [], Fct.row 53 [] 7 5 R5 r51⟩, ⟨[0, 4, 7], [], [2], Fct.row 55 [] 8 5 R5 x54⟩, ⟨[5, 8], [1], [1], Fct.by_ [57] [8] (fun l own w => ∀ (A56 : Option Addr) (cA56 : Nat), l.getD 0 undef = sl A56 x54 cA56 → BlkO own 57 w gf1 tf1 #[sl A56 x54 cA56]) (fun hk he h _ _ h0' => BlkO.evo (not_hit hk (by decide)) he (h _ _ h0'))⟩] z0 d0 (fm2 hAf1_0 hgf1) ?_ ?_
 ·refine sc (fun own a wx hf hsl hE => ?_) ?_
  ·obtain ⟨(b_gf1 : BlkO own 1 wx gf1 tf1 #[sl Af1_0 f1 cf1_0]), -⟩ := hf
   obtain ⟨s_1, -⟩ := hsl
   exact px (ld1 to22 (s_1.trans ha1) b_gf1)
  refine sM ha0 <| sF (fun f => or_conv f.1 tn3 tn26 rfl) <| sF (fun f => or_lit (lab := 50) (e := 26) (cs := #[.int .u64 (IntKind.u64.wrap n1)]) (F := E26) (nw1 f.1) rfl rfl (show 1 ≤ maxLen by decide)) ?_
  refine sc (fun own a wx hf hsl hE => ?_) ?_
  ·obtain ⟨⟨⟨A49, cA49⟩, f_6, b_A49⟩, -⟩ := hf
   exact px (or_call cf25 (args1 f_6) (varint_Bytes_w _ [IntKind.u64.wrap n1] A49 cA49 (RdO.zero (RwO.rd b_A49)) r51 hr51) (post_row (m' := (look0 [(1, 53)])) (.inl (Rep.fl_flat _)) rfl rfl (fun _ => rfl)))
  refine sc (fun own a wx hf hsl hE => ?_) ?_
  ·obtain ⟨f_3, ⟨⟨A52, cA52⟩, f_7, b_A52⟩, b_Af1_0, -⟩ := hf
   exact px (or_append (R := R5) (lab := 2) (lab2 := 55) (L := []) (L3 := []) tp22 f_3 b_Af1_0 (by decide) f_7 (RwO.rd b_A52) hx54 (by decide) (by decide) (mem_of rfl) (.inl (Rep.fl_flat _)))
  refine sc (fun own a wx hf hsl hE => ?_) ?_
  ·obtain ⟨⟨⟨A56, cA56⟩, (f_8 : a.eval (.tmp 8) = sl A56 x54 cA56), b_A56⟩, b_gf1, -⟩ := hf
   obtain ⟨s_1, -⟩ := hsl
   exact px (or_store1 (lab := 1) (lab2 := 57) ts22 (s_1.trans ha1) f_8 b_gf1 (by simp) rfl (mem_of rfl) (by decide) rfl (fun own' a' w' ha hb => fun _ _ h0' => by cases (f_8.symm.trans ((ha 8).symm.trans h0')); exact hb))
  exact steps_nil
 intro o58 a58 w58 d58 z58 hk58 hf58 hE58
 have e58_1 := kt hk58 ha1
 obtain ⟨⟨⟨A56, cA56⟩, (f_8 : a58.eval (.tmp 8) = sl A56 x54 cA56), (b58_A56 : RwO o58 55 [] w58 5 R5 A56 cA56 x54)⟩, (bq_gf1 : ∀ (A56 : Option Addr) (cA56 : Nat), a58.eval (.tmp 8) = sl A56 x54 cA56 → BlkO o58 57 w58 gf1 tf1 #[sl A56 x54 cA56]), -⟩ := hf58 [5, 6] rfl
 have b58_gf1 := bq_gf1 _ _ f_8
 have hX58 := Evo.step hE0 hown hE58 rfl
 obtain rfl := (osome hs).symm
 exact hret _ _ _ _ (.inr rfl) d58 (results0_ rfl ) ⟨(rl [(55, 2), (57, 1)] o58), (A56, cA56), rfl, (Evo.rl_ hX58 hown rfl), (RwO.rl_ b58_A56), (BlkO.rl_ b58_gf1)⟩
theorem pack_Write_1_v_w (w : World) (own : Own) (n1 : Int) (f1 : List Int) (gf1 : Nat) (tf1 : TypeId) (Af1_0 : Option Addr) (hown : ∀ b, own b ≤ 2) (hgf1 : BlkO own 1 w gf1 tf1 #[sl Af1_0 f1 f1.length]) (hAf1_0 : RdO own [0] w R5 Af1_0 f1.length f1) (r : List Int) (hs : pack_Write_1_v n1 f1 = some r) :
  Calls Try.prog 24 #[Zi n1, pt gf1 0] w fun e w' => ∃ (own' : Own) (x : Option Addr × Nat), e = .returned (.tuple #[]) ∧ Evo [1, 2] own own' w w' ∧ RwO own' 2 [] w' 5 R5 x.1 x.2 r ∧ BlkO own' 1 w' gf1 tf1 #[.slice x.1 r.length x.2] := by
 refine fl_enter (n := 9) rfl rfl rfl (Nat.le_of_ble_eq_true rfl) ?_
 intro a0 Q d0 z0 harg hret
 have ha0 := harg 0 _ rfl
 have ha1 := harg 1 _ rfl
 clear harg
 have hE0 : Evo [1, 2] own own w w := Evo.refl _ _ _
 obtain ⟨r44, hr44, hs⟩ := obind hs
 obtain ⟨x47, hx47, hs⟩ := obind hs
 refine rd_ g_mixed 9 [Fct.at_ 1 gf1 tf1 #[sl Af1_0 f1 f1.length]] own [48, 1] [0, 0, 2, 6, 14, 31, 63] [dv [7] [1] 3 (sl Af1_0 f1 f1.length), dv [] [0] 4 (Zi n1), dv [1] [] 5 (.int .u64 (IntKind.u64.wrap n1)), ⟨[2], [], [], Fct.row 43 [] 6 26 R26 [IntKind.u64.wrap n1]⟩, ⟨[3], [], [], Fct.row 46 [] 7 5 R5 r44⟩, ⟨[0, 4], [], [48], Fct.row 49 [] 8 5 R5 x47⟩, ⟨[5, 7], [1], [1], Fct.by_ [51] [8] (fun l own w => ∀ (A50 : Option Addr) (cA50 : Nat), l.getD 0 undef = sl A50 x47 cA50 → BlkO own 51 w gf1 tf1 #[sl A50 x47 cA50]) (fun hk he h _ _ h0' => BlkO.evo (not_hit hk (by decide)) he (h _ _ h0'))⟩] z0 d0 (fm1 hgf1) ?_ ?_
 ·refine sc (fun own a wx hf hsl hE => ?_) ?_
  ·obtain ⟨(b_gf1 : BlkO own 1 wx gf1 tf1 #[sl Af1_0 f1 f1.length]), -⟩ := hf
   obtain ⟨s_1, -⟩ := hsl
   exact px (ld1 to22 (s_1.trans ha1) b_gf1)
  refine sM ha0 <| sF (fun f => or_conv f.1 tn3 tn26 rfl) <| sF (fun f => or_lit (lab := 43) (e := 26) (cs := #[.int .u64 (IntKind.u64.wrap n1)]) (F := E26) (nw1 f.1) rfl rfl (show 1 ≤ maxLen by decide)) ?_
  refine sc (fun own a wx hf hsl hE => ?_) ?_
  ·obtain ⟨⟨⟨A42, cA42⟩, f_6, b_A42⟩, -⟩ := hf
   exact px (or_call cf25 (args1 f_6) (varint_Bytes_w _ [IntKind.u64.wrap n1] A42 cA42 (RdO.zero (RwO.rd b_A42)) r44 hr44) (post_row (m' := (look0 [(1, 46)])) (.inl (Rep.fl_flat _)) rfl rfl (fun _ => rfl)))
  refine sc (fun own a wx hf hsl hE => ?_) ?_
  ·obtain ⟨f_3, ⟨⟨A45, cA45⟩, f_7, b_A45⟩, -⟩ := hf
   exact px (or_appendF (R := R5) (lab := 48) (lab2 := 49) tp22 f_3 (RdO.evo rfl hE hAf1_0) f_7 (RwO.rd b_A45) (apF_some hx47).1 (apF_some hx47).2 (by decide) (by decide) (Rep.fl_flat _) (mem_of rfl) (by decide))
  refine sc (fun own a wx hf hsl hE => ?_) ?_
  ·obtain ⟨⟨⟨A50, cA50⟩, (f_8 : a.eval (.tmp 8) = sl A50 x47 cA50), b_A50⟩, b_gf1, -⟩ := hf
   obtain ⟨s_1, -⟩ := hsl
   exact px (or_store1 (lab := 1) (lab2 := 51) ts22 (s_1.trans ha1) f_8 b_gf1 (by simp) rfl (mem_of rfl) (by decide) rfl (fun own' a' w' ha hb => fun _ _ h0' => by cases (f_8.symm.trans ((ha 8).symm.trans h0')); exact hb))
  exact steps_nil
 intro o52 a52 w52 d52 z52 hk52 hf52 hE52
 have e52_1 := kt hk52 ha1
 obtain ⟨⟨⟨A50, cA50⟩, (f_8 : a52.eval (.tmp 8) = sl A50 x47 cA50), (b52_A50 : RwO o52 49 [] w52 5 R5 A50 cA50 x47)⟩, (bq_gf1 : ∀ (A50 : Option Addr) (cA50 : Nat), a52.eval (.tmp 8) = sl A50 x47 cA50 → BlkO o52 51 w52 gf1 tf1 #[sl A50 x47 cA50]), -⟩ := hf52 [5, 6] rfl
 have b52_gf1 := bq_gf1 _ _ f_8
 have hX52 := Evo.step hE0 hown hE52 rfl
 obtain rfl := (osome hs).symm
 exact hret _ _ _ _ (.inr rfl) d52 (results0_ rfl ) ⟨(rl [(49, 2), (51, 1)] o52), (A50, cA50), rfl, (Evo.rl_ hX52 hown rfl), (RwO.rl_ b52_A50), (BlkO.rl_ b52_gf1)⟩
theorem pack_Write_2_w (w : World) (own : Own) (b1 : List Int) (Ab1 : Option Addr) (cb1 : Nat) (f2 : List Int) (gf2 : Nat) (tf2 : TypeId) (Af2_0 : Option Addr) (gf1 : Nat) (tf1 : TypeId) (hown : ∀ b, own b ≤ 2) (hb1 : RdO own [0] w R5 Ab1 cb1 b1) (hgf2 : BlkO own 1 w gf2 tf2 #[sl Af2_0 f2 f2.length]) (hAf2_0 : RdO own [0] w R5 Af2_0 f2.length f2) (hgf1 : BlkO own 0 w gf1 tf1 #[.func (.func 24) #[] #[pt gf2 0]]) (r : List Int) (hs : pack_Write_2 b1 f2 = some r) :
  Calls Try.prog 26 #[sl Ab1 b1 cb1, pt gf1 0, pt gf2 0] w fun e w' => ∃ (own' : Own) (x : Option Addr × Nat), e = .returned (.tuple #[]) ∧ Evo [1, 2] own own' w w' ∧ RwO own' 2 [] w' 5 R5 x.1 x.2 r ∧ BlkO own' 1 w' gf2 tf2 #[.slice x.1 r.length x.2] := by
 refine fl_enter (n := 11) rfl rfl rfl (Nat.le_of_ble_eq_true rfl) ?_
 intro a0 Q d0 z0 harg hret
 have ha0 := harg 0 _ rfl
 have ha1 := harg 1 _ rfl
 have ha2 := harg 2 _ rfl
 clear harg
 have hE0 : Evo [1, 2] own own w w := Evo.refl _ _ _
 obtain ⟨r26, hr26, hs⟩ := obind hs
 refine rr_seq 11 [Fct.at_ 1 gf2 tf2 #[sl Af2_0 f2 f2.length]] own [1] [0, 0, 2, 7] [dv [] [1] 4 (.func (.func 24) #[] #[pt gf2 0]), dv [] [0] 5 (sl Ab1 b1 cb1), dv [1] [] 6 (Zi (b1.length : Int)), ⟨[0, 2, 4], [], [1], Fct.mems [28, 29] 7 (fun (x : Option Addr × Nat) => .tuple #[]) (fun (x : Option Addr × Nat) own w => RwO own 28 [] w 5 R5 x.1 x.2 r26 ∧ BlkO own 29 w gf2 tf2 #[.slice x.1 r26.length x.2]) (fun hk he h => ⟨RwO.evo (hits_sub hk (by decide)) he h.1, BlkO.evo (not_hit hk (by decide)) he h.2⟩)⟩] z0 d0 (fm1 hgf2) ?_ ?_
 ·refine sL1 to59 ha1 hgf1 <| sM ha0 <| sF (fun f => or_len tu22 f.1 rfl) ?_
  refine sc (fun own a wx hf hsl hE => ?_) ?_
  ·obtain ⟨f_4, f_6, b_gf2, -⟩ := hf
   exact px (or_callf cf24 f_4 (args1 f_6) rfl (pack_Write_1_v_w _ (forth own (look0 [(1, 1)])) (b1.length : Int) f2 gf2 tf2 Af2_0 (look0_le rfl) (BlkO.forth_ (m := (look0 [(1, 1)])) b_gf2) (RdO.forth_ (m := (look0 [(1, 1)])) (RdO.evo rfl hE hAf2_0)) r26 hr26) (post_mems (m := (look0 [(1, 1)])) (m' := (look0 [(1, 29), (2, 28)])) (hm_of rfl) (fun own' w' a' x h1 h => ⟨x, h1, ⟨RwO.back_ h.1 (by decide) (.inl (Rep.fl_flat _)), BlkO.back_ h.2 (by decide)⟩⟩)))
  exact steps_nil
 intro o30 a30 w30 d30 z30 hk30 hf30 hE30
 obtain ⟨e30_0, e30_2⟩ := kt2 hk30 ha0 ha2
 obtain ⟨⟨⟨A27, cA27⟩, (f_7 : a30.eval (.tmp 7) = .tuple #[]), (b30_A27 : RwO o30 28 [] w30 5 R5 A27 cA27 r26), (b30_gf2 : BlkO o30 29 w30 gf2 tf2 #[sl A27 r26 cA27])⟩, -⟩ := hf30 [3] rfl
 have hX30 := Evo.step hE0 hown hE30 rfl
 obtain ⟨x34, hx34, hs⟩ := obind hs
 refine rr 11 [Fct.rowAt 28 [] 5 R5 A27 cA27 r26, Fct.at_ 29 gf2 tf2 #[sl A27 r26 cA27]] o30 [28, 29] [0, 0, 3, 7] [dv [5] [2] 8 (sl A27 r26 cA27), dv [] [0] 9 (sl Ab1 b1 cb1), ⟨[0, 1, 4], [], [28], Fct.row 35 [] 10 5 R5 x34⟩, ⟨[2, 5], [2], [29], Fct.by_ [37] [10] (fun l own w => ∀ (A36 : Option Addr) (cA36 : Nat), l.getD 0 undef = sl A36 x34 cA36 → BlkO own 37 w gf2 tf2 #[sl A36 x34 cA36]) (fun hk he h _ _ h0' => BlkO.evo (not_hit hk (by decide)) he (h _ _ h0'))⟩] z30 d30 (fm2 b30_A27 b30_gf2) ?_ ?_
 ·refine sc (fun own a wx hf hsl hE => ?_) ?_
  ·obtain ⟨(b_gf2 : BlkO own 29 wx gf2 tf2 #[sl A27 r26 cA27]), -⟩ := hf
   obtain ⟨s_2, -⟩ := hsl
   exact px (ld1 to22 (s_2.trans e30_2) b_gf2)
  refine sM e30_0 ?_
  refine sc (fun own a wx hf hsl hE => ?_) ?_
  ·obtain ⟨f_8, f_9, b_A27, -⟩ := hf
   exact px (or_append (R := R5) (lab := 28) (lab2 := 35) (L := []) (L3 := []) tp22 f_8 b_A27 (by decide) f_9 (RdO.evo rfl hE (RdO.evo rfl hX30 hb1)) hx34 (by decide) (by decide) (mem_of rfl) (.inl (Rep.fl_flat _)))
  refine sc (fun own a wx hf hsl hE => ?_) ?_
  ·obtain ⟨⟨⟨A36, cA36⟩, (f_10 : a.eval (.tmp 10) = sl A36 x34 cA36), b_A36⟩, b_gf2, -⟩ := hf
   obtain ⟨s_2, -⟩ := hsl
   exact px (or_store1 (lab := 29) (lab2 := 37) ts22 (s_2.trans e30_2) f_10 b_gf2 (by simp) rfl (mem_of rfl) (by decide) rfl (fun own' a' w' ha hb => fun _ _ h0' => by cases (f_10.symm.trans ((ha 10).symm.trans h0')); exact hb))
  exact steps_nil
 intro o38 a38 w38 d38 z38 hk38 hf38 hE38
 have e38_2 := kt hk38 e30_2
 obtain ⟨⟨⟨A36, cA36⟩, (f_10 : a38.eval (.tmp 10) = sl A36 x34 cA36), (b38_A36 : RwO o38 35 [] w38 5 R5 A36 cA36 x34)⟩, (bq_gf2 : ∀ (A36 : Option Addr) (cA36 : Nat), a38.eval (.tmp 10) = sl A36 x34 cA36 → BlkO o38 37 w38 gf2 tf2 #[sl A36 x34 cA36]), -⟩ := hf38 [2, 3] rfl
 have b38_gf2 := bq_gf2 _ _ f_10
 have hX38 := Evo.step hX30 hown hE38 rfl
 obtain rfl := (osome hs).symm
 exact hret _ _ _ _ (.inr rfl) d38 (results0_ rfl ) ⟨(rl [(35, 2), (37, 1)] o38), (A36, cA36), rfl, (Evo.rl_ hX38 hown rfl), (RwO.rl_ b38_A36), (BlkO.rl_ b38_gf2)⟩
theorem pack_Write_2_v_w (w : World) (own : Own) (b1 : List Int) (Ab1 : Option Addr) (cb1 : Nat) (f2 : List Int) (gf2 : Nat) (tf2 : TypeId) (Af2_0 : Option Addr) (cf2_0 : Nat) (gf1 : Nat) (tf1 : TypeId) (hown : ∀ b, own b ≤ 2) (hb1 : RdO own [0] w R5 Ab1 cb1 b1) (hgf2 : BlkO own 1 w gf2 tf2 #[sl Af2_0 f2 cf2_0]) (hAf2_0 : RwO own 2 [] w 5 R5 Af2_0 cf2_0 f2) (hgf1 : BlkO own 0 w gf1 tf1 #[.func (.func 24) #[] #[pt gf2 0]]) (r : List Int) (hs : pack_Write_2_v b1 f2 = some r) :
  Calls Try.prog 26 #[sl Ab1 b1 cb1, pt gf1 0, pt gf2 0] w fun e w' => ∃ (own' : Own) (x : Option Addr × Nat), e = .returned (.tuple #[]) ∧ Evo [1, 2] own own' w w' ∧ RwO own' 2 [] w' 5 R5 x.1 x.2 r ∧ BlkO own' 1 w' gf2 tf2 #[.slice x.1 r.length x.2] := by
 refine fl_enter (n := 11) rfl rfl rfl (Nat.le_of_ble_eq_true rfl) ?_
 intro a0 Q d0 z0 harg hret
 have ha0 := harg 0 _ rfl
 have ha1 := harg 1 _ rfl
 have ha2 := harg 2 _ rfl
 clear harg
 have hE0 : Evo [1, 2] own own w w := Evo.refl _ _ _
 obtain ⟨r26, hr26, hs⟩ := obind hs
 refine rr_seq 11 [Fct.at_ 1 gf2 tf2 #[sl Af2_0 f2 cf2_0], Fct.rowAt 2 [] 5 R5 Af2_0 cf2_0 f2] own [1, 2] [0, 0, 2, 7] [dv [] [1] 4 (.func (.func 24) #[] #[pt gf2 0]), dv [] [0] 5 (sl Ab1 b1 cb1), dv [1] [] 6 (Zi (b1.length : Int)), ⟨[0, 2, 4, 5], [], [1, 2], Fct.mems [28, 29] 7 (fun (x : Option Addr × Nat) => .tuple #[]) (fun (x : Option Addr × Nat) own w => RwO own 28 [] w 5 R5 x.1 x.2 r26 ∧ BlkO own 29 w gf2 tf2 #[.slice x.1 r26.length x.2]) (fun hk he h => ⟨RwO.evo (hits_sub hk (by decide)) he h.1, BlkO.evo (not_hit hk (by decide)) he h.2⟩)⟩] z0 d0 (fm2 hgf2 hAf2_0) ?_ ?_
 ·refine sL1 to59 ha1 hgf1 <| sM ha0 <| sF (fun f => or_len tu22 f.1 rfl) ?_
  refine sc (fun own a wx hf hsl hE => ?_) ?_
  ·obtain ⟨f_4, f_6, b_gf2, b_Af2_0, -⟩ := hf
   exact px (or_callf cf24 f_4 (args1 f_6) rfl (pack_Write_1_w _ (forth own (look0 [(1, 1), (2, 2)])) (b1.length : Int) f2 gf2 tf2 Af2_0 cf2_0 (look0_le rfl) (BlkO.forth_ (m := (look0 [(1, 1), (2, 2)])) b_gf2) (RwO.forth_ (m := (look0 [(1, 1), (2, 2)])) b_Af2_0) r26 hr26) (post_mems (m := (look0 [(1, 1), (2, 2)])) (m' := (look0 [(1, 29), (2, 28)])) (hm_of rfl) (fun own' w' a' x h1 h => ⟨x, h1, ⟨RwO.back_ h.1 (by decide) (.inl (Rep.fl_flat _)), BlkO.back_ h.2 (by decide)⟩⟩)))
  exact steps_nil
 intro o30 a30 w30 d30 z30 hk30 hf30 hE30
 obtain ⟨e30_0, e30_2⟩ := kt2 hk30 ha0 ha2
 obtain ⟨⟨⟨A27, cA27⟩, (f_7 : a30.eval (.tmp 7) = .tuple #[]), (b30_A27 : RwO o30 28 [] w30 5 R5 A27 cA27 r26), (b30_gf2 : BlkO o30 29 w30 gf2 tf2 #[sl A27 r26 cA27])⟩, -⟩ := hf30 [3] rfl
 have hX30 := Evo.step hE0 hown hE30 rfl
 obtain ⟨x34, hx34, hs⟩ := obind hs
 refine rr 11 [Fct.rowAt 28 [] 5 R5 A27 cA27 r26, Fct.at_ 29 gf2 tf2 #[sl A27 r26 cA27]] o30 [28, 29] [0, 0, 3, 7] [dv [5] [2] 8 (sl A27 r26 cA27), dv [] [0] 9 (sl Ab1 b1 cb1), ⟨[0, 1, 4], [], [28], Fct.row 35 [] 10 5 R5 x34⟩, ⟨[2, 5], [2], [29], Fct.by_ [37] [10] (fun l own w => ∀ (A36 : Option Addr) (cA36 : Nat), l.getD 0 undef = sl A36 x34 cA36 → BlkO own 37 w gf2 tf2 #[sl A36 x34 cA36]) (fun hk he h _ _ h0' => BlkO.evo (not_hit hk (by decide)) he (h _ _ h0'))⟩] z30 d30 (fm2 b30_A27 b30_gf2) ?_ ?_
 ·refine sc (fun own a wx hf hsl hE => ?_) ?_
  ·obtain ⟨(b_gf2 : BlkO own 29 wx gf2 tf2 #[sl A27 r26 cA27]), -⟩ := hf
   obtain ⟨s_2, -⟩ := hsl
   exact px (ld1 to22 (s_2.trans e30_2) b_gf2)
  refine sM e30_0 ?_
  refine sc (fun own a wx hf hsl hE => ?_) ?_
  ·obtain ⟨f_8, f_9, b_A27, -⟩ := hf
   exact px (or_append (R := R5) (lab := 28) (lab2 := 35) (L := []) (L3 := []) tp22 f_8 b_A27 (by decide) f_9 (RdO.evo rfl hE (RdO.evo rfl hX30 hb1)) hx34 (by decide) (by decide) (mem_of rfl) (.inl (Rep.fl_flat _)))
  refine sc (fun own a wx hf hsl hE => ?_) ?_
  ·obtain ⟨⟨⟨A36, cA36⟩, (f_10 : a.eval (.tmp 10) = sl A36 x34 cA36), b_A36⟩, b_gf2, -⟩ := hf
   obtain ⟨s_2, -⟩ := hsl
   exact px (or_store1 (lab := 29) (lab2 := 37) ts22 (s_2.trans e30_2) f_10 b_gf2 (by simp) rfl (mem_of rfl) (by decide) rfl (fun own' a' w' ha hb => fun _ _ h0' => by cases (f_10.symm.trans ((ha 10).symm.trans h0')); exact hb))
  exact steps_nil
 intro o38 a38 w38 d38 z38 hk38 hf38 hE38
 have e38_2 := kt hk38 e30_2
 obtain ⟨⟨⟨A36, cA36⟩, (f_10 : a38.eval (.tmp 10) = sl A36 x34 cA36), (b38_A36 : RwO o38 35 [] w38 5 R5 A36 cA36 x34)⟩, (bq_gf2 : ∀ (A36 : Option Addr) (cA36 : Nat), a38.eval (.tmp 10) = sl A36 x34 cA36 → BlkO o38 37 w38 gf2 tf2 #[sl A36 x34 cA36]), -⟩ := hf38 [2, 3] rfl
 have b38_gf2 := bq_gf2 _ _ f_10
 have hX38 := Evo.step hX30 hown hE38 rfl
 obtain rfl := (osome hs).symm
 exact hret _ _ _ _ (.inr rfl) d38 (results0_ rfl ) ⟨(rl [(35, 2), (37, 1)] o38), (A36, cA36), rfl, (Evo.rl_ hX38 hown rfl), (RwO.rl_ b38_A36), (BlkO.rl_ b38_gf2)⟩
set_option maxHeartbeats 2000000 in
theorem pack_Write_w (w : World) (head1 : List Int) (Ahead1 : Option Addr) (chead1 : Nat) (l2 : List ((Int × Int × Int) × (List Int))) (Al2 : Option Addr) (cl2 : Nat) (hhead1 : RdO (fun _ => 0) [0] w R5 Ahead1 chead1 head1) (hl2 : RdO (fun _ => 0) [0] w R30 Al2 cl2 l2) (r : (List Int) × Int) (hs : pack_Write head1 l2 = some r) :
  Calls Try.prog 10 #[sl Ahead1 head1 chead1, sl Al2 l2 cl2] w fun e w' => ∃ (own' : Own) (x : Option Addr × Nat), e = .returned (.tuple #[.slice x.1 r.1.length x.2, Zi r.2]) ∧ Evo [] (fun _ => 0) own' w w' ∧ RwO own' 1 [] w' 5 R5 x.1 x.2 r.1 := by
 refine fl_enter (n := 91) rfl rfl rfl (Nat.le_of_ble_eq_true rfl) ?_
 intro a0 Q d0 z0 harg hret
 have ha0 := harg 0 _ rfl
 have ha1 := harg 1 _ rfl
 clear harg
 have hE0 : Evo [] (fun _ => 0) (fun _ => 0) w w := Evo.refl _ _ _
 refine rq_seq 91 (fun _ => 0) (bz 2) [dv [] [] 4 (.slice none 0 0), dv [] [] 5 (Zi 0)] z0 d0 ?_ ?_
 ·exact sO (or_assign rfl) <| sO (or_assign rfl) <| steps_nil
 intro o240 a240 w240 d240 z240 hk240 hf240 hE240
 obtain ⟨e240_0, e240_1⟩ := kt2 hk240 ha0 ha1
 have hX240 := es_ hE0 hE240
 refine rngO_cases hs (fun n252 hn252 hs => ?_) (fun r241 hr241 hs => ?_)
 ·refine rq_seq 91 o240 [0, 0, 3, 7, 15, 15, 31, 127] [dv [] [0] 16 (sl Ahead1 head1 chead1), dv [] [1] 17 (sl Al2 l2 cl2), dv [0, 1] [] 18 (.tuple #[.pointer none, Zi n252.2]), dv [2] [] 15 (.tuple #[.pointer none, Zi n252.2]), dv [3] [] 19 (.pointer none), dv [3] [] 20 (Zi n252.2), dv [4] [] 6 (.pointer none), dv [5] [] 7 (Zi n252.2)] z240 d240 ?_ ?_
  ·refine sM e240_0 <| sM e240_1 ?_
   refine sc (fun own _ _ f _ hE => px (or_call cf23 (args2 f.1 f.2.1) (pack_packed_n _ (forth own (inL [0])) head1 Ahead1 chead1 l2 Al2 cl2 inL_le (RdO.alias_ (La := [0]) (RdO.evo rfl hE (RdO.evo rfl hX240 hhead1)) (by decide)) (RdO.alias_ (La := [0]) (RdO.evo rfl hE (RdO.evo rfl hX240 hl2)) (by decide)) n252 hn252) post_valA)) ?_
   exact sV <| sF (fun f => ok1 f.1) <| sF (fun f => ok1 f.1) <| sA <| sA <| steps_nil
  intro o253 a253 w253 d253 z253 hk253 hf253 hE253
  have e253_6 := gv (hf253 [6] rfl) rfl
  have e253_7 := gv (hf253 [7] rfl) rfl
  have hX253 := es_ hX240 hE253
  refine fl_seq (fun Q254 hn254 hp254 => ?_)
  refine rq_seq 91 o253 (bz 2) [dv [] [7] 21 (Zi n252.2), dv [0] [] 22 (.bool (!decide (n252.2 = 0)))] z253 d253 ?_ ?_
  ·exact sM e253_7 <| sF (fun f => or_neq f.1 rfl rfl) <| steps_nil
  intro o255 a255 w255 d255 z255 hk255 hf255 hE255
  obtain ⟨e255_6, e255_7⟩ := kt2 hk255 e253_6 e253_7
  have e255_22 := gv (hf255 [1] rfl) rfl
  have hX255 := es_ hX253 hE255
  refine fl_cond e255_22 hs (fun c256 hs => ?_) (fun c256 hs => ?_)
  ·refine rq_seq 91 o255 [0, 0, 3] [dv [] [7] 23 (Zi n252.2), dv [] [] 4 (.slice none 0 0), dv [0] [] 5 (Zi n252.2)] z255 d255 ?_ ?_
   ·exact sM e255_7 <| sO (or_assign rfl) <| sA <| steps_nil
   intro o257 a257 w257 d257 z257 hk257 hf257 hE257
   have e257_4 := gv (hf257 [1] rfl) rfl
   have e257_5 := gv (hf257 [2] rfl) rfl
   have hX257 := es_ hX255 hE257
   refine fl_ret ?_
   refine hp254 _ _ _ rfl ?_
   obtain rfl := osome hs
   exact hret _ _ _ _ (.inl rfl) d257 (results2_ rfl (RVal.tmp_ e257_4) (RVal.tmp_ e257_5)) ⟨o257, (none, 0), rfl, hX257, RwO.nil_⟩
  refine fl_skip ?_
  refine hn254 _ _ ?_
  refine rp_seq 91 o255 [259, 263] [0, 1, 0, 7] [⟨[], [], [], Fct.rowF 259 24 5 R5 [71, 82, 84, 49]⟩, ⟨[0], [], [259], Fct.viewF [260] 25 R5 [71, 82, 84, 49]⟩, ⟨[], [], [], Fct.blk 263 8 (fun g => pt g 0) 22 #[.slice none 0 0]⟩, ⟨[2, 1], [], [263], Fct.by_ [264] [8, 25] (fun l own w => ∃ g262 : Nat, l.getD 0 undef = pt g262 0 ∧ (∀ (A261 : Option Addr), l.getD 1 undef = .slice A261 [71, 82, 84, 49].length ([71, 82, 84, 49].length) → BlkO own 264 w g262 22 #[.slice A261 [71, 82, 84, 49].length ([71, 82, 84, 49].length)])) (fun hk he h => by obtain ⟨g, e, h⟩ := h; exact ⟨g, e, fun _ h0' => BlkO.evo (not_hit hk (by decide)) he (h _ h0')⟩)⟩] z255 d255 ?_ ?_
  ·refine sO (or_litF (lab := 259) (e := 5) (cs := #[.int .u8 71, .int .u8 82, .int .u8 84, .int .u8 49]) (F := E5) (nw0) rfl rfl (show 4 ≤ maxLen by decide)) ?_
   refine sc (fun own a wx hf hsl hE => ?_) ?_
   ·obtain ⟨⟨A258, f_24, b_A258⟩, -⟩ := hf
    exact px (or_convM (lab := 259) (lab2 := 260) tu22 tn5 f_24 b_A258 (mem_of rfl) (by decide) (by simp))
   refine sO (nw0) ?_
   refine sc (fun own a wx hf hsl hE => ?_) ?_
   ·obtain ⟨⟨g262, f_8, b_g262⟩, ⟨A261, (f_25 : a.eval (.tmp 25) = .slice A261 [71, 82, 84, 49].length ([71, 82, 84, 49].length)), b_A261⟩, -⟩ := hf
    exact px (or_store1 (lab := 263) (lab2 := 264) ts22 f_8 f_25 b_g262 (by simp) rfl (mem_of rfl) (by decide) rfl (fun own' a' w' ha hb => ⟨_, (ha 8).trans f_8, fun _ h0' => by cases (f_25.symm.trans ((ha 25).symm.trans h0')); exact hb⟩))
   exact steps_nil
  intro o265 a265 w265 d265 z265 hk265 hf265 hE265
  have e265_6 := kt hk265 e255_6
  obtain ⟨⟨A261, (f_25 : a265.eval (.tmp 25) = .slice A261 [71, 82, 84, 49].length ([71, 82, 84, 49].length)), (b265_A261 : RdO o265 [260] w265 R5 A261 ([71, 82, 84, 49].length) [71, 82, 84, 49])⟩, ⟨g262, (e265_8 : a265.eval (.tmp 8) = pt g262 0), (bq_g262 : ∀ (A261 : Option Addr), a265.eval (.tmp 25) = .slice A261 [71, 82, 84, 49].length ([71, 82, 84, 49].length) → BlkO o265 264 w265 g262 22 #[.slice A261 [71, 82, 84, 49].length ([71, 82, 84, 49].length)])⟩, -⟩ := hf265 [1, 3] rfl
  have b265_g262 := bq_g262 _ f_25
  have hX265 := es_ hX255 hE265
  refine rp_seq 91 o265 [267] [0, 0, 3] [dv [] [8] 26 (.func (.func 24) #[] #[pt g262 0]), ⟨[], [], [], Fct.blk 267 9 (fun g => pt g 0) 59 #[.nilFunc]⟩, ⟨[1, 0], [], [267], Fct.blk 268 9 (fun g => pt g 0) 59 #[.func (.func 24) #[] #[pt g262 0]]⟩] z265 d265 ?_ ?_
  ·refine sS (fun s => ok1 (s.1.trans e265_8)) <| sO (nw0) ?_
   refine sc (fun own a wx hf hsl hE => ?_) ?_
   ·obtain ⟨⟨g266, f_9, b_g266⟩, f_26, -⟩ := hf
    exact px (or_store1 (lab := 267) (lab2 := 268) ts59 f_9 f_26 b_g266 (by simp) rfl (mem_of rfl) (by decide) rfl (fun own' a' w' ha hb => ⟨_, (ha 9).trans f_9, hb⟩))
   exact steps_nil
  intro o269 a269 w269 d269 z269 hk269 hf269 hE269
  obtain ⟨e269_6, e269_8⟩ := kt2 hk269 e265_6 e265_8
  obtain ⟨⟨g266, (e269_9 : a269.eval (.tmp 9) = pt g266 0), (b269_g266 : BlkO o269 268 w269 g266 59 #[.func (.func 24) #[] #[pt g262 0]])⟩, -⟩ := hf269 [2] rfl
  have hX269 := es_ hX265 hE269
  have b269_g262 := be_ hE269 b265_g262
  have b269_A261 := RdO.evo rfl hE269 b265_A261
  refine rq_seq 91 o269 (bz 2) [dv [] [9, 8] 27 (.func (.func 26) #[] #[pt g266 0, pt g262 0]), dv [0] [] 10 (.func (.func 26) #[] #[pt g266 0, pt g262 0])] z269 d269 ?_ ?_
  ·exact sS (fun s => ok2 (s.1.trans e269_9) (s.2.1.trans e269_8)) <| sA <| steps_nil
  intro o270 a270 w270 d270 z270 hk270 hf270 hE270
  obtain ⟨e270_6, e270_8, e270_9⟩ := kt3 hk270 e269_6 e269_8 e269_9
  have e270_10 := gv (hf270 [1] rfl) rfl
  have hX270 := es_ hX269 hE270
  obtain ⟨b270_g262, b270_g266⟩ := be2 hE270 b269_g262 b269_g266
  have b270_A261 := RdO.evo rfl hE270 b269_A261
  exact nomatch hs
 refine rq_seq 91 o240 [0, 0, 3, 7, 15, 15, 31, 127] [dv [] [0] 16 (sl Ahead1 head1 chead1), dv [] [1] 17 (sl Al2 l2 cl2), ⟨[0, 1], [], [], Fct.mems [246, 247, 0, 248, 249, 250, 251] 18 (fun (x : (Option Addr × Nat) × (Option Addr × Nat) × (Option Addr × Nat) × (Option Addr × Nat)) => .tuple #[.pointer (some ⟨x.1.2, 0, none⟩), Zi r241.2]) (fun (x : (Option Addr × Nat) × (Option Addr × Nat) × (Option Addr × Nat) × (Option Addr × Nat)) own w => RdO own [246, 247, 0] w R5 x.2.1.1 x.2.1.2 r241.1.1 ∧ RwO own 248 [246, 249, 0] w 22 R22 x.2.2.1.1 x.2.2.1.2 r241.1.2.1 ∧ RwO own 250 [] w 66 R66 x.2.2.2.1 x.2.2.2.2 r241.1.2.2 ∧ BlkO own 251 w x.1.2 64 #[.slice x.2.1.1 r241.1.1.length x.2.1.2, .slice x.2.2.1.1 r241.1.2.1.length x.2.2.1.2, .slice x.2.2.2.1 r241.1.2.2.length x.2.2.2.2]) (fun hk he h => ⟨RdO.evo (hits_sub hk (by decide)) he h.1, RwO.evo (hits_sub hk (by decide)) he h.2.1, RwO.evo (hits_sub hk (by decide)) he h.2.2.1, BlkO.evo (not_hit hk (by decide)) he h.2.2.2⟩)⟩, ⟨[2], [], [], Fct.rel [15, 18] (fun l => ∀ (cA242 : Nat), l.getD 1 undef = .tuple #[pt cA242 0, Zi r241.2] → l.getD 0 undef = .tuple #[pt cA242 0, Zi r241.2])⟩, ⟨[3, 2], [], [], Fct.rel [19, 18] (fun l => ∀ (cA242 : Nat), l.getD 1 undef = .tuple #[pt cA242 0, Zi r241.2] → l.getD 0 undef = pt cA242 0)⟩, dv [3, 2] [] 20 (Zi r241.2), ⟨[4, 2], [], [], Fct.rel [6, 18] (fun l => ∀ (cA242 : Nat), l.getD 1 undef = .tuple #[pt cA242 0, Zi r241.2] → l.getD 0 undef = pt cA242 0)⟩, dv [5] [] 7 (Zi r241.2)] z240 d240 ?_ ?_
 ·refine sM e240_0 <| sM e240_1 ?_
  refine sc (fun own _ _ f _ hE => px (or_call cf23 (args2 f.1 f.2.1) (pack_packed_w _ (forth own (inL [0])) head1 Ahead1 chead1 l2 Al2 cl2 inL_le (RdO.alias_ (La := [0]) (RdO.evo rfl hE (RdO.evo rfl hX240 hhead1)) (by decide)) (RdO.alias_ (La := [0]) (RdO.evo rfl hE (RdO.evo rfl hX240 hl2)) (by decide)) r241 hr241) (post_alias (La := [0]) (m' := (look0 [(1, 246), (2, 251), (3, 247), (4, 248), (5, 249), (6, 250)])) (fun own' w' a' x ho hsz h1 h => ⟨x, h1, ⟨RdO.backN_ ho hsz h.1 (by decide) (by decide) (by decide), RwO.backM_ ho h.2.1 (by decide) (by decide) (by decide) (by decide), RwO.backN_ ho h.2.2.1 (by decide) (Rep.fl_flat _), BlkO.backN_ ho h.2.2.2 (by decide)⟩⟩)))) ?_
  refine sc (fun own a wx hf hsl hE => ?_) ?_
  ·obtain ⟨⟨⟨⟨A242, cA242⟩, ⟨A243, cA243⟩, ⟨A244, cA244⟩, ⟨A245, cA245⟩⟩, (f_18 : a.eval (.tmp 18) = .tuple #[pt cA242 0, Zi r241.2]), b_A243, b_A244, b_A245, b_cA242⟩, -⟩ := hf
   exact px (or_mono (f := Fct.val 15 (.tuple #[pt cA242 0, Zi r241.2])) (or_move f_18) (fun own' a' w' v' hp h => fun _ h0' => by cases (f_18.symm.trans ((hp.2 18 (by decide)).symm.trans h0')); exact h))
  refine sc (fun own a wx hf hsl hE => ?_) ?_
  ·obtain ⟨(q_15 : ∀ (cA242 : Nat), a.eval (.tmp 18) = .tuple #[pt cA242 0, Zi r241.2] → a.eval (.tmp 15) = .tuple #[pt cA242 0, Zi r241.2]), ⟨⟨⟨A242, cA242⟩, ⟨A243, cA243⟩, ⟨A244, cA244⟩, ⟨A245, cA245⟩⟩, (f_18 : a.eval (.tmp 18) = .tuple #[pt cA242 0, Zi r241.2]), b_A243, b_A244, b_A245, b_cA242⟩, -⟩ := hf
   have f_15 := q_15 _ f_18
   exact px (or_mono (f := Fct.val 19 (pt cA242 0)) (ok1 f_15) (fun own' a' w' v' hp h => fun _ h0' => by cases (f_18.symm.trans ((hp.2 18 (by decide)).symm.trans h0')); exact h))
  refine sc (fun own a wx hf hsl hE => ?_) ?_
  ·obtain ⟨(q_15 : ∀ (cA242 : Nat), a.eval (.tmp 18) = .tuple #[pt cA242 0, Zi r241.2] → a.eval (.tmp 15) = .tuple #[pt cA242 0, Zi r241.2]), ⟨⟨⟨A242, cA242⟩, ⟨A243, cA243⟩, ⟨A244, cA244⟩, ⟨A245, cA245⟩⟩, f_18, b_A243, b_A244, b_A245, b_cA242⟩, -⟩ := hf
   have f_15 := q_15 _ f_18
   exact px (ok1 f_15)
  refine sc (fun own a wx hf hsl hE => ?_) ?_
  ·obtain ⟨(q_19 : ∀ (cA242 : Nat), a.eval (.tmp 18) = .tuple #[pt cA242 0, Zi r241.2] → a.eval (.tmp 19) = pt cA242 0), ⟨⟨⟨A242, cA242⟩, ⟨A243, cA243⟩, ⟨A244, cA244⟩, ⟨A245, cA245⟩⟩, (f_18 : a.eval (.tmp 18) = .tuple #[pt cA242 0, Zi r241.2]), b_A243, b_A244, b_A245, b_cA242⟩, -⟩ := hf
   have f_19 := q_19 _ f_18
   exact px (or_mono (f := Fct.val 6 (pt cA242 0)) (or_assign f_19) (fun own' a' w' v' hp h => fun _ h0' => by cases (f_18.symm.trans ((hp.2 18 (by decide)).symm.trans h0')); exact h))
  exact sA <| steps_nil
 intro o271 a271 w271 d271 z271 hk271 hf271 hE271
 have e271_7 := gv (hf271 [7] rfl) rfl
 obtain ⟨⟨⟨⟨A242, cA242⟩, ⟨A243, cA243⟩, ⟨A244, cA244⟩, ⟨A245, cA245⟩⟩, (f_18 : a271.eval (.tmp 18) = .tuple #[pt cA242 0, Zi r241.2]), (b271_A243 : RdO o271 [246, 247, 0] w271 R5 A243 cA243 r241.1.1), (b271_A244 : RwO o271 248 [246, 249, 0] w271 22 R22 A244 cA244 r241.1.2.1), (b271_A245 : RwO o271 250 [] w271 66 R66 A245 cA245 r241.1.2.2), (b271_cA242 : BlkO o271 251 w271 cA242 64 #[sl A243 r241.1.1 cA243, sl A244 r241.1.2.1 cA244, sl A245 r241.1.2.2 cA245])⟩, (q_6 : ∀ (cA242 : Nat), a271.eval (.tmp 18) = .tuple #[pt cA242 0, Zi r241.2] → a271.eval (.tmp 6) = pt cA242 0), -⟩ := hf271 [2, 6] rfl
 have e271_6 := q_6 _ f_18
 have hX271 := es_ hX240 hE271
 refine fl_seq (fun Q272 hn272 hp272 => ?_)
 refine rq_seq 91 o271 (bz 2) [dv [] [7] 21 (Zi r241.2), dv [0] [] 22 (.bool (!decide (r241.2 = 0)))] z271 d271 ?_ ?_
 ·exact sM e271_7 <| sF (fun f => or_neq f.1 rfl rfl) <| steps_nil
 intro o273 a273 w273 d273 z273 hk273 hf273 hE273
 obtain ⟨e273_6, e273_7⟩ := kt2 hk273 e271_6 e271_7
 have e273_22 := gv (hf273 [1] rfl) rfl
 have hX273 := es_ hX271 hE273
 have b273_cA242 := be_ hE273 b271_cA242
 have b273_A243 := RdO.evo rfl hE273 b271_A243
 have b273_A244 := re_ hE273 b271_A244
 have b273_A245 := re_ hE273 b271_A245
 refine fl_cond e273_22 hs (fun c274 hs => ?_) (fun c274 hs => ?_)
 ·refine rq_seq 91 o273 [0, 0, 3] [dv [] [7] 23 (Zi r241.2), dv [] [] 4 (.slice none 0 0), dv [0] [] 5 (Zi r241.2)] z273 d273 ?_ ?_
  ·exact sM e273_7 <| sO (or_assign rfl) <| sA <| steps_nil
  intro o275 a275 w275 d275 z275 hk275 hf275 hE275
  have e275_4 := gv (hf275 [1] rfl) rfl
  have e275_5 := gv (hf275 [2] rfl) rfl
  have hX275 := es_ hX273 hE275
  refine fl_ret ?_
  refine hp272 _ _ _ rfl ?_
  obtain rfl := osome hs
  exact hret _ _ _ _ (.inl rfl) d275 (results2_ rfl (RVal.tmp_ e275_4) (RVal.tmp_ e275_5)) ⟨o275, (none, 0), rfl, hX275, RwO.nil_⟩
 refine fl_skip ?_
 refine hn272 _ _ ?_
 refine rp_seq 91 o273 [277, 281] [0, 1, 0, 7] [⟨[], [], [], Fct.rowF 277 24 5 R5 [71, 82, 84, 49]⟩, ⟨[0], [], [277], Fct.viewF [278] 25 R5 [71, 82, 84, 49]⟩, ⟨[], [], [], Fct.blk 281 8 (fun g => pt g 0) 22 #[.slice none 0 0]⟩, ⟨[2, 1], [], [281], Fct.by_ [282] [8, 25] (fun l own w => ∃ g280 : Nat, l.getD 0 undef = pt g280 0 ∧ (∀ (A279 : Option Addr), l.getD 1 undef = .slice A279 [71, 82, 84, 49].length ([71, 82, 84, 49].length) → BlkO own 282 w g280 22 #[.slice A279 [71, 82, 84, 49].length ([71, 82, 84, 49].length)])) (fun hk he h => by obtain ⟨g, e, h⟩ := h; exact ⟨g, e, fun _ h0' => BlkO.evo (not_hit hk (by decide)) he (h _ h0')⟩)⟩] z273 d273 ?_ ?_
 ·refine sO (or_litF (lab := 277) (e := 5) (cs := #[.int .u8 71, .int .u8 82, .int .u8 84, .int .u8 49]) (F := E5) (nw0) rfl rfl (show 4 ≤ maxLen by decide)) ?_
  refine sc (fun own a wx hf hsl hE => ?_) ?_
  ·obtain ⟨⟨A276, f_24, b_A276⟩, -⟩ := hf
   exact px (or_convM (lab := 277) (lab2 := 278) tu22 tn5 f_24 b_A276 (mem_of rfl) (by decide) (by simp))
  refine sO (nw0) ?_
  refine sc (fun own a wx hf hsl hE => ?_) ?_
  ·obtain ⟨⟨g280, f_8, b_g280⟩, ⟨A279, (f_25 : a.eval (.tmp 25) = .slice A279 [71, 82, 84, 49].length ([71, 82, 84, 49].length)), b_A279⟩, -⟩ := hf
   exact px (or_store1 (lab := 281) (lab2 := 282) ts22 f_8 f_25 b_g280 (by simp) rfl (mem_of rfl) (by decide) rfl (fun own' a' w' ha hb => ⟨_, (ha 8).trans f_8, fun _ h0' => by cases (f_25.symm.trans ((ha 25).symm.trans h0')); exact hb⟩))
  exact steps_nil
 intro o283 a283 w283 d283 z283 hk283 hf283 hE283
 have e283_6 := kt hk283 e273_6
 obtain ⟨⟨A279, (f_25 : a283.eval (.tmp 25) = .slice A279 [71, 82, 84, 49].length ([71, 82, 84, 49].length)), (b283_A279 : RdO o283 [278] w283 R5 A279 ([71, 82, 84, 49].length) [71, 82, 84, 49])⟩, ⟨g280, (e283_8 : a283.eval (.tmp 8) = pt g280 0), (bq_g280 : ∀ (A279 : Option Addr), a283.eval (.tmp 25) = .slice A279 [71, 82, 84, 49].length ([71, 82, 84, 49].length) → BlkO o283 282 w283 g280 22 #[.slice A279 [71, 82, 84, 49].length ([71, 82, 84, 49].length)])⟩, -⟩ := hf283 [1, 3] rfl
 have b283_g280 := bq_g280 _ f_25
 have hX283 := es_ hX273 hE283
 have b283_cA242 := be_ hE283 b273_cA242
 have b283_A243 := RdO.evo rfl hE283 b273_A243
 have b283_A244 := re_ hE283 b273_A244
 have b283_A245 := re_ hE283 b273_A245
 refine rp_seq 91 o283 [285] [0, 0, 3] [dv [] [8] 26 (.func (.func 24) #[] #[pt g280 0]), ⟨[], [], [], Fct.blk 285 9 (fun g => pt g 0) 59 #[.nilFunc]⟩, ⟨[1, 0], [], [285], Fct.blk 286 9 (fun g => pt g 0) 59 #[.func (.func 24) #[] #[pt g280 0]]⟩] z283 d283 ?_ ?_
 ·refine sS (fun s => ok1 (s.1.trans e283_8)) <| sO (nw0) ?_
  refine sc (fun own a wx hf hsl hE => ?_) ?_
  ·obtain ⟨⟨g284, f_9, b_g284⟩, f_26, -⟩ := hf
   exact px (or_store1 (lab := 285) (lab2 := 286) ts59 f_9 f_26 b_g284 (by simp) rfl (mem_of rfl) (by decide) rfl (fun own' a' w' ha hb => ⟨_, (ha 9).trans f_9, hb⟩))
  exact steps_nil
 intro o287 a287 w287 d287 z287 hk287 hf287 hE287
 obtain ⟨e287_6, e287_8⟩ := kt2 hk287 e283_6 e283_8
 obtain ⟨⟨g284, (e287_9 : a287.eval (.tmp 9) = pt g284 0), (b287_g284 : BlkO o287 286 w287 g284 59 #[.func (.func 24) #[] #[pt g280 0]])⟩, -⟩ := hf287 [2] rfl
 have hX287 := es_ hX283 hE287
 obtain ⟨b287_cA242, b287_g280⟩ := be2 hE287 b283_cA242 b283_g280
 have b287_A243 := RdO.evo rfl hE287 b283_A243
 have b287_A244 := re_ hE287 b283_A244
 have b287_A245 := re_ hE287 b283_A245
 have b287_A279 := RdO.evo rfl hE287 b283_A279
 refine rq_seq 91 o287 (bz 2) [dv [] [9, 8] 27 (.func (.func 26) #[] #[pt g284 0, pt g280 0]), dv [0] [] 10 (.func (.func 26) #[] #[pt g284 0, pt g280 0])] z287 d287 ?_ ?_
 ·exact sS (fun s => ok2 (s.1.trans e287_9) (s.2.1.trans e287_8)) <| sA <| steps_nil
 intro o288 a288 w288 d288 z288 hk288 hf288 hE288
 obtain ⟨e288_6, e288_8, e288_9⟩ := kt3 hk288 e287_6 e287_8 e287_9
 have e288_10 := gv (hf288 [1] rfl) rfl
 have hX288 := es_ hX287 hE288
 obtain ⟨b288_cA242, b288_g280, b288_g284⟩ := be3 hE288 b287_cA242 b287_g280 b287_g284
 have b288_A243 := RdO.evo rfl hE288 b287_A243
 have b288_A244 := re_ hE288 b287_A244
 have b288_A245 := re_ hE288 b287_A245
 have b288_A279 := RdO.evo rfl hE288 b287_A279
 obtain ⟨r289, hr289, hs⟩ := obind hs
 refine rr_seq 91 [Fct.at_ 282 g280 22 #[.slice A279 [71, 82, 84, 49].length ([71, 82, 84, 49].length)]] o288 [282] [0, 0, 2, 6, 14, 31] [dv [] [10] 28 (.func (.func 26) #[] #[pt g284 0, pt g280 0]), dv [] [6] 29 (pt cA242 0), dv [1] [] 30 (pt cA242 0), dv [2] [] 31 (pt cA242 0), dv [3] [] 32 (sl A243 r241.1.1 cA243), ⟨[0, 4, 6], [], [282], Fct.mems [291, 292] 33 (fun (x : Option Addr × Nat) => .tuple #[]) (fun (x : Option Addr × Nat) own w => RwO own 291 [] w 5 R5 x.1 x.2 r289 ∧ BlkO own 292 w g280 22 #[.slice x.1 r289.length x.2]) (fun hk he h => ⟨RwO.evo (hits_sub hk (by decide)) he h.1, BlkO.evo (not_hit hk (by decide)) he h.2⟩)⟩] z288 d288 (fm1 b288_g280) ?_ ?_
 ·refine sM e288_10 <| sM e288_6 <| sF (fun f => ok1 f.1) <| sF (fun f => or_field fo64_0 f.1 (by rfl)) <| sG to22 b288_cA242 ?_
  refine sc (fun own a wx hf hsl hE => ?_) ?_
  ·obtain ⟨f_28, f_32, b_g280, -⟩ := hf
   exact px (or_callf cf26 f_28 (args1 f_32) rfl (pack_Write_2_w _ (forth own (look0 [(282, 1)])) r241.1.1 A243 cA243 [71, 82, 84, 49] g280 22 A279 g284 59 (look0_le rfl) (RdO.more (RdO.forth_ (m := (look0 [(282, 1)])) (RdO.evo rfl hE b288_A243)) (by decide)) (BlkO.forth_ (m := (look0 [(282, 1)])) b_g280) (RdO.forth_ (m := (look0 [(282, 1)])) (RdO.evo rfl hE b288_A279)) (BlkO.forth_ (m := (look0 [(282, 1)])) (be_ hE b288_g284)) r289 hr289) (post_mems (m := (look0 [(282, 1)])) (m' := (look0 [(1, 292), (2, 291)])) (hm_of rfl) (fun own' w' a' x h1 h => ⟨x, h1, ⟨RwO.back_ h.1 (by decide) (.inl (Rep.fl_flat _)), BlkO.back_ h.2 (by decide)⟩⟩)))
  exact steps_nil
 intro o293 a293 w293 d293 z293 hk293 hf293 hE293
 obtain ⟨e293_6, e293_8, e293_9, e293_10⟩ := kt4 hk293 e288_6 e288_8 e288_9 e288_10
 obtain ⟨⟨⟨A290, cA290⟩, (f_33 : a293.eval (.tmp 33) = .tuple #[]), (b293_A290 : RwO o293 291 [] w293 5 R5 A290 cA290 r289), (b293_g280 : BlkO o293 292 w293 g280 22 #[sl A290 r289 cA290])⟩, -⟩ := hf293 [5] rfl
 have hX293 := es_ hX288 hE293
 obtain ⟨b293_cA242, b293_g284⟩ := be2 hE293 b288_cA242 b288_g284
 have b293_A243 := RdO.evo rfl hE293 b288_A243
 have b293_A244 := re_ hE293 b288_A244
 have b293_A245 := re_ hE293 b288_A245
 obtain ⟨r294, hr294, hs⟩ := obind hs
 refine rd_seq g_mixed 91 [Fct.at_ 292 g280 22 #[sl A290 r289 cA290], Fct.rowAt 291 [] 5 R5 A290 cA290 r289] o293 [292, 291] [0, 0, 2, 6, 14, 30, 63] [dv [] [9] 34 (.func (.func 24) #[] #[pt g280 0]), dv [] [6] 35 (pt cA242 0), dv [1] [] 36 (pt cA242 0), dv [2] [] 37 (pt cA242 1), dv [3] [] 38 (sl A244 r241.1.2.1 cA244), dv [4] [] 39 (Zi (r241.1.2.1.length : Int)), ⟨[0, 5, 7, 8], [], [292, 291], Fct.mems [296, 297] 40 (fun (x : Option Addr × Nat) => .tuple #[]) (fun (x : Option Addr × Nat) own w => RwO own 296 [] w 5 R5 x.1 x.2 r294 ∧ BlkO own 297 w g280 22 #[.slice x.1 r294.length x.2]) (fun hk he h => ⟨RwO.evo (hits_sub hk (by decide)) he h.1, BlkO.evo (not_hit hk (by decide)) he h.2⟩)⟩] z293 d293 (fm2 b293_g280 b293_A290) ?_ ?_
 ·refine sL1 to59 e293_9 b293_g284 <| sM e293_6 <| sF (fun f => ok1 f.1) <| sF (fun f => or_field fo64_1 f.1 (by rfl)) <| sG to61 b293_cA242 <| sF (fun f => or_len tu61 f.1 rfl) ?_
  refine sc (fun own a wx hf hsl hE => ?_) ?_
  ·obtain ⟨f_34, f_39, b_g280, b_A290, -⟩ := hf
   exact px (or_callf cf24 f_34 (args1 f_39) rfl (pack_Write_1_w _ (forth own (look0 [(291, 2), (292, 1)])) (r241.1.2.1.length : Int) r289 g280 22 A290 cA290 (look0_le rfl) (BlkO.forth_ (m := (look0 [(291, 2), (292, 1)])) b_g280) (RwO.forth_ (m := (look0 [(291, 2), (292, 1)])) b_A290) r294 hr294) (post_mems (m := (look0 [(291, 2), (292, 1)])) (m' := (look0 [(1, 297), (2, 296)])) (hm_of rfl) (fun own' w' a' x h1 h => ⟨x, h1, ⟨RwO.back_ h.1 (by decide) (.inl (Rep.fl_flat _)), BlkO.back_ h.2 (by decide)⟩⟩)))
  exact steps_nil
 intro o298 a298 w298 d298 z298 hk298 hf298 hE298
 obtain ⟨e298_6, e298_8, e298_9, e298_10⟩ := kt4 hk298 e293_6 e293_8 e293_9 e293_10
 obtain ⟨⟨⟨A295, cA295⟩, (f_40 : a298.eval (.tmp 40) = .tuple #[]), (b298_A295 : RwO o298 296 [] w298 5 R5 A295 cA295 r294), (b298_g280 : BlkO o298 297 w298 g280 22 #[sl A295 r294 cA295])⟩, -⟩ := hf298 [6] rfl
 have hX298 := es_ hX293 hE298
 obtain ⟨b298_cA242, b298_g284⟩ := be2 hE298 b293_cA242 b293_g284
 have b298_A243 := RdO.evo rfl hE298 b293_A243
 have b298_A244 := re_ hE298 b293_A244
 have b298_A245 := re_ hE298 b293_A245
 refine fl_seq (fun Q299 hn299 hp299 => ?_)
 refine rq_seq 91 o298 [0, 1, 3, 7, 15, 0] [dv [] [6] 41 (pt cA242 0), dv [0] [] 42 (pt cA242 0), dv [1] [] 43 (pt cA242 1), dv [2] [] 44 (sl A244 r241.1.2.1 cA244), dv [3] [] 45 (Zi (r241.1.2.1.length : Int)), dv [] [] 46 (Zi 0)] z298 d298 ?_ ?_
 ·exact sM e298_6 <| sF (fun f => ok1 f.1) <| sF (fun f => or_field fo64_1 f.1 (by rfl)) <| sG to61 b298_cA242 <| sF (fun f => or_len tu61 f.1 rfl) <| sO (or_move rfl) <| steps_nil
 intro o300 a300 w300 d300 z300 hk300 hf300 hE300
 obtain ⟨e300_6, e300_8, e300_9, e300_10⟩ := kt4 hk300 e298_6 e298_8 e298_9 e298_10
 have e300_44 := gv (hf300 [3] rfl) rfl
 have e300_45 := gv (hf300 [4] rfl) rfl
 have e300_46 := gv (hf300 [5] rfl) rfl
 have hX300 := es_ hX298 hE300
 obtain ⟨b300_cA242, b300_g284, b300_g280⟩ := be3 hE300 b298_cA242 b298_g284 b298_g280
 have b300_A243 := RdO.evo rfl hE300 b298_A243
 have b300_A244 := re_ hE300 b298_A244
 have b300_A245 := re_ hE300 b298_A245
 have b300_A295 := re_ hE300 b298_A295
 refine fl_block (fun Q301 hn301 hx301 hp301 => ?_)
 refine fl_loop (body := (fun s => pack_Write_b1 r241 s.1 s.2)) (z := r) (show loopO _ _ = _ from hs) (fun (s : (List Int) × Int) a wx => match s with | (out323, x325) => ∃ (ox : Own) (A321 : Option Addr) (c322 : Nat), a.defers = [] ∧ a.tmps.size = 91 ∧ a.eval (.tmp 6) = pt cA242 0 ∧ a.eval (.tmp 8) = pt g280 0 ∧ a.eval (.tmp 9) = pt g284 0 ∧ a.eval (.tmp 10) = .func (.func 26) #[] #[pt g284 0, pt g280 0] ∧ a.eval (.tmp 44) = sl A244 r241.1.2.1 cA244 ∧ a.eval (.tmp 45) = Zi (r241.1.2.1.length : Int) ∧ a.eval (.tmp 46) = Zi x325 ∧ Evo [] (fun _ => 0) ox w wx ∧ BlkO ox 251 wx cA242 64 #[sl A243 r241.1.1 cA243, sl A244 r241.1.2.1 cA244, sl A245 r241.1.2.2 cA245] ∧ RdO ox [0, 318] wx R5 A243 cA243 r241.1.1 ∧ RwO ox 248 [0, 318] wx 22 R22 A244 cA244 r241.1.2.1 ∧ RwO ox 250 [] wx 66 R66 A245 cA245 r241.1.2.2 ∧ BlkO ox 320 wx g280 22 #[sl A321 out323 c322] ∧ RwO ox 324 [] wx 5 R5 A321 c322 out323 ∧ BlkO ox 286 wx g284 59 #[.func (.func 24) #[] #[pt g280 0]]) ?_ ?_
 ·exact ⟨(rl [(246, 318), (247, 318), (249, 318), (296, 324), (297, 320)] o300), A295, cA295, d300, z300, e300_6, e300_8, e300_9, e300_10, e300_44, e300_45, e300_46, (Evo.rl_ hX300 (fun _ => Nat.le_refl 0) rfl), (BlkO.rl_ b300_cA242), (RdO.more (RdO.rl_ b300_A243) (by decide)), (RwO.more (RwO.rl_ b300_A244) (by decide)), (RwO.rl_ b300_A245), (BlkO.rl_ b300_g280), (RwO.rl_ b300_A295), (BlkO.rl_ b300_g284)⟩
 ·rintro ⟨out323, x325⟩ zz341 a341 w341 ⟨o341, A321, c322, d342, z342, e342_6, e342_8, e342_9, e342_10, e342_44, e342_45, e342_46, hE342, b342_cA242, b342_A243, b342_A244, b342_A245, b342_g280, b342_A321, b342_g284⟩ hs Q341 hn341 hp341 z341
  have hs : pack_Write_b1 r241 out323 x325 = some zz341 := hs
  refine rq_seq 91 o341 (bz 1) [dv [] [46, 45] 47 (.bool (decide (x325 < (r241.1.2.1.length : Int))))] z342 d342 ?_ ?_
  ·exact sS (fun s => or_lss (s.1.trans e342_46) (s.2.1.trans e342_45) rfl) <| steps_nil
  intro o343 a343 w343 d343 z343 hk343 hf343 hE343
  obtain ⟨e343_6, e343_8, e343_9, e343_10, e343_44, e343_45, e343_46⟩ := kt7 hk343 e342_6 e342_8 e342_9 e342_10 e342_44 e342_45 e342_46
  have e343_47 := gv (hf343 [0] rfl) rfl
  have hX343 := es_ hE342 hE343
  obtain ⟨b343_cA242, b343_g280, b343_g284⟩ := be3 hE343 b342_cA242 b342_g280 b342_g284
  have b343_A243 := RdO.evo rfl hE343 b342_A243
  have b343_A244 := re_ hE343 b342_A244
  have b343_A245 := re_ hE343 b342_A245
  have b343_A321 := re_ hE343 b342_A321
  refine fl_seq (fun Q344 hn344 hp344 => ?_)
  refine fl_cond e343_47 hs (fun c345 hs => ?_) (fun c345 hs => ?_)
  ·refine fl_skip ?_
   refine hn344 _ _ ?_
   refine fl_seq (fun Q346 hn346 hp346 => ?_)
   refine fl_block (fun Q347 hn347 hx347 hp347 => ?_)
   obtain ⟨x348, hx348, hs⟩ := obind hs
   refine rq_seq 91 o343 (bz 3) [dv [] [44, 46] 48 (.pointer (some ((adr A244).add ((x325 : Int).toNat * R22.s)))), ⟨[0], [], [], Fct.nest X22 [248, 0, 318] 49 (fun (y : (Option Addr × Nat)) => .slice y.1 x348.length y.2) x348⟩, ⟨[1], [], [], Fct.rel [12, 49] (fun l => ∀ (A349 : Option Addr) (cA349 : Nat), l.getD 1 undef = sl A349 x348 cA349 → l.getD 0 undef = sl A349 x348 cA349)⟩] z343 d343 ?_ ?_
   ·refine sS (fun s => or_index (R := R22) (l := r241.1.2.1) tl61 (s.1.trans e343_44) (s.2.1.trans e343_46) (RdO.some_ (RwO.rd b343_A244) hx348) hx348) <| sFE (fun f hE => or_loadN1 X22 0 to22 f.1 (Addr.add_zero' _).symm (RwO.rd (re_ hE b343_A244)) hx348 (fun _ => rfl)) ?_
    refine sc (fun own a wx hf hsl hE => ?_) ?_
    ·obtain ⟨⟨⟨A349, cA349⟩, (f_49 : a.eval (.tmp 49) = sl A349 x348 cA349), b_A349⟩, -⟩ := hf
     exact px (or_mono (f := Fct.val 12 (sl A349 x348 cA349)) (or_assign f_49) (fun own' a' w' v' hp h => fun _ _ h0' => by cases (f_49.symm.trans ((hp.2 49 (by decide)).symm.trans h0')); exact h))
    exact steps_nil
   intro o350 a350 w350 d350 z350 hk350 hf350 hE350
   obtain ⟨e350_6, e350_8, e350_9, e350_10, e350_44, e350_45, e350_46⟩ := kt7 hk350 e343_6 e343_8 e343_9 e343_10 e343_44 e343_45 e343_46
   obtain ⟨⟨⟨A349, cA349⟩, (f_49 : a350.eval (.tmp 49) = sl A349 x348 cA349), (b350_A349 : RdO o350 [248, 0, 318] w350 R5 A349 cA349 x348)⟩, (q_12 : ∀ (A349 : Option Addr) (cA349 : Nat), a350.eval (.tmp 49) = sl A349 x348 cA349 → a350.eval (.tmp 12) = sl A349 x348 cA349), -⟩ := hf350 [1, 2] rfl
   have e350_12 := q_12 _ _ f_49
   have hX350 := es_ hX343 hE350
   obtain ⟨b350_cA242, b350_g280, b350_g284⟩ := be3 hE350 b343_cA242 b343_g280 b343_g284
   have b350_A243 := RdO.evo rfl hE350 b343_A243
   have b350_A244 := re_ hE350 b343_A244
   have b350_A245 := re_ hE350 b343_A245
   have b350_A321 := re_ hE350 b343_A321
   obtain ⟨r351, hr351, hs⟩ := obind hs
   refine rr 91 [Fct.at_ 320 g280 22 #[sl A321 out323 c322], Fct.rowAt 324 [] 5 R5 A321 c322 out323] o350 [320, 324] [0, 0, 3] [dv [] [10] 50 (.func (.func 26) #[] #[pt g284 0, pt g280 0]), dv [] [12] 51 (sl A349 x348 cA349), ⟨[0, 1, 3, 4], [], [320, 324], Fct.mems [353, 354] 52 (fun (x : Option Addr × Nat) => .tuple #[]) (fun (x : Option Addr × Nat) own w => RwO own 353 [] w 5 R5 x.1 x.2 r351 ∧ BlkO own 354 w g280 22 #[.slice x.1 r351.length x.2]) (fun hk he h => ⟨RwO.evo (hits_sub hk (by decide)) he h.1, BlkO.evo (not_hit hk (by decide)) he h.2⟩)⟩] z350 d350 (fm2 b350_g280 b350_A321) ?_ ?_
   ·refine sM e350_10 <| sM e350_12 ?_
    refine sc (fun own a wx hf hsl hE => ?_) ?_
    ·obtain ⟨f_50, f_51, b_g280, b_A321, -⟩ := hf
     exact px (or_callf cf26 f_50 (args1 f_51) rfl (pack_Write_2_v_w _ (forth own (look0 [(320, 1), (324, 2)])) x348 A349 cA349 out323 g280 22 A321 c322 g284 59 (look0_le rfl) (RdO.more (RdO.forth_ (m := (look0 [(320, 1), (324, 2)])) (RdO.evo rfl hE b350_A349)) (by decide)) (BlkO.forth_ (m := (look0 [(320, 1), (324, 2)])) b_g280) (RwO.forth_ (m := (look0 [(320, 1), (324, 2)])) b_A321) (BlkO.forth_ (m := (look0 [(320, 1), (324, 2)])) (be_ hE b350_g284)) r351 hr351) (post_mems (m := (look0 [(320, 1), (324, 2)])) (m' := (look0 [(1, 354), (2, 353)])) (hm_of rfl) (fun own' w' a' x h1 h => ⟨x, h1, ⟨RwO.back_ h.1 (by decide) (.inl (Rep.fl_flat _)), BlkO.back_ h.2 (by decide)⟩⟩)))
    exact steps_nil
   intro o355 a355 w355 d355 z355 hk355 hf355 hE355
   obtain ⟨e355_6, e355_8, e355_9, e355_10, e355_44, e355_45, e355_46⟩ := kt7 hk355 e350_6 e350_8 e350_9 e350_10 e350_44 e350_45 e350_46
   obtain ⟨⟨⟨A352, cA352⟩, (f_52 : a355.eval (.tmp 52) = .tuple #[]), (b355_A352 : RwO o355 353 [] w355 5 R5 A352 cA352 r351), (b355_g280 : BlkO o355 354 w355 g280 22 #[sl A352 r351 cA352])⟩, -⟩ := hf355 [2] rfl
   have hX355 := es_ hX350 hE355
   obtain ⟨b355_cA242, b355_g284⟩ := be2 hE355 b350_cA242 b350_g284
   have b355_A243 := RdO.evo rfl hE355 b350_A243
   have b355_A244 := re_ hE355 b350_A244
   have b355_A245 := re_ hE355 b350_A245
   refine hn347 _ _ ?_
   refine hn346 _ _ ?_
   refine rq 91 o355 (bz 2) [dv [] [46] 53 (Zi (ad x325 1)), dv [0] [] 46 (Zi (ad x325 1))] z355 d355 ?_ ?_
   ·exact sS (fun s => or_add (s.1.trans e355_46) rfl rfl) <| sV <| steps_nil
   intro o356 a356 w356 d356 z356 hk356 hf356 hE356
   obtain ⟨e356_6, e356_8, e356_9, e356_10, e356_44, e356_45⟩ := kt6 hk356 e355_6 e355_8 e355_9 e355_10 e355_44 e355_45
   have e356_46 := gv (hf356 [1] rfl) rfl
   have hX356 := es_ hX355 hE356
   obtain ⟨b356_cA242, b356_g284, b356_g280⟩ := be3 hE356 b355_cA242 b355_g284 b355_g280
   have b356_A243 := RdO.evo rfl hE356 b355_A243
   have b356_A244 := re_ hE356 b355_A244
   have b356_A245 := re_ hE356 b355_A245
   have b356_A352 := re_ hE356 b355_A352
   exact hn341 _ _ _ hs ⟨(rl [(353, 324), (354, 320)] o356), A352, cA352, d356, z356, e356_6, e356_8, e356_9, e356_10, e356_44, e356_45, e356_46, (Evo.rl_ hX356 (fun _ => Nat.le_refl 0) rfl), (BlkO.rl_ b356_cA242), (RdO.rl_ b356_A243), (RwO.rl_ b356_A244), (RwO.rl_ b356_A245), (BlkO.rl_ b356_g280), (RwO.rl_ b356_A352), (BlkO.rl_ b356_g284)⟩
  refine fl_exit ?_
  refine hp344 _ _ _ rfl ?_
  replace hs := z341 _ hs
  refine hp341 _ _ _ rfl ?_
  refine hx301 _ _ ?_
  refine hn299 _ _ ?_
  obtain ⟨r357, hr357, hs⟩ := obind hs
  refine rd_seq g_mixed 91 [Fct.at_ 320 g280 22 #[sl A321 out323 c322], Fct.rowAt 324 [] 5 R5 A321 c322 out323] o343 [320, 324] [0, 0, 2, 6, 14, 30, 63] [dv [] [9] 54 (.func (.func 24) #[] #[pt g280 0]), dv [] [6] 55 (pt cA242 0), dv [1] [] 56 (pt cA242 0), dv [2] [] 57 (pt cA242 2), dv [3] [] 58 (sl A245 r241.1.2.2 cA245), dv [4] [] 59 (Zi (r241.1.2.2.length : Int)), ⟨[0, 5, 7, 8], [], [320, 324], Fct.mems [359, 360] 60 (fun (x : Option Addr × Nat) => .tuple #[]) (fun (x : Option Addr × Nat) own w => RwO own 359 [] w 5 R5 x.1 x.2 r357 ∧ BlkO own 360 w g280 22 #[.slice x.1 r357.length x.2]) (fun hk he h => ⟨RwO.evo (hits_sub hk (by decide)) he h.1, BlkO.evo (not_hit hk (by decide)) he h.2⟩)⟩] z343 d343 (fm2 b343_g280 b343_A321) ?_ ?_
  ·refine sL1 to59 e343_9 b343_g284 <| sM e343_6 <| sF (fun f => ok1 f.1) <| sF (fun f => or_field fo64_2 f.1 (by rfl)) <| sG to62 b343_cA242 <| sF (fun f => or_len tu62 f.1 rfl) ?_
   refine sc (fun own a wx hf hsl hE => ?_) ?_
   ·obtain ⟨f_54, f_59, b_g280, b_A321, -⟩ := hf
    exact px (or_callf cf24 f_54 (args1 f_59) rfl (pack_Write_1_w _ (forth own (look0 [(320, 1), (324, 2)])) (r241.1.2.2.length : Int) out323 g280 22 A321 c322 (look0_le rfl) (BlkO.forth_ (m := (look0 [(320, 1), (324, 2)])) b_g280) (RwO.forth_ (m := (look0 [(320, 1), (324, 2)])) b_A321) r357 hr357) (post_mems (m := (look0 [(320, 1), (324, 2)])) (m' := (look0 [(1, 360), (2, 359)])) (hm_of rfl) (fun own' w' a' x h1 h => ⟨x, h1, ⟨RwO.back_ h.1 (by decide) (.inl (Rep.fl_flat _)), BlkO.back_ h.2 (by decide)⟩⟩)))
   exact steps_nil
  intro o361 a361 w361 d361 z361 hk361 hf361 hE361
  obtain ⟨e361_6, e361_8, e361_9⟩ := kt3 hk361 e343_6 e343_8 e343_9
  obtain ⟨⟨⟨A358, cA358⟩, (f_60 : a361.eval (.tmp 60) = .tuple #[]), (b361_A358 : RwO o361 359 [] w361 5 R5 A358 cA358 r357), (b361_g280 : BlkO o361 360 w361 g280 22 #[sl A358 r357 cA358])⟩, -⟩ := hf361 [6] rfl
  have hX361 := es_ hX343 hE361
  obtain ⟨b361_cA242, b361_g284⟩ := be2 hE361 b343_cA242 b343_g284
  have b361_A243 := RdO.evo rfl hE361 b343_A243
  have b361_A244 := re_ hE361 b343_A244
  have b361_A245 := re_ hE361 b343_A245
  refine fl_seq (fun Q362 hn362 hp362 => ?_)
  refine rq_seq 91 o361 [0, 1, 3, 7, 15, 0] [dv [] [6] 61 (pt cA242 0), dv [0] [] 62 (pt cA242 0), dv [1] [] 63 (pt cA242 2), dv [2] [] 64 (sl A245 r241.1.2.2 cA245), dv [3] [] 65 (Zi (r241.1.2.2.length : Int)), dv [] [] 66 (Zi 0)] z361 d361 ?_ ?_
  ·exact sM e361_6 <| sF (fun f => ok1 f.1) <| sF (fun f => or_field fo64_2 f.1 (by rfl)) <| sG to62 b361_cA242 <| sF (fun f => or_len tu62 f.1 rfl) <| sO (or_move rfl) <| steps_nil
  intro o363 a363 w363 d363 z363 hk363 hf363 hE363
  obtain ⟨e363_8, e363_9⟩ := kt2 hk363 e361_8 e361_9
  have e363_64 := gv (hf363 [3] rfl) rfl
  have e363_65 := gv (hf363 [4] rfl) rfl
  have e363_66 := gv (hf363 [5] rfl) rfl
  have hX363 := es_ hX361 hE363
  obtain ⟨b363_g284, b363_g280⟩ := be2 hE363 b361_g284 b361_g280
  have b363_A245 := re_ hE363 b361_A245
  have b363_A358 := re_ hE363 b361_A358
  refine fl_block (fun Q364 hn364 hx364 hp364 => ?_)
  refine fl_loop (body := (fun s => pack_Write_b2 r241 s.1 s.2)) (z := r) (show loopO _ _ = _ from hs) (fun (s : (List Int) × Int) a wx => match s with | (out400, x402) => ∃ (ox : Own) (A398 : Option Addr) (c399 : Nat), a.defers = [] ∧ a.tmps.size = 91 ∧ a.eval (.tmp 8) = pt g280 0 ∧ a.eval (.tmp 9) = pt g284 0 ∧ a.eval (.tmp 64) = sl A245 r241.1.2.2 cA245 ∧ a.eval (.tmp 65) = Zi (r241.1.2.2.length : Int) ∧ a.eval (.tmp 66) = Zi x402 ∧ Evo [] (fun _ => 0) ox w wx ∧ BlkO ox 397 wx g280 22 #[sl A398 out400 c399] ∧ RwO ox 401 [] wx 5 R5 A398 c399 out400 ∧ BlkO ox 286 wx g284 59 #[.func (.func 24) #[] #[pt g280 0]] ∧ RwO ox 250 [] wx 66 R66 A245 cA245 r241.1.2.2) ?_ ?_
  ·exact ⟨(rl [(359, 401), (360, 397)] o363), A358, cA358, d363, z363, e363_8, e363_9, e363_64, e363_65, e363_66, (Evo.rl_ hX363 (fun _ => Nat.le_refl 0) rfl), (BlkO.rl_ b363_g280), (RwO.rl_ b363_A358), (BlkO.rl_ b363_g284), (RwO.rl_ b363_A245)⟩
  ·rintro ⟨out400, x402⟩ zz435 a435 w435 ⟨o435, A398, c399, d436, z436, e436_8, e436_9, e436_64, e436_65, e436_66, hE436, b436_g280, b436_A398, b436_g284, b436_A245⟩ hs Q435 hn435 hp435 z435
   have hs : pack_Write_b2 r241 out400 x402 = some zz435 := hs
   refine rq_seq 91 o435 (bz 1) [dv [] [66, 65] 67 (.bool (decide (x402 < (r241.1.2.2.length : Int))))] z436 d436 ?_ ?_
   ·exact sS (fun s => or_lss (s.1.trans e436_66) (s.2.1.trans e436_65) rfl) <| steps_nil
   intro o437 a437 w437 d437 z437 hk437 hf437 hE437
   obtain ⟨e437_8, e437_9, e437_64, e437_65, e437_66⟩ := kt5 hk437 e436_8 e436_9 e436_64 e436_65 e436_66
   have e437_67 := gv (hf437 [0] rfl) rfl
   have hX437 := es_ hE436 hE437
   obtain ⟨b437_g280, b437_g284⟩ := be2 hE437 b436_g280 b436_g284
   have b437_A398 := re_ hE437 b436_A398
   have b437_A245 := re_ hE437 b436_A245
   refine fl_seq (fun Q438 hn438 hp438 => ?_)
   refine fl_cond e437_67 hs (fun c439 hs => ?_) (fun c439 hs => ?_)
   ·refine fl_skip ?_
    refine hn438 _ _ ?_
    refine fl_seq (fun Q440 hn440 hp440 => ?_)
    refine fl_block (fun Q441 hn441 hx441 hp441 => ?_)
    obtain ⟨x442, hx442, hs⟩ := obind hs
    refine rp_seq 91 o437 [444] [0, 1, 0, 7] [dv [] [64, 66] 68 (.pointer (some ((adr A245).add ((x402 : Int).toNat * R66.s)))), dv [0] [] 69 (.agg #[Zi x442.1.1, Zi x442.1.2.1, Zi x442.1.2.2, Zi x442.2]), ⟨[], [], [], Fct.blk 444 14 (fun g => pt g 0) 66 #[Zi 0, Zi 0, Zi 0, Zi 0]⟩, ⟨[2, 1], [], [444], Fct.blk 445 14 (fun g => pt g 0) 66 #[Zi x442.1.1, Zi x442.1.2.1, Zi x442.1.2.2, Zi x442.2]⟩] z437 d437 ?_ ?_
    ·refine sS (fun s => or_index (R := R66) (l := r241.1.2.2) tl62 (s.1.trans e437_64) (s.2.1.trans e437_66) (RdO.some_ (RwO.rd b437_A245) hx442) hx442) <| sFE (fun f hE => or_load (l := E66.f x442) ta66 f.1 (RdO.cells (F := E66) (RwO.rd (re_ hE b437_A245)) hx442) rfl) <| sO (nw0) ?_
     refine sc (fun own a wx hf hsl hE => ?_) ?_
     ·obtain ⟨⟨g443, f_14, b_g443⟩, f_69, -⟩ := hf
      exact px (or_store (l := #[Zi x442.1.1, Zi x442.1.2.1, Zi x442.1.2.2, Zi x442.2]) (lab := 444) (lab2 := 445) ts66 f_14 f_69 b_g443 (by simp) (by kernel_rfl) (mem_of rfl) (by decide) (by kernel_rfl) (fun own' a' w' ha hb => ⟨_, (ha 14).trans f_14, hb⟩))
     exact steps_nil
    intro o446 a446 w446 d446 z446 hk446 hf446 hE446
    obtain ⟨e446_8, e446_9, e446_64, e446_65, e446_66⟩ := kt5 hk446 e437_8 e437_9 e437_64 e437_65 e437_66
    obtain ⟨⟨g443, (e446_14 : a446.eval (.tmp 14) = pt g443 0), (b446_g443 : BlkO o446 445 w446 g443 66 #[Zi x442.1.1, Zi x442.1.2.1, Zi x442.1.2.2, Zi x442.2])⟩, -⟩ := hf446 [3] rfl
    have hX446 := es_ hX437 hE446
    obtain ⟨b446_g280, b446_g284⟩ := be2 hE446 b437_g280 b437_g284
    have b446_A398 := re_ hE446 b437_A398
    have b446_A245 := re_ hE446 b437_A245
    obtain ⟨r447, hr447, hs⟩ := obind hs
    refine rr_seq 91 [Fct.at_ 397 g280 22 #[sl A398 out400 c399], Fct.rowAt 401 [] 5 R5 A398 c399 out400] o446 [397, 401] [0, 0, 2, 6, 15] [dv [] [9] 70 (.func (.func 24) #[] #[pt g280 0]), dv [] [14] 71 (pt g443 0), dv [1] [] 72 (pt g443 0), dv [2] [] 73 (Zi x442.1.1), ⟨[0, 3, 5, 6], [], [397, 401], Fct.mems [449, 450] 74 (fun (x : Option Addr × Nat) => .tuple #[]) (fun (x : Option Addr × Nat) own w => RwO own 449 [] w 5 R5 x.1 x.2 r447 ∧ BlkO own 450 w g280 22 #[.slice x.1 r447.length x.2]) (fun hk he h => ⟨RwO.evo (hits_sub hk (by decide)) he h.1, BlkO.evo (not_hit hk (by decide)) he h.2⟩)⟩] z446 d446 (fm2 b446_g280 b446_A398) ?_ ?_
    ·refine sL1 to59 e446_9 b446_g284 <| sS (fun s => or_field fo66_0 (s.1.trans e446_14) (by rfl)) <| sF (fun f => or_field fo28_0 f.1 (by rfl)) <| sG to3 b446_g443 ?_
     refine sc (fun own a wx hf hsl hE => ?_) ?_
     ·obtain ⟨f_70, f_73, b_g280, b_A398, -⟩ := hf
      exact px (or_callf cf24 f_70 (args1 f_73) rfl (pack_Write_1_w _ (forth own (look0 [(397, 1), (401, 2)])) x442.1.1 out400 g280 22 A398 c399 (look0_le rfl) (BlkO.forth_ (m := (look0 [(397, 1), (401, 2)])) b_g280) (RwO.forth_ (m := (look0 [(397, 1), (401, 2)])) b_A398) r447 hr447) (post_mems (m := (look0 [(397, 1), (401, 2)])) (m' := (look0 [(1, 450), (2, 449)])) (hm_of rfl) (fun own' w' a' x h1 h => ⟨x, h1, ⟨RwO.back_ h.1 (by decide) (.inl (Rep.fl_flat _)), BlkO.back_ h.2 (by decide)⟩⟩)))
     exact steps_nil
    intro o451 a451 w451 d451 z451 hk451 hf451 hE451
    obtain ⟨e451_8, e451_9, e451_14, e451_64, e451_65, e451_66⟩ := kt6 hk451 e446_8 e446_9 e446_14 e446_64 e446_65 e446_66
    obtain ⟨⟨⟨A448, cA448⟩, (f_74 : a451.eval (.tmp 74) = .tuple #[]), (b451_A448 : RwO o451 449 [] w451 5 R5 A448 cA448 r447), (b451_g280 : BlkO o451 450 w451 g280 22 #[sl A448 r447 cA448])⟩, -⟩ := hf451 [4] rfl
    have hX451 := es_ hX446 hE451
    obtain ⟨b451_g284, b451_g443⟩ := be2 hE451 b446_g284 b446_g443
    have b451_A245 := re_ hE451 b446_A245
    obtain ⟨r452, hr452, hs⟩ := obind hs
    refine rr_seq 91 [Fct.at_ 450 g280 22 #[sl A448 r447 cA448], Fct.rowAt 449 [] 5 R5 A448 cA448 r447] o451 [450, 449] [0, 0, 2, 6, 15] [dv [] [9] 75 (.func (.func 24) #[] #[pt g280 0]), dv [] [14] 76 (pt g443 0), dv [1] [] 77 (pt g443 1), dv [2] [] 78 (Zi x442.1.2.1), ⟨[0, 3, 5, 6], [], [450, 449], Fct.mems [454, 455] 79 (fun (x : Option Addr × Nat) => .tuple #[]) (fun (x : Option Addr × Nat) own w => RwO own 454 [] w 5 R5 x.1 x.2 r452 ∧ BlkO own 455 w g280 22 #[.slice x.1 r452.length x.2]) (fun hk he h => ⟨RwO.evo (hits_sub hk (by decide)) he h.1, BlkO.evo (not_hit hk (by decide)) he h.2⟩)⟩] z451 d451 (fm2 b451_g280 b451_A448) ?_ ?_
    ·refine sL1 to59 e451_9 b451_g284 <| sS (fun s => or_field fo66_0 (s.1.trans e451_14) (by rfl)) <| sF (fun f => or_field fo28_1 f.1 (by rfl)) <| sG to3 b451_g443 ?_
     refine sc (fun own a wx hf hsl hE => ?_) ?_
     ·obtain ⟨f_75, f_78, b_g280, b_A448, -⟩ := hf
      exact px (or_callf cf24 f_75 (args1 f_78) rfl (pack_Write_1_w _ (forth own (look0 [(449, 2), (450, 1)])) x442.1.2.1 r447 g280 22 A448 cA448 (look0_le rfl) (BlkO.forth_ (m := (look0 [(449, 2), (450, 1)])) b_g280) (RwO.forth_ (m := (look0 [(449, 2), (450, 1)])) b_A448) r452 hr452) (post_mems (m := (look0 [(449, 2), (450, 1)])) (m' := (look0 [(1, 455), (2, 454)])) (hm_of rfl) (fun own' w' a' x h1 h => ⟨x, h1, ⟨RwO.back_ h.1 (by decide) (.inl (Rep.fl_flat _)), BlkO.back_ h.2 (by decide)⟩⟩)))
     exact steps_nil
    intro o456 a456 w456 d456 z456 hk456 hf456 hE456
    obtain ⟨e456_8, e456_9, e456_14, e456_64, e456_65, e456_66⟩ := kt6 hk456 e451_8 e451_9 e451_14 e451_64 e451_65 e451_66
    obtain ⟨⟨⟨A453, cA453⟩, (f_79 : a456.eval (.tmp 79) = .tuple #[]), (b456_A453 : RwO o456 454 [] w456 5 R5 A453 cA453 r452), (b456_g280 : BlkO o456 455 w456 g280 22 #[sl A453 r452 cA453])⟩, -⟩ := hf456 [4] rfl
    have hX456 := es_ hX451 hE456
    obtain ⟨b456_g284, b456_g443⟩ := be2 hE456 b451_g284 b451_g443
    have b456_A245 := re_ hE456 b451_A245
    obtain ⟨r457, hr457, hs⟩ := obind hs
    refine rr_seq 91 [Fct.at_ 455 g280 22 #[sl A453 r452 cA453], Fct.rowAt 454 [] 5 R5 A453 cA453 r452] o456 [455, 454] [0, 0, 2, 6, 15] [dv [] [9] 80 (.func (.func 24) #[] #[pt g280 0]), dv [] [14] 81 (pt g443 0), dv [1] [] 82 (pt g443 2), dv [2] [] 83 (Zi x442.1.2.2), ⟨[0, 3, 5, 6], [], [455, 454], Fct.mems [459, 460] 84 (fun (x : Option Addr × Nat) => .tuple #[]) (fun (x : Option Addr × Nat) own w => RwO own 459 [] w 5 R5 x.1 x.2 r457 ∧ BlkO own 460 w g280 22 #[.slice x.1 r457.length x.2]) (fun hk he h => ⟨RwO.evo (hits_sub hk (by decide)) he h.1, BlkO.evo (not_hit hk (by decide)) he h.2⟩)⟩] z456 d456 (fm2 b456_g280 b456_A453) ?_ ?_
    ·refine sL1 to59 e456_9 b456_g284 <| sS (fun s => or_field fo66_0 (s.1.trans e456_14) (by rfl)) <| sF (fun f => or_field fo28_2 f.1 (by rfl)) <| sG to3 b456_g443 ?_
     refine sc (fun own a wx hf hsl hE => ?_) ?_
     ·obtain ⟨f_80, f_83, b_g280, b_A453, -⟩ := hf
      exact px (or_callf cf24 f_80 (args1 f_83) rfl (pack_Write_1_w _ (forth own (look0 [(454, 2), (455, 1)])) x442.1.2.2 r452 g280 22 A453 cA453 (look0_le rfl) (BlkO.forth_ (m := (look0 [(454, 2), (455, 1)])) b_g280) (RwO.forth_ (m := (look0 [(454, 2), (455, 1)])) b_A453) r457 hr457) (post_mems (m := (look0 [(454, 2), (455, 1)])) (m' := (look0 [(1, 460), (2, 459)])) (hm_of rfl) (fun own' w' a' x h1 h => ⟨x, h1, ⟨RwO.back_ h.1 (by decide) (.inl (Rep.fl_flat _)), BlkO.back_ h.2 (by decide)⟩⟩)))
     exact steps_nil
    intro o461 a461 w461 d461 z461 hk461 hf461 hE461
    obtain ⟨e461_8, e461_9, e461_14, e461_64, e461_65, e461_66⟩ := kt6 hk461 e456_8 e456_9 e456_14 e456_64 e456_65 e456_66
    obtain ⟨⟨⟨A458, cA458⟩, (f_84 : a461.eval (.tmp 84) = .tuple #[]), (b461_A458 : RwO o461 459 [] w461 5 R5 A458 cA458 r457), (b461_g280 : BlkO o461 460 w461 g280 22 #[sl A458 r457 cA458])⟩, -⟩ := hf461 [4] rfl
    have hX461 := es_ hX456 hE461
    obtain ⟨b461_g284, b461_g443⟩ := be2 hE461 b456_g284 b456_g443
    have b461_A245 := re_ hE461 b456_A245
    obtain ⟨r462, hr462, hs⟩ := obind hs
    refine rr 91 [Fct.at_ 460 g280 22 #[sl A458 r457 cA458], Fct.rowAt 459 [] 5 R5 A458 cA458 r457] o461 [460, 459] [0, 0, 2, 7] [dv [] [9] 85 (.func (.func 24) #[] #[pt g280 0]), dv [] [14] 86 (pt g443 3), dv [1] [] 87 (Zi x442.2), ⟨[0, 2, 4, 5], [], [460, 459], Fct.mems [464, 465] 88 (fun (x : Option Addr × Nat) => .tuple #[]) (fun (x : Option Addr × Nat) own w => RwO own 464 [] w 5 R5 x.1 x.2 r462 ∧ BlkO own 465 w g280 22 #[.slice x.1 r462.length x.2]) (fun hk he h => ⟨RwO.evo (hits_sub hk (by decide)) he h.1, BlkO.evo (not_hit hk (by decide)) he h.2⟩)⟩] z461 d461 (fm2 b461_g280 b461_A458) ?_ ?_
    ·refine sL1 to59 e461_9 b461_g284 <| sS (fun s => or_field fo66_1 (s.1.trans e461_14) (by rfl)) <| sG to3 b461_g443 ?_
     refine sc (fun own a wx hf hsl hE => ?_) ?_
     ·obtain ⟨f_85, f_87, b_g280, b_A458, -⟩ := hf
      exact px (or_callf cf24 f_85 (args1 f_87) rfl (pack_Write_1_w _ (forth own (look0 [(459, 2), (460, 1)])) x442.2 r457 g280 22 A458 cA458 (look0_le rfl) (BlkO.forth_ (m := (look0 [(459, 2), (460, 1)])) b_g280) (RwO.forth_ (m := (look0 [(459, 2), (460, 1)])) b_A458) r462 hr462) (post_mems (m := (look0 [(459, 2), (460, 1)])) (m' := (look0 [(1, 465), (2, 464)])) (hm_of rfl) (fun own' w' a' x h1 h => ⟨x, h1, ⟨RwO.back_ h.1 (by decide) (.inl (Rep.fl_flat _)), BlkO.back_ h.2 (by decide)⟩⟩)))
     exact steps_nil
    intro o466 a466 w466 d466 z466 hk466 hf466 hE466
    obtain ⟨e466_8, e466_9, e466_64, e466_65, e466_66⟩ := kt5 hk466 e461_8 e461_9 e461_64 e461_65 e461_66
    obtain ⟨⟨⟨A463, cA463⟩, (f_88 : a466.eval (.tmp 88) = .tuple #[]), (b466_A463 : RwO o466 464 [] w466 5 R5 A463 cA463 r462), (b466_g280 : BlkO o466 465 w466 g280 22 #[sl A463 r462 cA463])⟩, -⟩ := hf466 [3] rfl
    have hX466 := es_ hX461 hE466
    have b466_g284 := be_ hE466 b461_g284
    have b466_A245 := re_ hE466 b461_A245
    refine hn441 _ _ ?_
    refine hn440 _ _ ?_
    refine rq 91 o466 (bz 2) [dv [] [66] 89 (Zi (ad x402 1)), dv [0] [] 66 (Zi (ad x402 1))] z466 d466 ?_ ?_
    ·exact sS (fun s => or_add (s.1.trans e466_66) rfl rfl) <| sV <| steps_nil
    intro o467 a467 w467 d467 z467 hk467 hf467 hE467
    obtain ⟨e467_8, e467_9, e467_64, e467_65⟩ := kt4 hk467 e466_8 e466_9 e466_64 e466_65
    have e467_66 := gv (hf467 [1] rfl) rfl
    have hX467 := es_ hX466 hE467
    obtain ⟨b467_g284, b467_g280⟩ := be2 hE467 b466_g284 b466_g280
    have b467_A245 := re_ hE467 b466_A245
    have b467_A463 := re_ hE467 b466_A463
    exact hn435 _ _ _ hs ⟨(rl [(464, 401), (465, 397)] o467), A463, cA463, d467, z467, e467_8, e467_9, e467_64, e467_65, e467_66, (Evo.rl_ hX467 (fun _ => Nat.le_refl 0) rfl), (BlkO.rl_ b467_g280), (RwO.rl_ b467_A463), (BlkO.rl_ b467_g284), (RwO.rl_ b467_A245)⟩
   refine fl_exit ?_
   refine hp438 _ _ _ rfl ?_
   replace hs := z435 _ hs
   refine hp435 _ _ _ rfl ?_
   refine hx364 _ _ ?_
   refine hn362 _ _ ?_
   refine rq_seq 91 o437 (bz 3) [dv [] [8] 90 (sl A398 out400 c399), dv [0] [] 4 (sl A398 out400 c399), dv [] [] 5 (Zi 0)] z437 d437 ?_ ?_
   ·exact sL1 to22 e437_8 b437_g280 <| sA <| sO (or_assign rfl) <| steps_nil
   intro o468 a468 w468 d468 z468 hk468 hf468 hE468
   have e468_4 := gv (hf468 [1] rfl) rfl
   have e468_5 := gv (hf468 [2] rfl) rfl
   have hX468 := es_ hX437 hE468
   have b468_A398 := re_ hE468 b437_A398
   refine fl_ret ?_
   obtain rfl := osome hs
   exact hret _ _ _ _ (.inl rfl) d468 (results2_ rfl (RVal.tmp_ e468_4) (RVal.tmp_ e468_5)) ⟨(rl [(401, 1)] o468), (A398, c399), rfl, (Evo.rl_ hX468 (fun _ => Nat.le_refl 0) rfl), (RwO.rl_ b468_A398)⟩
theorem ref07_Same_w (w : World) (x1 : List Int) (Ax1 : Option Addr) (cx1 : Nat) (b2 : List Int) (Ab2 : Option Addr) (cb2 : Nat) (hx1 : RdO (fun _ => 0) [0] w R5 Ax1 cx1 x1) (hb2 : RdO (fun _ => 0) [0] w R5 Ab2 cb2 b2) (r : Bool) (hs : ref07_Same x1 b2 = some r) :
  Calls Try.prog 11 #[sl Ax1 x1 cx1, sl Ab2 b2 cb2] w fun e w' => ∃ own' : Own, e = .returned (.bool r) ∧ Evo [] (fun _ => 0) own' w w' := by
 refine fl_enter (n := 26) rfl rfl rfl (Nat.le_of_ble_eq_true rfl) ?_
 intro a0 Q d0 z0 harg hret
 have ha0 := harg 0 _ rfl
 have ha1 := harg 1 _ rfl
 clear harg
 have hE0 : Evo [] (fun _ => 0) (fun _ => 0) w w := Evo.refl _ _ _
 refine rq_seq 26 (fun _ => 0) (bz 1) [dv [] [] 4 (.bool false)] z0 d0 ?_ ?_
 ·exact sO (or_assign rfl) <| steps_nil
 intro o58 a58 w58 d58 z58 hk58 hf58 hE58
 obtain ⟨e58_0, e58_1⟩ := kt2 hk58 ha0 ha1
 have hX58 := es_ hE0 hE58
 refine fl_seq (fun Q59 hn59 hp59 => ?_)
 refine rq_seq 26 o58 [0, 1, 0, 4, 15] [dv [] [0] 6 (sl Ax1 x1 cx1), dv [0] [] 7 (Zi (x1.length : Int)), dv [] [1] 8 (sl Ab2 b2 cb2), dv [2] [] 9 (Zi (b2.length : Int)), dv [1, 3] [] 10 (.bool (!decide ((x1.length : Int) = (b2.length : Int))))] z58 d58 ?_ ?_
 ·exact sM e58_0 <| sF (fun f => or_len tu22 f.1 rfl) <| sM e58_1 <| sF (fun f => or_len tu22 f.1 rfl) <| sF (fun f => or_neq f.1 f.2.1 rfl) <| steps_nil
 intro o60 a60 w60 d60 z60 hk60 hf60 hE60
 obtain ⟨e60_0, e60_1⟩ := kt2 hk60 e58_0 e58_1
 have e60_10 := gv (hf60 [4] rfl) rfl
 have hX60 := es_ hX58 hE60
 refine fl_cond e60_10 hs (fun c61 hs => ?_) (fun c61 hs => ?_)
 ·refine rq_seq 26 o60 (bz 1) [dv [] [] 4 (.bool false)] z60 d60 ?_ ?_
  ·exact sO (or_assign rfl) <| steps_nil
  intro o62 a62 w62 d62 z62 hk62 hf62 hE62
  have e62_4 := gv (hf62 [0] rfl) rfl
  have hX62 := es_ hX60 hE62
  refine fl_ret ?_
  refine hp59 _ _ _ rfl ?_
  obtain rfl := osome hs
  exact hret _ _ _ _ (.inl rfl) d62 (results1_ rfl (RVal.tmp_ e62_4)) ⟨o62, rfl, hX62⟩
 refine fl_skip ?_
 refine hn59 _ _ ?_
 refine fl_seq (fun Q63 hn63 hp63 => ?_)
 refine rq_seq 26 o60 (bz 1) [dv [] [] 5 (Zi 0)] z60 d60 ?_ ?_
 ·exact sO (or_assign rfl) <| steps_nil
 intro o64 a64 w64 d64 z64 hk64 hf64 hE64
 obtain ⟨e64_0, e64_1⟩ := kt2 hk64 e60_0 e60_1
 have e64_5 := gv (hf64 [0] rfl) rfl
 have hX64 := es_ hX60 hE64
 refine fl_block (fun Q65 hn65 hx65 hp65 => ?_)
 refine fl_loop (body := (fun s => ref07_Same_b1 x1 b2 s)) (z := r) (show loopO _ _ = _ from hs) (fun (i78 : Int) a wx => ∃ (ox : Own), a.defers = [] ∧ a.tmps.size = 26 ∧ a.eval (.tmp 0) = sl Ax1 x1 cx1 ∧ a.eval (.tmp 1) = sl Ab2 b2 cb2 ∧ a.eval (.tmp 5) = Zi i78 ∧ Evo [] (fun _ => 0) ox w wx) ?_ ?_
 ·exact ⟨o64, d64, z64, e64_0, e64_1, e64_5, hX64⟩
 ·rintro i78 zz91 a91 w91 ⟨o91, d92, z92, e92_0, e92_1, e92_5, hE92⟩ hs Q91 hn91 hp91 z91
  have hs : ref07_Same_b1 x1 b2 i78 = some zz91 := hs
  refine fl_seq (fun Q93 hn93 hp93 => ?_)
  refine rq_seq 26 o91 [0, 0, 2, 7] [dv [] [5] 11 (Zi i78), dv [] [0] 12 (sl Ax1 x1 cx1), dv [1] [] 13 (Zi (x1.length : Int)), dv [0, 2] [] 14 (.bool (decide (i78 < (x1.length : Int))))] z92 d92 ?_ ?_
  ·exact sM e92_5 <| sM e92_0 <| sF (fun f => or_len tu22 f.1 rfl) <| sF (fun f => or_lss f.1 f.2.1 rfl) <| steps_nil
  intro o94 a94 w94 d94 z94 hk94 hf94 hE94
  obtain ⟨e94_0, e94_1, e94_5⟩ := kt3 hk94 e92_0 e92_1 e92_5
  have e94_14 := gv (hf94 [3] rfl) rfl
  have hX94 := es_ hE92 hE94
  refine fl_cond e94_14 hs (fun c95 hs => ?_) (fun c95 hs => ?_)
  ·refine fl_skip ?_
   refine hn93 _ _ ?_
   refine fl_seq (fun Q96 hn96 hp96 => ?_)
   refine fl_block (fun Q97 hn97 hx97 hp97 => ?_)
   obtain ⟨x98, hx98, hs⟩ := obind hs
   obtain ⟨x99, hx99, hs⟩ := obind hs
   refine rd_seq g_mixed 26 [] o94 [] [0, 0, 3, 7, 0, 0, 48, 112, 255] [dv [] [0] 17 (sl Ax1 x1 cx1), dv [] [5] 18 (Zi i78), dv [0, 1] [] 19 (.pointer (some ((adr Ax1).add ((i78 : Int).toNat * R5.s)))), dv [2] [] 20 (.int .u8 x98), dv [] [1] 21 (sl Ab2 b2 cb2), dv [] [5] 22 (Zi i78), dv [4, 5] [] 23 (.pointer (some ((adr Ab2).add ((i78 : Int).toNat * R5.s)))), dv [6] [] 24 (.int .u8 x99), dv [3, 7] [] 25 (.bool (!decide (x98 = x99)))] z94 d94 nm_ ?_ ?_
   ·exact sM e94_0 <| sM e94_5 <| sF (fun f => or_index (R := R5) (l := x1) tl22 f.1 f.2.1 (RdO.some_ (RdO.evo rfl hX94 hx1) hx98) hx98) <| sFE (fun f hE => or_load1 to5 f.1 (CellsAt.zero (RdO.cells (F := E5) (RdO.evo rfl hE (RdO.evo rfl hX94 hx1)) hx98) rfl)) <| sM e94_1 <| sM e94_5 <| sF (fun f => or_index (R := R5) (l := b2) tl22 f.1 f.2.1 (RdO.some_ (RdO.evo rfl hX94 hb2) hx99) hx99) <| sFE (fun f hE => or_load1 to5 f.1 (CellsAt.zero (RdO.cells (F := E5) (RdO.evo rfl hE (RdO.evo rfl hX94 hb2)) hx99) rfl)) <| sF (fun f => or_neq f.1 f.2.1 rfl) <| steps_nil
   intro o100 a100 w100 d100 z100 hk100 hf100 hE100
   obtain ⟨e100_0, e100_1, e100_5⟩ := kt3 hk100 e94_0 e94_1 e94_5
   have e100_25 := gv (hf100 [8] rfl) rfl
   have hX100 := es_ hX94 hE100
   refine fl_cond e100_25 hs (fun c101 hs => ?_) (fun c101 hs => ?_)
   ·refine rq_seq 26 o100 (bz 1) [dv [] [] 4 (.bool false)] z100 d100 ?_ ?_
    ·exact sO (or_assign rfl) <| steps_nil
    intro o102 a102 w102 d102 z102 hk102 hf102 hE102
    have e102_4 := gv (hf102 [0] rfl) rfl
    have hX102 := es_ hX100 hE102
    refine fl_ret ?_
    refine hp97 _ _ _ rfl ?_
    refine hp96 _ _ _ rfl ?_
    replace hs := z91 _ hs
    refine hp91 _ _ _ rfl ?_
    refine hp65 _ _ _ rfl ?_
    refine hp63 _ _ _ rfl ?_
    obtain rfl := osome hs
    exact hret _ _ _ _ (.inl rfl) d102 (results1_ rfl (RVal.tmp_ e102_4)) ⟨o102, rfl, hX102⟩
   refine fl_skip ?_
   refine hn97 _ _ ?_
   refine hn96 _ _ ?_
   refine rq 26 o100 (bz 3) [dv [] [5] 15 (Zi i78), dv [0] [] 16 (Zi (ad i78 1)), dv [1] [] 5 (Zi (ad i78 1))] z100 d100 ?_ ?_
   ·exact sM e100_5 <| sF (fun f => or_add f.1 rfl rfl) <| sA <| steps_nil
   intro o103 a103 w103 d103 z103 hk103 hf103 hE103
   obtain ⟨e103_0, e103_1⟩ := kt2 hk103 e100_0 e100_1
   have e103_5 := gv (hf103 [2] rfl) rfl
   have hX103 := es_ hX100 hE103
   exact hn91 _ _ _ hs ⟨o103, d103, z103, e103_0, e103_1, e103_5, hX103⟩
  refine fl_exit ?_
  refine hp93 _ _ _ rfl ?_
  replace hs := z91 _ hs
  refine hp91 _ _ _ rfl ?_
  refine hx65 _ _ ?_
  refine hn63 _ _ ?_
  refine rq_seq 26 o94 (bz 1) [dv [] [] 4 (.bool true)] z94 d94 ?_ ?_
  ·exact sO (or_assign rfl) <| steps_nil
  intro o104 a104 w104 d104 z104 hk104 hf104 hE104
  have e104_4 := gv (hf104 [0] rfl) rfl
  have hX104 := es_ hX94 hE104
  refine fl_ret ?_
  obtain rfl := osome hs
  exact hret _ _ _ _ (.inl rfl) d104 (results1_ rfl (RVal.tmp_ e104_4)) ⟨o104, rfl, hX104⟩
theorem internal_stringslite_HasPrefix_w (w : World) (s1 : ByteArray) (prefix2 : ByteArray) (r : Bool) (hs : internal_stringslite_HasPrefix s1 prefix2 = some r) :
  Calls Try.prog 49 #[.string s1, .string prefix2] w fun e w' => ∃ own' : Own, e = .returned (.bool r) ∧ Evo [] (fun _ => 0) own' w w' := by
 refine fl_enter (n := 18) rfl rfl rfl (Nat.le_of_ble_eq_true rfl) ?_
 intro a0 Q d0 z0 harg hret
 have ha0 := harg 0 _ rfl
 have ha1 := harg 1 _ rfl
 clear harg
 have hE0 : Evo [] (fun _ => 0) (fun _ => 0) w w := Evo.refl _ _ _
 refine rq_seq 18 (fun _ => 0) (bz 1) [dv [] [] 4 (.bool false)] z0 d0 ?_ ?_
 ·exact sO (or_assign rfl) <| steps_nil
 intro o15 a15 w15 d15 z15 hk15 hf15 hE15
 obtain ⟨e15_0, e15_1⟩ := kt2 hk15 ha0 ha1
 have hX15 := es_ hE0 hE15
 obtain ⟨x16, hx16, hs⟩ := obind hs
 obtain ⟨x17, hx17, hs⟩ := obind hs
 refine rq_seq 18 o15 [0, 1, 0, 4, 15, 31, 63, 63, 191, 511, 63, 2047, 4095, 8191] [dv [] [0] 5 (.string s1), dv [0] [] 6 (Zi (s1.size : Int)), dv [] [1] 7 (.string prefix2), dv [2] [] 8 (Zi (prefix2.size : Int)), dv [1, 3] [] 9 (.bool (decide ((prefix2.size : Int) ≤ (s1.size : Int)))), dv [4] [] 10 (.bool (decide ((prefix2.size : Int) ≤ (s1.size : Int)))), dc [5] [0] (decide ((prefix2.size : Int) ≤ (s1.size : Int))) 11 (.string s1), dc [5] [1] (decide ((prefix2.size : Int) ≤ (s1.size : Int))) 12 (.string prefix2), dc [5, 7] [] (decide ((prefix2.size : Int) ≤ (s1.size : Int))) 13 (Zi (prefix2.size : Int)), dc [5, 6, 8] [] (decide ((prefix2.size : Int) ≤ (s1.size : Int))) 14 (.string x16), dc [5] [1] (decide ((prefix2.size : Int) ≤ (s1.size : Int))) 15 (.string prefix2), dc [5, 9, 10] [] (decide ((prefix2.size : Int) ≤ (s1.size : Int))) 16 (.bool (eqS x16 prefix2)), dv [5, 11] [] 17 (.bool x17), dv [12] [] 4 (.bool x17)] z15 d15 ?_ ?_
 ·exact sM e15_0 <| sF (fun f => or_lenS tS9 f.1 rfl) <| sM e15_1 <| sF (fun f => or_lenS tS9 f.1 rfl) <| sF (fun f => or_geq f.1 f.2.1 rfl) <| sV <| cT (fun _ s _ _ => or_move (s.1.trans e15_0)) <| cT (fun _ s _ _ => or_move (s.1.trans e15_1)) <| cT (fun f _ _ hg => or_lenS tS9 (f.2.1.1 hg) rfl) <| cT (fun f _ _ hg => or_sliceS tS9 (f.2.1.1 hg) Bnd.none_ (Bnd.some_ (f.2.2.1.1 hg)) (gd_t hx16 hg)) <| cT (fun _ s _ _ => or_move (s.1.trans e15_1)) <| cT (fun f _ _ hg => or_eqlS tS9 (f.2.1.1 hg) (f.2.2.1.1 hg) rfl) <| sF (fun f => or_and f.1 (fun hx => f.2.1.1 hx) rfl (osome hx17).symm) <| sA <| steps_nil
 intro o18 a18 w18 d18 z18 hk18 hf18 hE18
 have e18_4 := gv (hf18 [13] rfl) rfl
 have hX18 := es_ hX15 hE18
 refine fl_ret ?_
 obtain rfl := (osome hs).symm
 exact hret _ _ _ _ (.inl rfl) d18 (results1_ rfl (RVal.tmp_ e18_4)) ⟨o18, rfl, hX18⟩
theorem strings_HasPrefix_w (w : World) (s1 : ByteArray) (prefix2 : ByteArray) (r : Bool) (hs : strings_HasPrefix s1 prefix2 = some r) :
  Calls Try.prog 27 #[.string s1, .string prefix2] w fun e w' => ∃ own' : Own, e = .returned (.bool r) ∧ Evo [] (fun _ => 0) own' w w' := by
 refine fl_enter (n := 8) rfl rfl rfl (Nat.le_of_ble_eq_true rfl) ?_
 intro a0 Q d0 z0 harg hret
 have ha0 := harg 0 _ rfl
 have ha1 := harg 1 _ rfl
 clear harg
 have hE0 : Evo [] (fun _ => 0) (fun _ => 0) w w := Evo.refl _ _ _
 refine rq_seq 8 (fun _ => 0) (bz 1) [dv [] [] 4 (.bool false)] z0 d0 ?_ ?_
 ·exact sO (or_assign rfl) <| steps_nil
 intro o14 a14 w14 d14 z14 hk14 hf14 hE14
 obtain ⟨e14_0, e14_1⟩ := kt2 hk14 ha0 ha1
 have hX14 := es_ hE0 hE14
 obtain ⟨r15, hr15, hs⟩ := obind hs
 refine rq_seq 8 o14 [0, 0, 3, 7] [dv [] [0] 5 (.string s1), dv [] [1] 6 (.string prefix2), dv [0, 1] [] 7 (.bool r15), dv [2] [] 4 (.bool r15)] z14 d14 ?_ ?_
 ·exact sM e14_0 <| sM e14_1 <| sF (fun f => or_call cf49 (args2 f.1 f.2.1) (internal_stringslite_HasPrefix_w _ s1 prefix2  r15 hr15) post_val) <| sA <| steps_nil
 intro o16 a16 w16 d16 z16 hk16 hf16 hE16
 have e16_4 := gv (hf16 [3] rfl) rfl
 have hX16 := es_ hX14 hE16
 refine fl_ret ?_
 obtain rfl := (osome hs).symm
 exact hret _ _ _ _ (.inl rfl) d16 (results1_ rfl (RVal.tmp_ e16_4)) ⟨o16, rfl, hX16⟩
theorem bytes_Clone_w (w : World) (b1 : List Int) (Ab1 : Option Addr) (cb1 : Nat) (hb1 : RdO (fun _ => 0) [0] w R5 Ab1 cb1 b1) (r : List Int) (hs : bytes_Clone b1 = some r) :
  Calls Try.prog 41 #[sl Ab1 b1 cb1] w fun e w' => ∃ (own' : Own) (x : Option Addr × Nat), e = .returned (.slice x.1 r.length x.2) ∧ Evo [] (fun _ => 0) own' w w' ∧ RwO own' 1 [] w' 5 R5 x.1 x.2 r := by
 refine fl_enter (n := 8) rfl rfl rfl (Nat.le_of_ble_eq_true rfl) ?_
 intro a0 Q d0 z0 harg hret
 have ha0 := harg 0 _ rfl
 clear harg
 have hE0 : Evo [] (fun _ => 0) (fun _ => 0) w w := Evo.refl _ _ _
 refine rq_seq 8 (fun _ => 0) (bz 1) [dv [] [] 2 (.slice none 0 0)] z0 d0 ?_ ?_
 ·exact sO (or_assign rfl) <| steps_nil
 intro o22 a22 w22 d22 z22 hk22 hf22 hE22
 have e22_0 := kt hk22 ha0
 have hX22 := es_ hE0 hE22
 refine fl_seq (fun Q23 hn23 hp23 => ?_)
 refine rq_seq 8 o22 (bz 2) [dv [] [0] 3 (sl Ab1 b1 cb1), dv [0] [] 4 (.bool Ab1.isNone)] z22 d22 ?_ ?_
 ·exact sM e22_0 <| sF (fun f => or_eqlNil tu22 f.1 rfl) <| steps_nil
 intro o24 a24 w24 d24 z24 hk24 hf24 hE24
 have e24_0 := kt hk24 e22_0
 have e24_4 := gv (hf24 [1] rfl) rfl
 have hX24 := es_ hX22 hE24
 refine wpIn_cond_split e24_4 (fun hA25 => ?_) (fun hA25 => ?_)
 ·have hl25 : b1 = [] := RdO.nil_of (RdO.evo rfl hX24 hb1) hA25
  have hs0 : ((app ([] : List Int) b1).bind fun x28 => some x28) = some r := hs
  have hs : (some ([] : List Int)) = some r := by simpa [hl25, app, cut, capB] using hs0
  refine rq_seq 8 o24 (bz 1) [dv [] [] 2 (.slice none 0 0)] z24 d24 ?_ ?_
  ·exact sO (or_assign rfl) <| steps_nil
  intro o32 a32 w32 d32 z32 hk32 hf32 hE32
  have e32_2 := gv (hf32 [0] rfl) rfl
  have hX32 := es_ hX24 hE32
  refine fl_ret ?_
  refine hp23 _ _ _ rfl ?_
  obtain rfl := osome hs
  exact hret _ _ _ _ (.inl rfl) d32 (results1_ rfl (RVal.tmp_ e32_2)) ⟨o32, (none, 0), rfl, hX32, RwO.nil_⟩
 refine fl_skip ?_
 refine hn23 _ _ ?_
 obtain ⟨x28, hx28, hs⟩ := obind hs
 refine rp_seq 8 o24 [27] [0, 0, 3, 7] [⟨[], [], [], Fct.row 27 [] 5 5 R5 ([] : List Int)⟩, dv [] [0] 6 (sl Ab1 b1 cb1), ⟨[0, 1], [], [27], Fct.row 29 [] 7 5 R5 x28⟩, ⟨[2], [], [], Fct.rel [2, 7] (fun l => ∀ (A30 : Option Addr) (cA30 : Nat), l.getD 1 undef = sl A30 x28 cA30 → l.getD 0 undef = sl A30 x28 cA30)⟩] z24 d24 ?_ ?_
 ·refine sO (or_lit (lab := 27) (e := 5) (cs := #[]) (F := E5) (nw0) rfl rfl (show 0 ≤ maxLen by decide)) <| sM e24_0 ?_
  refine sc (fun own a wx hf hsl hE => ?_) ?_
  ·obtain ⟨⟨⟨A26, cA26⟩, f_5, b_A26⟩, f_6, -⟩ := hf
   exact px (or_append (R := R5) (lab := 27) (lab2 := 29) (L := []) (L3 := []) tp22 f_5 b_A26 (by decide) f_6 (RdO.evo rfl hE (RdO.evo rfl hX24 hb1)) hx28 (by decide) (by decide) (mem_of rfl) (.inl (Rep.fl_flat _)))
  refine sc (fun own a wx hf hsl hE => ?_) ?_
  ·obtain ⟨⟨⟨A30, cA30⟩, (f_7 : a.eval (.tmp 7) = sl A30 x28 cA30), b_A30⟩, -⟩ := hf
   exact px (or_mono (f := Fct.val 2 (sl A30 x28 cA30)) (or_assign f_7) (fun own' a' w' v' hp h => fun _ _ h0' => by cases (f_7.symm.trans ((hp.2 7 (by decide)).symm.trans h0')); exact h))
  exact steps_nil
 intro o31 a31 w31 d31 z31 hk31 hf31 hE31
 obtain ⟨⟨⟨A30, cA30⟩, (f_7 : a31.eval (.tmp 7) = sl A30 x28 cA30), (b31_A30 : RwO o31 29 [] w31 5 R5 A30 cA30 x28)⟩, (q_2 : ∀ (A30 : Option Addr) (cA30 : Nat), a31.eval (.tmp 7) = sl A30 x28 cA30 → a31.eval (.tmp 2) = sl A30 x28 cA30), -⟩ := hf31 [2, 3] rfl
 have e31_2 := q_2 _ _ f_7
 have hX31 := es_ hX24 hE31
 refine fl_ret ?_
 obtain rfl := (osome hs).symm
 exact hret _ _ _ _ (.inl rfl) d31 (results1_ rfl (RVal.tmp_ e31_2)) ⟨(rl [(29, 1)] o31), (A30, cA30), rfl, (Evo.rl_ hX31 (fun _ => Nat.le_refl 0) rfl), (RwO.rl_ b31_A30)⟩
theorem varint_Read_w (w : World) (b1 : List Int) (Ab1 : Option Addr) (cb1 : Nat) (hb1 : RdO (fun _ => 0) [0] w R5 Ab1 cb1 b1) (r : Int × Int × Int) (hs : varint_Read b1 = some r) :
  Calls Try.prog 61 #[sl Ab1 b1 cb1] w fun e w' => ∃ own' : Own, e = .returned (.tuple #[.int .u64 r.1, Zi r.2.1, Zi r.2.2]) ∧ Evo [] (fun _ => 0) own' w w' := by
 refine fl_enter (n := 56) rfl rfl rfl (Nat.le_of_ble_eq_true rfl) ?_
 intro a0 Q d0 z0 harg hret
 have ha0 := harg 0 _ rfl
 clear harg
 have hE0 : Evo [] (fun _ => 0) (fun _ => 0) w w := Evo.refl _ _ _
 refine rq_seq 56 (fun _ => 0) (bz 3) [dv [] [] 2 (.int .u64 0), dv [] [] 3 (Zi 0), dv [] [] 4 (Zi 0)] z0 d0 ?_ ?_
 ·exact sO (or_assign rfl) <| sO (or_assign rfl) <| sO (or_assign rfl) <| steps_nil
 intro o147 a147 w147 d147 z147 hk147 hf147 hE147
 have e147_0 := kt hk147 ha0
 have hX147 := es_ hE0 hE147
 refine fl_scope (S := (Int × Int)) (body := (fun s => varint_Read_b1_0 b1 s.1 s.2)) (z := r) (fun _ => 0) ?_ (fun s a wx => ((fun (s : Int × Int) => match s with | (n195, i196) => ∃ (ox : Own), a.defers = [] ∧ a.tmps.size = 56 ∧ a.eval (.tmp 0) = sl Ab1 b1 cb1 ∧ a.eval (.tmp 5) = .int .u64 n195 ∧ a.eval (.tmp 6) = Zi i196 ∧ Evo [] (fun _ => 0) ox w wx) : ((Int × Int)) → Prop) s) ?_ ?_
 ·intro s; rfl
 ·intro Q228 hj228 hp228
  refine rq_seq 56 o147 (bz 1) [dv [] [] 5 (.int .u64 0)] z147 d147 ?_ ?_
  ·exact sO (or_assign rfl) <| steps_nil
  intro o261 a261 w261 d261 z261 hk261 hf261 hE261
  have e261_0 := kt hk261 e147_0
  have e261_5 := gv (hf261 [0] rfl) rfl
  have hX261 := es_ hX147 hE261
  refine rq_seq 56 o261 (bz 1) [dv [] [] 6 (Zi 0)] z261 d261 ?_ ?_
  ·exact sO (or_assign rfl) <| steps_nil
  intro o262 a262 w262 d262 z262 hk262 hf262 hE262
  obtain ⟨e262_0, e262_5⟩ := kt2 hk262 e261_0 e261_5
  have e262_6 := gv (hf262 [0] rfl) rfl
  have hX262 := es_ hX261 hE262
  refine fl_seq (fun Q263 hn263 hp263 => ?_)
  refine fl_label ?_
  refine hn263 _ _ ?_
  refine fl_seq (fun Q264 hn264 hp264 => ?_)
  refine rq_seq 56 o262 (bz 2) [dv [] [6] 7 (Zi 0), dv [0] [] 8 (.bool false)] z262 d262 ?_ ?_
  ·exact sM e262_6 <| sF (fun f => or_eql f.1 rfl (by decide)) <| steps_nil
  intro o265 a265 w265 d265 z265 hk265 hf265 hE265
  obtain ⟨e265_0, e265_5, e265_6⟩ := kt3 hk265 e262_0 e262_5 e262_6
  have e265_8 := gv (hf265 [1] rfl) rfl
  have hX265 := es_ hX262 hE265
  refine fl_f e265_8 ?_
  refine fl_skip ?_
  refine hn264 _ _ ?_
  refine fl_seq (fun Q266 hn266 hp266 => ?_)
  refine rq_seq 56 o265 [0, 0, 2, 7] [dv [] [6] 9 (Zi 0), dv [] [0] 10 (sl Ab1 b1 cb1), dv [1] [] 11 (Zi (b1.length : Int)), dv [0, 2] [] 12 (.bool (decide (0 = (b1.length : Int))))] z265 d265 ?_ ?_
  ·exact sM e265_6 <| sM e265_0 <| sF (fun f => or_len tu22 f.1 rfl) <| sF (fun f => or_eql f.1 f.2.1 rfl) <| steps_nil
  intro o267 a267 w267 d267 z267 hk267 hf267 hE267
  obtain ⟨e267_0, e267_5, e267_6⟩ := kt3 hk267 e265_0 e265_5 e265_6
  have e267_12 := gv (hf267 [3] rfl) rfl
  have hX267 := es_ hX265 hE267
  refine fl_cond e267_12 hs (fun c268 hs => ?_) (fun c268 hs => ?_)
  ·refine rq_seq 56 o267 (bz 3) [dv [] [] 2 (.int .u64 0), dv [] [] 3 (Zi 0), dv [] [] 4 (Zi 4)] z267 d267 ?_ ?_
   ·exact sO (or_assign rfl) <| sO (or_assign rfl) <| sO (or_assign rfl) <| steps_nil
   intro o269 a269 w269 d269 z269 hk269 hf269 hE269
   have e269_2 := gv (hf269 [0] rfl) rfl
   have e269_3 := gv (hf269 [1] rfl) rfl
   have e269_4 := gv (hf269 [2] rfl) rfl
   have hX269 := es_ hX267 hE269
   refine fl_ret ?_
   refine hp266 _ _ _ rfl ?_
   refine hp228.leaves _ _ _ rfl ?_
   obtain rfl := osome hs
   exact hret _ _ _ _ (.inl rfl) d269 (results3_ rfl (RVal.tmp_ e269_2) (RVal.tmp_ e269_3) (RVal.tmp_ e269_4)) ⟨o269, rfl, hX269⟩
  refine fl_skip ?_
  refine hn266 _ _ ?_
  obtain ⟨x270, hx270, hs⟩ := obind hs
  obtain ⟨x271, hx271, hs⟩ := obind hs
  refine rq_seq 56 o267 [0, 0, 0, 6, 14, 30, 62, 0, 128, 510, 1023, 2047] [dv [] [5] 13 (.int .u64 0), dv [] [0] 14 (sl Ab1 b1 cb1), dv [] [6] 15 (Zi 0), dv [1, 2] [] 16 (.pointer (some ((adr Ab1).add ((0 : Int).toNat * R5.s)))), dv [3] [] 17 (.int .u8 x270), dv [4] [] 18 (.int .u8 (anK .u8 x270 127)), dv [5] [] 19 (.int .u64 (IntKind.u64.wrap (anK .u8 x270 127))), dv [] [6] 20 (Zi 0), dv [7] [] 21 (Zi 0), dv [6, 8] [] 22 (.int .u64 x271), dv [0, 9] [] 23 (.int .u64 (orK .u64 0 x271)), dv [10] [] 5 (.int .u64 (orK .u64 0 x271))] z267 d267 ?_ ?_
  ·exact sM e267_5 <| sM e267_0 <| sM e267_6 <| sF (fun f => or_index (R := R5) (l := b1) tl22 f.1 f.2.1 (RdO.some_ (RdO.evo rfl hX267 hb1) hx270) hx270) <| sFE (fun f hE => or_load1 to5 f.1 (CellsAt.zero (RdO.cells (F := E5) (RdO.evo rfl hE (RdO.evo rfl hX267 hb1)) hx270) rfl)) <| sF (fun f => or_band f.1 rfl rfl) <| sF (fun f => or_conv f.1 tn5 tn26 rfl) <| sM e267_6 <| sF (fun f => or_mul rfl f.1 (by decide)) <| sF (fun f => or_shl f.1 f.2.1 hx271) <| sF (fun f => or_bor f.1 f.2.1 rfl) <| sA <| steps_nil
  intro o272 a272 w272 d272 z272 hk272 hf272 hE272
  obtain ⟨e272_0, e272_6⟩ := kt2 hk272 e267_0 e267_6
  have e272_5 := gv (hf272 [11] rfl) rfl
  have hX272 := es_ hX267 hE272
  refine rq_seq 56 o272 (bz 3) [dv [] [6] 24 (Zi 0), dv [0] [] 25 (Zi 1), dv [1] [] 6 (Zi 1)] z272 d272 ?_ ?_
  ·exact sM e272_6 <| sF (fun f => or_add f.1 rfl (by decide)) <| sA <| steps_nil
  intro o273 a273 w273 d273 z273 hk273 hf273 hE273
  obtain ⟨e273_0, e273_5⟩ := kt2 hk273 e272_0 e272_5
  have e273_6 := gv (hf273 [2] rfl) rfl
  have hX273 := es_ hX272 hE273
  refine fl_seq (fun Q274 hn274 hp274 => ?_)
  obtain ⟨x275, hx275, hs⟩ := obind hs
  refine rq_seq 56 o273 [0, 0, 2, 7, 15, 31] [dv [] [0] 26 (sl Ab1 b1 cb1), dv [] [6] 27 (Zi 1), dv [1] [] 28 (Zi 0), dv [0, 2] [] 29 (.pointer (some ((adr Ab1).add ((0 : Int).toNat * R5.s)))), dv [3] [] 30 (.int .u8 x275), dv [4] [] 31 (.bool (decide (128 ≤ x275)))] z273 d273 ?_ ?_
  ·exact sM e273_0 <| sM e273_6 <| sF (fun f => or_sub f.1 rfl (by decide)) <| sF (fun f => or_index (R := R5) (l := b1) tl22 f.1 f.2.1 (RdO.some_ (RdO.evo rfl hX273 hb1) hx275) hx275) <| sFE (fun f hE => or_load1 to5 f.1 (CellsAt.zero (RdO.cells (F := E5) (RdO.evo rfl hE (RdO.evo rfl hX273 hb1)) hx275) rfl)) <| sF (fun f => or_geq f.1 rfl rfl) <| steps_nil
  intro o276 a276 w276 d276 z276 hk276 hf276 hE276
  obtain ⟨e276_0, e276_5, e276_6⟩ := kt3 hk276 e273_0 e273_5 e273_6
  have e276_31 := gv (hf276 [5] rfl) rfl
  have hX276 := es_ hX273 hE276
  refine fl_cond e276_31 hs (fun c277 hs => ?_) (fun c277 hs => ?_)
  ·refine fl_goto ?_
   refine hp274 _ _ _ rfl ?_
   exact hj228 (orK .u64 0 x271, 1) _ _ (show loopO _ _ = _ from hs) ⟨o276, d276, z276, e276_0, e276_5, e276_6, hX276⟩
  refine fl_skip ?_
  refine hn274 _ _ ?_
  refine fl_seq (fun Q278 hn278 hp278 => ?_)
  refine fl_block (fun Q279 hn279 hx279 hp279 => ?_)
  refine rq_seq 56 o276 [0, 1, 3, 7, 7, 23, 63, 127, 255, 511, 1023] [dv [] [6] 33 (Zi 1), dv [0] [] 34 (.bool false), dv [1] [] 35 (.bool false), dc [2] [] false 36 (.slice none 0 0), dc [2] [] false 37 (Zi 0), dc [2] [] false 38 (Zi 0), dc [2] [] false 39 (.pointer none), dc [2] [] false 40 (.int .u8 0), dc [2] [] false 41 (.bool false), dv [2, 8] [] 42 (.bool false), dv [9] [] 32 (.bool false)] z276 d276 ?_ ?_
  ·refine sM e276_6 <| sF (fun f => or_eql f.1 rfl (by decide)) <| sV ?_
   refine sc (fun own a wx hf hsl hE => ?_) ?_
   ·obtain ⟨f_35, -⟩ := hf
    refine sg_t rfl rfl rfl f_35 (fun hg => ?_)
    exact absurd hg (by simp)
   refine sc (fun own a wx hf hsl hE => ?_) ?_
   ·obtain ⟨f_35, -⟩ := hf
    refine sg_t rfl rfl rfl f_35 (fun hg => ?_)
    exact absurd hg (by simp)
   refine sc (fun own a wx hf hsl hE => ?_) ?_
   ·obtain ⟨f_35, -⟩ := hf
    refine sg_t rfl rfl rfl f_35 (fun hg => ?_)
    exact absurd hg (by simp)
   refine sc (fun own a wx hf hsl hE => ?_) ?_
   ·obtain ⟨f_35, -⟩ := hf
    refine sg_t rfl rfl rfl f_35 (fun hg => ?_)
    exact absurd hg (by simp)
   refine sc (fun own a wx hf hsl hE => ?_) ?_
   ·obtain ⟨f_35, -⟩ := hf
    refine sg_t rfl rfl rfl f_35 (fun hg => ?_)
    exact absurd hg (by simp)
   refine sc (fun own a wx hf hsl hE => ?_) ?_
   ·obtain ⟨f_35, -⟩ := hf
    refine sg_t rfl rfl rfl f_35 (fun hg => ?_)
    exact absurd hg (by simp)
   exact sF (fun f => or_and f.1 (fun hx => f.2.1.1 hx) rfl rfl) <| sA <| steps_nil
  intro o280 a280 w280 d280 z280 hk280 hf280 hE280
  obtain ⟨e280_0, e280_5, e280_6⟩ := kt3 hk280 e276_0 e276_5 e276_6
  have e280_32 := gv (hf280 [10] rfl) rfl
  have hX280 := es_ hX276 hE280
  refine fl_f e280_32 ?_
  refine rq_seq 56 o280 [0, 1, 3, 7, 7, 23, 63, 127, 255, 511, 1023] [dv [] [6] 44 (Zi 1), dv [0] [] 45 (.bool false), dv [1] [] 46 (.bool false), dc [2] [] false 47 (.slice none 0 0), dc [2] [] false 48 (Zi 0), dc [2] [] false 49 (Zi 0), dc [2] [] false 50 (.pointer none), dc [2] [] false 51 (.int .u8 0), dc [2] [] false 52 (.bool false), dv [2, 8] [] 53 (.bool false), dv [9] [] 43 (.bool false)] z280 d280 ?_ ?_
  ·refine sM e280_6 <| sF (fun f => or_gtr f.1 rfl (by decide)) <| sV ?_
   refine sc (fun own a wx hf hsl hE => ?_) ?_
   ·obtain ⟨f_46, -⟩ := hf
    refine sg_t rfl rfl rfl f_46 (fun hg => ?_)
    exact absurd hg (by simp)
   refine sc (fun own a wx hf hsl hE => ?_) ?_
   ·obtain ⟨f_46, -⟩ := hf
    refine sg_t rfl rfl rfl f_46 (fun hg => ?_)
    exact absurd hg (by simp)
   refine sc (fun own a wx hf hsl hE => ?_) ?_
   ·obtain ⟨f_46, -⟩ := hf
    refine sg_t rfl rfl rfl f_46 (fun hg => ?_)
    exact absurd hg (by simp)
   refine sc (fun own a wx hf hsl hE => ?_) ?_
   ·obtain ⟨f_46, -⟩ := hf
    refine sg_t rfl rfl rfl f_46 (fun hg => ?_)
    exact absurd hg (by simp)
   refine sc (fun own a wx hf hsl hE => ?_) ?_
   ·obtain ⟨f_46, -⟩ := hf
    refine sg_t rfl rfl rfl f_46 (fun hg => ?_)
    exact absurd hg (by simp)
   refine sc (fun own a wx hf hsl hE => ?_) ?_
   ·obtain ⟨f_46, -⟩ := hf
    refine sg_t rfl rfl rfl f_46 (fun hg => ?_)
    exact absurd hg (by simp)
   exact sF (fun f => or_and f.1 (fun hx => f.2.1.1 hx) rfl rfl) <| sA <| steps_nil
  intro o281 a281 w281 d281 z281 hk281 hf281 hE281
  obtain ⟨e281_5, e281_6⟩ := kt2 hk281 e280_5 e280_6
  have e281_43 := gv (hf281 [10] rfl) rfl
  have hX281 := es_ hX280 hE281
  refine fl_f e281_43 ?_
  refine fl_skip ?_
  refine hn279 _ _ ?_
  refine hn278 _ _ ?_
  refine rq_seq 56 o281 [0, 0, 1, 7, 15] [dv [] [5] 54 (.int .u64 (orK .u64 0 x271)), dv [] [6] 55 (Zi 1), dv [0] [] 2 (.int .u64 (orK .u64 0 x271)), dv [1] [] 3 (Zi 1), dv [] [] 4 (Zi 0)] z281 d281 ?_ ?_
  ·exact sM e281_5 <| sM e281_6 <| sA <| sA <| sO (or_assign rfl) <| steps_nil
  intro o282 a282 w282 d282 z282 hk282 hf282 hE282
  have e282_2 := gv (hf282 [2] rfl) rfl
  have e282_3 := gv (hf282 [3] rfl) rfl
  have e282_4 := gv (hf282 [4] rfl) rfl
  have hX282 := es_ hX281 hE282
  refine fl_ret ?_
  refine hp228.leaves _ _ _ rfl ?_
  obtain rfl := osome hs
  exact hret _ _ _ _ (.inl rfl) d282 (results3_ rfl (RVal.tmp_ e282_2) (RVal.tmp_ e282_3) (RVal.tmp_ e282_4)) ⟨o282, rfl, hX282⟩
 ·rintro ⟨n195, i196⟩
  rintro zz228 a229 w229 ⟨o229, d230, z230, e230_0, e230_5, e230_6, hE230⟩ hs Q229 hj229 hp229 z229
  have hs : varint_Read_b1_0 b1 n195 i196 = some zz228 := hs
  conv => arg 4; whnf
  refine fl_seq (fun Q231 hn231 hp231 => ?_)
  refine fl_skip ?_
  refine hn231 _ _ ?_
  refine fl_seq (fun Q232 hn232 hp232 => ?_)
  refine rq_seq 56 o229 (bz 2) [dv [] [6] 7 (Zi i196), dv [0] [] 8 (.bool (decide (i196 = 10)))] z230 d230 ?_ ?_
  ·exact sM e230_6 <| sF (fun f => or_eql f.1 rfl rfl) <| steps_nil
  intro o233 a233 w233 d233 z233 hk233 hf233 hE233
  obtain ⟨e233_0, e233_5, e233_6⟩ := kt3 hk233 e230_0 e230_5 e230_6
  have e233_8 := gv (hf233 [1] rfl) rfl
  have hX233 := es_ hE230 hE233
  refine fl_cond e233_8 hs (fun c234 hs => ?_) (fun c234 hs => ?_)
  ·refine rq_seq 56 o233 (bz 3) [dv [] [] 2 (.int .u64 0), dv [] [] 3 (Zi 0), dv [] [] 4 (Zi 5)] z233 d233 ?_ ?_
   ·exact sO (or_assign rfl) <| sO (or_assign rfl) <| sO (or_assign rfl) <| steps_nil
   intro o235 a235 w235 d235 z235 hk235 hf235 hE235
   have e235_2 := gv (hf235 [0] rfl) rfl
   have e235_3 := gv (hf235 [1] rfl) rfl
   have e235_4 := gv (hf235 [2] rfl) rfl
   have hX235 := es_ hX233 hE235
   refine fl_ret ?_
   refine hp232 _ _ _ rfl ?_
   replace hs := z229 _ hs
   refine hp229.leaves _ _ _ rfl ?_
   obtain rfl := osome hs
   exact hret _ _ _ _ (.inl rfl) d235 (results3_ rfl (RVal.tmp_ e235_2) (RVal.tmp_ e235_3) (RVal.tmp_ e235_4)) ⟨o235, rfl, hX235⟩
  refine fl_skip ?_
  refine hn232 _ _ ?_
  refine fl_seq (fun Q236 hn236 hp236 => ?_)
  refine rq_seq 56 o233 [0, 0, 2, 7] [dv [] [6] 9 (Zi i196), dv [] [0] 10 (sl Ab1 b1 cb1), dv [1] [] 11 (Zi (b1.length : Int)), dv [0, 2] [] 12 (.bool (decide (i196 = (b1.length : Int))))] z233 d233 ?_ ?_
  ·exact sM e233_6 <| sM e233_0 <| sF (fun f => or_len tu22 f.1 rfl) <| sF (fun f => or_eql f.1 f.2.1 rfl) <| steps_nil
  intro o237 a237 w237 d237 z237 hk237 hf237 hE237
  obtain ⟨e237_0, e237_5, e237_6⟩ := kt3 hk237 e233_0 e233_5 e233_6
  have e237_12 := gv (hf237 [3] rfl) rfl
  have hX237 := es_ hX233 hE237
  refine fl_cond e237_12 hs (fun c238 hs => ?_) (fun c238 hs => ?_)
  ·refine rq_seq 56 o237 (bz 3) [dv [] [] 2 (.int .u64 0), dv [] [] 3 (Zi 0), dv [] [] 4 (Zi 4)] z237 d237 ?_ ?_
   ·exact sO (or_assign rfl) <| sO (or_assign rfl) <| sO (or_assign rfl) <| steps_nil
   intro o239 a239 w239 d239 z239 hk239 hf239 hE239
   have e239_2 := gv (hf239 [0] rfl) rfl
   have e239_3 := gv (hf239 [1] rfl) rfl
   have e239_4 := gv (hf239 [2] rfl) rfl
   have hX239 := es_ hX237 hE239
   refine fl_ret ?_
   refine hp236 _ _ _ rfl ?_
   replace hs := z229 _ hs
   refine hp229.leaves _ _ _ rfl ?_
   obtain rfl := osome hs
   exact hret _ _ _ _ (.inl rfl) d239 (results3_ rfl (RVal.tmp_ e239_2) (RVal.tmp_ e239_3) (RVal.tmp_ e239_4)) ⟨o239, rfl, hX239⟩
  refine fl_skip ?_
  refine hn236 _ _ ?_
  obtain ⟨x240, hx240, hs⟩ := obind hs
  obtain ⟨x241, hx241, hs⟩ := obind hs
  refine rq_seq 56 o237 [0, 0, 0, 6, 14, 30, 62, 0, 128, 510, 1023, 2047] [dv [] [5] 13 (.int .u64 n195), dv [] [0] 14 (sl Ab1 b1 cb1), dv [] [6] 15 (Zi i196), dv [1, 2] [] 16 (.pointer (some ((adr Ab1).add ((i196 : Int).toNat * R5.s)))), dv [3] [] 17 (.int .u8 x240), dv [4] [] 18 (.int .u8 (anK .u8 x240 127)), dv [5] [] 19 (.int .u64 (IntKind.u64.wrap (anK .u8 x240 127))), dv [] [6] 20 (Zi i196), dv [7] [] 21 (Zi (ml 7 i196)), dv [6, 8] [] 22 (.int .u64 x241), dv [0, 9] [] 23 (.int .u64 (orK .u64 n195 x241)), dv [10] [] 5 (.int .u64 (orK .u64 n195 x241))] z237 d237 ?_ ?_
  ·exact sM e237_5 <| sM e237_0 <| sM e237_6 <| sF (fun f => or_index (R := R5) (l := b1) tl22 f.1 f.2.1 (RdO.some_ (RdO.evo rfl hX237 hb1) hx240) hx240) <| sFE (fun f hE => or_load1 to5 f.1 (CellsAt.zero (RdO.cells (F := E5) (RdO.evo rfl hE (RdO.evo rfl hX237 hb1)) hx240) rfl)) <| sF (fun f => or_band f.1 rfl rfl) <| sF (fun f => or_conv f.1 tn5 tn26 rfl) <| sM e237_6 <| sF (fun f => or_mul rfl f.1 rfl) <| sF (fun f => or_shl f.1 f.2.1 hx241) <| sF (fun f => or_bor f.1 f.2.1 rfl) <| sA <| steps_nil
  intro o242 a242 w242 d242 z242 hk242 hf242 hE242
  obtain ⟨e242_0, e242_6⟩ := kt2 hk242 e237_0 e237_6
  have e242_5 := gv (hf242 [11] rfl) rfl
  have hX242 := es_ hX237 hE242
  refine rq_seq 56 o242 (bz 3) [dv [] [6] 24 (Zi i196), dv [0] [] 25 (Zi (ad i196 1)), dv [1] [] 6 (Zi (ad i196 1))] z242 d242 ?_ ?_
  ·exact sM e242_6 <| sF (fun f => or_add f.1 rfl rfl) <| sA <| steps_nil
  intro o243 a243 w243 d243 z243 hk243 hf243 hE243
  obtain ⟨e243_0, e243_5⟩ := kt2 hk243 e242_0 e242_5
  have e243_6 := gv (hf243 [2] rfl) rfl
  have hX243 := es_ hX242 hE243
  refine fl_seq (fun Q244 hn244 hp244 => ?_)
  obtain ⟨x245, hx245, hs⟩ := obind hs
  refine rq_seq 56 o243 [0, 0, 2, 7, 15, 31] [dv [] [0] 26 (sl Ab1 b1 cb1), dv [] [6] 27 (Zi (ad i196 1)), dv [1] [] 28 (Zi (sb (ad i196 1) 1)), dv [0, 2] [] 29 (.pointer (some ((adr Ab1).add ((sb (ad i196 1) 1 : Int).toNat * R5.s)))), dv [3] [] 30 (.int .u8 x245), dv [4] [] 31 (.bool (decide (128 ≤ x245)))] z243 d243 ?_ ?_
  ·exact sM e243_0 <| sM e243_6 <| sF (fun f => or_sub f.1 rfl rfl) <| sF (fun f => or_index (R := R5) (l := b1) tl22 f.1 f.2.1 (RdO.some_ (RdO.evo rfl hX243 hb1) hx245) hx245) <| sFE (fun f hE => or_load1 to5 f.1 (CellsAt.zero (RdO.cells (F := E5) (RdO.evo rfl hE (RdO.evo rfl hX243 hb1)) hx245) rfl)) <| sF (fun f => or_geq f.1 rfl rfl) <| steps_nil
  intro o246 a246 w246 d246 z246 hk246 hf246 hE246
  obtain ⟨e246_0, e246_5, e246_6⟩ := kt3 hk246 e243_0 e243_5 e243_6
  have e246_31 := gv (hf246 [5] rfl) rfl
  have hX246 := es_ hX243 hE246
  refine fl_cond e246_31 hs (fun c247 hs => ?_) (fun c247 hs => ?_)
  ·refine fl_goto ?_
   refine hp244 _ _ _ rfl ?_
   exact hj229 (orK .u64 n195 x241, ad i196 1) _ _ hs ⟨o246, d246, z246, e246_0, e246_5, e246_6, hX246⟩
  refine fl_skip ?_
  refine hn244 _ _ ?_
  refine fl_seq (fun Q248 hn248 hp248 => ?_)
  refine fl_block (fun Q249 hn249 hx249 hp249 => ?_)
  obtain ⟨x250, hx250, hs⟩ := obind hs
  obtain ⟨x251, hx251, hs⟩ := obind hs
  refine rq_seq 56 o246 [0, 1, 3, 7, 7, 23, 63, 127, 255, 511, 1023] [dv [] [6] 33 (Zi (ad i196 1)), dv [0] [] 34 (.bool (decide ((ad i196 1) = 10))), dv [1] [] 35 (.bool (decide ((ad i196 1) = 10))), dc [2] [0] (decide ((ad i196 1) = 10)) 36 (sl Ab1 b1 cb1), dc [2] [6] (decide ((ad i196 1) = 10)) 37 (Zi (ad i196 1)), dc [2, 4] [] (decide ((ad i196 1) = 10)) 38 (Zi (sb (ad i196 1) 1)), dc [2, 3, 5] [] (decide ((ad i196 1) = 10)) 39 (.pointer (some ((adr Ab1).add ((sb (ad i196 1) 1 : Int).toNat * R5.s)))), dc [2, 6] [] (decide ((ad i196 1) = 10)) 40 (.int .u8 x250), dc [2, 7] [] (decide ((ad i196 1) = 10)) 41 (.bool (decide (1 < x250))), dv [2, 8] [] 42 (.bool x251), dv [9] [] 32 (.bool x251)] z246 d246 ?_ ?_
  ·exact sM e246_6 <| sF (fun f => or_eql f.1 rfl rfl) <| sV <| cT (fun _ s _ _ => or_move (s.1.trans e246_0)) <| cT (fun _ s _ _ => or_move (s.1.trans e246_6)) <| cT (fun f _ _ hg => or_sub (f.2.1.1 hg) rfl rfl) <| cT (fun f _ _ hg => or_index (R := R5) (l := b1) tl22 (f.2.1.1 hg) (f.2.2.1.1 hg) (RdO.some_ (RdO.evo rfl hX246 hb1) (gd_t hx250 hg)) (gd_t hx250 hg)) <| cT (fun f _ hE hg => or_load1 to5 (f.2.1.1 hg) (CellsAt.zero (RdO.cells (F := E5) (RdO.evo rfl hE (RdO.evo rfl hX246 hb1)) (gd_t hx250 hg)) rfl)) <| cT (fun f _ _ hg => or_gtr (f.2.1.1 hg) rfl rfl) <| sF (fun f => or_and f.1 (fun hx => f.2.1.1 hx) rfl (osome hx251).symm) <| sA <| steps_nil
  intro o252 a252 w252 d252 z252 hk252 hf252 hE252
  obtain ⟨e252_0, e252_5, e252_6⟩ := kt3 hk252 e246_0 e246_5 e246_6
  have e252_32 := gv (hf252 [10] rfl) rfl
  have hX252 := es_ hX246 hE252
  refine fl_cond e252_32 hs (fun c253 hs => ?_) (fun c253 hs => ?_)
  ·refine rq_seq 56 o252 (bz 3) [dv [] [] 2 (.int .u64 0), dv [] [] 3 (Zi 0), dv [] [] 4 (Zi 5)] z252 d252 ?_ ?_
   ·exact sO (or_assign rfl) <| sO (or_assign rfl) <| sO (or_assign rfl) <| steps_nil
   intro o254 a254 w254 d254 z254 hk254 hf254 hE254
   have e254_2 := gv (hf254 [0] rfl) rfl
   have e254_3 := gv (hf254 [1] rfl) rfl
   have e254_4 := gv (hf254 [2] rfl) rfl
   have hX254 := es_ hX252 hE254
   refine fl_ret ?_
   refine hp249 _ _ _ rfl ?_
   refine hp248 _ _ _ rfl ?_
   replace hs := z229 _ hs
   refine hp229.leaves _ _ _ rfl ?_
   obtain rfl := osome hs
   exact hret _ _ _ _ (.inl rfl) d254 (results3_ rfl (RVal.tmp_ e254_2) (RVal.tmp_ e254_3) (RVal.tmp_ e254_4)) ⟨o254, rfl, hX254⟩
  obtain ⟨x255, hx255, hs⟩ := obind hs
  obtain ⟨x256, hx256, hs⟩ := obind hs
  refine rq_seq 56 o252 [0, 1, 3, 7, 7, 23, 63, 127, 255, 511, 1023] [dv [] [6] 44 (Zi (ad i196 1)), dv [0] [] 45 (.bool (decide (1 < (ad i196 1)))), dv [1] [] 46 (.bool (decide (1 < (ad i196 1)))), dc [2] [0] (decide (1 < (ad i196 1))) 47 (sl Ab1 b1 cb1), dc [2] [6] (decide (1 < (ad i196 1))) 48 (Zi (ad i196 1)), dc [2, 4] [] (decide (1 < (ad i196 1))) 49 (Zi (sb (ad i196 1) 1)), dc [2, 3, 5] [] (decide (1 < (ad i196 1))) 50 (.pointer (some ((adr Ab1).add ((sb (ad i196 1) 1 : Int).toNat * R5.s)))), dc [2, 6] [] (decide (1 < (ad i196 1))) 51 (.int .u8 x255), dc [2, 7] [] (decide (1 < (ad i196 1))) 52 (.bool (decide (x255 = 0))), dv [2, 8] [] 53 (.bool x256), dv [9] [] 43 (.bool x256)] z252 d252 ?_ ?_
  ·exact sM e252_6 <| sF (fun f => or_gtr f.1 rfl rfl) <| sV <| cT (fun _ s _ _ => or_move (s.1.trans e252_0)) <| cT (fun _ s _ _ => or_move (s.1.trans e252_6)) <| cT (fun f _ _ hg => or_sub (f.2.1.1 hg) rfl rfl) <| cT (fun f _ _ hg => or_index (R := R5) (l := b1) tl22 (f.2.1.1 hg) (f.2.2.1.1 hg) (RdO.some_ (RdO.evo rfl hX252 hb1) (gd_t hx255 hg)) (gd_t hx255 hg)) <| cT (fun f _ hE hg => or_load1 to5 (f.2.1.1 hg) (CellsAt.zero (RdO.cells (F := E5) (RdO.evo rfl hE (RdO.evo rfl hX252 hb1)) (gd_t hx255 hg)) rfl)) <| cT (fun f _ _ hg => or_eql (f.2.1.1 hg) rfl rfl) <| sF (fun f => or_and f.1 (fun hx => f.2.1.1 hx) rfl (osome hx256).symm) <| sA <| steps_nil
  intro o257 a257 w257 d257 z257 hk257 hf257 hE257
  obtain ⟨e257_5, e257_6⟩ := kt2 hk257 e252_5 e252_6
  have e257_43 := gv (hf257 [10] rfl) rfl
  have hX257 := es_ hX252 hE257
  refine fl_cond e257_43 hs (fun c258 hs => ?_) (fun c258 hs => ?_)
  ·refine rq_seq 56 o257 (bz 3) [dv [] [] 2 (.int .u64 0), dv [] [] 3 (Zi 0), dv [] [] 4 (Zi 3)] z257 d257 ?_ ?_
   ·exact sO (or_assign rfl) <| sO (or_assign rfl) <| sO (or_assign rfl) <| steps_nil
   intro o259 a259 w259 d259 z259 hk259 hf259 hE259
   have e259_2 := gv (hf259 [0] rfl) rfl
   have e259_3 := gv (hf259 [1] rfl) rfl
   have e259_4 := gv (hf259 [2] rfl) rfl
   have hX259 := es_ hX257 hE259
   refine fl_ret ?_
   refine hp249 _ _ _ rfl ?_
   refine hp248 _ _ _ rfl ?_
   replace hs := z229 _ hs
   refine hp229.leaves _ _ _ rfl ?_
   obtain rfl := osome hs
   exact hret _ _ _ _ (.inl rfl) d259 (results3_ rfl (RVal.tmp_ e259_2) (RVal.tmp_ e259_3) (RVal.tmp_ e259_4)) ⟨o259, rfl, hX259⟩
  refine fl_skip ?_
  refine hn249 _ _ ?_
  refine hn248 _ _ ?_
  refine rq_seq 56 o257 [0, 0, 1, 7, 15] [dv [] [5] 54 (.int .u64 (orK .u64 n195 x241)), dv [] [6] 55 (Zi (ad i196 1)), dv [0] [] 2 (.int .u64 (orK .u64 n195 x241)), dv [1] [] 3 (Zi (ad i196 1)), dv [] [] 4 (Zi 0)] z257 d257 ?_ ?_
  ·exact sM e257_5 <| sM e257_6 <| sA <| sA <| sO (or_assign rfl) <| steps_nil
  intro o260 a260 w260 d260 z260 hk260 hf260 hE260
  have e260_2 := gv (hf260 [2] rfl) rfl
  have e260_3 := gv (hf260 [3] rfl) rfl
  have e260_4 := gv (hf260 [4] rfl) rfl
  have hX260 := es_ hX257 hE260
  refine fl_ret ?_
  replace hs := z229 _ hs
  refine hp229.leaves _ _ _ rfl ?_
  obtain rfl := osome hs
  exact hret _ _ _ _ (.inl rfl) d260 (results3_ rfl (RVal.tmp_ e260_2) (RVal.tmp_ e260_3) (RVal.tmp_ e260_4)) ⟨o260, rfl, hX260⟩
theorem pack_reader_number_w (w : World) (own : Own) (r1 : (List Int) × Int) (gr1 : Nat) (tr1 : TypeId) (Ar1_0 : Option Addr) (cr1_0 : Nat) (hown : ∀ b, own b ≤ 2) (hgr1 : BlkO own 1 w gr1 tr1 #[sl Ar1_0 r1.1 cr1_0, Zi r1.2]) (hAr1_0 : RdO own [2] w R5 Ar1_0 cr1_0 r1.1) (r : Int × ((List Int) × Int)) (hs : pack_reader_number r1 = some r) :
  Calls Try.prog 50 #[pt gr1 0] w fun e w' => ∃ (own' : Own) (x : Option Addr × Nat), e = .returned (.int .u64 r.1) ∧ Evo [1] own own' w w' ∧ RdO own' [2] w' R5 x.1 x.2 r.2.1 ∧ BlkO own' 1 w' gr1 tr1 #[.slice x.1 r.2.1.length x.2, Zi r.2.2] := by
 refine fl_enter (n := 36) rfl rfl rfl (Nat.le_of_ble_eq_true rfl) ?_
 intro a0 Q d0 z0 harg hret
 have ha0 := harg 0 _ rfl
 clear harg
 have hE0 : Evo [1] own own w w := Evo.refl _ _ _
 refine rq_seq 36 own (bz 1) [dv [] [] 2 (.int .u64 0)] z0 d0 ?_ ?_
 ·exact sO (or_assign rfl) <| steps_nil
 intro o33 a33 w33 d33 z33 hk33 hf33 hE33
 have e33_0 := kt hk33 ha0
 have hX33 := Evo.step hE0 hown hE33 rfl
 have b33_gr1 := be_ hE33 hgr1
 refine fl_seq (fun Q34 hn34 hp34 => ?_)
 refine rq_seq 36 o33 (bz 5) [dv [] [0] 6 (pt gr1 0), dv [0] [] 7 (pt gr1 0), dv [1] [] 8 (pt gr1 1), dv [2] [] 9 (Zi r1.2), dv [3] [] 10 (.bool (!decide (r1.2 = 0)))] z33 d33 ?_ ?_
 ·exact sM e33_0 <| sF (fun f => ok1 f.1) <| sF (fun f => or_field fo70_1 f.1 (by rfl)) <| sG to31 b33_gr1 <| sF (fun f => or_neq f.1 rfl rfl) <| steps_nil
 intro o35 a35 w35 d35 z35 hk35 hf35 hE35
 have e35_0 := kt hk35 e33_0
 have e35_10 := gv (hf35 [4] rfl) rfl
 have hX35 := Evo.step hX33 hown hE35 rfl
 have b35_gr1 := be_ hE35 b33_gr1
 refine fl_cond e35_10 hs (fun c36 hs => ?_) (fun c36 hs => ?_)
 ·refine rq_seq 36 o35 (bz 1) [dv [] [] 2 (.int .u64 0)] z35 d35 ?_ ?_
  ·exact sO (or_assign rfl) <| steps_nil
  intro o37 a37 w37 d37 z37 hk37 hf37 hE37
  have e37_0 := kt hk37 e35_0
  have e37_2 := gv (hf37 [0] rfl) rfl
  have hX37 := Evo.step hX35 hown hE37 rfl
  have b37_gr1 := be_ hE37 b35_gr1
  refine fl_ret ?_
  refine hp34 _ _ _ rfl ?_
  obtain rfl := osome hs
  exact hret _ _ _ _ (.inl rfl) d37 (results1_ rfl (RVal.tmp_ e37_2)) ⟨o37, (Ar1_0, cr1_0), rfl, hX37, (RdO.evo rfl hX37 hAr1_0), b37_gr1⟩
 refine fl_skip ?_
 refine hn34 _ _ ?_
 obtain ⟨r38, hr38, hs⟩ := obind hs
 refine rq_seq 36 o35 [0, 1, 3, 7, 15, 31, 63, 63, 63, 127, 767, 2047] [dv [] [0] 12 (pt gr1 0), dv [0] [] 13 (pt gr1 0), dv [1] [] 14 (pt gr1 0), dv [2] [] 15 (sl Ar1_0 r1.1 cr1_0), dv [3] [] 16 (.tuple #[.int .u64 r38.1, Zi r38.2.1, Zi r38.2.2]), dv [4] [] 11 (.tuple #[.int .u64 r38.1, Zi r38.2.1, Zi r38.2.2]), dv [5] [] 17 (.int .u64 r38.1), dv [5] [] 18 (Zi r38.2.1), dv [5] [] 19 (Zi r38.2.2), dv [6] [] 3 (.int .u64 r38.1), dv [7] [] 4 (Zi r38.2.1), dv [8] [] 5 (Zi r38.2.2)] z35 d35 ?_ ?_
 ·exact sM e35_0 <| sF (fun f => ok1 f.1) <| sF (fun f => or_field fo70_0 f.1 (by rfl)) <| sG to22 b35_gr1 <| sFE (fun f hE => or_call cf61 (args1 f.1) (varint_Read_w _ r1.1 Ar1_0 cr1_0 (RdO.zero (RdO.evo rfl hE (RdO.evo rfl hX35 hAr1_0))) r38 hr38) post_val) <| sV <| sF (fun f => ok1 f.1) <| sF (fun f => ok1 f.1) <| sF (fun f => ok1 f.1) <| sA <| sA <| sA <| steps_nil
 intro o39 a39 w39 d39 z39 hk39 hf39 hE39
 have e39_0 := kt hk39 e35_0
 have e39_3 := gv (hf39 [9] rfl) rfl
 have e39_4 := gv (hf39 [10] rfl) rfl
 have e39_5 := gv (hf39 [11] rfl) rfl
 have hX39 := Evo.step hX35 hown hE39 rfl
 have b39_gr1 := be_ hE39 b35_gr1
 refine fl_seq (fun Q40 hn40 hp40 => ?_)
 refine rq_seq 36 o39 (bz 2) [dv [] [5] 20 (Zi r38.2.2), dv [0] [] 21 (.bool (!decide (r38.2.2 = 0)))] z39 d39 ?_ ?_
 ·exact sM e39_5 <| sF (fun f => or_neq f.1 rfl rfl) <| steps_nil
 intro o41 a41 w41 d41 z41 hk41 hf41 hE41
 obtain ⟨e41_0, e41_3, e41_4, e41_5⟩ := kt4 hk41 e39_0 e39_3 e39_4 e39_5
 have e41_21 := gv (hf41 [1] rfl) rfl
 have hX41 := Evo.step hX39 hown hE41 rfl
 have b41_gr1 := be_ hE41 b39_gr1
 refine fl_cond e41_21 hs (fun c42 hs => ?_) (fun c42 hs => ?_)
 ·refine rr_seq 36 [Fct.at_ 1 gr1 tr1 #[sl Ar1_0 r1.1 cr1_0, Zi r1.2]] o41 [1] [0, 0, 3, 7, 15] [dv [] [0] 22 (pt gr1 0), dv [] [5] 23 (Zi r38.2.2), dv [0] [] 24 (pt gr1 0), dv [2] [] 25 (pt gr1 1), ⟨[3, 1, 5], [], [1], Fct.at_ 43 gr1 tr1 #[sl Ar1_0 r1.1 cr1_0, Zi r38.2.2]⟩] z41 d41 (fm1 b41_gr1) ?_ ?_
  ·refine sM e41_0 <| sM e41_5 <| sF (fun f => ok1 f.1) <| sF (fun f => or_field fo70_1 f.1 (by rfl)) ?_
   refine sc (fun own a wx hf hsl hE => ?_) ?_
   ·obtain ⟨f_25, f_23, b_gr1, -⟩ := hf
    exact px (or_store1 (lab := 1) (lab2 := 43) ts31 f_25 f_23 b_gr1 (by simp) rfl (mem_of rfl) (by decide) rfl (fun own' a' w' ha hb => hb))
   exact steps_nil
  intro o44 a44 w44 d44 z44 hk44 hf44 hE44
  have e44_0 := kt hk44 e41_0
  obtain ⟨(b44_gr1 : BlkO o44 43 w44 gr1 tr1 #[sl Ar1_0 r1.1 cr1_0, Zi r38.2.2]), -⟩ := hf44 [4] rfl
  have hX44 := Evo.step hX41 hown hE44 rfl
  refine rq_seq 36 o44 (bz 1) [dv [] [] 2 (.int .u64 0)] z44 d44 ?_ ?_
  ·exact sO (or_assign rfl) <| steps_nil
  intro o45 a45 w45 d45 z45 hk45 hf45 hE45
  have e45_0 := kt hk45 e44_0
  have e45_2 := gv (hf45 [0] rfl) rfl
  have hX45 := Evo.step hX44 hown hE45 rfl
  have b45_gr1 := be_ hE45 b44_gr1
  refine fl_ret ?_
  refine hp40 _ _ _ rfl ?_
  obtain rfl := osome hs
  exact hret _ _ _ _ (.inl rfl) d45 (results1_ rfl (RVal.tmp_ e45_2)) ⟨(rl [(43, 1)] o45), (Ar1_0, cr1_0), rfl, (Evo.rl_ hX45 hown rfl), (RdO.rl_ (RdO.evo rfl hX45 hAr1_0)), (BlkO.rl_ b45_gr1)⟩
 refine fl_skip ?_
 refine hn40 _ _ ?_
 obtain ⟨x48, hx48, hs⟩ := obind hs
 refine rr_seq 36 [Fct.at_ 1 gr1 tr1 #[sl Ar1_0 r1.1 cr1_0, Zi r1.2]] o41 [1] [0, 0, 2, 6, 14, 0, 62, 127, 255, 511] [dv [] [0] 26 (pt gr1 0), dv [] [0] 27 (pt gr1 0), dv [1] [] 28 (pt gr1 0), dv [2] [] 29 (pt gr1 0), dv [3, 10] [] 30 (sl Ar1_0 r1.1 cr1_0), dv [] [4] 31 (Zi r38.2.1), ⟨[4, 5], [], [], Fct.view [2] 32 R5 x48⟩, dv [0] [] 33 (pt gr1 0), dv [7] [] 34 (pt gr1 0), ⟨[8, 6, 10], [], [1], Fct.by_ [50] [32] (fun l own w => ∀ (A49 : Option Addr) (cA49 : Nat), l.getD 0 undef = sl A49 x48 cA49 → BlkO own 50 w gr1 tr1 #[sl A49 x48 cA49, Zi r1.2]) (fun hk he h _ _ h0' => BlkO.evo (not_hit hk (by decide)) he (h _ _ h0'))⟩] z41 d41 (fm1 b41_gr1) ?_ ?_
 ·refine sM e41_0 <| sM e41_0 <| sF (fun f => ok1 f.1) <| sF (fun f => or_field fo70_0 f.1 (by rfl)) ?_
  refine sc (fun own a wx hf hsl hE => ?_) ?_
  ·obtain ⟨f_29, (b_gr1 : BlkO own 1 wx gr1 tr1 #[sl Ar1_0 r1.1 cr1_0, Zi r1.2]), -⟩ := hf
   exact px (ld1 to22 f_29 b_gr1)
  refine sM e41_4 <| sFE (fun f hE => or_view (R := R5) (l := r1.1) (L := [2]) tu22 ts5 f.1 (Bnd.some_ f.2.1) Bnd.none_ Bnd.none_ (RdO.evo rfl hE (RdO.evo rfl hX41 hAr1_0)) hx48 (.inl rfl) (by simp)) <| sF (fun f => ok1 f.1) <| sF (fun f => or_field fo70_0 f.1 (by rfl)) ?_
  refine sc (fun own a wx hf hsl hE => ?_) ?_
  ·obtain ⟨f_34, ⟨⟨A49, cA49⟩, (f_32 : a.eval (.tmp 32) = sl A49 x48 cA49), b_A49⟩, b_gr1, -⟩ := hf
   exact px (or_store1 (lab := 1) (lab2 := 50) ts22 f_34 f_32 b_gr1 (by simp) rfl (mem_of rfl) (by decide) rfl (fun own' a' w' ha hb => fun _ _ h0' => by cases (f_32.symm.trans ((ha 32).symm.trans h0')); exact hb))
  exact steps_nil
 intro o51 a51 w51 d51 z51 hk51 hf51 hE51
 obtain ⟨e51_0, e51_3⟩ := kt2 hk51 e41_0 e41_3
 obtain ⟨⟨⟨A49, cA49⟩, (f_32 : a51.eval (.tmp 32) = sl A49 x48 cA49), (b51_A49 : RdO o51 [2] w51 R5 A49 cA49 x48)⟩, (bq_gr1 : ∀ (A49 : Option Addr) (cA49 : Nat), a51.eval (.tmp 32) = sl A49 x48 cA49 → BlkO o51 50 w51 gr1 tr1 #[sl A49 x48 cA49, Zi r1.2]), -⟩ := hf51 [6, 9] rfl
 have b51_gr1 := bq_gr1 _ _ f_32
 have hX51 := Evo.step hX41 hown hE51 rfl
 refine rq_seq 36 o51 (bz 2) [dv [] [3] 35 (.int .u64 r38.1), dv [0] [] 2 (.int .u64 r38.1)] z51 d51 ?_ ?_
 ·exact sM e51_3 <| sA <| steps_nil
 intro o52 a52 w52 d52 z52 hk52 hf52 hE52
 have e52_0 := kt hk52 e51_0
 have e52_2 := gv (hf52 [1] rfl) rfl
 have hX52 := Evo.step hX51 hown hE52 rfl
 have b52_gr1 := be_ hE52 b51_gr1
 have b52_A49 := RdO.evo rfl hE52 b51_A49
 refine fl_ret ?_
 obtain rfl := osome hs
 exact hret _ _ _ _ (.inl rfl) d52 (results1_ rfl (RVal.tmp_ e52_2)) ⟨(rl [(50, 1)] o52), (A49, cA49), rfl, (Evo.rl_ hX52 hown rfl), (RdO.rl_ b52_A49), (BlkO.rl_ b52_gr1)⟩
end Go.Proofs.Ytnmkonlfnpcoiaa
