import Derived.Test.YtnmkonlfnpcoiaaWp6
import Derived.Test.YtnmkonlfnpcoiaaSp7
namespace Go.Proofs.Ytnmkonlfnpcoiaa
open Go.RowKit
set_option linter.unusedVariables false
set_option maxRecDepth 10000
theorem law27_PackTurns_w (w : World) (head1 : List Int) (Ahead1 : Option Addr) (chead1 : Nat) (l2 : List ((Int × Int × Int) × (List Int))) (Al2 : Option Addr) (cl2 : Nat) (x3 : Int) (hhead1 : RdO (fun _ => 0) [0] w R5 Ahead1 chead1 head1) (hl2 : RdO (fun _ => 0) [0] w R30 Al2 cl2 l2) (r : Bool) (hs : law27_PackTurns head1 l2 x3 = some r) :
  Calls Try.prog 3 #[sl Ahead1 head1 chead1, sl Al2 l2 cl2, Zi x3] w fun e w' => ∃ own' : Own, e = .returned (.bool r) ∧ Evo [] (fun _ => 0) own' w w' := by
 refine fl_enter (n := 77) rfl rfl rfl (Nat.le_of_ble_eq_true rfl) ?_
 intro a0 Q d0 z0 harg hret
 have ha0 := harg 0 _ rfl
 have ha1 := harg 1 _ rfl
 have ha2 := harg 2 _ rfl
 clear harg
 have hE0 : Evo [] (fun _ => 0) (fun _ => 0) w w := Evo.refl _ _ _
 refine rq_seq 77 (fun _ => 0) (bz 1) [dv [] [] 6 (.bool false)] z0 d0 ?_ ?_
 ·exact sO (or_assign rfl) <| steps_nil
 intro o117 a117 w117 d117 z117 hk117 hf117 hE117
 obtain ⟨e117_0, e117_1, e117_2⟩ := kt3 hk117 ha0 ha1 ha2
 have hX117 := es_ hE0 hE117
 obtain ⟨x118, hx118, hs⟩ := obind hs
 obtain ⟨r120, hr120, hs⟩ := obind hs
 refine rd_seq g_mixed 77 [] o117 [] [0, 0, 2, 6, 15, 0, 32, 127, 255] [dv [] [0] 15 (sl Ahead1 head1 chead1), dv [] [0] 16 (sl Ahead1 head1 chead1), dv [1] [] 17 (Zi (head1.length : Int)), dv [2] [] 18 (Zi (mn (head1.length : Int) 30)), ⟨[0, 3], [], [], Fct.view [0] 19 R5 x118⟩, dv [] [1] 20 (sl Al2 l2 cl2), ⟨[5], [], [], Fct.mems [122, 123, 124, 0] 21 (fun (x : Option Addr × Nat) => .slice x.1 r120.length x.2) (fun (x : Option Addr × Nat) own w => RwO own 122 [123, 124, 0] w 30 R30 x.1 x.2 r120) (fun hk he h => RwO.evo (hits_sub hk (by decide)) he h)⟩, ⟨[4], [], [], Fct.rel [0, 19] (fun l => ∀ (A119 : Option Addr) (cA119 : Nat), l.getD 1 undef = sl A119 x118 cA119 → l.getD 0 undef = sl A119 x118 cA119)⟩, ⟨[6], [], [], Fct.rel [1, 21] (fun l => ∀ (A121 : Option Addr) (cA121 : Nat), l.getD 1 undef = sl A121 r120 cA121 → l.getD 0 undef = sl A121 r120 cA121)⟩] z117 d117 nm_ ?_ ?_
 ·refine sM e117_0 <| sM e117_0 <| sF (fun f => or_len tu22 f.1 rfl) <| sF (fun f => or_min f.1 rfl) <| sFE (fun f hE => or_view (R := R5) (l := head1) (L := [0]) tu22 ts5 f.1 Bnd.none_ (Bnd.some_ f.2.1) Bnd.none_ (RdO.evo rfl hE (RdO.evo rfl hX117 hhead1)) hx118 (.inl rfl) (by simp)) <| sM e117_1 ?_
  refine sc (fun own _ _ f _ hE => px (or_call cf8 (args1 f.1) (law27_Cut_w _ (forth own (inL [0])) l2 Al2 cl2 inL_le (RdO.alias_ (La := [0]) (RdO.evo rfl hE (RdO.evo rfl hX117 hl2)) (by decide)) r120 hr120) (post_alias (La := [0]) (m' := (look0 [(1, 123), (2, 122), (3, 124)])) (fun own' w' a' x ho hsz h1 h => ⟨x, h1, RwO.backM_ ho h (by decide) (by decide) (by decide) (by decide)⟩)))) ?_
  refine sc (fun own a wx hf hsl hE => ?_) ?_
  ·obtain ⟨⟨⟨A119, cA119⟩, (f_19 : a.eval (.tmp 19) = sl A119 x118 cA119), b_A119⟩, -⟩ := hf
   exact px (or_mono (f := Fct.val 0 (sl A119 x118 cA119)) (or_assign f_19) (fun own' a' w' v' hp h => fun _ _ h0' => by cases (f_19.symm.trans ((hp.2 19 (by decide)).symm.trans h0')); exact h))
  refine sc (fun own a wx hf hsl hE => ?_) ?_
  ·obtain ⟨⟨⟨A121, cA121⟩, (f_21 : a.eval (.tmp 21) = sl A121 r120 cA121), b_A121⟩, -⟩ := hf
   exact px (or_mono (f := Fct.val 1 (sl A121 r120 cA121)) (or_assign f_21) (fun own' a' w' v' hp h => fun _ _ h0' => by cases (f_21.symm.trans ((hp.2 21 (by decide)).symm.trans h0')); exact h))
  exact steps_nil
 intro o125 a125 w125 d125 z125 hk125 hf125 hE125
 have e125_2 := kt hk125 e117_2
 obtain ⟨⟨⟨A119, cA119⟩, (f_19 : a125.eval (.tmp 19) = sl A119 x118 cA119), (b125_A119 : RdO o125 [0] w125 R5 A119 cA119 x118)⟩, (q_0 : ∀ (A119 : Option Addr) (cA119 : Nat), a125.eval (.tmp 19) = sl A119 x118 cA119 → a125.eval (.tmp 0) = sl A119 x118 cA119), ⟨⟨A121, cA121⟩, (f_21 : a125.eval (.tmp 21) = sl A121 r120 cA121), (b125_A121 : RwO o125 122 [123, 124, 0] w125 30 R30 A121 cA121 r120)⟩, (q_1 : ∀ (A121 : Option Addr) (cA121 : Nat), a125.eval (.tmp 21) = sl A121 r120 cA121 → a125.eval (.tmp 1) = sl A121 r120 cA121), -⟩ := hf125 [4, 7, 6, 8] rfl
 have e125_0 := q_0 _ _ f_19
 have e125_1 := q_1 _ _ f_21
 have hX125 := es_ hX117 hE125
 refine rq_seq 77 o125 (bz 3) [dv [] [1] 22 (sl A121 r120 cA121), dv [0] [] 23 (Zi (r120.length : Int)), dv [1] [] 7 (Zi (r120.length : Int))] z125 d125 ?_ ?_
 ·exact sM e125_1 <| sF (fun f => or_len tu23 f.1 rfl) <| sA <| steps_nil
 intro o126 a126 w126 d126 z126 hk126 hf126 hE126
 obtain ⟨e126_0, e126_1, e126_2⟩ := kt3 hk126 e125_0 e125_1 e125_2
 have e126_7 := gv (hf126 [2] rfl) rfl
 have hX126 := es_ hX125 hE126
 have b126_A119 := RdO.evo rfl hE126 b125_A119
 have b126_A121 := re_ hE126 b125_A121
 refine fl_seq (fun Q127 hn127 hp127 => ?_)
 refine rq_seq 77 o126 (bz 2) [dv [] [7] 24 (Zi (r120.length : Int)), dv [0] [] 25 (.bool (decide ((r120.length : Int) = 0)))] z126 d126 ?_ ?_
 ·exact sM e126_7 <| sF (fun f => or_eql f.1 rfl rfl) <| steps_nil
 intro o128 a128 w128 d128 z128 hk128 hf128 hE128
 obtain ⟨e128_0, e128_1, e128_2, e128_7⟩ := kt4 hk128 e126_0 e126_1 e126_2 e126_7
 have e128_25 := gv (hf128 [1] rfl) rfl
 have hX128 := es_ hX126 hE128
 have b128_A119 := RdO.evo rfl hE128 b126_A119
 have b128_A121 := re_ hE128 b126_A121
 refine fl_cond e128_25 hs (fun c129 hs => ?_) (fun c129 hs => ?_)
 ·obtain ⟨r130, hr130, hs⟩ := obind hs
  refine rq_seq 77 o128 (bz 2) [dv [] [] 26 (.bool r130), dv [0] [] 6 (.bool r130)] z128 d128 ?_ ?_
  ·exact sO (or_call cf9 (args0) (law27_known_w _   r130 hr130) post_val) <| sA <| steps_nil
  intro o131 a131 w131 d131 z131 hk131 hf131 hE131
  have e131_6 := gv (hf131 [1] rfl) rfl
  have hX131 := es_ hX128 hE131
  refine fl_ret ?_
  refine hp127 _ _ _ rfl ?_
  obtain rfl := (osome hs).symm
  exact hret _ _ _ _ (.inl rfl) d131 (results1_ rfl (RVal.tmp_ e131_6)) ⟨o131, rfl, hX131⟩
 refine fl_skip ?_
 refine hn127 _ _ ?_
 obtain ⟨x132, hx132, hs⟩ := obind hs
 refine rq_seq 77 o128 [0, 1, 0, 4, 15, 31, 63] [dv [] [2] 27 (Zi x3), dv [0] [] 28 (.int .u64 (IntKind.u64.wrap x3)), dv [] [7] 29 (Zi (r120.length : Int)), dv [2] [] 30 (.int .u64 (IntKind.u64.wrap (r120.length : Int))), dv [1, 3] [] 31 (.int .u64 x132), dv [4] [] 32 (Zi (IntKind.i64.wrap x132)), dv [5] [] 8 (Zi (IntKind.i64.wrap x132))] z128 d128 ?_ ?_
 ·exact sM e128_2 <| sF (fun f => or_conv f.1 tn3 tn26 rfl) <| sM e128_7 <| sF (fun f => or_conv f.1 tn3 tn26 rfl) <| sF (fun f => or_rem f.1 f.2.1 hx132) <| sF (fun f => or_conv f.1 tn26 tn3 rfl) <| sA <| steps_nil
 intro o133 a133 w133 d133 z133 hk133 hf133 hE133
 obtain ⟨e133_0, e133_1, e133_7⟩ := kt3 hk133 e128_0 e128_1 e128_7
 have e133_8 := gv (hf133 [6] rfl) rfl
 have hX133 := es_ hX128 hE133
 have b133_A119 := RdO.evo rfl hE133 b128_A119
 have b133_A121 := re_ hE133 b128_A121
 refine rq_seq 77 o133 (bz 1) [dv [] [] 9 (.slice none 0 0)] z133 d133 ?_ ?_
 ·exact sO (or_assign rfl) <| steps_nil
 intro o134 a134 w134 d134 z134 hk134 hf134 hE134
 obtain ⟨e134_0, e134_1, e134_7, e134_8⟩ := kt4 hk134 e133_0 e133_1 e133_7 e133_8
 have e134_9 := gv (hf134 [0] rfl) rfl
 have hX134 := es_ hX133 hE134
 have b134_A119 := RdO.evo rfl hE134 b133_A119
 have b134_A121 := re_ hE134 b133_A121
 refine fl_seq (fun Q135 hn135 hp135 => ?_)
 refine rq_seq 77 o134 (bz 1) [dv [] [] 10 (Zi 0)] z134 d134 ?_ ?_
 ·exact sO (or_assign rfl) <| steps_nil
 intro o136 a136 w136 d136 z136 hk136 hf136 hE136
 obtain ⟨e136_0, e136_1, e136_7, e136_8, e136_9⟩ := kt5 hk136 e134_0 e134_1 e134_7 e134_8 e134_9
 have e136_10 := gv (hf136 [0] rfl) rfl
 have hX136 := es_ hX134 hE136
 have b136_A119 := RdO.evo rfl hE136 b134_A119
 have b136_A121 := re_ hE136 b134_A121
 refine fl_block (fun Q137 hn137 hx137 hp137 => ?_)
 refine fl_loop (body := (fun s => law27_PackTurns_b1 x118 r120 x132 s.1 s.2)) (z := r) (show loopO _ _ = _ from hs) (fun (s : (List ((Int × Int × Int) × (List Int))) × Int) a wx => match s with | (m160, i163) => ∃ (ox : Own) (A158 : Option Addr) (c159 : Nat), a.defers = [] ∧ a.tmps.size = 77 ∧ a.eval (.tmp 0) = sl A119 x118 cA119 ∧ a.eval (.tmp 1) = sl A121 r120 cA121 ∧ a.eval (.tmp 7) = Zi (r120.length : Int) ∧ a.eval (.tmp 8) = Zi (IntKind.i64.wrap x132) ∧ a.eval (.tmp 9) = sl A158 m160 c159 ∧ a.eval (.tmp 10) = Zi i163 ∧ Evo [] (fun _ => 0) ox w wx ∧ RdO ox [0] wx R5 A119 cA119 x118 ∧ RwO ox 157 [0, 157] wx 30 R30 A121 cA121 r120 ∧ RwO ox 161 [0, 157] wx 30 R30 A158 c159 m160) ?_ ?_
 ·exact ⟨(rl [(122, 157), (123, 157), (124, 157)] o136), none, 0, d136, z136, e136_0, e136_1, e136_7, e136_8, e136_9, e136_10, (Evo.rl_ hX136 (fun _ => Nat.le_refl 0) rfl), (RdO.rl_ b136_A119), (RwO.more (RwO.rl_ b136_A121) (by decide)), RwO.nil_⟩
 ·rintro ⟨m160, i163⟩ zz187 a187 w187 ⟨o187, A158, c159, d188, z188, e188_0, e188_1, e188_7, e188_8, e188_9, e188_10, hE188, b188_A119, b188_A121, b188_A158⟩ hs Q187 hn187 hp187 z187
  have hs : law27_PackTurns_b1 x118 r120 x132 m160 i163 = some zz187 := hs
  refine fl_seq (fun Q189 hn189 hp189 => ?_)
  refine rq_seq 77 o187 [0, 0, 3] [dv [] [10] 33 (Zi i163), dv [] [7] 34 (Zi (r120.length : Int)), dv [0, 1] [] 35 (.bool (decide (i163 < (r120.length : Int))))] z188 d188 ?_ ?_
  ·exact sM e188_10 <| sM e188_7 <| sF (fun f => or_lss f.1 f.2.1 rfl) <| steps_nil
  intro o190 a190 w190 d190 z190 hk190 hf190 hE190
  obtain ⟨e190_0, e190_1, e190_7, e190_8, e190_9, e190_10⟩ := kt6 hk190 e188_0 e188_1 e188_7 e188_8 e188_9 e188_10
  have e190_35 := gv (hf190 [2] rfl) rfl
  have hX190 := es_ hE188 hE190
  have b190_A119 := RdO.evo rfl hE190 b188_A119
  have b190_A121 := re_ hE190 b188_A121
  have b190_A158 := re_ hE190 b188_A158
  refine fl_cond e190_35 hs (fun c191 hs => ?_) (fun c191 hs => ?_)
  ·refine fl_skip ?_
   refine hn189 _ _ ?_
   refine fl_seq (fun Q192 hn192 hp192 => ?_)
   refine fl_block (fun Q193 hn193 hx193 hp193 => ?_)
   obtain ⟨x200, hx200, hs⟩ := obind hs
   obtain ⟨x201, hx201, hs⟩ := obind hs
   obtain ⟨x202, hx202, hs⟩ := obind hs
   obtain ⟨x206, hx206, hs⟩ := obind hs
   refine rr 77 [Fct.rowAt 161 [0, 157] 30 R30 A158 c159 m160] o190 [161] [0, 0, 0, 4, 0, 28, 0, 124, 0, 508, 1022, 2046, 4094, 8191, 16383] [dv [] [9] 38 (sl A158 m160 c159), dv [] [1] 39 (sl A121 r120 cA121), dv [] [7] 40 (Zi (r120.length : Int)), dv [2] [] 41 (Zi (sb (r120.length : Int) 1)), dv [] [10] 42 (Zi i163), dv [3, 4] [] 43 (Zi (sb (sb (r120.length : Int) 1) i163)), dv [] [8] 44 (Zi (IntKind.i64.wrap x132)), dv [5, 6] [] 45 (Zi x200), dv [] [7] 46 (Zi (r120.length : Int)), dv [7, 8] [] 47 (Zi x201), dv [1, 9] [] 48 (.pointer (some ((adr A121).add ((x201 : Int).toNat * R30.s)))), ⟨[10], [], [], Fct.nest X30 [157, 0, 157] 49 (fun (y : (Unit × (Option Addr × Nat))) => .agg #[Zi x202.1.1, Zi x202.1.2.1, Zi x202.1.2.2, .slice y.2.1 x202.2.length y.2.2]) x202⟩, ⟨[11], [], [], Fct.row 205 [0, 157] 50 30 R30 [x202]⟩, ⟨[0, 12, 15], [], [161], Fct.row 207 [0, 157, 205] 51 30 R30 x206⟩, ⟨[13], [], [], Fct.rel [9, 51] (fun l => ∀ (A208 : Option Addr) (cA208 : Nat), l.getD 1 undef = sl A208 x206 cA208 → l.getD 0 undef = sl A208 x206 cA208)⟩] z190 d190 (fm1 b190_A158) ?_ ?_
   ·refine sM e190_9 <| sM e190_1 <| sM e190_7 <| sF (fun f => or_sub f.1 rfl rfl) <| sM e190_10 <| sF (fun f => or_sub f.1 f.2.1 rfl) <| sM e190_8 <| sF (fun f => or_add f.1 f.2.1 (osome hx200).symm) <| sM e190_7 <| sF (fun f => or_rem f.1 f.2.1 hx201) <| sF (fun f => or_index (R := R30) (l := r120) tl23 f.1 f.2.1 (RdO.some_ (RwO.rd b190_A121) hx202) hx202) <| sFE (fun f hE => or_loadN X30 0 4 ta30 f.1 (Addr.add_zero' _).symm (RwO.rd (re_ hE b190_A121)) hx202 (fun _ => rfl) (fun _ => rfl)) ?_
    refine sc (fun own a wx hf hsl hE => ?_) ?_
    ·obtain ⟨⟨⟨_, ⟨A203, cA203⟩⟩, f_49, ⟨-, b_A203⟩⟩, -⟩ := hf
     exact px (or_litN (R := R30) (lab := 205) (L := [0, 157]) (e := 30) (cs := #[Zi x202.1.1, Zi x202.1.2.1, Zi x202.1.2.2, sl A203 x202.2 cA203]) (l := [x202]) (n := 1) [(49, .agg #[Zi x202.1.1, Zi x202.1.2.1, Zi x202.1.2.2, sl A203 x202.2 cA203])] rfl rfl ⟨f_49, trivial⟩ (by kernel_rfl) rfl (by decide) ⟨(Ex.iff X30).2 ⟨((), (A203, cA203)), rfl, ⟨trivial, (RdO.more b_A203 (by decide))⟩⟩, rfl⟩ rfl)
    refine sc (fun own a wx hf hsl hE => ?_) ?_
    ·obtain ⟨f_38, ⟨⟨A204, cA204⟩, f_50, b_A204⟩, b_A158, -⟩ := hf
     exact px (or_append (R := R30) (lab := 161) (lab2 := 207) (L := [0, 157]) (L3 := [0, 157, 205]) tp23 f_38 b_A158 (by decide) f_50 (RwO.rd b_A204) hx206 (by decide) (by decide) (mem_of rfl) (.inr ⟨rfl, rfl, by decide, by decide⟩))
    refine sc (fun own a wx hf hsl hE => ?_) ?_
    ·obtain ⟨⟨⟨A208, cA208⟩, (f_51 : a.eval (.tmp 51) = sl A208 x206 cA208), b_A208⟩, -⟩ := hf
     exact px (or_mono (f := Fct.val 9 (sl A208 x206 cA208)) (or_assign f_51) (fun own' a' w' v' hp h => fun _ _ h0' => by cases (f_51.symm.trans ((hp.2 51 (by decide)).symm.trans h0')); exact h))
    exact steps_nil
   intro o209 a209 w209 d209 z209 hk209 hf209 hE209
   obtain ⟨e209_0, e209_1, e209_7, e209_8, e209_10⟩ := kt5 hk209 e190_0 e190_1 e190_7 e190_8 e190_10
   obtain ⟨⟨⟨A208, cA208⟩, (f_51 : a209.eval (.tmp 51) = sl A208 x206 cA208), (b209_A208 : RwO o209 207 [0, 157, 205] w209 30 R30 A208 cA208 x206)⟩, (q_9 : ∀ (A208 : Option Addr) (cA208 : Nat), a209.eval (.tmp 51) = sl A208 x206 cA208 → a209.eval (.tmp 9) = sl A208 x206 cA208), -⟩ := hf209 [13, 14] rfl
   have e209_9 := q_9 _ _ f_51
   have hX209 := es_ hX190 hE209
   have b209_A119 := RdO.evo rfl hE209 b190_A119
   have b209_A121 := re_ hE209 b190_A121
   refine hn193 _ _ ?_
   refine hn192 _ _ ?_
   refine rq 77 o209 (bz 3) [dv [] [10] 36 (Zi i163), dv [0] [] 37 (Zi (ad i163 1)), dv [1] [] 10 (Zi (ad i163 1))] z209 d209 ?_ ?_
   ·exact sM e209_10 <| sF (fun f => or_add f.1 rfl rfl) <| sA <| steps_nil
   intro o210 a210 w210 d210 z210 hk210 hf210 hE210
   obtain ⟨e210_0, e210_1, e210_7, e210_8, e210_9⟩ := kt5 hk210 e209_0 e209_1 e209_7 e209_8 e209_9
   have e210_10 := gv (hf210 [2] rfl) rfl
   have hX210 := es_ hX209 hE210
   have b210_A119 := RdO.evo rfl hE210 b209_A119
   have b210_A121 := re_ hE210 b209_A121
   have b210_A208 := re_ hE210 b209_A208
   exact hn187 _ _ _ hs ⟨(rl [(205, 157), (207, 161)] o210), A208, cA208, d210, z210, e210_0, e210_1, e210_7, e210_8, e210_9, e210_10, (Evo.rl_ hX210 (fun _ => Nat.le_refl 0) rfl), (RdO.rl_ b210_A119), (RwO.rl_ b210_A121), (RwO.more (RwO.rl_ b210_A208) (by decide))⟩
  refine fl_exit ?_
  refine hp189 _ _ _ rfl ?_
  replace hs := z187 _ hs
  refine hp187 _ _ _ rfl ?_
  refine hx137 _ _ ?_
  refine hn135 _ _ ?_
  obtain ⟨r211, hr211, hs⟩ := obind hs
  refine rq_seq 77 o190 [0, 0, 3, 7, 15, 15, 31, 127] [dv [] [0] 53 (sl A119 x118 cA119), dv [] [1] 54 (sl A121 r120 cA121), ⟨[0, 1], [], [], Fct.mems [213] 55 (fun (x : Option Addr × Nat) => .tuple #[.slice x.1 r211.1.length x.2, Zi r211.2]) (fun (x : Option Addr × Nat) own w => RwO own 213 [] w 5 R5 x.1 x.2 r211.1) (fun hk he h => RwO.evo (hits_sub hk (by decide)) he h)⟩, ⟨[2], [], [], Fct.rel [52, 55] (fun l => ∀ (A212 : Option Addr) (cA212 : Nat), l.getD 1 undef = .tuple #[sl A212 r211.1 cA212, Zi r211.2] → l.getD 0 undef = .tuple #[sl A212 r211.1 cA212, Zi r211.2])⟩, ⟨[3, 2], [], [], Fct.rel [56, 55] (fun l => ∀ (A212 : Option Addr) (cA212 : Nat), l.getD 1 undef = .tuple #[sl A212 r211.1 cA212, Zi r211.2] → l.getD 0 undef = sl A212 r211.1 cA212)⟩, dv [3, 2] [] 57 (Zi r211.2), ⟨[4, 2], [], [], Fct.rel [11, 55] (fun l => ∀ (A212 : Option Addr) (cA212 : Nat), l.getD 1 undef = .tuple #[sl A212 r211.1 cA212, Zi r211.2] → l.getD 0 undef = sl A212 r211.1 cA212)⟩, dv [5] [] 12 (Zi r211.2)] z190 d190 ?_ ?_
  ·refine sM e190_0 <| sM e190_1 <| sFE (fun f hE => or_call cf10 (args2 f.1 f.2.1) (pack_Write_w _ x118 A119 cA119 r120 A121 cA121 (RdO.zero (RdO.evo rfl hE b190_A119)) (RdO.zero (RwO.rd (re_ hE b190_A121))) r211 hr211) (post_mems (m := (fun _ => 0)) (m' := (look0 [(1, 213)])) (fun _ _ => .inl rfl) (fun own' w' a' x h1 h => ⟨x, h1, RwO.back_ h (by decide) (.inl (Rep.fl_flat _))⟩))) ?_
   refine sc (fun own a wx hf hsl hE => ?_) ?_
   ·obtain ⟨⟨⟨A212, cA212⟩, (f_55 : a.eval (.tmp 55) = .tuple #[sl A212 r211.1 cA212, Zi r211.2]), b_A212⟩, -⟩ := hf
    exact px (or_mono (f := Fct.val 52 (.tuple #[sl A212 r211.1 cA212, Zi r211.2])) (or_move f_55) (fun own' a' w' v' hp h => fun _ _ h0' => by cases (f_55.symm.trans ((hp.2 55 (by decide)).symm.trans h0')); exact h))
   refine sc (fun own a wx hf hsl hE => ?_) ?_
   ·obtain ⟨(q_52 : ∀ (A212 : Option Addr) (cA212 : Nat), a.eval (.tmp 55) = .tuple #[sl A212 r211.1 cA212, Zi r211.2] → a.eval (.tmp 52) = .tuple #[sl A212 r211.1 cA212, Zi r211.2]), ⟨⟨A212, cA212⟩, (f_55 : a.eval (.tmp 55) = .tuple #[sl A212 r211.1 cA212, Zi r211.2]), b_A212⟩, -⟩ := hf
    have f_52 := q_52 _ _ f_55
    exact px (or_mono (f := Fct.val 56 (sl A212 r211.1 cA212)) (ok1 f_52) (fun own' a' w' v' hp h => fun _ _ h0' => by cases (f_55.symm.trans ((hp.2 55 (by decide)).symm.trans h0')); exact h))
   refine sc (fun own a wx hf hsl hE => ?_) ?_
   ·obtain ⟨(q_52 : ∀ (A212 : Option Addr) (cA212 : Nat), a.eval (.tmp 55) = .tuple #[sl A212 r211.1 cA212, Zi r211.2] → a.eval (.tmp 52) = .tuple #[sl A212 r211.1 cA212, Zi r211.2]), ⟨⟨A212, cA212⟩, f_55, b_A212⟩, -⟩ := hf
    have f_52 := q_52 _ _ f_55
    exact px (ok1 f_52)
   refine sc (fun own a wx hf hsl hE => ?_) ?_
   ·obtain ⟨(q_56 : ∀ (A212 : Option Addr) (cA212 : Nat), a.eval (.tmp 55) = .tuple #[sl A212 r211.1 cA212, Zi r211.2] → a.eval (.tmp 56) = sl A212 r211.1 cA212), ⟨⟨A212, cA212⟩, (f_55 : a.eval (.tmp 55) = .tuple #[sl A212 r211.1 cA212, Zi r211.2]), b_A212⟩, -⟩ := hf
    have f_56 := q_56 _ _ f_55
    exact px (or_mono (f := Fct.val 11 (sl A212 r211.1 cA212)) (or_assign f_56) (fun own' a' w' v' hp h => fun _ _ h0' => by cases (f_55.symm.trans ((hp.2 55 (by decide)).symm.trans h0')); exact h))
   exact sA <| steps_nil
  intro o214 a214 w214 d214 z214 hk214 hf214 hE214
  obtain ⟨e214_0, e214_9⟩ := kt2 hk214 e190_0 e190_9
  have e214_12 := gv (hf214 [7] rfl) rfl
  obtain ⟨⟨⟨A212, cA212⟩, (f_55 : a214.eval (.tmp 55) = .tuple #[sl A212 r211.1 cA212, Zi r211.2]), (b214_A212 : RwO o214 213 [] w214 5 R5 A212 cA212 r211.1)⟩, (q_11 : ∀ (A212 : Option Addr) (cA212 : Nat), a214.eval (.tmp 55) = .tuple #[sl A212 r211.1 cA212, Zi r211.2] → a214.eval (.tmp 11) = sl A212 r211.1 cA212), -⟩ := hf214 [2, 6] rfl
  have e214_11 := q_11 _ _ f_55
  have hX214 := es_ hX190 hE214
  have b214_A119 := RdO.evo rfl hE214 b190_A119
  have b214_A158 := re_ hE214 b190_A158
  obtain ⟨r215, hr215, hs⟩ := obind hs
  refine rq_seq 77 o214 [0, 0, 3, 7, 15, 15, 31, 127] [dv [] [0] 59 (sl A119 x118 cA119), dv [] [9] 60 (sl A158 m160 c159), ⟨[0, 1], [], [], Fct.mems [217] 61 (fun (x : Option Addr × Nat) => .tuple #[.slice x.1 r215.1.length x.2, Zi r215.2]) (fun (x : Option Addr × Nat) own w => RwO own 217 [] w 5 R5 x.1 x.2 r215.1) (fun hk he h => RwO.evo (hits_sub hk (by decide)) he h)⟩, ⟨[2], [], [], Fct.rel [58, 61] (fun l => ∀ (A216 : Option Addr) (cA216 : Nat), l.getD 1 undef = .tuple #[sl A216 r215.1 cA216, Zi r215.2] → l.getD 0 undef = .tuple #[sl A216 r215.1 cA216, Zi r215.2])⟩, ⟨[3, 2], [], [], Fct.rel [62, 61] (fun l => ∀ (A216 : Option Addr) (cA216 : Nat), l.getD 1 undef = .tuple #[sl A216 r215.1 cA216, Zi r215.2] → l.getD 0 undef = sl A216 r215.1 cA216)⟩, dv [3, 2] [] 63 (Zi r215.2), ⟨[4, 2], [], [], Fct.rel [13, 61] (fun l => ∀ (A216 : Option Addr) (cA216 : Nat), l.getD 1 undef = .tuple #[sl A216 r215.1 cA216, Zi r215.2] → l.getD 0 undef = sl A216 r215.1 cA216)⟩, dv [5] [] 14 (Zi r215.2)] z214 d214 ?_ ?_
  ·refine sM e214_0 <| sM e214_9 <| sFE (fun f hE => or_call cf10 (args2 f.1 f.2.1) (pack_Write_w _ x118 A119 cA119 m160 A158 c159 (RdO.zero (RdO.evo rfl hE b214_A119)) (RdO.zero (RwO.rd (re_ hE b214_A158))) r215 hr215) (post_mems (m := (fun _ => 0)) (m' := (look0 [(1, 217)])) (fun _ _ => .inl rfl) (fun own' w' a' x h1 h => ⟨x, h1, RwO.back_ h (by decide) (.inl (Rep.fl_flat _))⟩))) ?_
   refine sc (fun own a wx hf hsl hE => ?_) ?_
   ·obtain ⟨⟨⟨A216, cA216⟩, (f_61 : a.eval (.tmp 61) = .tuple #[sl A216 r215.1 cA216, Zi r215.2]), b_A216⟩, -⟩ := hf
    exact px (or_mono (f := Fct.val 58 (.tuple #[sl A216 r215.1 cA216, Zi r215.2])) (or_move f_61) (fun own' a' w' v' hp h => fun _ _ h0' => by cases (f_61.symm.trans ((hp.2 61 (by decide)).symm.trans h0')); exact h))
   refine sc (fun own a wx hf hsl hE => ?_) ?_
   ·obtain ⟨(q_58 : ∀ (A216 : Option Addr) (cA216 : Nat), a.eval (.tmp 61) = .tuple #[sl A216 r215.1 cA216, Zi r215.2] → a.eval (.tmp 58) = .tuple #[sl A216 r215.1 cA216, Zi r215.2]), ⟨⟨A216, cA216⟩, (f_61 : a.eval (.tmp 61) = .tuple #[sl A216 r215.1 cA216, Zi r215.2]), b_A216⟩, -⟩ := hf
    have f_58 := q_58 _ _ f_61
    exact px (or_mono (f := Fct.val 62 (sl A216 r215.1 cA216)) (ok1 f_58) (fun own' a' w' v' hp h => fun _ _ h0' => by cases (f_61.symm.trans ((hp.2 61 (by decide)).symm.trans h0')); exact h))
   refine sc (fun own a wx hf hsl hE => ?_) ?_
   ·obtain ⟨(q_58 : ∀ (A216 : Option Addr) (cA216 : Nat), a.eval (.tmp 61) = .tuple #[sl A216 r215.1 cA216, Zi r215.2] → a.eval (.tmp 58) = .tuple #[sl A216 r215.1 cA216, Zi r215.2]), ⟨⟨A216, cA216⟩, f_61, b_A216⟩, -⟩ := hf
    have f_58 := q_58 _ _ f_61
    exact px (ok1 f_58)
   refine sc (fun own a wx hf hsl hE => ?_) ?_
   ·obtain ⟨(q_62 : ∀ (A216 : Option Addr) (cA216 : Nat), a.eval (.tmp 61) = .tuple #[sl A216 r215.1 cA216, Zi r215.2] → a.eval (.tmp 62) = sl A216 r215.1 cA216), ⟨⟨A216, cA216⟩, (f_61 : a.eval (.tmp 61) = .tuple #[sl A216 r215.1 cA216, Zi r215.2]), b_A216⟩, -⟩ := hf
    have f_62 := q_62 _ _ f_61
    exact px (or_mono (f := Fct.val 13 (sl A216 r215.1 cA216)) (or_assign f_62) (fun own' a' w' v' hp h => fun _ _ h0' => by cases (f_61.symm.trans ((hp.2 61 (by decide)).symm.trans h0')); exact h))
   exact sA <| steps_nil
  intro o218 a218 w218 d218 z218 hk218 hf218 hE218
  obtain ⟨e218_11, e218_12⟩ := kt2 hk218 e214_11 e214_12
  have e218_14 := gv (hf218 [7] rfl) rfl
  obtain ⟨⟨⟨A216, cA216⟩, (f_61 : a218.eval (.tmp 61) = .tuple #[sl A216 r215.1 cA216, Zi r215.2]), (b218_A216 : RwO o218 217 [] w218 5 R5 A216 cA216 r215.1)⟩, (q_13 : ∀ (A216 : Option Addr) (cA216 : Nat), a218.eval (.tmp 61) = .tuple #[sl A216 r215.1 cA216, Zi r215.2] → a218.eval (.tmp 13) = sl A216 r215.1 cA216), -⟩ := hf218 [2, 6] rfl
  have e218_13 := q_13 _ _ f_61
  have hX218 := es_ hX214 hE218
  have b218_A212 := re_ hE218 b214_A212
  obtain ⟨r219, hr219, hs⟩ := obind hs
  obtain ⟨x220, hx220, hs⟩ := obind hs
  obtain ⟨r221, hr221, hs⟩ := obind hs
  refine rq_seq 77 o218 [0, 1, 3, 7, 3, 19, 63, 127, 255, 511, 511, 2047, 4095, 8191] [dv [] [] 64 (.bool r219), dv [0] [] 65 (.bool r219), dc [1] [12] r219 66 (Zi r211.2), dc [1, 2] [] r219 67 (.bool (decide (r211.2 = 0))), dc [1] [14] r219 68 (Zi r215.2), dc [1, 4] [] r219 69 (.bool (decide (r215.2 = 0))), dc [1, 3, 5] [] r219 70 (.bool ((decide (r211.2 = 0)) == (decide (r215.2 = 0)))), dv [1, 6] [] 71 (.bool x220), dv [7] [] 72 (.bool x220), dc [8] [11] x220 73 (sl A212 r211.1 cA212), dc [8] [13] x220 74 (sl A216 r215.1 cA216), dc [8, 9, 10] [] x220 75 (.bool r221), dv [8, 11] [] 76 (.bool (x220 && r221)), dv [12] [] 6 (.bool (x220 && r221))] z218 d218 ?_ ?_
  ·exact sO (or_call cf9 (args0) (law27_known_w _   r219 hr219) post_val) <| sV <| cT (fun _ s _ _ => or_move (s.1.trans e218_12)) <| cT (fun f _ _ hg => or_eql (f.2.1.1 hg) rfl rfl) <| cT (fun _ s _ _ => or_move (s.1.trans e218_14)) <| cT (fun f _ _ hg => or_eql (f.2.1.1 hg) rfl rfl) <| cT (fun f _ _ hg => or_eqlb tb4 (f.2.1.1 hg) (f.2.2.1.1 hg) rfl) <| sF (fun f => or_and f.1 (fun hx => f.2.1.1 hx) rfl (osome hx220).symm) <| sV <| cT (fun _ s _ _ => or_move (s.1.trans e218_11)) <| cT (fun _ s _ _ => or_move (s.1.trans e218_13)) <| cT (fun f _ hE hg => or_call cf11 (args2 (f.2.1.1 hg) (f.2.2.1.1 hg)) (ref07_Same_w _ r211.1 A212 cA212 r215.1 A216 cA216 (RdO.zero (RwO.rd (re_ hE b218_A212))) (RdO.zero (RwO.rd (re_ hE b218_A216))) r221 (gd_t hr221 hg)) post_val) <| sF (fun f => or_and f.1 (fun hx => f.2.1.1 hx) rfl rfl) <| sA <| steps_nil
  intro o222 a222 w222 d222 z222 hk222 hf222 hE222
  have e222_6 := gv (hf222 [13] rfl) rfl
  have hX222 := es_ hX218 hE222
  refine fl_ret ?_
  obtain rfl := osome hs
  exact hret _ _ _ _ (.inl rfl) d222 (results1_ rfl (RVal.tmp_ e222_6)) ⟨o222, rfl, hX222⟩
end Go.Proofs.Ytnmkonlfnpcoiaa
