/-
  The heap: up and down. The walks.
-/
import Derived.Test.YtoaplhnmmnejnaaWa
import Derived.Test.YtoaplhnmmnejnaaSb
namespace Go.Proofs.Ytoaplhnmmnejnaa
open Go.RowKit
set_option linter.unusedVariables false
theorem heap_list_rise_w (w : World) (own : Own) (x1 : (List (Int × Int × Int))) (gx1 : Nat) (tx1 : TypeId) (Ax1_0 : Option Addr) (cx1_0 : Nat) (i2 : Int) (hown : ∀ b, own b ≤ 2) (hgx1 : BlkO own 1 w gx1 tx1 #[.slice Ax1_0 x1.length cx1_0]) (hAx1_0 : RwO own 2 [] w 30 R30 Ax1_0 cx1_0 x1) (r : (List (Int × Int × Int))) (hs : heap_list_rise x1 i2 = some r) :
    Calls Try.prog 19 #[.pointer (some ⟨gx1, 0, none⟩), .int .i64 i2] w fun e w' => ∃ (own' : Own) (x : Option Addr × Nat), e = .returned (.tuple #[]) ∧ Evo [1, 2] own own' w w' ∧ RwO own' 2 [] w' 30 R30 x.1 x.2 r ∧ BlkO own' 1 w' gx1 tx1 #[.slice x.1 r.length x.2] := by
  refine fl_enter (n := 30) rfl rfl rfl (Nat.le_of_ble_eq_true rfl) ?_
  intro a0 Q hd0 hz0 harg hret
  have ha0 := harg 0 _ rfl
  have ha1 := harg 1 _ rfl
  clear harg
  have hE0 : Evo [1, 2] own own w w := Evo.refl _ _ _
  refine fl_scope_head (body := (fun s => heap_list_rise_b1_0 s.1 s.2)) (z := r) (show loopO _ _ = _ from hs) (fun (s : (List (Int × Int × Int)) × Int) a wx => match s with | (x90, i91) => ∃ (ox : Own) (A88 : Option Addr) (c89 : Nat), a.defers = [] ∧ a.tmps.size = 30 ∧ a.eval (.tmp 0) = .pointer (some ⟨gx1, 0, none⟩) ∧ a.eval (.tmp 1) = .int .i64 i91 ∧ Evo [1, 2] own ox w wx ∧ BlkO ox 85 wx gx1 tx1 #[.slice A88 x90.length c89] ∧ RwO ox 84 [] wx 30 R30 A88 c89 x90) ?_ ?_
  · exact ⟨(rl [(1, 85), (2, 84)] own), Ax1_0, cx1_0, hd0, hz0, ha0, ha1, (Evo.rl_ hE0 hown rfl), (BlkO.rl_ (mm := [(1, 85), (2, 84)]) hgx1), (RwO.rl_ (mm := [(1, 85), (2, 84)]) hAx1_0)⟩
  · rintro ⟨x90, i91⟩
    rintro zz110 a111 w111 ⟨own111, A88, c89, hd112, hz112, e112_0, e112_1, hE112, b112_gx1, b112_A88⟩ hs Q111 hj111 hp111 hz111
    have hs : heap_list_rise_b1_0 x90 i91 = some zz110 := hs
    refine fl_seq (fun Q113 hn113 hp113 => ?_)
    refine rg_plain_seq (n := 30) (rs := []) (own0 := own111) (K := [])
        (bs := [0, 1])
        (ds := [⟨[], [1], [], Fct.val 5 (.int .i64 i91)⟩,
        ⟨[0], [], [], Fct.val 6 (.bool (decide (i91 = 0)))⟩]) (by kernel_rfl) hz112 hd112 (fun _ h => nomatch h) ?_ ?_
    · refine steps_cons (fun own a wx hf hsl hE => ?_) ?_
      · obtain ⟨s_1, -⟩ := hsl
        exact sg_plain rfl rfl (or_move (s_1.trans e112_1))
      refine steps_cons (fun own a wx hf hsl hE => ?_) ?_
      · obtain ⟨(f_5 : a.eval (.tmp 5) = .int .i64 i91), -⟩ := hf
        exact sg_plain rfl rfl (or_eql f_5 rfl rfl)
      exact steps_nil
    intro own114 a114 w114 hd114 hz114 hk114 hf114 hE114
    have e114_0 : a114.eval (.tmp 0) = .pointer (some ⟨gx1, 0, none⟩) := (hk114 0 rfl).trans e112_0
    have e114_1 : a114.eval (.tmp 1) = .int .i64 i91 := (hk114 1 rfl).trans e112_1
    obtain ⟨(f_6 : a114.eval (.tmp 6) = .bool (decide (i91 = 0))), -⟩ := hf114 [1] rfl
    have e114_6 := f_6
    have hX114 := Evo.step hE112 hown hE114 rfl
    have b114_gx1 := BlkO.evo (by decide) hE114 b112_gx1
    have b114_A88 := RwO.evo rfl hE114 b112_A88
    refine fl_cond e114_6 hs (fun c115 hs => ?_) (fun c115 hs => ?_)
    · refine fl_ret ?_
      refine hp113 _ _ _ rfl ?_
      replace hs := hz111 _ hs
      refine hp111.leaves _ _ _ rfl ?_
      obtain rfl := osome hs
      exact hret _ _ _ _ (.inl rfl) hd114 (results0_ rfl ) ⟨(rl [(84, 2), (85, 1)] own114), (A88, c89), rfl, (Evo.rl_ hX114 hown rfl), (RwO.rl_ (mm := [(84, 2), (85, 1)]) b114_A88), (BlkO.rl_ (mm := [(84, 2), (85, 1)]) b114_gx1)⟩
    refine fl_skip ?_
    refine hn113 _ _ ?_
    obtain ⟨x116, hx116, hs⟩ := obind hs
    refine rg_plain_seq (n := 30) (rs := []) (own0 := own114) (K := [])
        (bs := [0, 1, 3, 7])
        (ds := [⟨[], [1], [], Fct.val 7 (.int .i64 i91)⟩,
        ⟨[0], [], [], Fct.val 8 (.int .i64 (sb i91 1))⟩,
        ⟨[1], [], [], Fct.val 9 (.int .i64 x116)⟩,
        ⟨[2], [], [], Fct.val 4 (.int .i64 x116)⟩]) (by kernel_rfl) hz114 hd114 (fun _ h => nomatch h) ?_ ?_
    · refine steps_cons (fun own a wx hf hsl hE => ?_) ?_
      · obtain ⟨s_1, -⟩ := hsl
        exact sg_plain rfl rfl (or_move (s_1.trans e114_1))
      refine steps_cons (fun own a wx hf hsl hE => ?_) ?_
      · obtain ⟨(f_7 : a.eval (.tmp 7) = .int .i64 i91), -⟩ := hf
        exact sg_plain rfl rfl (or_sub f_7 rfl rfl)
      refine steps_cons (fun own a wx hf hsl hE => ?_) ?_
      · obtain ⟨(f_8 : a.eval (.tmp 8) = .int .i64 (sb i91 1)), -⟩ := hf
        exact sg_plain rfl rfl (or_quo f_8 rfl hx116)
      refine steps_cons (fun own a wx hf hsl hE => ?_) ?_
      · obtain ⟨(f_9 : a.eval (.tmp 9) = .int .i64 x116), -⟩ := hf
        exact sg_plain rfl rfl (or_assign f_9)
      exact steps_nil
    intro own117 a117 w117 hd117 hz117 hk117 hf117 hE117
    have e117_0 : a117.eval (.tmp 0) = .pointer (some ⟨gx1, 0, none⟩) := (hk117 0 rfl).trans e114_0
    have e117_1 : a117.eval (.tmp 1) = .int .i64 i91 := (hk117 1 rfl).trans e114_1
    obtain ⟨(f_4 : a117.eval (.tmp 4) = .int .i64 x116), -⟩ := hf117 [3] rfl
    have e117_4 := f_4
    have hX117 := Evo.step hX114 hown hE117 rfl
    have b117_gx1 := BlkO.evo (by decide) hE117 b114_gx1
    have b117_A88 := RwO.evo rfl hE117 b114_A88
    obtain ⟨x118, hx118, hs⟩ := obind hs
    obtain ⟨x119, hx119, hs⟩ := obind hs
    obtain ⟨r120, hr120, hs⟩ := obind hs
    refine rg_draw_seq g_mixed (n := 30) (rs := []) (own0 := own117) (K := [])
        (bs := [0, 1, 3, 7, 0, 31, 63, 0, 128, 384, 896, 0, 3968, 8064, 16383])
        (ds := [⟨[], [0], [], Fct.val 10 (.pointer (some ⟨gx1, 0, none⟩))⟩,
        ⟨[0], [], [], Fct.val 11 (.pointer (some ⟨gx1, 0, none⟩))⟩,
        ⟨[1], [], [], Fct.val 12 (.pointer (some ⟨gx1, 0, none⟩))⟩,
        ⟨[2], [], [], Fct.val 13 (.slice A88 x90.length c89)⟩,
        ⟨[], [1], [], Fct.val 14 (.int .i64 i91)⟩,
        ⟨[3, 4], [], [], Fct.val 15 (.pointer (some ((adr A88).add ((i91 : Int).toNat * R30.s))))⟩,
        ⟨[5], [], [], Fct.val 16 (.agg #[.int .i64 x118.1, .int .i64 x118.2.1, .int .i64 x118.2.2])⟩,
        ⟨[], [0], [], Fct.val 17 (.pointer (some ⟨gx1, 0, none⟩))⟩,
        ⟨[7], [], [], Fct.val 18 (.pointer (some ⟨gx1, 0, none⟩))⟩,
        ⟨[8], [], [], Fct.val 19 (.pointer (some ⟨gx1, 0, none⟩))⟩,
        ⟨[9], [], [], Fct.val 20 (.slice A88 x90.length c89)⟩,
        ⟨[], [4], [], Fct.val 21 (.int .i64 x116)⟩,
        ⟨[10, 11], [], [], Fct.val 22 (.pointer (some ((adr A88).add ((x116 : Int).toNat * R30.s))))⟩,
        ⟨[12], [], [], Fct.val 23 (.agg #[.int .i64 x119.1, .int .i64 x119.2.1, .int .i64 x119.2.2])⟩,
        ⟨[6, 13], [], [], Fct.val 24 (.bool r120)⟩]) (by kernel_rfl) hz117 hd117 (fun _ h => nomatch h) ?_ ?_
    · refine steps_cons (fun own a wx hf hsl hE => ?_) ?_
      · obtain ⟨s_0, -⟩ := hsl
        exact sg_plain rfl rfl (or_move (s_0.trans e117_0))
      refine steps_cons (fun own a wx hf hsl hE => ?_) ?_
      · obtain ⟨(f_10 : a.eval (.tmp 10) = .pointer (some ⟨gx1, 0, none⟩)), -⟩ := hf
        exact sg_plain rfl rfl (or_k [(10, .pointer (some ⟨gx1, 0, none⟩))] rfl rfl ⟨f_10, trivial⟩ (by kernel_rfl))
      refine steps_cons (fun own a wx hf hsl hE => ?_) ?_
      · obtain ⟨(f_11 : a.eval (.tmp 11) = .pointer (some ⟨gx1, 0, none⟩)), -⟩ := hf
        exact sg_plain rfl rfl (or_field fo24_0 f_11 (by rfl))
      refine steps_cons (fun own a wx hf hsl hE => ?_) ?_
      · obtain ⟨(f_12 : a.eval (.tmp 12) = .pointer (some ⟨gx1, 0, none⟩)), -⟩ := hf
        exact sg_plain rfl rfl (or_load1 to22 f_12 (Blk.at_ (BlkO.evo (by decide) hE b117_gx1).2 0 rfl))
      refine steps_cons (fun own a wx hf hsl hE => ?_) ?_
      · obtain ⟨s_1, -⟩ := hsl
        exact sg_plain rfl rfl (or_move (s_1.trans e117_1))
      refine steps_cons (fun own a wx hf hsl hE => ?_) ?_
      · obtain ⟨(f_13 : a.eval (.tmp 13) = .slice A88 x90.length c89), (f_14 : a.eval (.tmp 14) = .int .i64 i91), -⟩ := hf
        exact sg_plain rfl rfl (or_index (R := R30) (l := x90) tl22 f_13 f_14 (RdO.some_ (RwO.rd b117_A88) hx118) hx118)
      refine steps_cons (fun own a wx hf hsl hE => ?_) ?_
      · obtain ⟨(f_15 : a.eval (.tmp 15) = .pointer (some ((adr A88).add ((i91 : Int).toNat * R30.s)))), -⟩ := hf
        exact sg_plain rfl rfl (or_load (l := E30.f x118) ta30 f_15 (RdO.cells (F := E30) (RwO.rd (RwO.evo rfl hE b117_A88)) hx118) rfl)
      refine steps_cons (fun own a wx hf hsl hE => ?_) ?_
      · obtain ⟨s_0, -⟩ := hsl
        exact sg_plain rfl rfl (or_move (s_0.trans e117_0))
      refine steps_cons (fun own a wx hf hsl hE => ?_) ?_
      · obtain ⟨(f_17 : a.eval (.tmp 17) = .pointer (some ⟨gx1, 0, none⟩)), -⟩ := hf
        exact sg_plain rfl rfl (or_k [(17, .pointer (some ⟨gx1, 0, none⟩))] rfl rfl ⟨f_17, trivial⟩ (by kernel_rfl))
      refine steps_cons (fun own a wx hf hsl hE => ?_) ?_
      · obtain ⟨(f_18 : a.eval (.tmp 18) = .pointer (some ⟨gx1, 0, none⟩)), -⟩ := hf
        exact sg_plain rfl rfl (or_field fo24_0 f_18 (by rfl))
      refine steps_cons (fun own a wx hf hsl hE => ?_) ?_
      · obtain ⟨(f_19 : a.eval (.tmp 19) = .pointer (some ⟨gx1, 0, none⟩)), -⟩ := hf
        exact sg_plain rfl rfl (or_load1 to22 f_19 (Blk.at_ (BlkO.evo (by decide) hE b117_gx1).2 0 rfl))
      refine steps_cons (fun own a wx hf hsl hE => ?_) ?_
      · obtain ⟨s_4, -⟩ := hsl
        exact sg_plain rfl rfl (or_move (s_4.trans e117_4))
      refine steps_cons (fun own a wx hf hsl hE => ?_) ?_
      · obtain ⟨(f_20 : a.eval (.tmp 20) = .slice A88 x90.length c89), (f_21 : a.eval (.tmp 21) = .int .i64 x116), -⟩ := hf
        exact sg_plain rfl rfl (or_index (R := R30) (l := x90) tl22 f_20 f_21 (RdO.some_ (RwO.rd b117_A88) hx119) hx119)
      refine steps_cons (fun own a wx hf hsl hE => ?_) ?_
      · obtain ⟨(f_22 : a.eval (.tmp 22) = .pointer (some ((adr A88).add ((x116 : Int).toNat * R30.s)))), -⟩ := hf
        exact sg_plain rfl rfl (or_load (l := E30.f x119) ta30 f_22 (RdO.cells (F := E30) (RwO.rd (RwO.evo rfl hE b117_A88)) hx119) rfl)
      refine steps_cons (fun own a wx hf hsl hE => ?_) ?_
      · obtain ⟨(f_16 : a.eval (.tmp 16) = .agg #[.int .i64 x118.1, .int .i64 x118.2.1, .int .i64 x118.2.2]), (f_23 : a.eval (.tmp 23) = .agg #[.int .i64 x119.1, .int .i64 x119.2.1, .int .i64 x119.2.2]), -⟩ := hf
        exact sg_plain rfl rfl (or_call cf9 (args2 f_16 f_23) (heap_Less_w _ x118 x119  r120 hr120) post_val)
      exact steps_nil
    intro own121 a121 w121 hd121 hz121 hk121 hf121 hE121
    have e121_0 : a121.eval (.tmp 0) = .pointer (some ⟨gx1, 0, none⟩) := (hk121 0 rfl).trans e117_0
    have e121_1 : a121.eval (.tmp 1) = .int .i64 i91 := (hk121 1 rfl).trans e117_1
    have e121_4 : a121.eval (.tmp 4) = .int .i64 x116 := (hk121 4 rfl).trans e117_4
    obtain ⟨(f_24 : a121.eval (.tmp 24) = .bool r120), -⟩ := hf121 [14] rfl
    have e121_24 := f_24
    have hX121 := Evo.step hX117 hown hE121 rfl
    have b121_gx1 := BlkO.evo (by decide) hE121 b117_gx1
    have b121_A88 := RwO.evo rfl hE121 b117_A88
    refine fl_cond e121_24 hs (fun c122 hs => ?_) (fun c122 hs => ?_)
    · obtain ⟨r123, hr123, hs⟩ := obind hs
      refine rg_plain_seq (n := 30) (rs := [Fct.at_ 85 gx1 tx1 #[.slice A88 x90.length c89], Fct.rowAt 84 [] 30 R30 A88 c89 x90]) (own0 := own121) (K := [85, 84])
          (bs := [0, 0, 0, 7])
          (ds := [⟨[], [0], [], Fct.val 25 (.pointer (some ⟨gx1, 0, none⟩))⟩,
          ⟨[], [1], [], Fct.val 26 (.int .i64 i91)⟩,
          ⟨[], [4], [], Fct.val 27 (.int .i64 x116)⟩,
          ⟨[0, 1, 2, 4, 5], [], [85, 84], Fct.mems [125, 126] 28 (fun (x : Option Addr × Nat) => .tuple #[]) (fun (x : Option Addr × Nat) own w => RwO own 125 [] w 30 R30 x.1 x.2 r123 ∧ BlkO own 126 w gx1 tx1 #[.slice x.1 r123.length x.2]) (fun hk he h => ⟨RwO.evo (hits_sub hk (by decide)) he h.1, BlkO.evo (not_hit hk (by decide)) he h.2⟩)⟩]) (by kernel_rfl) hz121 hd121 (by simp only [List.forall_mem_cons]; exact ⟨b121_gx1, b121_A88, fun _ h => nomatch h⟩) ?_ ?_
      · refine steps_cons (fun own a wx hf hsl hE => ?_) ?_
        · obtain ⟨s_0, -⟩ := hsl
          exact sg_plain rfl rfl (or_move (s_0.trans e121_0))
        refine steps_cons (fun own a wx hf hsl hE => ?_) ?_
        · obtain ⟨s_1, -⟩ := hsl
          exact sg_plain rfl rfl (or_move (s_1.trans e121_1))
        refine steps_cons (fun own a wx hf hsl hE => ?_) ?_
        · obtain ⟨s_4, -⟩ := hsl
          exact sg_plain rfl rfl (or_move (s_4.trans e121_4))
        refine steps_cons (fun own a wx hf hsl hE => ?_) ?_
        · obtain ⟨(f_25 : a.eval (.tmp 25) = .pointer (some ⟨gx1, 0, none⟩)), (f_26 : a.eval (.tmp 26) = .int .i64 i91), (f_27 : a.eval (.tmp 27) = .int .i64 x116), (b_gx1 : BlkO own 85 wx gx1 tx1 #[.slice A88 x90.length c89]), (b_A88 : RwO own 84 [] wx 30 R30 A88 c89 x90), -⟩ := hf
          exact sg_plain rfl rfl (or_call cf22 (args3 f_25 f_26 f_27) (heap_list_swap_w _ (forth own (look0 [(84, 2), (85, 1)])) x90 gx1 tx1 A88 c89 i91 x116 (look0_le rfl) (BlkO.forth_ (m := (look0 [(84, 2), (85, 1)])) b_gx1) (RwO.forth_ (m := (look0 [(84, 2), (85, 1)])) b_A88) r123 hr123) (post_mems (m := (look0 [(84, 2), (85, 1)])) (m' := (look0 [(1, 126), (2, 125)])) (hm_of rfl) (fun own' w' a' x h1 h => ⟨x, h1, ⟨RwO.back_ h.1 (by decide) (.inl (Rep.fl_flat _)), BlkO.back_ h.2 (by decide)⟩⟩)))
        exact steps_nil
      intro own127 a127 w127 hd127 hz127 hk127 hf127 hE127
      have e127_0 : a127.eval (.tmp 0) = .pointer (some ⟨gx1, 0, none⟩) := (hk127 0 rfl).trans e121_0
      have e127_4 : a127.eval (.tmp 4) = .int .i64 x116 := (hk127 4 rfl).trans e121_4
      obtain ⟨⟨⟨A124, cA124⟩, (f_28 : a127.eval (.tmp 28) = .tuple #[]), (b_A124 : RwO own127 125 [] w127 30 R30 A124 cA124 r123), (b_gx1 : BlkO own127 126 w127 gx1 tx1 #[.slice A124 r123.length cA124])⟩, -⟩ := hf127 [3] rfl
      have hX127 := Evo.step hX121 hown hE127 rfl
      have b127_gx1 := b_gx1
      have b127_A124 := b_A124
      refine rg_plain_seq (n := 30) (rs := []) (own0 := own127) (K := [])
          (bs := [0, 1])
          (ds := [⟨[], [4], [], Fct.val 29 (.int .i64 x116)⟩,
          ⟨[0], [], [], Fct.val 1 (.int .i64 x116)⟩]) (by kernel_rfl) hz127 hd127 (fun _ h => nomatch h) ?_ ?_
      · refine steps_cons (fun own a wx hf hsl hE => ?_) ?_
        · obtain ⟨s_4, -⟩ := hsl
          exact sg_plain rfl rfl (or_move (s_4.trans e127_4))
        refine steps_cons (fun own a wx hf hsl hE => ?_) ?_
        · obtain ⟨(f_29 : a.eval (.tmp 29) = .int .i64 x116), -⟩ := hf
          exact sg_plain rfl rfl (or_assign f_29)
        exact steps_nil
      intro own128 a128 w128 hd128 hz128 hk128 hf128 hE128
      have e128_0 : a128.eval (.tmp 0) = .pointer (some ⟨gx1, 0, none⟩) := (hk128 0 rfl).trans e127_0
      obtain ⟨(f_1 : a128.eval (.tmp 1) = .int .i64 x116), -⟩ := hf128 [1] rfl
      have e128_1 := f_1
      have hX128 := Evo.step hX127 hown hE128 rfl
      have b128_gx1 := BlkO.evo (by decide) hE128 b127_gx1
      have b128_A124 := RwO.evo rfl hE128 b127_A124
      refine fl_goto ?_
      exact hj111 (r123, x116) _ _ hs ⟨(rl [(125, 84), (126, 85)] own128), A124, cA124, hd128, hz128, e128_0, e128_1, (Evo.rl_ hX128 hown rfl), (BlkO.rl_ (mm := [(125, 84), (126, 85)]) b128_gx1), (RwO.rl_ (mm := [(125, 84), (126, 85)]) b128_A124)⟩
    refine fl_skip ?_
    replace hs := hz111 _ hs
    refine hp111.normal _ _ ?_
    obtain rfl := osome hs
    exact hret _ _ _ _ (.inr rfl) hd121 (results0_ rfl ) ⟨(rl [(84, 2), (85, 1)] own121), (A88, c89), rfl, (Evo.rl_ hX121 hown rfl), (RwO.rl_ (mm := [(84, 2), (85, 1)]) b121_A88), (BlkO.rl_ (mm := [(84, 2), (85, 1)]) b121_gx1)⟩

theorem heap_list_sink_w (w : World) (own : Own) (x1 : (List (Int × Int × Int))) (gx1 : Nat) (tx1 : TypeId) (Ax1_0 : Option Addr) (cx1_0 : Nat) (i2 : Int) (hown : ∀ b, own b ≤ 2) (hgx1 : BlkO own 1 w gx1 tx1 #[.slice Ax1_0 x1.length cx1_0]) (hAx1_0 : RwO own 2 [] w 30 R30 Ax1_0 cx1_0 x1) (r : (List (Int × Int × Int))) (hs : heap_list_sink x1 i2 = some r) :
    Calls Try.prog 23 #[.pointer (some ⟨gx1, 0, none⟩), .int .i64 i2] w fun e w' => ∃ (own' : Own) (x : Option Addr × Nat), e = .returned (.tuple #[]) ∧ Evo [1, 2] own own' w w' ∧ RwO own' 2 [] w' 30 R30 x.1 x.2 r ∧ BlkO own' 1 w' gx1 tx1 #[.slice x.1 r.length x.2] := by
  refine fl_enter (n := 50) rfl rfl rfl (Nat.le_of_ble_eq_true rfl) ?_
  intro a0 Q hd0 hz0 harg hret
  have ha0 := harg 0 _ rfl
  have ha1 := harg 1 _ rfl
  clear harg
  have hE0 : Evo [1, 2] own own w w := Evo.refl _ _ _
  refine fl_scope_head (body := (fun s => heap_list_sink_b1_0 s.1 s.2)) (z := r) (show loopO _ _ = _ from hs) (fun (s : (List (Int × Int × Int)) × Int) a wx => match s with | (x554, i555) => ∃ (ox : Own) (A552 : Option Addr) (c553 : Nat), a.defers = [] ∧ a.tmps.size = 50 ∧ a.eval (.tmp 0) = .pointer (some ⟨gx1, 0, none⟩) ∧ a.eval (.tmp 1) = .int .i64 i555 ∧ Evo [1, 2] own ox w wx ∧ BlkO ox 549 wx gx1 tx1 #[.slice A552 x554.length c553] ∧ RwO ox 548 [] wx 30 R30 A552 c553 x554) ?_ ?_
  · exact ⟨(rl [(1, 549), (2, 548)] own), Ax1_0, cx1_0, hd0, hz0, ha0, ha1, (Evo.rl_ hE0 hown rfl), (BlkO.rl_ (mm := [(1, 549), (2, 548)]) hgx1), (RwO.rl_ (mm := [(1, 549), (2, 548)]) hAx1_0)⟩
  · rintro ⟨x554, i555⟩
    rintro zz690 a691 w691 ⟨own691, A552, c553, hd692, hz692, e692_0, e692_1, hE692, b692_gx1, b692_A552⟩ hs Q691 hj691 hp691 hz691
    have hs : heap_list_sink_b1_0 x554 i555 = some zz690 := hs
    refine rg_plain_seq (n := 50) (rs := []) (own0 := own691) (K := [])
        (bs := [0, 1])
        (ds := [⟨[], [1], [], Fct.val 6 (.int .i64 i555)⟩,
        ⟨[0], [], [], Fct.val 4 (.int .i64 i555)⟩]) (by kernel_rfl) hz692 hd692 (fun _ h => nomatch h) ?_ ?_
    · refine steps_cons (fun own a wx hf hsl hE => ?_) ?_
      · obtain ⟨s_1, -⟩ := hsl
        exact sg_plain rfl rfl (or_move (s_1.trans e692_1))
      refine steps_cons (fun own a wx hf hsl hE => ?_) ?_
      · obtain ⟨(f_6 : a.eval (.tmp 6) = .int .i64 i555), -⟩ := hf
        exact sg_plain rfl rfl (or_assign f_6)
      exact steps_nil
    intro own693 a693 w693 hd693 hz693 hk693 hf693 hE693
    have e693_0 : a693.eval (.tmp 0) = .pointer (some ⟨gx1, 0, none⟩) := (hk693 0 rfl).trans e692_0
    have e693_1 : a693.eval (.tmp 1) = .int .i64 i555 := (hk693 1 rfl).trans e692_1
    obtain ⟨(f_4 : a693.eval (.tmp 4) = .int .i64 i555), -⟩ := hf693 [1] rfl
    have e693_4 := f_4
    have hX693 := Evo.step hE692 hown hE693 rfl
    have b693_gx1 := BlkO.evo (by decide) hE693 b692_gx1
    have b693_A552 := RwO.evo rfl hE693 b692_A552
    refine fl_seq (fun Q694 hn694 hp694 => ?_)
    refine rg_plain_seq (n := 50) (rs := []) (own0 := own693) (K := [])
        (bs := [0, 1, 3, 7])
        (ds := [⟨[], [1], [], Fct.val 7 (.int .i64 i555)⟩,
        ⟨[0], [], [], Fct.val 8 (.int .i64 (ml 2 i555))⟩,
        ⟨[1], [], [], Fct.val 9 (.int .i64 (ad (ml 2 i555) 1))⟩,
        ⟨[2], [], [], Fct.val 5 (.int .i64 (ad (ml 2 i555) 1))⟩]) (by kernel_rfl) hz693 hd693 (fun _ h => nomatch h) ?_ ?_
    · refine steps_cons (fun own a wx hf hsl hE => ?_) ?_
      · obtain ⟨s_1, -⟩ := hsl
        exact sg_plain rfl rfl (or_move (s_1.trans e693_1))
      refine steps_cons (fun own a wx hf hsl hE => ?_) ?_
      · obtain ⟨(f_7 : a.eval (.tmp 7) = .int .i64 i555), -⟩ := hf
        exact sg_plain rfl rfl (or_mul rfl f_7 rfl)
      refine steps_cons (fun own a wx hf hsl hE => ?_) ?_
      · obtain ⟨(f_8 : a.eval (.tmp 8) = .int .i64 (ml 2 i555)), -⟩ := hf
        exact sg_plain rfl rfl (or_add f_8 rfl rfl)
      refine steps_cons (fun own a wx hf hsl hE => ?_) ?_
      · obtain ⟨(f_9 : a.eval (.tmp 9) = .int .i64 (ad (ml 2 i555) 1)), -⟩ := hf
        exact sg_plain rfl rfl (or_assign f_9)
      exact steps_nil
    intro own695 a695 w695 hd695 hz695 hk695 hf695 hE695
    have e695_0 : a695.eval (.tmp 0) = .pointer (some ⟨gx1, 0, none⟩) := (hk695 0 rfl).trans e693_0
    have e695_1 : a695.eval (.tmp 1) = .int .i64 i555 := (hk695 1 rfl).trans e693_1
    have e695_4 : a695.eval (.tmp 4) = .int .i64 i555 := (hk695 4 rfl).trans e693_4
    obtain ⟨(f_5 : a695.eval (.tmp 5) = .int .i64 (ad (ml 2 i555) 1)), -⟩ := hf695 [3] rfl
    have e695_5 := f_5
    have hX695 := Evo.step hX693 hown hE695 rfl
    have b695_gx1 := BlkO.evo (by decide) hE695 b693_gx1
    have b695_A552 := RwO.evo rfl hE695 b693_A552
    refine fl_block (fun Q696 hn696 hx696 hp696 => ?_)
    refine fl_loop (body := (fun s => heap_list_sink_b2 x554 i555 s.1 s.2)) (z := zz690) (show loopO _ _ = _ from hs) (fun (s : Int × Int) a wx => match s with | (least736, k737) => ∃ (ox : Own), a.defers = [] ∧ a.tmps.size = 50 ∧ a.eval (.tmp 0) = .pointer (some ⟨gx1, 0, none⟩) ∧ a.eval (.tmp 1) = .int .i64 i555 ∧ a.eval (.tmp 4) = .int .i64 least736 ∧ a.eval (.tmp 5) = .int .i64 k737 ∧ Evo [1, 2] own ox w wx ∧ BlkO ox 549 wx gx1 tx1 #[.slice A552 x554.length c553] ∧ RwO ox 548 [] wx 30 R30 A552 c553 x554) ?_ ?_
    · exact ⟨own695, hd695, hz695, e695_0, e695_1, e695_4, e695_5, hX695, b695_gx1, b695_A552⟩
    · rintro ⟨least736, k737⟩ zz777 a777 w777 ⟨own777, hd778, hz778, e778_0, e778_1, e778_4, e778_5, hE778, b778_gx1, b778_A552⟩ hs Q777 hn777 hp777 hz777
      have hs : heap_list_sink_b2 x554 i555 least736 k737 = some zz777 := hs
      refine fl_seq (fun Q779 hn779 hp779 => ?_)
      obtain ⟨x780, hx780, hs⟩ := obind hs
      refine rg_plain_seq (n := 50) (rs := []) (own0 := own777) (K := [])
          (bs := [0, 0, 2, 6, 15, 31, 63, 63, 191, 447, 959, 1983, 4095, 8191])
          (ds := [⟨[], [5], [], Fct.val 10 (.int .i64 k737)⟩,
          ⟨[], [1], [], Fct.val 11 (.int .i64 i555)⟩,
          ⟨[1], [], [], Fct.val 12 (.int .i64 (ml 2 i555))⟩,
          ⟨[2], [], [], Fct.val 13 (.int .i64 (ad (ml 2 i555) 2))⟩,
          ⟨[0, 3], [], [], Fct.val 14 (.bool (decide (k737 ≤ (ad (ml 2 i555) 2))))⟩,
          ⟨[4], [], [], Fct.val 15 (.bool (decide (k737 ≤ (ad (ml 2 i555) 2))))⟩,
          ⟨[5], [5], [], Fct.cond (decide (k737 ≤ (ad (ml 2 i555) 2))) (some 16) (Fct.val 16 (.int .i64 k737))⟩,
          ⟨[5], [0], [], Fct.cond (decide (k737 ≤ (ad (ml 2 i555) 2))) (some 17) (Fct.val 17 (.pointer (some ⟨gx1, 0, none⟩)))⟩,
          ⟨[5, 7], [], [], Fct.cond (decide (k737 ≤ (ad (ml 2 i555) 2))) (some 18) (Fct.val 18 (.pointer (some ⟨gx1, 0, none⟩)))⟩,
          ⟨[5, 8], [], [], Fct.cond (decide (k737 ≤ (ad (ml 2 i555) 2))) (some 19) (Fct.val 19 (.pointer (some ⟨gx1, 0, none⟩)))⟩,
          ⟨[5, 9], [], [], Fct.cond (decide (k737 ≤ (ad (ml 2 i555) 2))) (some 20) (Fct.val 20 (.slice A552 x554.length c553))⟩,
          ⟨[5, 10], [], [], Fct.cond (decide (k737 ≤ (ad (ml 2 i555) 2))) (some 21) (Fct.val 21 (.int .i64 (x554.length : Int)))⟩,
          ⟨[5, 6, 11], [], [], Fct.cond (decide (k737 ≤ (ad (ml 2 i555) 2))) (some 22) (Fct.val 22 (.bool (decide (k737 < (x554.length : Int)))))⟩,
          ⟨[5, 12], [], [], Fct.val 23 (.bool x780)⟩]) (by kernel_rfl) hz778 hd778 (fun _ h => nomatch h) ?_ ?_
      · refine steps_cons (fun own a wx hf hsl hE => ?_) ?_
        · obtain ⟨s_5, -⟩ := hsl
          exact sg_plain rfl rfl (or_move (s_5.trans e778_5))
        refine steps_cons (fun own a wx hf hsl hE => ?_) ?_
        · obtain ⟨s_1, -⟩ := hsl
          exact sg_plain rfl rfl (or_move (s_1.trans e778_1))
        refine steps_cons (fun own a wx hf hsl hE => ?_) ?_
        · obtain ⟨(f_11 : a.eval (.tmp 11) = .int .i64 i555), -⟩ := hf
          exact sg_plain rfl rfl (or_mul rfl f_11 rfl)
        refine steps_cons (fun own a wx hf hsl hE => ?_) ?_
        · obtain ⟨(f_12 : a.eval (.tmp 12) = .int .i64 (ml 2 i555)), -⟩ := hf
          exact sg_plain rfl rfl (or_add f_12 rfl rfl)
        refine steps_cons (fun own a wx hf hsl hE => ?_) ?_
        · obtain ⟨(f_10 : a.eval (.tmp 10) = .int .i64 k737), (f_13 : a.eval (.tmp 13) = .int .i64 (ad (ml 2 i555) 2)), -⟩ := hf
          exact sg_plain rfl rfl (or_leq f_10 f_13 rfl)
        refine steps_cons (fun own a wx hf hsl hE => ?_) ?_
        · obtain ⟨(f_14 : a.eval (.tmp 14) = .bool (decide (k737 ≤ (ad (ml 2 i555) 2)))), -⟩ := hf
          exact sg_plain rfl rfl (or_move f_14)
        refine steps_cons (fun own a wx hf hsl hE => ?_) ?_
        · obtain ⟨(f_15 : a.eval (.tmp 15) = .bool (decide (k737 ≤ (ad (ml 2 i555) 2)))), -⟩ := hf
          obtain ⟨s_5, -⟩ := hsl
          refine sg_t rfl rfl rfl f_15 (fun hg => ?_)
          exact or_move (s_5.trans e778_5)
        refine steps_cons (fun own a wx hf hsl hE => ?_) ?_
        · obtain ⟨(f_15 : a.eval (.tmp 15) = .bool (decide (k737 ≤ (ad (ml 2 i555) 2)))), -⟩ := hf
          obtain ⟨s_0, -⟩ := hsl
          refine sg_t rfl rfl rfl f_15 (fun hg => ?_)
          exact or_move (s_0.trans e778_0)
        refine steps_cons (fun own a wx hf hsl hE => ?_) ?_
        · obtain ⟨(f_15 : a.eval (.tmp 15) = .bool (decide (k737 ≤ (ad (ml 2 i555) 2)))), c_17, -⟩ := hf
          refine sg_t rfl rfl rfl f_15 (fun hg => ?_)
          have f_17 : a.eval (.tmp 17) = .pointer (some ⟨gx1, 0, none⟩) := c_17.1 hg
          exact or_k [(17, .pointer (some ⟨gx1, 0, none⟩))] rfl rfl ⟨f_17, trivial⟩ (by kernel_rfl)
        refine steps_cons (fun own a wx hf hsl hE => ?_) ?_
        · obtain ⟨(f_15 : a.eval (.tmp 15) = .bool (decide (k737 ≤ (ad (ml 2 i555) 2)))), c_18, -⟩ := hf
          refine sg_t rfl rfl rfl f_15 (fun hg => ?_)
          have f_18 : a.eval (.tmp 18) = .pointer (some ⟨gx1, 0, none⟩) := c_18.1 hg
          exact or_field fo24_0 f_18 (by rfl)
        refine steps_cons (fun own a wx hf hsl hE => ?_) ?_
        · obtain ⟨(f_15 : a.eval (.tmp 15) = .bool (decide (k737 ≤ (ad (ml 2 i555) 2)))), c_19, -⟩ := hf
          refine sg_t rfl rfl rfl f_15 (fun hg => ?_)
          have f_19 : a.eval (.tmp 19) = .pointer (some ⟨gx1, 0, none⟩) := c_19.1 hg
          exact or_load1 to22 f_19 (Blk.at_ (BlkO.evo (by decide) hE b778_gx1).2 0 rfl)
        refine steps_cons (fun own a wx hf hsl hE => ?_) ?_
        · obtain ⟨(f_15 : a.eval (.tmp 15) = .bool (decide (k737 ≤ (ad (ml 2 i555) 2)))), c_20, -⟩ := hf
          refine sg_t rfl rfl rfl f_15 (fun hg => ?_)
          have f_20 : a.eval (.tmp 20) = .slice A552 x554.length c553 := c_20.1 hg
          exact or_len tu22 f_20 rfl
        refine steps_cons (fun own a wx hf hsl hE => ?_) ?_
        · obtain ⟨(f_15 : a.eval (.tmp 15) = .bool (decide (k737 ≤ (ad (ml 2 i555) 2)))), c_16, c_21, -⟩ := hf
          refine sg_t rfl rfl rfl f_15 (fun hg => ?_)
          have f_16 : a.eval (.tmp 16) = .int .i64 k737 := c_16.1 hg
          have f_21 : a.eval (.tmp 21) = .int .i64 (x554.length : Int) := c_21.1 hg
          exact or_lss f_16 f_21 rfl
        refine steps_cons (fun own a wx hf hsl hE => ?_) ?_
        · obtain ⟨(f_15 : a.eval (.tmp 15) = .bool (decide (k737 ≤ (ad (ml 2 i555) 2)))), c_22, -⟩ := hf
          exact sg_plain rfl rfl (or_and f_15 (fun hx => c_22.1 hx) rfl (osome hx780).symm)
        exact steps_nil
      intro own781 a781 w781 hd781 hz781 hk781 hf781 hE781
      have e781_0 : a781.eval (.tmp 0) = .pointer (some ⟨gx1, 0, none⟩) := (hk781 0 rfl).trans e778_0
      have e781_1 : a781.eval (.tmp 1) = .int .i64 i555 := (hk781 1 rfl).trans e778_1
      have e781_4 : a781.eval (.tmp 4) = .int .i64 least736 := (hk781 4 rfl).trans e778_4
      have e781_5 : a781.eval (.tmp 5) = .int .i64 k737 := (hk781 5 rfl).trans e778_5
      obtain ⟨(f_23 : a781.eval (.tmp 23) = .bool x780), -⟩ := hf781 [13] rfl
      have e781_23 := f_23
      have hX781 := Evo.step hE778 hown hE781 rfl
      have b781_gx1 := BlkO.evo (by decide) hE781 b778_gx1
      have b781_A552 := RwO.evo rfl hE781 b778_A552
      refine fl_cond e781_23 hs (fun c782 hs => ?_) (fun c782 hs => ?_)
      · refine fl_skip ?_
        refine hn779 _ _ ?_
        refine fl_seq (fun Q783 hn783 hp783 => ?_)
        refine fl_block (fun Q800 hn800 hx800 hp800 => ?_)
        have K808 : ∀ (a808 : Act) (w808 : World) (own808 : Own) (least807 : Int), a808.defers = [] → a808.tmps.size = 50 → a808.eval (.tmp 0) = .pointer (some ⟨gx1, 0, none⟩) → a808.eval (.tmp 1) = .int .i64 i555 → a808.eval (.tmp 4) = .int .i64 least807 → a808.eval (.tmp 5) = .int .i64 k737 → Evo [1, 2] own own808 w w808 → BlkO own808 549 w808 gx1 tx1 #[.slice A552 x554.length c553] → RwO own808 548 [] w808 30 R30 A552 c553 x554 → heap_list_sink_k3 k737 least807 = some zz777 → (Q800 .normal a808 w808 ∧ Q800 (.exit 1) a808 w808) := by
          intro a808 w808 own808 least807 hd809 hz809 e809_0 e809_1 e809_4 e809_5 hE809 b809_gx1 b809_A552 hs
          refine and_both (hn800 _ _) (hx800 _ _) ?_
          refine hn783 _ _ ?_
          refine rg_plain (n := 50) (rs := []) (own0 := own808) (K := [])
              (bs := [0, 1, 3])
              (ds := [⟨[], [5], [], Fct.val 24 (.int .i64 k737)⟩,
              ⟨[0], [], [], Fct.val 25 (.int .i64 (ad k737 1))⟩,
              ⟨[1], [], [], Fct.val 5 (.int .i64 (ad k737 1))⟩]) (by kernel_rfl) hz809 hd809 (fun _ h => nomatch h) ?_ ?_
          · refine steps_cons (fun own a wx hf hsl hE => ?_) ?_
            · obtain ⟨s_5, -⟩ := hsl
              exact sg_plain rfl rfl (or_move (s_5.trans e809_5))
            refine steps_cons (fun own a wx hf hsl hE => ?_) ?_
            · obtain ⟨(f_24 : a.eval (.tmp 24) = .int .i64 k737), -⟩ := hf
              exact sg_plain rfl rfl (or_add f_24 rfl rfl)
            refine steps_cons (fun own a wx hf hsl hE => ?_) ?_
            · obtain ⟨(f_25 : a.eval (.tmp 25) = .int .i64 (ad k737 1)), -⟩ := hf
              exact sg_plain rfl rfl (or_assign f_25)
            exact steps_nil
          intro own810 a810 w810 hd810 hz810 hk810 hf810 hE810
          have e810_0 : a810.eval (.tmp 0) = .pointer (some ⟨gx1, 0, none⟩) := (hk810 0 rfl).trans e809_0
          have e810_1 : a810.eval (.tmp 1) = .int .i64 i555 := (hk810 1 rfl).trans e809_1
          have e810_4 : a810.eval (.tmp 4) = .int .i64 least807 := (hk810 4 rfl).trans e809_4
          obtain ⟨(f_5 : a810.eval (.tmp 5) = .int .i64 (ad k737 1)), -⟩ := hf810 [2] rfl
          have e810_5 := f_5
          have hX810 := Evo.step hE809 hown hE810 rfl
          have b810_gx1 := BlkO.evo (by decide) hE810 b809_gx1
          have b810_A552 := RwO.evo rfl hE810 b809_A552
          exact hn777 _ _ _ hs ⟨own810, hd810, hz810, e810_0, e810_1, e810_4, e810_5, hX810, b810_gx1, b810_A552⟩
        obtain ⟨x811, hx811, hs⟩ := obind hs
        obtain ⟨x812, hx812, hs⟩ := obind hs
        obtain ⟨r813, hr813, hs⟩ := obind hs
        refine rg_draw_seq g_mixed (n := 50) (rs := []) (own0 := own781) (K := [])
            (bs := [0, 1, 3, 7, 0, 31, 63, 0, 128, 384, 896, 0, 3968, 8064, 16383])
            (ds := [⟨[], [0], [], Fct.val 26 (.pointer (some ⟨gx1, 0, none⟩))⟩,
            ⟨[0], [], [], Fct.val 27 (.pointer (some ⟨gx1, 0, none⟩))⟩,
            ⟨[1], [], [], Fct.val 28 (.pointer (some ⟨gx1, 0, none⟩))⟩,
            ⟨[2], [], [], Fct.val 29 (.slice A552 x554.length c553)⟩,
            ⟨[], [5], [], Fct.val 30 (.int .i64 k737)⟩,
            ⟨[3, 4], [], [], Fct.val 31 (.pointer (some ((adr A552).add ((k737 : Int).toNat * R30.s))))⟩,
            ⟨[5], [], [], Fct.val 32 (.agg #[.int .i64 x811.1, .int .i64 x811.2.1, .int .i64 x811.2.2])⟩,
            ⟨[], [0], [], Fct.val 33 (.pointer (some ⟨gx1, 0, none⟩))⟩,
            ⟨[7], [], [], Fct.val 34 (.pointer (some ⟨gx1, 0, none⟩))⟩,
            ⟨[8], [], [], Fct.val 35 (.pointer (some ⟨gx1, 0, none⟩))⟩,
            ⟨[9], [], [], Fct.val 36 (.slice A552 x554.length c553)⟩,
            ⟨[], [4], [], Fct.val 37 (.int .i64 least736)⟩,
            ⟨[10, 11], [], [], Fct.val 38 (.pointer (some ((adr A552).add ((least736 : Int).toNat * R30.s))))⟩,
            ⟨[12], [], [], Fct.val 39 (.agg #[.int .i64 x812.1, .int .i64 x812.2.1, .int .i64 x812.2.2])⟩,
            ⟨[6, 13], [], [], Fct.val 40 (.bool r813)⟩]) (by kernel_rfl) hz781 hd781 (fun _ h => nomatch h) ?_ ?_
        · refine steps_cons (fun own a wx hf hsl hE => ?_) ?_
          · obtain ⟨s_0, -⟩ := hsl
            exact sg_plain rfl rfl (or_move (s_0.trans e781_0))
          refine steps_cons (fun own a wx hf hsl hE => ?_) ?_
          · obtain ⟨(f_26 : a.eval (.tmp 26) = .pointer (some ⟨gx1, 0, none⟩)), -⟩ := hf
            exact sg_plain rfl rfl (or_k [(26, .pointer (some ⟨gx1, 0, none⟩))] rfl rfl ⟨f_26, trivial⟩ (by kernel_rfl))
          refine steps_cons (fun own a wx hf hsl hE => ?_) ?_
          · obtain ⟨(f_27 : a.eval (.tmp 27) = .pointer (some ⟨gx1, 0, none⟩)), -⟩ := hf
            exact sg_plain rfl rfl (or_field fo24_0 f_27 (by rfl))
          refine steps_cons (fun own a wx hf hsl hE => ?_) ?_
          · obtain ⟨(f_28 : a.eval (.tmp 28) = .pointer (some ⟨gx1, 0, none⟩)), -⟩ := hf
            exact sg_plain rfl rfl (or_load1 to22 f_28 (Blk.at_ (BlkO.evo (by decide) hE b781_gx1).2 0 rfl))
          refine steps_cons (fun own a wx hf hsl hE => ?_) ?_
          · obtain ⟨s_5, -⟩ := hsl
            exact sg_plain rfl rfl (or_move (s_5.trans e781_5))
          refine steps_cons (fun own a wx hf hsl hE => ?_) ?_
          · obtain ⟨(f_29 : a.eval (.tmp 29) = .slice A552 x554.length c553), (f_30 : a.eval (.tmp 30) = .int .i64 k737), -⟩ := hf
            exact sg_plain rfl rfl (or_index (R := R30) (l := x554) tl22 f_29 f_30 (RdO.some_ (RwO.rd b781_A552) hx811) hx811)
          refine steps_cons (fun own a wx hf hsl hE => ?_) ?_
          · obtain ⟨(f_31 : a.eval (.tmp 31) = .pointer (some ((adr A552).add ((k737 : Int).toNat * R30.s)))), -⟩ := hf
            exact sg_plain rfl rfl (or_load (l := E30.f x811) ta30 f_31 (RdO.cells (F := E30) (RwO.rd (RwO.evo rfl hE b781_A552)) hx811) rfl)
          refine steps_cons (fun own a wx hf hsl hE => ?_) ?_
          · obtain ⟨s_0, -⟩ := hsl
            exact sg_plain rfl rfl (or_move (s_0.trans e781_0))
          refine steps_cons (fun own a wx hf hsl hE => ?_) ?_
          · obtain ⟨(f_33 : a.eval (.tmp 33) = .pointer (some ⟨gx1, 0, none⟩)), -⟩ := hf
            exact sg_plain rfl rfl (or_k [(33, .pointer (some ⟨gx1, 0, none⟩))] rfl rfl ⟨f_33, trivial⟩ (by kernel_rfl))
          refine steps_cons (fun own a wx hf hsl hE => ?_) ?_
          · obtain ⟨(f_34 : a.eval (.tmp 34) = .pointer (some ⟨gx1, 0, none⟩)), -⟩ := hf
            exact sg_plain rfl rfl (or_field fo24_0 f_34 (by rfl))
          refine steps_cons (fun own a wx hf hsl hE => ?_) ?_
          · obtain ⟨(f_35 : a.eval (.tmp 35) = .pointer (some ⟨gx1, 0, none⟩)), -⟩ := hf
            exact sg_plain rfl rfl (or_load1 to22 f_35 (Blk.at_ (BlkO.evo (by decide) hE b781_gx1).2 0 rfl))
          refine steps_cons (fun own a wx hf hsl hE => ?_) ?_
          · obtain ⟨s_4, -⟩ := hsl
            exact sg_plain rfl rfl (or_move (s_4.trans e781_4))
          refine steps_cons (fun own a wx hf hsl hE => ?_) ?_
          · obtain ⟨(f_36 : a.eval (.tmp 36) = .slice A552 x554.length c553), (f_37 : a.eval (.tmp 37) = .int .i64 least736), -⟩ := hf
            exact sg_plain rfl rfl (or_index (R := R30) (l := x554) tl22 f_36 f_37 (RdO.some_ (RwO.rd b781_A552) hx812) hx812)
          refine steps_cons (fun own a wx hf hsl hE => ?_) ?_
          · obtain ⟨(f_38 : a.eval (.tmp 38) = .pointer (some ((adr A552).add ((least736 : Int).toNat * R30.s)))), -⟩ := hf
            exact sg_plain rfl rfl (or_load (l := E30.f x812) ta30 f_38 (RdO.cells (F := E30) (RwO.rd (RwO.evo rfl hE b781_A552)) hx812) rfl)
          refine steps_cons (fun own a wx hf hsl hE => ?_) ?_
          · obtain ⟨(f_32 : a.eval (.tmp 32) = .agg #[.int .i64 x811.1, .int .i64 x811.2.1, .int .i64 x811.2.2]), (f_39 : a.eval (.tmp 39) = .agg #[.int .i64 x812.1, .int .i64 x812.2.1, .int .i64 x812.2.2]), -⟩ := hf
            exact sg_plain rfl rfl (or_call cf9 (args2 f_32 f_39) (heap_Less_w _ x811 x812  r813 hr813) post_val)
          exact steps_nil
        intro own814 a814 w814 hd814 hz814 hk814 hf814 hE814
        have e814_0 : a814.eval (.tmp 0) = .pointer (some ⟨gx1, 0, none⟩) := (hk814 0 rfl).trans e781_0
        have e814_1 : a814.eval (.tmp 1) = .int .i64 i555 := (hk814 1 rfl).trans e781_1
        have e814_4 : a814.eval (.tmp 4) = .int .i64 least736 := (hk814 4 rfl).trans e781_4
        have e814_5 : a814.eval (.tmp 5) = .int .i64 k737 := (hk814 5 rfl).trans e781_5
        obtain ⟨(f_40 : a814.eval (.tmp 40) = .bool r813), -⟩ := hf814 [14] rfl
        have e814_40 := f_40
        have hX814 := Evo.step hX781 hown hE814 rfl
        have b814_gx1 := BlkO.evo (by decide) hE814 b781_gx1
        have b814_A552 := RwO.evo rfl hE814 b781_A552
        refine fl_cond e814_40 hs (fun c815 hs => ?_) (fun c815 hs => ?_)
        · refine rg_plain (n := 50) (rs := []) (own0 := own814) (K := [])
              (bs := [0, 1])
              (ds := [⟨[], [5], [], Fct.val 41 (.int .i64 k737)⟩,
              ⟨[0], [], [], Fct.val 4 (.int .i64 k737)⟩]) (by kernel_rfl) hz814 hd814 (fun _ h => nomatch h) ?_ ?_
          · refine steps_cons (fun own a wx hf hsl hE => ?_) ?_
            · obtain ⟨s_5, -⟩ := hsl
              exact sg_plain rfl rfl (or_move (s_5.trans e814_5))
            refine steps_cons (fun own a wx hf hsl hE => ?_) ?_
            · obtain ⟨(f_41 : a.eval (.tmp 41) = .int .i64 k737), -⟩ := hf
              exact sg_plain rfl rfl (or_assign f_41)
            exact steps_nil
          intro own816 a816 w816 hd816 hz816 hk816 hf816 hE816
          have e816_0 : a816.eval (.tmp 0) = .pointer (some ⟨gx1, 0, none⟩) := (hk816 0 rfl).trans e814_0
          have e816_1 : a816.eval (.tmp 1) = .int .i64 i555 := (hk816 1 rfl).trans e814_1
          have e816_5 : a816.eval (.tmp 5) = .int .i64 k737 := (hk816 5 rfl).trans e814_5
          obtain ⟨(f_4 : a816.eval (.tmp 4) = .int .i64 k737), -⟩ := hf816 [1] rfl
          have e816_4 := f_4
          have hX816 := Evo.step hX814 hown hE816 rfl
          have b816_gx1 := BlkO.evo (by decide) hE816 b814_gx1
          have b816_A552 := RwO.evo rfl hE816 b814_A552
          exact (K808 _ _ own816 _ hd816 hz816 e816_0 e816_1 e816_4 e816_5 hX816 b816_gx1 b816_A552 hs).1
        refine fl_skip ?_
        exact (K808 _ _ own814 _ hd814 hz814 e814_0 e814_1 e814_4 e814_5 hX814 b814_gx1 b814_A552 hs).1
      refine fl_exit ?_
      refine hp779 _ _ _ rfl ?_
      replace hs := hz777 _ hs
      refine hp777 _ _ _ rfl ?_
      refine hx696 _ _ ?_
      refine hn694 _ _ ?_
      refine rg_plain_seq (n := 50) (rs := []) (own0 := own781) (K := [])
          (bs := [0, 0, 3])
          (ds := [⟨[], [4], [], Fct.val 42 (.int .i64 least736)⟩,
          ⟨[], [1], [], Fct.val 43 (.int .i64 i555)⟩,
          ⟨[0, 1], [], [], Fct.val 44 (.bool (!decide (least736 = i555)))⟩]) (by kernel_rfl) hz781 hd781 (fun _ h => nomatch h) ?_ ?_
      · refine steps_cons (fun own a wx hf hsl hE => ?_) ?_
        · obtain ⟨s_4, -⟩ := hsl
          exact sg_plain rfl rfl (or_move (s_4.trans e781_4))
        refine steps_cons (fun own a wx hf hsl hE => ?_) ?_
        · obtain ⟨s_1, -⟩ := hsl
          exact sg_plain rfl rfl (or_move (s_1.trans e781_1))
        refine steps_cons (fun own a wx hf hsl hE => ?_) ?_
        · obtain ⟨(f_42 : a.eval (.tmp 42) = .int .i64 least736), (f_43 : a.eval (.tmp 43) = .int .i64 i555), -⟩ := hf
          exact sg_plain rfl rfl (or_neq f_42 f_43 rfl)
        exact steps_nil
      intro own817 a817 w817 hd817 hz817 hk817 hf817 hE817
      have e817_0 : a817.eval (.tmp 0) = .pointer (some ⟨gx1, 0, none⟩) := (hk817 0 rfl).trans e781_0
      have e817_1 : a817.eval (.tmp 1) = .int .i64 i555 := (hk817 1 rfl).trans e781_1
      have e817_4 : a817.eval (.tmp 4) = .int .i64 least736 := (hk817 4 rfl).trans e781_4
      obtain ⟨(f_44 : a817.eval (.tmp 44) = .bool (!decide (least736 = i555))), -⟩ := hf817 [2] rfl
      have e817_44 := f_44
      have hX817 := Evo.step hX781 hown hE817 rfl
      have b817_gx1 := BlkO.evo (by decide) hE817 b781_gx1
      have b817_A552 := RwO.evo rfl hE817 b781_A552
      refine fl_cond e817_44 hs (fun c818 hs => ?_) (fun c818 hs => ?_)
      · obtain ⟨r819, hr819, hs⟩ := obind hs
        refine rg_plain_seq (n := 50) (rs := [Fct.at_ 549 gx1 tx1 #[.slice A552 x554.length c553], Fct.rowAt 548 [] 30 R30 A552 c553 x554]) (own0 := own817) (K := [549, 548])
            (bs := [0, 0, 0, 7])
            (ds := [⟨[], [0], [], Fct.val 45 (.pointer (some ⟨gx1, 0, none⟩))⟩,
            ⟨[], [1], [], Fct.val 46 (.int .i64 i555)⟩,
            ⟨[], [4], [], Fct.val 47 (.int .i64 least736)⟩,
            ⟨[0, 1, 2, 4, 5], [], [549, 548], Fct.mems [821, 822] 48 (fun (x : Option Addr × Nat) => .tuple #[]) (fun (x : Option Addr × Nat) own w => RwO own 821 [] w 30 R30 x.1 x.2 r819 ∧ BlkO own 822 w gx1 tx1 #[.slice x.1 r819.length x.2]) (fun hk he h => ⟨RwO.evo (hits_sub hk (by decide)) he h.1, BlkO.evo (not_hit hk (by decide)) he h.2⟩)⟩]) (by kernel_rfl) hz817 hd817 (by simp only [List.forall_mem_cons]; exact ⟨b817_gx1, b817_A552, fun _ h => nomatch h⟩) ?_ ?_
        · refine steps_cons (fun own a wx hf hsl hE => ?_) ?_
          · obtain ⟨s_0, -⟩ := hsl
            exact sg_plain rfl rfl (or_move (s_0.trans e817_0))
          refine steps_cons (fun own a wx hf hsl hE => ?_) ?_
          · obtain ⟨s_1, -⟩ := hsl
            exact sg_plain rfl rfl (or_move (s_1.trans e817_1))
          refine steps_cons (fun own a wx hf hsl hE => ?_) ?_
          · obtain ⟨s_4, -⟩ := hsl
            exact sg_plain rfl rfl (or_move (s_4.trans e817_4))
          refine steps_cons (fun own a wx hf hsl hE => ?_) ?_
          · obtain ⟨(f_45 : a.eval (.tmp 45) = .pointer (some ⟨gx1, 0, none⟩)), (f_46 : a.eval (.tmp 46) = .int .i64 i555), (f_47 : a.eval (.tmp 47) = .int .i64 least736), (b_gx1 : BlkO own 549 wx gx1 tx1 #[.slice A552 x554.length c553]), (b_A552 : RwO own 548 [] wx 30 R30 A552 c553 x554), -⟩ := hf
            exact sg_plain rfl rfl (or_call cf22 (args3 f_45 f_46 f_47) (heap_list_swap_w _ (forth own (look0 [(548, 2), (549, 1)])) x554 gx1 tx1 A552 c553 i555 least736 (look0_le rfl) (BlkO.forth_ (m := (look0 [(548, 2), (549, 1)])) b_gx1) (RwO.forth_ (m := (look0 [(548, 2), (549, 1)])) b_A552) r819 hr819) (post_mems (m := (look0 [(548, 2), (549, 1)])) (m' := (look0 [(1, 822), (2, 821)])) (hm_of rfl) (fun own' w' a' x h1 h => ⟨x, h1, ⟨RwO.back_ h.1 (by decide) (.inl (Rep.fl_flat _)), BlkO.back_ h.2 (by decide)⟩⟩)))
          exact steps_nil
        intro own823 a823 w823 hd823 hz823 hk823 hf823 hE823
        have e823_0 : a823.eval (.tmp 0) = .pointer (some ⟨gx1, 0, none⟩) := (hk823 0 rfl).trans e817_0
        have e823_4 : a823.eval (.tmp 4) = .int .i64 least736 := (hk823 4 rfl).trans e817_4
        obtain ⟨⟨⟨A820, cA820⟩, (f_48 : a823.eval (.tmp 48) = .tuple #[]), (b_A820 : RwO own823 821 [] w823 30 R30 A820 cA820 r819), (b_gx1 : BlkO own823 822 w823 gx1 tx1 #[.slice A820 r819.length cA820])⟩, -⟩ := hf823 [3] rfl
        have hX823 := Evo.step hX817 hown hE823 rfl
        have b823_gx1 := b_gx1
        have b823_A820 := b_A820
        refine rg_plain_seq (n := 50) (rs := []) (own0 := own823) (K := [])
            (bs := [0, 1])
            (ds := [⟨[], [4], [], Fct.val 49 (.int .i64 least736)⟩,
            ⟨[0], [], [], Fct.val 1 (.int .i64 least736)⟩]) (by kernel_rfl) hz823 hd823 (fun _ h => nomatch h) ?_ ?_
        · refine steps_cons (fun own a wx hf hsl hE => ?_) ?_
          · obtain ⟨s_4, -⟩ := hsl
            exact sg_plain rfl rfl (or_move (s_4.trans e823_4))
          refine steps_cons (fun own a wx hf hsl hE => ?_) ?_
          · obtain ⟨(f_49 : a.eval (.tmp 49) = .int .i64 least736), -⟩ := hf
            exact sg_plain rfl rfl (or_assign f_49)
          exact steps_nil
        intro own824 a824 w824 hd824 hz824 hk824 hf824 hE824
        have e824_0 : a824.eval (.tmp 0) = .pointer (some ⟨gx1, 0, none⟩) := (hk824 0 rfl).trans e823_0
        obtain ⟨(f_1 : a824.eval (.tmp 1) = .int .i64 least736), -⟩ := hf824 [1] rfl
        have e824_1 := f_1
        have hX824 := Evo.step hX823 hown hE824 rfl
        have b824_gx1 := BlkO.evo (by decide) hE824 b823_gx1
        have b824_A820 := RwO.evo rfl hE824 b823_A820
        refine fl_goto ?_
        exact hj691 (r819, least736) _ _ hs ⟨(rl [(821, 548), (822, 549)] own824), A820, cA820, hd824, hz824, e824_0, e824_1, (Evo.rl_ hX824 hown rfl), (BlkO.rl_ (mm := [(821, 548), (822, 549)]) b824_gx1), (RwO.rl_ (mm := [(821, 548), (822, 549)]) b824_A820)⟩
      refine fl_skip ?_
      replace hs := hz691 _ hs
      refine hp691.normal _ _ ?_
      obtain rfl := osome hs
      exact hret _ _ _ _ (.inr rfl) hd817 (results0_ rfl ) ⟨(rl [(548, 2), (549, 1)] own817), (A552, c553), rfl, (Evo.rl_ hX817 hown rfl), (RwO.rl_ (mm := [(548, 2), (549, 1)]) b817_A552), (BlkO.rl_ (mm := [(548, 2), (549, 1)]) b817_gx1)⟩

theorem heap_list_take_w (w : World) (own : Own) (x1 : (List (Int × Int × Int))) (gx1 : Nat) (tx1 : TypeId) (Ax1_0 : Option Addr) (cx1_0 : Nat) (i2 : Int) (hown : ∀ b, own b ≤ 2) (hgx1 : BlkO own 1 w gx1 tx1 #[.slice Ax1_0 x1.length cx1_0]) (hAx1_0 : RwO own 2 [] w 30 R30 Ax1_0 cx1_0 x1) (r : (Int × Int × Int) × ((List (Int × Int × Int)))) (hs : heap_list_take x1 i2 = some r) :
    Calls Try.prog 21 #[.pointer (some ⟨gx1, 0, none⟩), .int .i64 i2] w fun e w' => ∃ (own' : Own) (x : Option Addr × Nat), e = .returned (.agg #[.int .i64 r.1.1, .int .i64 r.1.2.1, .int .i64 r.1.2.2]) ∧ Evo [1, 2] own own' w w' ∧ RwO own' 2 [] w' 30 R30 x.1 x.2 r.2 ∧ BlkO own' 1 w' gx1 tx1 #[.slice x.1 r.2.length x.2] := by
  refine fl_enter (n := 43) rfl rfl rfl (Nat.le_of_ble_eq_true rfl) ?_
  intro a0 Q hd0 hz0 harg hret
  have ha0 := harg 0 _ rfl
  have ha1 := harg 1 _ rfl
  clear harg
  have hE0 : Evo [1, 2] own own w w := Evo.refl _ _ _
  refine rg_plain_seq (n := 43) (rs := []) (own0 := own) (K := [])
      (bs := [0])
      (ds := [⟨[], [], [], Fct.blk 72 4 (fun g => .pointer (some ⟨g, 0, none⟩)) 30 #[.int .i64 0, .int .i64 0, .int .i64 0]⟩]) (by kernel_rfl) hz0 hd0 (fun _ h => nomatch h) ?_ ?_
  · refine steps_cons (fun own a wx hf hsl hE => ?_) ?_
    · exact sg_plain rfl rfl (or_new [] rfl rfl trivial (by kernel_rfl))
    exact steps_nil
  intro own73 a73 w73 hd73 hz73 hk73 hf73 hE73
  have e73_0 : a73.eval (.tmp 0) = .pointer (some ⟨gx1, 0, none⟩) := (hk73 0 rfl).trans ha0
  have e73_1 : a73.eval (.tmp 1) = .int .i64 i2 := (hk73 1 rfl).trans ha1
  obtain ⟨⟨g71, (f_4 : a73.eval (.tmp 4) = .pointer (some ⟨g71, 0, none⟩)), (b_g71 : BlkO own73 72 w73 g71 30 #[.int .i64 0, .int .i64 0, .int .i64 0])⟩, -⟩ := hf73 [0] rfl
  have e73_4 := f_4
  have hX73 := Evo.step hE0 hown hE73 rfl
  have b73_Ax1_0 := RwO.evo rfl hE73 hAx1_0
  have b73_gx1 := BlkO.evo (by decide) hE73 hgx1
  have b73_g71 := b_g71
  obtain ⟨x74, hx74, hs⟩ := obind hs
  refine rg_plain_seq (n := 43) (rs := []) (own0 := own73) (K := [76])
      (bs := [0, 1, 3, 7, 0, 31, 63, 0, 255])
      (ds := [⟨[], [0], [], Fct.val 7 (.pointer (some ⟨gx1, 0, none⟩))⟩,
      ⟨[0], [], [], Fct.val 8 (.pointer (some ⟨gx1, 0, none⟩))⟩,
      ⟨[1], [], [], Fct.val 9 (.pointer (some ⟨gx1, 0, none⟩))⟩,
      ⟨[2], [], [], Fct.val 10 (.slice Ax1_0 x1.length cx1_0)⟩,
      ⟨[], [1], [], Fct.val 11 (.int .i64 i2)⟩,
      ⟨[3, 4], [], [], Fct.val 12 (.pointer (some ((adr Ax1_0).add ((i2 : Int).toNat * R30.s))))⟩,
      ⟨[5], [], [], Fct.val 13 (.agg #[.int .i64 x74.1, .int .i64 x74.2.1, .int .i64 x74.2.2])⟩,
      ⟨[], [], [], Fct.blk 76 5 (fun g => .pointer (some ⟨g, 0, none⟩)) 30 #[.int .i64 0, .int .i64 0, .int .i64 0]⟩,
      ⟨[7, 6], [], [76], Fct.blk 77 5 (fun g => .pointer (some ⟨g, 0, none⟩)) 30 #[.int .i64 x74.1, .int .i64 x74.2.1, .int .i64 x74.2.2]⟩]) (by kernel_rfl) hz73 hd73 (fun _ h => nomatch h) ?_ ?_
  · refine steps_cons (fun own a wx hf hsl hE => ?_) ?_
    · obtain ⟨s_0, -⟩ := hsl
      exact sg_plain rfl rfl (or_move (s_0.trans e73_0))
    refine steps_cons (fun own a wx hf hsl hE => ?_) ?_
    · obtain ⟨(f_7 : a.eval (.tmp 7) = .pointer (some ⟨gx1, 0, none⟩)), -⟩ := hf
      exact sg_plain rfl rfl (or_k [(7, .pointer (some ⟨gx1, 0, none⟩))] rfl rfl ⟨f_7, trivial⟩ (by kernel_rfl))
    refine steps_cons (fun own a wx hf hsl hE => ?_) ?_
    · obtain ⟨(f_8 : a.eval (.tmp 8) = .pointer (some ⟨gx1, 0, none⟩)), -⟩ := hf
      exact sg_plain rfl rfl (or_field fo24_0 f_8 (by rfl))
    refine steps_cons (fun own a wx hf hsl hE => ?_) ?_
    · obtain ⟨(f_9 : a.eval (.tmp 9) = .pointer (some ⟨gx1, 0, none⟩)), -⟩ := hf
      exact sg_plain rfl rfl (or_load1 to22 f_9 (Blk.at_ (BlkO.evo (by decide) hE b73_gx1).2 0 rfl))
    refine steps_cons (fun own a wx hf hsl hE => ?_) ?_
    · obtain ⟨s_1, -⟩ := hsl
      exact sg_plain rfl rfl (or_move (s_1.trans e73_1))
    refine steps_cons (fun own a wx hf hsl hE => ?_) ?_
    · obtain ⟨(f_10 : a.eval (.tmp 10) = .slice Ax1_0 x1.length cx1_0), (f_11 : a.eval (.tmp 11) = .int .i64 i2), -⟩ := hf
      exact sg_plain rfl rfl (or_index (R := R30) (l := x1) tl22 f_10 f_11 (RdO.some_ (RwO.rd b73_Ax1_0) hx74) hx74)
    refine steps_cons (fun own a wx hf hsl hE => ?_) ?_
    · obtain ⟨(f_12 : a.eval (.tmp 12) = .pointer (some ((adr Ax1_0).add ((i2 : Int).toNat * R30.s)))), -⟩ := hf
      exact sg_plain rfl rfl (or_load (l := E30.f x74) ta30 f_12 (RdO.cells (F := E30) (RwO.rd (RwO.evo rfl hE b73_Ax1_0)) hx74) rfl)
    refine steps_cons (fun own a wx hf hsl hE => ?_) ?_
    · exact sg_plain rfl rfl (or_new [] rfl rfl trivial (by kernel_rfl))
    refine steps_cons (fun own a wx hf hsl hE => ?_) ?_
    · obtain ⟨⟨g75, (f_5 : a.eval (.tmp 5) = .pointer (some ⟨g75, 0, none⟩)), (b_g75 : BlkO own 76 wx g75 30 #[.int .i64 0, .int .i64 0, .int .i64 0])⟩, (f_13 : a.eval (.tmp 13) = .agg #[.int .i64 x74.1, .int .i64 x74.2.1, .int .i64 x74.2.2]), -⟩ := hf
      exact sg_plain rfl rfl (or_store (l := #[.int .i64 x74.1, .int .i64 x74.2.1, .int .i64 x74.2.2]) (lab := 76) (lab2 := 77) ts30 f_5 f_13 b_g75 (by simp) (by kernel_rfl) (mem_of rfl) (by decide) (by kernel_rfl) (fun own' a' w' ha hb => ⟨_, (ha 5).trans f_5, hb⟩))
    exact steps_nil
  intro own78 a78 w78 hd78 hz78 hk78 hf78 hE78
  have e78_0 : a78.eval (.tmp 0) = .pointer (some ⟨gx1, 0, none⟩) := (hk78 0 rfl).trans e73_0
  have e78_1 : a78.eval (.tmp 1) = .int .i64 i2 := (hk78 1 rfl).trans e73_1
  have e78_4 : a78.eval (.tmp 4) = .pointer (some ⟨g71, 0, none⟩) := (hk78 4 rfl).trans e73_4
  obtain ⟨⟨g75, (f_5 : a78.eval (.tmp 5) = .pointer (some ⟨g75, 0, none⟩)), (b_g75 : BlkO own78 77 w78 g75 30 #[.int .i64 x74.1, .int .i64 x74.2.1, .int .i64 x74.2.2])⟩, -⟩ := hf78 [8] rfl
  have e78_5 := f_5
  have hX78 := Evo.step hX73 hown hE78 rfl
  have b78_Ax1_0 := RwO.evo rfl hE78 b73_Ax1_0
  have b78_gx1 := BlkO.evo (by decide) hE78 b73_gx1
  have b78_g71 := BlkO.evo (by decide) hE78 b73_g71
  have b78_g75 := b_g75
  refine rg_plain_seq (n := 43) (rs := []) (own0 := own78) (K := [])
      (bs := [0, 1, 3, 7, 15, 31, 63])
      (ds := [⟨[], [0], [], Fct.val 14 (.pointer (some ⟨gx1, 0, none⟩))⟩,
      ⟨[0], [], [], Fct.val 15 (.pointer (some ⟨gx1, 0, none⟩))⟩,
      ⟨[1], [], [], Fct.val 16 (.pointer (some ⟨gx1, 0, none⟩))⟩,
      ⟨[2], [], [], Fct.val 17 (.slice Ax1_0 x1.length cx1_0)⟩,
      ⟨[3], [], [], Fct.val 18 (.int .i64 (x1.length : Int))⟩,
      ⟨[4], [], [], Fct.val 19 (.int .i64 (sb (x1.length : Int) 1))⟩,
      ⟨[5], [], [], Fct.val 6 (.int .i64 (sb (x1.length : Int) 1))⟩]) (by kernel_rfl) hz78 hd78 (fun _ h => nomatch h) ?_ ?_
  · refine steps_cons (fun own a wx hf hsl hE => ?_) ?_
    · obtain ⟨s_0, -⟩ := hsl
      exact sg_plain rfl rfl (or_move (s_0.trans e78_0))
    refine steps_cons (fun own a wx hf hsl hE => ?_) ?_
    · obtain ⟨(f_14 : a.eval (.tmp 14) = .pointer (some ⟨gx1, 0, none⟩)), -⟩ := hf
      exact sg_plain rfl rfl (or_k [(14, .pointer (some ⟨gx1, 0, none⟩))] rfl rfl ⟨f_14, trivial⟩ (by kernel_rfl))
    refine steps_cons (fun own a wx hf hsl hE => ?_) ?_
    · obtain ⟨(f_15 : a.eval (.tmp 15) = .pointer (some ⟨gx1, 0, none⟩)), -⟩ := hf
      exact sg_plain rfl rfl (or_field fo24_0 f_15 (by rfl))
    refine steps_cons (fun own a wx hf hsl hE => ?_) ?_
    · obtain ⟨(f_16 : a.eval (.tmp 16) = .pointer (some ⟨gx1, 0, none⟩)), -⟩ := hf
      exact sg_plain rfl rfl (or_load1 to22 f_16 (Blk.at_ (BlkO.evo (by decide) hE b78_gx1).2 0 rfl))
    refine steps_cons (fun own a wx hf hsl hE => ?_) ?_
    · obtain ⟨(f_17 : a.eval (.tmp 17) = .slice Ax1_0 x1.length cx1_0), -⟩ := hf
      exact sg_plain rfl rfl (or_len tu22 f_17 rfl)
    refine steps_cons (fun own a wx hf hsl hE => ?_) ?_
    · obtain ⟨(f_18 : a.eval (.tmp 18) = .int .i64 (x1.length : Int)), -⟩ := hf
      exact sg_plain rfl rfl (or_sub f_18 rfl rfl)
    refine steps_cons (fun own a wx hf hsl hE => ?_) ?_
    · obtain ⟨(f_19 : a.eval (.tmp 19) = .int .i64 (sb (x1.length : Int) 1)), -⟩ := hf
      exact sg_plain rfl rfl (or_assign f_19)
    exact steps_nil
  intro own79 a79 w79 hd79 hz79 hk79 hf79 hE79
  have e79_0 : a79.eval (.tmp 0) = .pointer (some ⟨gx1, 0, none⟩) := (hk79 0 rfl).trans e78_0
  have e79_1 : a79.eval (.tmp 1) = .int .i64 i2 := (hk79 1 rfl).trans e78_1
  have e79_4 : a79.eval (.tmp 4) = .pointer (some ⟨g71, 0, none⟩) := (hk79 4 rfl).trans e78_4
  have e79_5 : a79.eval (.tmp 5) = .pointer (some ⟨g75, 0, none⟩) := (hk79 5 rfl).trans e78_5
  obtain ⟨(f_6 : a79.eval (.tmp 6) = .int .i64 (sb (x1.length : Int) 1)), -⟩ := hf79 [6] rfl
  have e79_6 := f_6
  have hX79 := Evo.step hX78 hown hE79 rfl
  have b79_Ax1_0 := RwO.evo rfl hE79 b78_Ax1_0
  have b79_gx1 := BlkO.evo (by decide) hE79 b78_gx1
  have b79_g71 := BlkO.evo (by decide) hE79 b78_g71
  have b79_g75 := BlkO.evo (by decide) hE79 b78_g75
  obtain ⟨r80, hr80, hs⟩ := obind hs
  refine rg_plain_seq (n := 43) (rs := [Fct.at_ 1 gx1 tx1 #[.slice Ax1_0 x1.length cx1_0], Fct.rowAt 2 [] 30 R30 Ax1_0 cx1_0 x1]) (own0 := own79) (K := [1, 2])
      (bs := [0, 0, 0, 7])
      (ds := [⟨[], [0], [], Fct.val 20 (.pointer (some ⟨gx1, 0, none⟩))⟩,
      ⟨[], [1], [], Fct.val 21 (.int .i64 i2)⟩,
      ⟨[], [6], [], Fct.val 22 (.int .i64 (sb (x1.length : Int) 1))⟩,
      ⟨[0, 1, 2, 4, 5], [], [1, 2], Fct.mems [82, 83] 23 (fun (x : Option Addr × Nat) => .tuple #[]) (fun (x : Option Addr × Nat) own w => RwO own 82 [] w 30 R30 x.1 x.2 r80 ∧ BlkO own 83 w gx1 tx1 #[.slice x.1 r80.length x.2]) (fun hk he h => ⟨RwO.evo (hits_sub hk (by decide)) he h.1, BlkO.evo (not_hit hk (by decide)) he h.2⟩)⟩]) (by kernel_rfl) hz79 hd79 (by simp only [List.forall_mem_cons]; exact ⟨b79_gx1, b79_Ax1_0, fun _ h => nomatch h⟩) ?_ ?_
  · refine steps_cons (fun own a wx hf hsl hE => ?_) ?_
    · obtain ⟨s_0, -⟩ := hsl
      exact sg_plain rfl rfl (or_move (s_0.trans e79_0))
    refine steps_cons (fun own a wx hf hsl hE => ?_) ?_
    · obtain ⟨s_1, -⟩ := hsl
      exact sg_plain rfl rfl (or_move (s_1.trans e79_1))
    refine steps_cons (fun own a wx hf hsl hE => ?_) ?_
    · obtain ⟨s_6, -⟩ := hsl
      exact sg_plain rfl rfl (or_move (s_6.trans e79_6))
    refine steps_cons (fun own a wx hf hsl hE => ?_) ?_
    · obtain ⟨(f_20 : a.eval (.tmp 20) = .pointer (some ⟨gx1, 0, none⟩)), (f_21 : a.eval (.tmp 21) = .int .i64 i2), (f_22 : a.eval (.tmp 22) = .int .i64 (sb (x1.length : Int) 1)), (b_gx1 : BlkO own 1 wx gx1 tx1 #[.slice Ax1_0 x1.length cx1_0]), (b_Ax1_0 : RwO own 2 [] wx 30 R30 Ax1_0 cx1_0 x1), -⟩ := hf
      exact sg_plain rfl rfl (or_call cf22 (args3 f_20 f_21 f_22) (heap_list_swap_w _ (forth own (look0 [(1, 1), (2, 2)])) x1 gx1 tx1 Ax1_0 cx1_0 i2 (sb (x1.length : Int) 1) (look0_le rfl) (BlkO.forth_ (m := (look0 [(1, 1), (2, 2)])) b_gx1) (RwO.forth_ (m := (look0 [(1, 1), (2, 2)])) b_Ax1_0) r80 hr80) (post_mems (m := (look0 [(1, 1), (2, 2)])) (m' := (look0 [(1, 83), (2, 82)])) (hm_of rfl) (fun own' w' a' x h1 h => ⟨x, h1, ⟨RwO.back_ h.1 (by decide) (.inl (Rep.fl_flat _)), BlkO.back_ h.2 (by decide)⟩⟩)))
    exact steps_nil
  intro own84 a84 w84 hd84 hz84 hk84 hf84 hE84
  have e84_0 : a84.eval (.tmp 0) = .pointer (some ⟨gx1, 0, none⟩) := (hk84 0 rfl).trans e79_0
  have e84_1 : a84.eval (.tmp 1) = .int .i64 i2 := (hk84 1 rfl).trans e79_1
  have e84_4 : a84.eval (.tmp 4) = .pointer (some ⟨g71, 0, none⟩) := (hk84 4 rfl).trans e79_4
  have e84_5 : a84.eval (.tmp 5) = .pointer (some ⟨g75, 0, none⟩) := (hk84 5 rfl).trans e79_5
  have e84_6 : a84.eval (.tmp 6) = .int .i64 (sb (x1.length : Int) 1) := (hk84 6 rfl).trans e79_6
  obtain ⟨⟨⟨A81, cA81⟩, (f_23 : a84.eval (.tmp 23) = .tuple #[]), (b_A81 : RwO own84 82 [] w84 30 R30 A81 cA81 r80), (b_gx1 : BlkO own84 83 w84 gx1 tx1 #[.slice A81 r80.length cA81])⟩, -⟩ := hf84 [3] rfl
  have hX84 := Evo.step hX79 hown hE84 rfl
  have b84_g71 := BlkO.evo (by decide) hE84 b79_g71
  have b84_g75 := BlkO.evo (by decide) hE84 b79_g75
  have b84_gx1 := b_gx1
  have b84_A81 := b_A81
  obtain ⟨x90, hx90, hs⟩ := obind hs
  refine rg_plain_seq (n := 43) (rs := [Fct.rowAt 82 [] 30 R30 A81 cA81 r80, Fct.at_ 83 gx1 tx1 #[.slice A81 r80.length cA81]]) (own0 := own84) (K := [82, 83])
      (bs := [0, 0, 2, 6, 14, 0, 62, 127, 255, 511])
      (ds := [⟨[], [0], [], Fct.val 24 (.pointer (some ⟨gx1, 0, none⟩))⟩,
      ⟨[], [0], [], Fct.val 25 (.pointer (some ⟨gx1, 0, none⟩))⟩,
      ⟨[1], [], [], Fct.val 26 (.pointer (some ⟨gx1, 0, none⟩))⟩,
      ⟨[2], [], [], Fct.val 27 (.pointer (some ⟨gx1, 0, none⟩))⟩,
      ⟨[3, 11], [], [], Fct.val 28 (.slice A81 r80.length cA81)⟩,
      ⟨[], [6], [], Fct.val 29 (.int .i64 (sb (x1.length : Int) 1))⟩,
      ⟨[4, 5, 10], [], [82], Fct.row 92 [] 30 30 R30 x90⟩,
      ⟨[0], [], [], Fct.val 31 (.pointer (some ⟨gx1, 0, none⟩))⟩,
      ⟨[7], [], [], Fct.val 32 (.pointer (some ⟨gx1, 0, none⟩))⟩,
      ⟨[8, 6, 11], [], [83], Fct.by_ [93] [30] (fun l own w => ∀ (A91 : Option Addr) (cA91 : Nat), l.getD 0 undef = .slice A91 x90.length cA91 → BlkO own 93 w gx1 tx1 #[.slice A91 x90.length cA91]) (fun hk he h _ _ h0' => BlkO.evo (not_hit hk (by decide)) he (h _ _ h0'))⟩]) (by kernel_rfl) hz84 hd84 (by simp only [List.forall_mem_cons]; exact ⟨b84_A81, b84_gx1, fun _ h => nomatch h⟩) ?_ ?_
  · refine steps_cons (fun own a wx hf hsl hE => ?_) ?_
    · obtain ⟨s_0, -⟩ := hsl
      exact sg_plain rfl rfl (or_move (s_0.trans e84_0))
    refine steps_cons (fun own a wx hf hsl hE => ?_) ?_
    · obtain ⟨s_0, -⟩ := hsl
      exact sg_plain rfl rfl (or_move (s_0.trans e84_0))
    refine steps_cons (fun own a wx hf hsl hE => ?_) ?_
    · obtain ⟨(f_25 : a.eval (.tmp 25) = .pointer (some ⟨gx1, 0, none⟩)), -⟩ := hf
      exact sg_plain rfl rfl (or_k [(25, .pointer (some ⟨gx1, 0, none⟩))] rfl rfl ⟨f_25, trivial⟩ (by kernel_rfl))
    refine steps_cons (fun own a wx hf hsl hE => ?_) ?_
    · obtain ⟨(f_26 : a.eval (.tmp 26) = .pointer (some ⟨gx1, 0, none⟩)), -⟩ := hf
      exact sg_plain rfl rfl (or_field fo24_0 f_26 (by rfl))
    refine steps_cons (fun own a wx hf hsl hE => ?_) ?_
    · obtain ⟨(f_27 : a.eval (.tmp 27) = .pointer (some ⟨gx1, 0, none⟩)), (b_gx1 : BlkO own 83 wx gx1 tx1 #[.slice A81 r80.length cA81]), -⟩ := hf
      exact sg_plain rfl rfl (or_load1 to22 f_27 (Blk.at_ b_gx1.2 0 rfl))
    refine steps_cons (fun own a wx hf hsl hE => ?_) ?_
    · obtain ⟨s_6, -⟩ := hsl
      exact sg_plain rfl rfl (or_move (s_6.trans e84_6))
    refine steps_cons (fun own a wx hf hsl hE => ?_) ?_
    · obtain ⟨(f_28 : a.eval (.tmp 28) = .slice A81 r80.length cA81), (f_29 : a.eval (.tmp 29) = .int .i64 (sb (x1.length : Int) 1)), (b_A81 : RwO own 82 [] wx 30 R30 A81 cA81 r80), -⟩ := hf
      exact sg_plain rfl rfl (or_keep (R := R30) (lab := 82) (lab2 := 92) tu22 ts30 f_28 (Bnd.some_ f_29) b_A81 hx90 (mem_of rfl) (by decide) (.inl (Rep.fl_flat _)))
    refine steps_cons (fun own a wx hf hsl hE => ?_) ?_
    · obtain ⟨(f_24 : a.eval (.tmp 24) = .pointer (some ⟨gx1, 0, none⟩)), -⟩ := hf
      exact sg_plain rfl rfl (or_k [(24, .pointer (some ⟨gx1, 0, none⟩))] rfl rfl ⟨f_24, trivial⟩ (by kernel_rfl))
    refine steps_cons (fun own a wx hf hsl hE => ?_) ?_
    · obtain ⟨(f_31 : a.eval (.tmp 31) = .pointer (some ⟨gx1, 0, none⟩)), -⟩ := hf
      exact sg_plain rfl rfl (or_field fo24_0 f_31 (by rfl))
    refine steps_cons (fun own a wx hf hsl hE => ?_) ?_
    · obtain ⟨(f_32 : a.eval (.tmp 32) = .pointer (some ⟨gx1, 0, none⟩)), ⟨⟨A91, cA91⟩, (f_30 : a.eval (.tmp 30) = .slice A91 x90.length cA91), (b_A91 : RwO own 92 [] wx 30 R30 A91 cA91 x90)⟩, (b_gx1 : BlkO own 83 wx gx1 tx1 #[.slice A81 r80.length cA81]), -⟩ := hf
      exact sg_plain rfl rfl (or_store1 (lab := 83) (lab2 := 93) ts22 f_32 f_30 b_gx1 (by simp) rfl (mem_of rfl) (by decide) rfl (fun own' a' w' ha hb => fun _ _ h0' => by cases (f_30.symm.trans ((ha 30).symm.trans h0')); exact hb))
    exact steps_nil
  intro own94 a94 w94 hd94 hz94 hk94 hf94 hE94
  have e94_0 : a94.eval (.tmp 0) = .pointer (some ⟨gx1, 0, none⟩) := (hk94 0 rfl).trans e84_0
  have e94_1 : a94.eval (.tmp 1) = .int .i64 i2 := (hk94 1 rfl).trans e84_1
  have e94_4 : a94.eval (.tmp 4) = .pointer (some ⟨g71, 0, none⟩) := (hk94 4 rfl).trans e84_4
  have e94_5 : a94.eval (.tmp 5) = .pointer (some ⟨g75, 0, none⟩) := (hk94 5 rfl).trans e84_5
  have e94_6 : a94.eval (.tmp 6) = .int .i64 (sb (x1.length : Int) 1) := (hk94 6 rfl).trans e84_6
  obtain ⟨⟨⟨A91, cA91⟩, (f_30 : a94.eval (.tmp 30) = .slice A91 x90.length cA91), (b_A91 : RwO own94 92 [] w94 30 R30 A91 cA91 x90)⟩, (bq_gx1 : ∀ (A91 : Option Addr) (cA91 : Nat), a94.eval (.tmp 30) = .slice A91 x90.length cA91 → BlkO own94 93 w94 gx1 tx1 #[.slice A91 x90.length cA91]), -⟩ := hf94 [6, 9] rfl
  have b_gx1 := bq_gx1 _ _ f_30
  have hX94 := Evo.step hX84 hown hE94 rfl
  have b94_g71 := BlkO.evo (by decide) hE94 b84_g71
  have b94_g75 := BlkO.evo (by decide) hE94 b84_g75
  have b94_gx1 := b_gx1
  have b94_A91 := b_A91
  refine fl_seq (fun Q95 hn95 hp95 => ?_)
  have K113 : ∀ (a113 : Act) (w113 : World) (own113 : Own) (x111 : List (Int × Int × Int)) (A109 : Option Addr) (c110 : Nat), a113.defers = [] → a113.tmps.size = 43 → a113.eval (.tmp 0) = .pointer (some ⟨gx1, 0, none⟩) → a113.eval (.tmp 4) = .pointer (some ⟨g71, 0, none⟩) → a113.eval (.tmp 5) = .pointer (some ⟨g75, 0, none⟩) → Evo [1, 2] own own113 w w113 → BlkO own113 108 w113 gx1 tx1 #[.slice A109 x111.length c110] → RwO own113 112 [] w113 30 R30 A109 c110 x111 → BlkO own113 72 w113 g71 30 #[.int .i64 0, .int .i64 0, .int .i64 0] → BlkO own113 77 w113 g75 30 #[.int .i64 x74.1, .int .i64 x74.2.1, .int .i64 x74.2.2] → heap_list_take_k1 x74 x111 = some r → Q95 .normal a113 w113 := by
    intro a113 w113 own113 x111 A109 c110 hd114 hz114 e114_0 e114_4 e114_5 hE114 b114_gx1 b114_A109 b114_g71 b114_g75 hs
    refine hn95 _ _ ?_
    refine rg_plain_seq (n := 43) (rs := [Fct.at_ 72 g71 30 #[.int .i64 0, .int .i64 0, .int .i64 0]]) (own0 := own113) (K := [72])
        (bs := [0, 1])
        (ds := [⟨[], [5], [], Fct.val 42 (.agg #[.int .i64 x74.1, .int .i64 x74.2.1, .int .i64 x74.2.2])⟩,
        ⟨[0, 2], [4], [72], Fct.at_ 115 g71 30 #[.int .i64 x74.1, .int .i64 x74.2.1, .int .i64 x74.2.2]⟩]) (by kernel_rfl) hz114 hd114 (by simp only [List.forall_mem_cons]; exact ⟨b114_g71, fun _ h => nomatch h⟩) ?_ ?_
    · refine steps_cons (fun own a wx hf hsl hE => ?_) ?_
      · obtain ⟨s_5, -⟩ := hsl
        exact sg_plain rfl rfl (or_load (l := [.int .i64 x74.1, .int .i64 x74.2.1, .int .i64 x74.2.2]) ta30 (s_5.trans e114_5) (Blk.cellsFrom (BlkO.evo (by decide) hE b114_g75).2 0 rfl) rfl)
      refine steps_cons (fun own a wx hf hsl hE => ?_) ?_
      · obtain ⟨(f_42 : a.eval (.tmp 42) = .agg #[.int .i64 x74.1, .int .i64 x74.2.1, .int .i64 x74.2.2]), (b_g71 : BlkO own 72 wx g71 30 #[.int .i64 0, .int .i64 0, .int .i64 0]), -⟩ := hf
        obtain ⟨s_4, -⟩ := hsl
        exact sg_plain rfl rfl (or_store (l := #[.int .i64 x74.1, .int .i64 x74.2.1, .int .i64 x74.2.2]) (lab := 72) (lab2 := 115) ts30 (s_4.trans e114_4) f_42 b_g71 (by simp) (by kernel_rfl) (mem_of rfl) (by decide) (by kernel_rfl) (fun own' a' w' ha hb => hb))
      exact steps_nil
    intro own116 a116 w116 hd116 hz116 hk116 hf116 hE116
    have e116_0 : a116.eval (.tmp 0) = .pointer (some ⟨gx1, 0, none⟩) := (hk116 0 rfl).trans e114_0
    have e116_4 : a116.eval (.tmp 4) = .pointer (some ⟨g71, 0, none⟩) := (hk116 4 rfl).trans e114_4
    obtain ⟨(b_g71 : BlkO own116 115 w116 g71 30 #[.int .i64 x74.1, .int .i64 x74.2.1, .int .i64 x74.2.2]), -⟩ := hf116 [1] rfl
    have hX116 := Evo.step hE114 hown hE116 rfl
    have b116_gx1 := BlkO.evo (by decide) hE116 b114_gx1
    have b116_A109 := RwO.evo rfl hE116 b114_A109
    have b116_g71 := b_g71
    refine fl_ret ?_
    obtain rfl := osome hs
    exact hret _ _ _ _ (.inl rfl) hd116 (results1_ rfl (RVal.cell_ e116_4 (run_loadVarAgg (l := [.int .i64 x74.1, .int .i64 x74.2.1, .int .i64 x74.2.2]) ta30 (Blk.cellsFrom b116_g71.2 0 rfl) rfl))) ⟨(rl [(108, 1), (112, 2)] own116), (A109, c110), rfl, (Evo.rl_ hX116 hown rfl), (RwO.rl_ (mm := [(108, 1), (112, 2)]) b116_A109), (BlkO.rl_ (mm := [(108, 1), (112, 2)]) b116_gx1)⟩
  refine rg_plain_seq (n := 43) (rs := []) (own0 := own94) (K := [])
      (bs := [0, 0, 3])
      (ds := [⟨[], [1], [], Fct.val 33 (.int .i64 i2)⟩,
      ⟨[], [6], [], Fct.val 34 (.int .i64 (sb (x1.length : Int) 1))⟩,
      ⟨[0, 1], [], [], Fct.val 35 (.bool (decide (i2 < (sb (x1.length : Int) 1))))⟩]) (by kernel_rfl) hz94 hd94 (fun _ h => nomatch h) ?_ ?_
  · refine steps_cons (fun own a wx hf hsl hE => ?_) ?_
    · obtain ⟨s_1, -⟩ := hsl
      exact sg_plain rfl rfl (or_move (s_1.trans e94_1))
    refine steps_cons (fun own a wx hf hsl hE => ?_) ?_
    · obtain ⟨s_6, -⟩ := hsl
      exact sg_plain rfl rfl (or_move (s_6.trans e94_6))
    refine steps_cons (fun own a wx hf hsl hE => ?_) ?_
    · obtain ⟨(f_33 : a.eval (.tmp 33) = .int .i64 i2), (f_34 : a.eval (.tmp 34) = .int .i64 (sb (x1.length : Int) 1)), -⟩ := hf
      exact sg_plain rfl rfl (or_lss f_33 f_34 rfl)
    exact steps_nil
  intro own117 a117 w117 hd117 hz117 hk117 hf117 hE117
  have e117_0 : a117.eval (.tmp 0) = .pointer (some ⟨gx1, 0, none⟩) := (hk117 0 rfl).trans e94_0
  have e117_1 : a117.eval (.tmp 1) = .int .i64 i2 := (hk117 1 rfl).trans e94_1
  have e117_4 : a117.eval (.tmp 4) = .pointer (some ⟨g71, 0, none⟩) := (hk117 4 rfl).trans e94_4
  have e117_5 : a117.eval (.tmp 5) = .pointer (some ⟨g75, 0, none⟩) := (hk117 5 rfl).trans e94_5
  obtain ⟨(f_35 : a117.eval (.tmp 35) = .bool (decide (i2 < (sb (x1.length : Int) 1)))), -⟩ := hf117 [2] rfl
  have e117_35 := f_35
  have hX117 := Evo.step hX94 hown hE117 rfl
  have b117_g71 := BlkO.evo (by decide) hE117 b94_g71
  have b117_g75 := BlkO.evo (by decide) hE117 b94_g75
  have b117_gx1 := BlkO.evo (by decide) hE117 b94_gx1
  have b117_A91 := RwO.evo rfl hE117 b94_A91
  refine fl_cond e117_35 hs (fun c118 hs => ?_) (fun c118 hs => ?_)
  · obtain ⟨r119, hr119, hs⟩ := obind hs
    refine rg_plain_seq (n := 43) (rs := [Fct.at_ 93 gx1 tx1 #[.slice A91 x90.length cA91], Fct.rowAt 92 [] 30 R30 A91 cA91 x90]) (own0 := own117) (K := [93, 92])
        (bs := [0, 0, 3])
        (ds := [⟨[], [0], [], Fct.val 36 (.pointer (some ⟨gx1, 0, none⟩))⟩,
        ⟨[], [1], [], Fct.val 37 (.int .i64 i2)⟩,
        ⟨[0, 1, 3, 4], [], [93, 92], Fct.mems [121, 122] 38 (fun (x : Option Addr × Nat) => .tuple #[]) (fun (x : Option Addr × Nat) own w => RwO own 121 [] w 30 R30 x.1 x.2 r119 ∧ BlkO own 122 w gx1 tx1 #[.slice x.1 r119.length x.2]) (fun hk he h => ⟨RwO.evo (hits_sub hk (by decide)) he h.1, BlkO.evo (not_hit hk (by decide)) he h.2⟩)⟩]) (by kernel_rfl) hz117 hd117 (by simp only [List.forall_mem_cons]; exact ⟨b117_gx1, b117_A91, fun _ h => nomatch h⟩) ?_ ?_
    · refine steps_cons (fun own a wx hf hsl hE => ?_) ?_
      · obtain ⟨s_0, -⟩ := hsl
        exact sg_plain rfl rfl (or_move (s_0.trans e117_0))
      refine steps_cons (fun own a wx hf hsl hE => ?_) ?_
      · obtain ⟨s_1, -⟩ := hsl
        exact sg_plain rfl rfl (or_move (s_1.trans e117_1))
      refine steps_cons (fun own a wx hf hsl hE => ?_) ?_
      · obtain ⟨(f_36 : a.eval (.tmp 36) = .pointer (some ⟨gx1, 0, none⟩)), (f_37 : a.eval (.tmp 37) = .int .i64 i2), (b_gx1 : BlkO own 93 wx gx1 tx1 #[.slice A91 x90.length cA91]), (b_A91 : RwO own 92 [] wx 30 R30 A91 cA91 x90), -⟩ := hf
        exact sg_plain rfl rfl (or_call cf23 (args2 f_36 f_37) (heap_list_sink_w _ (forth own (look0 [(92, 2), (93, 1)])) x90 gx1 tx1 A91 cA91 i2 (look0_le rfl) (BlkO.forth_ (m := (look0 [(92, 2), (93, 1)])) b_gx1) (RwO.forth_ (m := (look0 [(92, 2), (93, 1)])) b_A91) r119 hr119) (post_mems (m := (look0 [(92, 2), (93, 1)])) (m' := (look0 [(1, 122), (2, 121)])) (hm_of rfl) (fun own' w' a' x h1 h => ⟨x, h1, ⟨RwO.back_ h.1 (by decide) (.inl (Rep.fl_flat _)), BlkO.back_ h.2 (by decide)⟩⟩)))
      exact steps_nil
    intro own123 a123 w123 hd123 hz123 hk123 hf123 hE123
    have e123_0 : a123.eval (.tmp 0) = .pointer (some ⟨gx1, 0, none⟩) := (hk123 0 rfl).trans e117_0
    have e123_1 : a123.eval (.tmp 1) = .int .i64 i2 := (hk123 1 rfl).trans e117_1
    have e123_4 : a123.eval (.tmp 4) = .pointer (some ⟨g71, 0, none⟩) := (hk123 4 rfl).trans e117_4
    have e123_5 : a123.eval (.tmp 5) = .pointer (some ⟨g75, 0, none⟩) := (hk123 5 rfl).trans e117_5
    obtain ⟨⟨⟨A120, cA120⟩, (f_38 : a123.eval (.tmp 38) = .tuple #[]), (b_A120 : RwO own123 121 [] w123 30 R30 A120 cA120 r119), (b_gx1 : BlkO own123 122 w123 gx1 tx1 #[.slice A120 r119.length cA120])⟩, -⟩ := hf123 [2] rfl
    have hX123 := Evo.step hX117 hown hE123 rfl
    have b123_g71 := BlkO.evo (by decide) hE123 b117_g71
    have b123_g75 := BlkO.evo (by decide) hE123 b117_g75
    have b123_gx1 := b_gx1
    have b123_A120 := b_A120
    obtain ⟨r124, hr124, hs⟩ := obind hs
    refine rg_plain (n := 43) (rs := [Fct.at_ 122 gx1 tx1 #[.slice A120 r119.length cA120], Fct.rowAt 121 [] 30 R30 A120 cA120 r119]) (own0 := own123) (K := [122, 121])
        (bs := [0, 0, 3])
        (ds := [⟨[], [0], [], Fct.val 39 (.pointer (some ⟨gx1, 0, none⟩))⟩,
        ⟨[], [1], [], Fct.val 40 (.int .i64 i2)⟩,
        ⟨[0, 1, 3, 4], [], [122, 121], Fct.mems [126, 127] 41 (fun (x : Option Addr × Nat) => .tuple #[]) (fun (x : Option Addr × Nat) own w => RwO own 126 [] w 30 R30 x.1 x.2 r124 ∧ BlkO own 127 w gx1 tx1 #[.slice x.1 r124.length x.2]) (fun hk he h => ⟨RwO.evo (hits_sub hk (by decide)) he h.1, BlkO.evo (not_hit hk (by decide)) he h.2⟩)⟩]) (by kernel_rfl) hz123 hd123 (by simp only [List.forall_mem_cons]; exact ⟨b123_gx1, b123_A120, fun _ h => nomatch h⟩) ?_ ?_
    · refine steps_cons (fun own a wx hf hsl hE => ?_) ?_
      · obtain ⟨s_0, -⟩ := hsl
        exact sg_plain rfl rfl (or_move (s_0.trans e123_0))
      refine steps_cons (fun own a wx hf hsl hE => ?_) ?_
      · obtain ⟨s_1, -⟩ := hsl
        exact sg_plain rfl rfl (or_move (s_1.trans e123_1))
      refine steps_cons (fun own a wx hf hsl hE => ?_) ?_
      · obtain ⟨(f_39 : a.eval (.tmp 39) = .pointer (some ⟨gx1, 0, none⟩)), (f_40 : a.eval (.tmp 40) = .int .i64 i2), (b_gx1 : BlkO own 122 wx gx1 tx1 #[.slice A120 r119.length cA120]), (b_A120 : RwO own 121 [] wx 30 R30 A120 cA120 r119), -⟩ := hf
        exact sg_plain rfl rfl (or_call cf19 (args2 f_39 f_40) (heap_list_rise_w _ (forth own (look0 [(121, 2), (122, 1)])) r119 gx1 tx1 A120 cA120 i2 (look0_le rfl) (BlkO.forth_ (m := (look0 [(121, 2), (122, 1)])) b_gx1) (RwO.forth_ (m := (look0 [(121, 2), (122, 1)])) b_A120) r124 hr124) (post_mems (m := (look0 [(121, 2), (122, 1)])) (m' := (look0 [(1, 127), (2, 126)])) (hm_of rfl) (fun own' w' a' x h1 h => ⟨x, h1, ⟨RwO.back_ h.1 (by decide) (.inl (Rep.fl_flat _)), BlkO.back_ h.2 (by decide)⟩⟩)))
      exact steps_nil
    intro own128 a128 w128 hd128 hz128 hk128 hf128 hE128
    have e128_0 : a128.eval (.tmp 0) = .pointer (some ⟨gx1, 0, none⟩) := (hk128 0 rfl).trans e123_0
    have e128_4 : a128.eval (.tmp 4) = .pointer (some ⟨g71, 0, none⟩) := (hk128 4 rfl).trans e123_4
    have e128_5 : a128.eval (.tmp 5) = .pointer (some ⟨g75, 0, none⟩) := (hk128 5 rfl).trans e123_5
    obtain ⟨⟨⟨A125, cA125⟩, (f_41 : a128.eval (.tmp 41) = .tuple #[]), (b_A125 : RwO own128 126 [] w128 30 R30 A125 cA125 r124), (b_gx1 : BlkO own128 127 w128 gx1 tx1 #[.slice A125 r124.length cA125])⟩, -⟩ := hf128 [2] rfl
    have hX128 := Evo.step hX123 hown hE128 rfl
    have b128_g71 := BlkO.evo (by decide) hE128 b123_g71
    have b128_g75 := BlkO.evo (by decide) hE128 b123_g75
    have b128_gx1 := b_gx1
    have b128_A125 := b_A125
    exact (K113 _ _ (rl [(126, 112), (127, 108)] own128) _ A125 cA125 hd128 hz128 e128_0 e128_4 e128_5 (Evo.rl_ hX128 hown rfl) (BlkO.rl_ (mm := [(126, 112), (127, 108)]) b128_gx1) (RwO.rl_ (mm := [(126, 112), (127, 108)]) b128_A125) (BlkO.rl_ (mm := [(126, 112), (127, 108)]) b128_g71) (BlkO.rl_ (mm := [(126, 112), (127, 108)]) b128_g75) hs)
  refine fl_skip ?_
  exact (K113 _ _ (rl [(92, 112), (93, 108)] own117) _ A91 cA91 hd117 hz117 e117_0 e117_4 e117_5 (Evo.rl_ hX117 hown rfl) (BlkO.rl_ (mm := [(92, 112), (93, 108)]) b117_gx1) (RwO.rl_ (mm := [(92, 112), (93, 108)]) b117_A91) (BlkO.rl_ (mm := [(92, 112), (93, 108)]) b117_g71) (BlkO.rl_ (mm := [(92, 112), (93, 108)]) b117_g75) hs)

theorem heap_LenNil_w (w : World) (r : Int) (hs : heap_LenNil = some r) :
    Calls Try.prog 11 #[.pointer none] w fun e w' => ∃ own' : Own, e = .returned (.int .i64 r) ∧ Evo [] (fun _ => 0) own' w w' := by
  refine fl_enter (n := 9) rfl rfl rfl (Nat.le_of_ble_eq_true rfl) ?_
  intro a0 Q hd0 hz0 harg hret
  have ha0 := harg 0 _ rfl
  clear harg
  have hE0 : Evo [] (fun _ => 0) (fun _ => 0) w w := Evo.refl _ _ _
  refine rg_plain_seq (n := 9) (rs := []) (own0 := (fun _ => 0)) (K := [])
      (bs := [0])
      (ds := [⟨[], [], [], Fct.val 2 (.int .i64 0)⟩]) (by kernel_rfl) hz0 hd0 (fun _ h => nomatch h) ?_ ?_
  · refine steps_cons (fun own a wx hf hsl hE => ?_) ?_
    · exact sg_plain rfl rfl (or_assign rfl)
    exact steps_nil
  intro own15 a15 w15 hd15 hz15 hk15 hf15 hE15
  have e15_0 : a15.eval (.tmp 0) = .pointer none := (hk15 0 rfl).trans ha0
  have hX15 := Evo.step hE0 (fun _ => Nat.le_refl 0) hE15 rfl
  refine fl_seq (fun Q16 hn16 hp16 => ?_)
  refine rg_plain_seq (n := 9) (rs := []) (own0 := own15) (K := [])
      (bs := [0, 1])
      (ds := [⟨[], [0], [], Fct.val 3 (.pointer none)⟩,
      ⟨[0], [], [], Fct.val 4 (.bool true)⟩]) (by kernel_rfl) hz15 hd15 (fun _ h => nomatch h) ?_ ?_
  · refine steps_cons (fun own a wx hf hsl hE => ?_) ?_
    · obtain ⟨s_0, -⟩ := hsl
      exact sg_plain rfl rfl (or_move (s_0.trans e15_0))
    refine steps_cons (fun own a wx hf hsl hE => ?_) ?_
    · obtain ⟨(f_3 : a.eval (.tmp 3) = .pointer none), -⟩ := hf
      exact sg_plain rfl rfl (or_k [(3, .pointer none)] rfl rfl ⟨f_3, trivial⟩ (by kernel_rfl))
    exact steps_nil
  intro own17 a17 w17 hd17 hz17 hk17 hf17 hE17
  have e17_0 : a17.eval (.tmp 0) = .pointer none := (hk17 0 rfl).trans e15_0
  obtain ⟨(f_4 : a17.eval (.tmp 4) = .bool true), -⟩ := hf17 [1] rfl
  have e17_4 := f_4
  have hX17 := Evo.step hX15 (fun _ => Nat.le_refl 0) hE17 rfl
  refine fl_t e17_4 ?_
  refine rg_plain_seq (n := 9) (rs := []) (own0 := own17) (K := [])
      (bs := [0])
      (ds := [⟨[], [], [], Fct.val 2 (.int .i64 0)⟩]) (by kernel_rfl) hz17 hd17 (fun _ h => nomatch h) ?_ ?_
  · refine steps_cons (fun own a wx hf hsl hE => ?_) ?_
    · exact sg_plain rfl rfl (or_assign rfl)
    exact steps_nil
  intro own18 a18 w18 hd18 hz18 hk18 hf18 hE18
  obtain ⟨(f_2 : a18.eval (.tmp 2) = .int .i64 0), -⟩ := hf18 [0] rfl
  have e18_2 := f_2
  have hX18 := Evo.step hX17 (fun _ => Nat.le_refl 0) hE18 rfl
  refine fl_ret ?_
  refine hp16 _ _ _ rfl ?_
  obtain rfl := osome hs
  exact hret _ _ _ _ (.inl rfl) hd18 (results1_ rfl (RVal.tmp_ e18_2)) ⟨own18, rfl, hX18⟩

theorem heap_Heap_Len_w (w : World) (h1 : ((List (Int × Int × Int)))) (gh1 : Nat) (th1 : TypeId) (Ah1_0 : Option Addr) (ch1_0 : Nat) (hgh1 : BlkO (fun _ => 0) 0 w gh1 th1 #[.slice Ah1_0 h1.length ch1_0]) (hAh1_0 : RdO (fun _ => 0) [0] w R30 Ah1_0 ch1_0 h1) (r : Int) (hs : heap_Heap_Len h1 = some r) :
    Calls Try.prog 11 #[.pointer (some ⟨gh1, 0, none⟩)] w fun e w' => ∃ own' : Own, e = .returned (.int .i64 r) ∧ Evo [] (fun _ => 0) own' w w' := by
  refine fl_enter (n := 9) rfl rfl rfl (Nat.le_of_ble_eq_true rfl) ?_
  intro a0 Q hd0 hz0 harg hret
  have ha0 := harg 0 _ rfl
  clear harg
  have hE0 : Evo [] (fun _ => 0) (fun _ => 0) w w := Evo.refl _ _ _
  refine rg_plain_seq (n := 9) (rs := []) (own0 := (fun _ => 0)) (K := [])
      (bs := [0])
      (ds := [⟨[], [], [], Fct.val 2 (.int .i64 0)⟩]) (by kernel_rfl) hz0 hd0 (fun _ h => nomatch h) ?_ ?_
  · refine steps_cons (fun own a wx hf hsl hE => ?_) ?_
    · exact sg_plain rfl rfl (or_assign rfl)
    exact steps_nil
  intro own16 a16 w16 hd16 hz16 hk16 hf16 hE16
  have e16_0 : a16.eval (.tmp 0) = .pointer (some ⟨gh1, 0, none⟩) := (hk16 0 rfl).trans ha0
  have hX16 := Evo.step hE0 (fun _ => Nat.le_refl 0) hE16 rfl
  have b16_Ah1_0 := RdO.evo rfl hE16 hAh1_0
  have b16_gh1 := BlkO.evo (by decide) hE16 hgh1
  refine fl_seq (fun Q17 hn17 hp17 => ?_)
  refine rg_plain_seq (n := 9) (rs := []) (own0 := own16) (K := [])
      (bs := [0, 1])
      (ds := [⟨[], [0], [], Fct.val 3 (.pointer (some ⟨gh1, 0, none⟩))⟩,
      ⟨[0], [], [], Fct.val 4 (.bool false)⟩]) (by kernel_rfl) hz16 hd16 (fun _ h => nomatch h) ?_ ?_
  · refine steps_cons (fun own a wx hf hsl hE => ?_) ?_
    · obtain ⟨s_0, -⟩ := hsl
      exact sg_plain rfl rfl (or_move (s_0.trans e16_0))
    refine steps_cons (fun own a wx hf hsl hE => ?_) ?_
    · obtain ⟨(f_3 : a.eval (.tmp 3) = .pointer (some ⟨gh1, 0, none⟩)), -⟩ := hf
      exact sg_plain rfl rfl (or_k [(3, .pointer (some ⟨gh1, 0, none⟩))] rfl rfl ⟨f_3, trivial⟩ (by kernel_rfl))
    exact steps_nil
  intro own18 a18 w18 hd18 hz18 hk18 hf18 hE18
  have e18_0 : a18.eval (.tmp 0) = .pointer (some ⟨gh1, 0, none⟩) := (hk18 0 rfl).trans e16_0
  obtain ⟨(f_4 : a18.eval (.tmp 4) = .bool false), -⟩ := hf18 [1] rfl
  have e18_4 := f_4
  have hX18 := Evo.step hX16 (fun _ => Nat.le_refl 0) hE18 rfl
  have b18_Ah1_0 := RdO.evo rfl hE18 b16_Ah1_0
  have b18_gh1 := BlkO.evo (by decide) hE18 b16_gh1
  refine fl_f e18_4 ?_
  refine fl_skip ?_
  refine hn17 _ _ ?_
  obtain ⟨r19, hr19, hs⟩ := obind hs
  refine rg_plain_seq (n := 9) (rs := []) (own0 := own18) (K := [])
      (bs := [0, 1, 3, 7, 15])
      (ds := [⟨[], [0], [], Fct.val 5 (.pointer (some ⟨gh1, 0, none⟩))⟩,
      ⟨[0], [], [], Fct.val 6 (.pointer (some ⟨gh1, 0, none⟩))⟩,
      ⟨[1], [], [], Fct.val 7 (.pointer (some ⟨gh1, 0, none⟩))⟩,
      ⟨[2], [], [], Fct.val 8 (.int .i64 r19)⟩,
      ⟨[3], [], [], Fct.val 2 (.int .i64 r19)⟩]) (by kernel_rfl) hz18 hd18 (fun _ h => nomatch h) ?_ ?_
  · refine steps_cons (fun own a wx hf hsl hE => ?_) ?_
    · obtain ⟨s_0, -⟩ := hsl
      exact sg_plain rfl rfl (or_move (s_0.trans e18_0))
    refine steps_cons (fun own a wx hf hsl hE => ?_) ?_
    · obtain ⟨(f_5 : a.eval (.tmp 5) = .pointer (some ⟨gh1, 0, none⟩)), -⟩ := hf
      exact sg_plain rfl rfl (or_k [(5, .pointer (some ⟨gh1, 0, none⟩))] rfl rfl ⟨f_5, trivial⟩ (by kernel_rfl))
    refine steps_cons (fun own a wx hf hsl hE => ?_) ?_
    · obtain ⟨(f_6 : a.eval (.tmp 6) = .pointer (some ⟨gh1, 0, none⟩)), -⟩ := hf
      exact sg_plain rfl rfl (or_field fo26_0 f_6 (by rfl))
    refine steps_cons (fun own a wx hf hsl hE => ?_) ?_
    · obtain ⟨(f_7 : a.eval (.tmp 7) = .pointer (some ⟨gh1, 0, none⟩)), -⟩ := hf
      exact sg_plain rfl rfl (or_call cf20 (args1 f_7) (heap_list_count_w _ h1 gh1 th1 Ah1_0 ch1_0 (BlkO.zero_ (BlkO.evo (by decide) hE b18_gh1)) (RdO.zero (RdO.evo rfl hE b18_Ah1_0)) r19 hr19) post_val)
    refine steps_cons (fun own a wx hf hsl hE => ?_) ?_
    · obtain ⟨(f_8 : a.eval (.tmp 8) = .int .i64 r19), -⟩ := hf
      exact sg_plain rfl rfl (or_assign f_8)
    exact steps_nil
  intro own20 a20 w20 hd20 hz20 hk20 hf20 hE20
  obtain ⟨(f_2 : a20.eval (.tmp 2) = .int .i64 r19), -⟩ := hf20 [4] rfl
  have e20_2 := f_2
  have hX20 := Evo.step hX18 (fun _ => Nat.le_refl 0) hE20 rfl
  refine fl_ret ?_
  obtain rfl := osome hs
  exact hret _ _ _ _ (.inl rfl) hd20 (results1_ rfl (RVal.tmp_ e20_2)) ⟨own20, rfl, hX20⟩

theorem heap_PushNil_w (w : World) (l2 : List (Int × Int × Int)) (Al2 : Option Addr) (cl2 : Nat) (hl2 : RdO (fun _ => 0) [0] w R30 Al2 cl2 l2) (r : Int) (hs : heap_PushNil l2 = some r) :
    Calls Try.prog 6 #[.pointer none, .slice Al2 l2.length cl2] w fun e w' => ∃ own' : Own, e = .returned (.int .i64 r) ∧ Evo [] (fun _ => 0) own' w w' := by
  refine fl_enter (n := 41) rfl rfl rfl (Nat.le_of_ble_eq_true rfl) ?_
  intro a0 Q hd0 hz0 harg hret
  have ha0 := harg 0 _ rfl
  have ha1 := harg 1 _ rfl
  clear harg
  have hE0 : Evo [] (fun _ => 0) (fun _ => 0) w w := Evo.refl _ _ _
  refine rg_plain_seq (n := 41) (rs := []) (own0 := (fun _ => 0)) (K := [])
      (bs := [0])
      (ds := [⟨[], [], [], Fct.val 4 (.int .i64 0)⟩]) (by kernel_rfl) hz0 hd0 (fun _ h => nomatch h) ?_ ?_
  · refine steps_cons (fun own a wx hf hsl hE => ?_) ?_
    · exact sg_plain rfl rfl (or_assign rfl)
    exact steps_nil
  intro own15 a15 w15 hd15 hz15 hk15 hf15 hE15
  have e15_0 : a15.eval (.tmp 0) = .pointer none := (hk15 0 rfl).trans ha0
  have e15_1 : a15.eval (.tmp 1) = .slice Al2 l2.length cl2 := (hk15 1 rfl).trans ha1
  have hX15 := Evo.step hE0 (fun _ => Nat.le_refl 0) hE15 rfl
  have b15_Al2 := RdO.evo rfl hE15 hl2
  refine fl_seq (fun Q16 hn16 hp16 => ?_)
  refine rg_plain_seq (n := 41) (rs := []) (own0 := own15) (K := [])
      (bs := [0, 1])
      (ds := [⟨[], [0], [], Fct.val 7 (.pointer none)⟩,
      ⟨[0], [], [], Fct.val 8 (.bool true)⟩]) (by kernel_rfl) hz15 hd15 (fun _ h => nomatch h) ?_ ?_
  · refine steps_cons (fun own a wx hf hsl hE => ?_) ?_
    · obtain ⟨s_0, -⟩ := hsl
      exact sg_plain rfl rfl (or_move (s_0.trans e15_0))
    refine steps_cons (fun own a wx hf hsl hE => ?_) ?_
    · obtain ⟨(f_7 : a.eval (.tmp 7) = .pointer none), -⟩ := hf
      exact sg_plain rfl rfl (or_k [(7, .pointer none)] rfl rfl ⟨f_7, trivial⟩ (by kernel_rfl))
    exact steps_nil
  intro own17 a17 w17 hd17 hz17 hk17 hf17 hE17
  have e17_0 : a17.eval (.tmp 0) = .pointer none := (hk17 0 rfl).trans e15_0
  have e17_1 : a17.eval (.tmp 1) = .slice Al2 l2.length cl2 := (hk17 1 rfl).trans e15_1
  obtain ⟨(f_8 : a17.eval (.tmp 8) = .bool true), -⟩ := hf17 [1] rfl
  have e17_8 := f_8
  have hX17 := Evo.step hX15 (fun _ => Nat.le_refl 0) hE17 rfl
  have b17_Al2 := RdO.evo rfl hE17 b15_Al2
  refine fl_t e17_8 ?_
  refine rg_plain_seq (n := 41) (rs := []) (own0 := own17) (K := [])
      (bs := [0])
      (ds := [⟨[], [], [], Fct.val 4 (.int .i64 0)⟩]) (by kernel_rfl) hz17 hd17 (fun _ h => nomatch h) ?_ ?_
  · refine steps_cons (fun own a wx hf hsl hE => ?_) ?_
    · exact sg_plain rfl rfl (or_assign rfl)
    exact steps_nil
  intro own18 a18 w18 hd18 hz18 hk18 hf18 hE18
  obtain ⟨(f_4 : a18.eval (.tmp 4) = .int .i64 0), -⟩ := hf18 [0] rfl
  have e18_4 := f_4
  have hX18 := Evo.step hX17 (fun _ => Nat.le_refl 0) hE18 rfl
  refine fl_ret ?_
  refine hp16 _ _ _ rfl ?_
  obtain rfl := osome hs
  exact hret _ _ _ _ (.inl rfl) hd18 (results1_ rfl (RVal.tmp_ e18_4)) ⟨own18, rfl, hX18⟩

theorem heap_Heap_Push_w (w : World) (own : Own) (h1 : ((List (Int × Int × Int)))) (gh1 : Nat) (th1 : TypeId) (Ah1_0 : Option Addr) (ch1_0 : Nat) (l2 : List (Int × Int × Int)) (Al2 : Option Addr) (cl2 : Nat) (hown : ∀ b, own b ≤ 2) (hgh1 : BlkO own 1 w gh1 th1 #[.slice Ah1_0 h1.length ch1_0]) (hAh1_0 : RwO own 2 [] w 30 R30 Ah1_0 ch1_0 h1) (hl2 : RdO own [0] w R30 Al2 cl2 l2) (r : Int × (((List (Int × Int × Int))))) (hs : heap_Heap_Push h1 l2 = some r) :
    Calls Try.prog 6 #[.pointer (some ⟨gh1, 0, none⟩), .slice Al2 l2.length cl2] w fun e w' => ∃ (own' : Own) (x : Option Addr × Nat), e = .returned (.int .i64 r.1) ∧ Evo [1, 2] own own' w w' ∧ RwO own' 2 [] w' 30 R30 x.1 x.2 r.2 ∧ BlkO own' 1 w' gh1 th1 #[.slice x.1 r.2.length x.2] := by
  refine fl_enter (n := 41) rfl rfl rfl (Nat.le_of_ble_eq_true rfl) ?_
  intro a0 Q hd0 hz0 harg hret
  have ha0 := harg 0 _ rfl
  have ha1 := harg 1 _ rfl
  clear harg
  have hE0 : Evo [1, 2] own own w w := Evo.refl _ _ _
  refine rg_plain_seq (n := 41) (rs := []) (own0 := own) (K := [])
      (bs := [0])
      (ds := [⟨[], [], [], Fct.val 4 (.int .i64 0)⟩]) (by kernel_rfl) hz0 hd0 (fun _ h => nomatch h) ?_ ?_
  · refine steps_cons (fun own a wx hf hsl hE => ?_) ?_
    · exact sg_plain rfl rfl (or_assign rfl)
    exact steps_nil
  intro own130 a130 w130 hd130 hz130 hk130 hf130 hE130
  have e130_0 : a130.eval (.tmp 0) = .pointer (some ⟨gh1, 0, none⟩) := (hk130 0 rfl).trans ha0
  have e130_1 : a130.eval (.tmp 1) = .slice Al2 l2.length cl2 := (hk130 1 rfl).trans ha1
  have hX130 := Evo.step hE0 hown hE130 rfl
  have b130_Ah1_0 := RwO.evo rfl hE130 hAh1_0
  have b130_gh1 := BlkO.evo (by decide) hE130 hgh1
  have b130_Al2 := RdO.evo rfl hE130 hl2
  refine fl_seq (fun Q131 hn131 hp131 => ?_)
  refine rg_plain_seq (n := 41) (rs := []) (own0 := own130) (K := [])
      (bs := [0, 1])
      (ds := [⟨[], [0], [], Fct.val 7 (.pointer (some ⟨gh1, 0, none⟩))⟩,
      ⟨[0], [], [], Fct.val 8 (.bool false)⟩]) (by kernel_rfl) hz130 hd130 (fun _ h => nomatch h) ?_ ?_
  · refine steps_cons (fun own a wx hf hsl hE => ?_) ?_
    · obtain ⟨s_0, -⟩ := hsl
      exact sg_plain rfl rfl (or_move (s_0.trans e130_0))
    refine steps_cons (fun own a wx hf hsl hE => ?_) ?_
    · obtain ⟨(f_7 : a.eval (.tmp 7) = .pointer (some ⟨gh1, 0, none⟩)), -⟩ := hf
      exact sg_plain rfl rfl (or_k [(7, .pointer (some ⟨gh1, 0, none⟩))] rfl rfl ⟨f_7, trivial⟩ (by kernel_rfl))
    exact steps_nil
  intro own132 a132 w132 hd132 hz132 hk132 hf132 hE132
  have e132_0 : a132.eval (.tmp 0) = .pointer (some ⟨gh1, 0, none⟩) := (hk132 0 rfl).trans e130_0
  have e132_1 : a132.eval (.tmp 1) = .slice Al2 l2.length cl2 := (hk132 1 rfl).trans e130_1
  obtain ⟨(f_8 : a132.eval (.tmp 8) = .bool false), -⟩ := hf132 [1] rfl
  have e132_8 := f_8
  have hX132 := Evo.step hX130 hown hE132 rfl
  have b132_Ah1_0 := RwO.evo rfl hE132 b130_Ah1_0
  have b132_gh1 := BlkO.evo (by decide) hE132 b130_gh1
  have b132_Al2 := RdO.evo rfl hE132 b130_Al2
  refine fl_f e132_8 ?_
  refine fl_skip ?_
  refine hn131 _ _ ?_
  refine fl_seq (fun Q133 hn133 hp133 => ?_)
  refine rg_plain_seq (n := 41) (rs := []) (own0 := own132) (K := [])
      (bs := [0, 1, 0])
      (ds := [⟨[], [1], [], Fct.val 9 (.slice Al2 l2.length cl2)⟩,
      ⟨[0], [], [], Fct.val 10 (.int .i64 (l2.length : Int))⟩,
      ⟨[], [], [], Fct.val 11 (.int .i64 0)⟩]) (by kernel_rfl) hz132 hd132 (fun _ h => nomatch h) ?_ ?_
  · refine steps_cons (fun own a wx hf hsl hE => ?_) ?_
    · obtain ⟨s_1, -⟩ := hsl
      exact sg_plain rfl rfl (or_move (s_1.trans e132_1))
    refine steps_cons (fun own a wx hf hsl hE => ?_) ?_
    · obtain ⟨(f_9 : a.eval (.tmp 9) = .slice Al2 l2.length cl2), -⟩ := hf
      exact sg_plain rfl rfl (or_len tu22 f_9 rfl)
    refine steps_cons (fun own a wx hf hsl hE => ?_) ?_
    · exact sg_plain rfl rfl (or_move rfl)
    exact steps_nil
  intro own134 a134 w134 hd134 hz134 hk134 hf134 hE134
  have e134_0 : a134.eval (.tmp 0) = .pointer (some ⟨gh1, 0, none⟩) := (hk134 0 rfl).trans e132_0
  obtain ⟨(f_9 : a134.eval (.tmp 9) = .slice Al2 l2.length cl2), (f_10 : a134.eval (.tmp 10) = .int .i64 (l2.length : Int)), (f_11 : a134.eval (.tmp 11) = .int .i64 0), -⟩ := hf134 [0, 1, 2] rfl
  have e134_9 := f_9
  have e134_10 := f_10
  have e134_11 := f_11
  have hX134 := Evo.step hX132 hown hE134 rfl
  have b134_Ah1_0 := RwO.evo rfl hE134 b132_Ah1_0
  have b134_gh1 := BlkO.evo (by decide) hE134 b132_gh1
  have b134_Al2 := RdO.evo rfl hE134 b132_Al2
  refine fl_block (fun Q135 hn135 hx135 hp135 => ?_)
  refine fl_loop (body := (fun s => heap_Heap_Push_b1 l2 s.1 s.2)) (z := r) (show loopO _ _ = _ from hs) (fun (s : (List (Int × Int × Int)) × Int) a wx => match s with | (h173, x175) => ∃ (ox : Own) (A171 : Option Addr) (c172 : Nat), a.defers = [] ∧ a.tmps.size = 41 ∧ a.eval (.tmp 0) = .pointer (some ⟨gh1, 0, none⟩) ∧ a.eval (.tmp 9) = .slice Al2 l2.length cl2 ∧ a.eval (.tmp 10) = .int .i64 (l2.length : Int) ∧ a.eval (.tmp 11) = .int .i64 x175 ∧ Evo [1, 2] own ox w wx ∧ BlkO ox 170 wx gh1 th1 #[.slice A171 h173.length c172] ∧ RwO ox 174 [] wx 30 R30 A171 c172 h173 ∧ RdO ox [0] wx R30 Al2 cl2 l2) ?_ ?_
  · exact ⟨(rl [(1, 170), (2, 174)] own134), Ah1_0, ch1_0, hd134, hz134, e134_0, e134_9, e134_10, e134_11, (Evo.rl_ hX134 hown rfl), (BlkO.rl_ (mm := [(1, 170), (2, 174)]) b134_gh1), (RwO.rl_ (mm := [(1, 170), (2, 174)]) b134_Ah1_0), (RdO.rl_ (mm := [(1, 170), (2, 174)]) b134_Al2)⟩
  · rintro ⟨h173, x175⟩ zz210 a210 w210 ⟨own210, A171, c172, hd211, hz211, e211_0, e211_9, e211_10, e211_11, hE211, b211_gh1, b211_A171, b211_Al2⟩ hs Q210 hn210 hp210 hz210
    have hs : heap_Heap_Push_b1 l2 h173 x175 = some zz210 := hs
    refine rg_plain_seq (n := 41) (rs := []) (own0 := own210) (K := [])
        (bs := [0])
        (ds := [⟨[], [11, 10], [], Fct.val 12 (.bool (decide (x175 < (l2.length : Int))))⟩]) (by kernel_rfl) hz211 hd211 (fun _ h => nomatch h) ?_ ?_
    · refine steps_cons (fun own a wx hf hsl hE => ?_) ?_
      · obtain ⟨s_11, s_10, -⟩ := hsl
        exact sg_plain rfl rfl (or_lss (s_11.trans e211_11) (s_10.trans e211_10) rfl)
      exact steps_nil
    intro own212 a212 w212 hd212 hz212 hk212 hf212 hE212
    have e212_0 : a212.eval (.tmp 0) = .pointer (some ⟨gh1, 0, none⟩) := (hk212 0 rfl).trans e211_0
    have e212_9 : a212.eval (.tmp 9) = .slice Al2 l2.length cl2 := (hk212 9 rfl).trans e211_9
    have e212_10 : a212.eval (.tmp 10) = .int .i64 (l2.length : Int) := (hk212 10 rfl).trans e211_10
    have e212_11 : a212.eval (.tmp 11) = .int .i64 x175 := (hk212 11 rfl).trans e211_11
    obtain ⟨(f_12 : a212.eval (.tmp 12) = .bool (decide (x175 < (l2.length : Int)))), -⟩ := hf212 [0] rfl
    have e212_12 := f_12
    have hX212 := Evo.step hE211 hown hE212 rfl
    have b212_gh1 := BlkO.evo (by decide) hE212 b211_gh1
    have b212_A171 := RwO.evo rfl hE212 b211_A171
    have b212_Al2 := RdO.evo rfl hE212 b211_Al2
    refine fl_seq (fun Q213 hn213 hp213 => ?_)
    refine fl_cond e212_12 hs (fun c214 hs => ?_) (fun c214 hs => ?_)
    · refine fl_skip ?_
      refine hn213 _ _ ?_
      refine fl_seq (fun Q215 hn215 hp215 => ?_)
      refine fl_block (fun Q216 hn216 hx216 hp216 => ?_)
      obtain ⟨x217, hx217, hs⟩ := obind hs
      refine rg_plain_seq (n := 41) (rs := []) (own0 := own212) (K := [219])
          (bs := [0, 1, 0, 7])
          (ds := [⟨[], [9, 11], [], Fct.val 13 (.pointer (some ((adr Al2).add ((x175 : Int).toNat * R30.s))))⟩,
          ⟨[0], [], [], Fct.val 14 (.agg #[.int .i64 x217.1, .int .i64 x217.2.1, .int .i64 x217.2.2])⟩,
          ⟨[], [], [], Fct.blk 219 6 (fun g => .pointer (some ⟨g, 0, none⟩)) 30 #[.int .i64 0, .int .i64 0, .int .i64 0]⟩,
          ⟨[2, 1], [], [219], Fct.blk 220 6 (fun g => .pointer (some ⟨g, 0, none⟩)) 30 #[.int .i64 x217.1, .int .i64 x217.2.1, .int .i64 x217.2.2]⟩]) (by kernel_rfl) hz212 hd212 (fun _ h => nomatch h) ?_ ?_
      · refine steps_cons (fun own a wx hf hsl hE => ?_) ?_
        · obtain ⟨s_9, s_11, -⟩ := hsl
          exact sg_plain rfl rfl (or_index (R := R30) (l := l2) tl22 (s_9.trans e212_9) (s_11.trans e212_11) (RdO.some_ b212_Al2 hx217) hx217)
        refine steps_cons (fun own a wx hf hsl hE => ?_) ?_
        · obtain ⟨(f_13 : a.eval (.tmp 13) = .pointer (some ((adr Al2).add ((x175 : Int).toNat * R30.s)))), -⟩ := hf
          exact sg_plain rfl rfl (or_load (l := E30.f x217) ta30 f_13 (RdO.cells (F := E30) (RdO.evo rfl hE b212_Al2) hx217) rfl)
        refine steps_cons (fun own a wx hf hsl hE => ?_) ?_
        · exact sg_plain rfl rfl (or_new [] rfl rfl trivial (by kernel_rfl))
        refine steps_cons (fun own a wx hf hsl hE => ?_) ?_
        · obtain ⟨⟨g218, (f_6 : a.eval (.tmp 6) = .pointer (some ⟨g218, 0, none⟩)), (b_g218 : BlkO own 219 wx g218 30 #[.int .i64 0, .int .i64 0, .int .i64 0])⟩, (f_14 : a.eval (.tmp 14) = .agg #[.int .i64 x217.1, .int .i64 x217.2.1, .int .i64 x217.2.2]), -⟩ := hf
          exact sg_plain rfl rfl (or_store (l := #[.int .i64 x217.1, .int .i64 x217.2.1, .int .i64 x217.2.2]) (lab := 219) (lab2 := 220) ts30 f_6 f_14 b_g218 (by simp) (by kernel_rfl) (mem_of rfl) (by decide) (by kernel_rfl) (fun own' a' w' ha hb => ⟨_, (ha 6).trans f_6, hb⟩))
        exact steps_nil
      intro own221 a221 w221 hd221 hz221 hk221 hf221 hE221
      have e221_0 : a221.eval (.tmp 0) = .pointer (some ⟨gh1, 0, none⟩) := (hk221 0 rfl).trans e212_0
      have e221_9 : a221.eval (.tmp 9) = .slice Al2 l2.length cl2 := (hk221 9 rfl).trans e212_9
      have e221_10 : a221.eval (.tmp 10) = .int .i64 (l2.length : Int) := (hk221 10 rfl).trans e212_10
      have e221_11 : a221.eval (.tmp 11) = .int .i64 x175 := (hk221 11 rfl).trans e212_11
      obtain ⟨⟨g218, (f_6 : a221.eval (.tmp 6) = .pointer (some ⟨g218, 0, none⟩)), (b_g218 : BlkO own221 220 w221 g218 30 #[.int .i64 x217.1, .int .i64 x217.2.1, .int .i64 x217.2.2])⟩, -⟩ := hf221 [3] rfl
      have e221_6 := f_6
      have hX221 := Evo.step hX212 hown hE221 rfl
      have b221_gh1 := BlkO.evo (by decide) hE221 b212_gh1
      have b221_A171 := RwO.evo rfl hE221 b212_A171
      have b221_Al2 := RdO.evo rfl hE221 b212_Al2
      have b221_g218 := b_g218
      obtain ⟨x231, hx231, hs⟩ := obind hs
      refine rg_draw_seq g_mixed (n := 41) (rs := [Fct.rowAt 174 [] 30 R30 A171 c172 h173, Fct.at_ 170 gh1 th1 #[.slice A171 h173.length c172]]) (own0 := own221) (K := [174, 170])
          (bs := [0, 0, 2, 6, 14, 30, 0, 64, 254, 511, 1023, 2047, 4095])
          (ds := [⟨[], [0], [], Fct.val 15 (.pointer (some ⟨gh1, 0, none⟩))⟩,
          ⟨[], [0], [], Fct.val 16 (.pointer (some ⟨gh1, 0, none⟩))⟩,
          ⟨[1], [], [], Fct.val 17 (.pointer (some ⟨gh1, 0, none⟩))⟩,
          ⟨[2], [], [], Fct.val 18 (.pointer (some ⟨gh1, 0, none⟩))⟩,
          ⟨[3], [], [], Fct.val 19 (.pointer (some ⟨gh1, 0, none⟩))⟩,
          ⟨[4, 14], [], [], Fct.val 20 (.slice A171 h173.length c172)⟩,
          ⟨[], [6], [], Fct.val 21 (.agg #[.int .i64 x217.1, .int .i64 x217.2.1, .int .i64 x217.2.2])⟩,
          ⟨[6], [], [], Fct.row 230 [] 22 30 R30 [x217]⟩,
          ⟨[5, 7, 13], [], [174], Fct.row 232 [] 23 30 R30 x231⟩,
          ⟨[0], [], [], Fct.val 24 (.pointer (some ⟨gh1, 0, none⟩))⟩,
          ⟨[9], [], [], Fct.val 25 (.pointer (some ⟨gh1, 0, none⟩))⟩,
          ⟨[10], [], [], Fct.val 26 (.pointer (some ⟨gh1, 0, none⟩))⟩,
          ⟨[11, 8, 14], [], [170], Fct.by_ [234] [23] (fun l own w => ∀ (A233 : Option Addr) (cA233 : Nat), l.getD 0 undef = .slice A233 x231.length cA233 → BlkO own 234 w gh1 th1 #[.slice A233 x231.length cA233]) (fun hk he h _ _ h0' => BlkO.evo (not_hit hk (by decide)) he (h _ _ h0'))⟩]) (by kernel_rfl) hz221 hd221 (by simp only [List.forall_mem_cons]; exact ⟨b221_A171, b221_gh1, fun _ h => nomatch h⟩) ?_ ?_
      · refine steps_cons (fun own a wx hf hsl hE => ?_) ?_
        · obtain ⟨s_0, -⟩ := hsl
          exact sg_plain rfl rfl (or_move (s_0.trans e221_0))
        refine steps_cons (fun own a wx hf hsl hE => ?_) ?_
        · obtain ⟨s_0, -⟩ := hsl
          exact sg_plain rfl rfl (or_move (s_0.trans e221_0))
        refine steps_cons (fun own a wx hf hsl hE => ?_) ?_
        · obtain ⟨(f_16 : a.eval (.tmp 16) = .pointer (some ⟨gh1, 0, none⟩)), -⟩ := hf
          exact sg_plain rfl rfl (or_k [(16, .pointer (some ⟨gh1, 0, none⟩))] rfl rfl ⟨f_16, trivial⟩ (by kernel_rfl))
        refine steps_cons (fun own a wx hf hsl hE => ?_) ?_
        · obtain ⟨(f_17 : a.eval (.tmp 17) = .pointer (some ⟨gh1, 0, none⟩)), -⟩ := hf
          exact sg_plain rfl rfl (or_field fo26_0 f_17 (by rfl))
        refine steps_cons (fun own a wx hf hsl hE => ?_) ?_
        · obtain ⟨(f_18 : a.eval (.tmp 18) = .pointer (some ⟨gh1, 0, none⟩)), -⟩ := hf
          exact sg_plain rfl rfl (or_field fo24_0 f_18 (by rfl))
        refine steps_cons (fun own a wx hf hsl hE => ?_) ?_
        · obtain ⟨(f_19 : a.eval (.tmp 19) = .pointer (some ⟨gh1, 0, none⟩)), (b_gh1 : BlkO own 170 wx gh1 th1 #[.slice A171 h173.length c172]), -⟩ := hf
          exact sg_plain rfl rfl (or_load1 to22 f_19 (Blk.at_ b_gh1.2 0 rfl))
        refine steps_cons (fun own a wx hf hsl hE => ?_) ?_
        · obtain ⟨s_6, -⟩ := hsl
          exact sg_plain rfl rfl (or_load (l := [.int .i64 x217.1, .int .i64 x217.2.1, .int .i64 x217.2.2]) ta30 (s_6.trans e221_6) (Blk.cellsFrom (BlkO.evo (by decide) hE b221_g218).2 0 rfl) rfl)
        refine steps_cons (fun own a wx hf hsl hE => ?_) ?_
        · obtain ⟨(f_21 : a.eval (.tmp 21) = .agg #[.int .i64 x217.1, .int .i64 x217.2.1, .int .i64 x217.2.2]), -⟩ := hf
          exact sg_plain rfl rfl (or_lit (lab := 230) (e := 30) (cs := #[.int .i64 x217.1, .int .i64 x217.2.1, .int .i64 x217.2.2]) (F := E30) (or_new [(21, .agg #[.int .i64 x217.1, .int .i64 x217.2.1, .int .i64 x217.2.2])] rfl rfl ⟨f_21, trivial⟩ (by kernel_rfl)) rfl rfl (show 1 ≤ maxLen by decide))
        refine steps_cons (fun own a wx hf hsl hE => ?_) ?_
        · obtain ⟨(f_20 : a.eval (.tmp 20) = .slice A171 h173.length c172), ⟨⟨A229, cA229⟩, (f_22 : a.eval (.tmp 22) = .slice A229 [x217].length cA229), (b_A229 : RwO own 230 [] wx 30 R30 A229 cA229 [x217])⟩, (b_A171 : RwO own 174 [] wx 30 R30 A171 c172 h173), -⟩ := hf
          exact sg_plain rfl rfl (or_append (R := R30) (lab := 174) (lab2 := 232) (L := []) (L3 := []) tp22 f_20 b_A171 (by decide) f_22 (RwO.rd b_A229) hx231 (by decide) (by decide) (mem_of rfl) (.inl (Rep.fl_flat _)))
        refine steps_cons (fun own a wx hf hsl hE => ?_) ?_
        · obtain ⟨(f_15 : a.eval (.tmp 15) = .pointer (some ⟨gh1, 0, none⟩)), -⟩ := hf
          exact sg_plain rfl rfl (or_k [(15, .pointer (some ⟨gh1, 0, none⟩))] rfl rfl ⟨f_15, trivial⟩ (by kernel_rfl))
        refine steps_cons (fun own a wx hf hsl hE => ?_) ?_
        · obtain ⟨(f_24 : a.eval (.tmp 24) = .pointer (some ⟨gh1, 0, none⟩)), -⟩ := hf
          exact sg_plain rfl rfl (or_field fo26_0 f_24 (by rfl))
        refine steps_cons (fun own a wx hf hsl hE => ?_) ?_
        · obtain ⟨(f_25 : a.eval (.tmp 25) = .pointer (some ⟨gh1, 0, none⟩)), -⟩ := hf
          exact sg_plain rfl rfl (or_field fo24_0 f_25 (by rfl))
        refine steps_cons (fun own a wx hf hsl hE => ?_) ?_
        · obtain ⟨(f_26 : a.eval (.tmp 26) = .pointer (some ⟨gh1, 0, none⟩)), ⟨⟨A233, cA233⟩, (f_23 : a.eval (.tmp 23) = .slice A233 x231.length cA233), (b_A233 : RwO own 232 [] wx 30 R30 A233 cA233 x231)⟩, (b_gh1 : BlkO own 170 wx gh1 th1 #[.slice A171 h173.length c172]), -⟩ := hf
          exact sg_plain rfl rfl (or_store1 (lab := 170) (lab2 := 234) ts22 f_26 f_23 b_gh1 (by simp) rfl (mem_of rfl) (by decide) rfl (fun own' a' w' ha hb => fun _ _ h0' => by cases (f_23.symm.trans ((ha 23).symm.trans h0')); exact hb))
        exact steps_nil
      intro own235 a235 w235 hd235 hz235 hk235 hf235 hE235
      have e235_0 : a235.eval (.tmp 0) = .pointer (some ⟨gh1, 0, none⟩) := (hk235 0 rfl).trans e221_0
      have e235_9 : a235.eval (.tmp 9) = .slice Al2 l2.length cl2 := (hk235 9 rfl).trans e221_9
      have e235_10 : a235.eval (.tmp 10) = .int .i64 (l2.length : Int) := (hk235 10 rfl).trans e221_10
      have e235_11 : a235.eval (.tmp 11) = .int .i64 x175 := (hk235 11 rfl).trans e221_11
      obtain ⟨⟨⟨A233, cA233⟩, (f_23 : a235.eval (.tmp 23) = .slice A233 x231.length cA233), (b_A233 : RwO own235 232 [] w235 30 R30 A233 cA233 x231)⟩, (bq_gh1 : ∀ (A233 : Option Addr) (cA233 : Nat), a235.eval (.tmp 23) = .slice A233 x231.length cA233 → BlkO own235 234 w235 gh1 th1 #[.slice A233 x231.length cA233]), -⟩ := hf235 [8, 12] rfl
      have b_gh1 := bq_gh1 _ _ f_23
      have hX235 := Evo.step hX221 hown hE235 rfl
      have b235_Al2 := RdO.evo rfl hE235 b221_Al2
      have b235_gh1 := b_gh1
      have b235_A233 := b_A233
      obtain ⟨r238, hr238, hs⟩ := obind hs
      obtain ⟨r239, hr239, hs⟩ := obind hs
      refine rg_draw g_mixed (n := 41) (rs := [Fct.at_ 234 gh1 th1 #[.slice A233 x231.length cA233], Fct.rowAt 232 [] 30 R30 A233 cA233 x231]) (own0 := own235) (K := [234, 232])
          (bs := [0, 1, 3, 0, 8, 24, 56, 120, 255])
          (ds := [⟨[], [0], [], Fct.val 27 (.pointer (some ⟨gh1, 0, none⟩))⟩,
          ⟨[0], [], [], Fct.val 28 (.pointer (some ⟨gh1, 0, none⟩))⟩,
          ⟨[1], [], [], Fct.val 29 (.pointer (some ⟨gh1, 0, none⟩))⟩,
          ⟨[], [0], [], Fct.val 30 (.pointer (some ⟨gh1, 0, none⟩))⟩,
          ⟨[3], [], [], Fct.val 31 (.pointer (some ⟨gh1, 0, none⟩))⟩,
          ⟨[4], [], [], Fct.val 32 (.pointer (some ⟨gh1, 0, none⟩))⟩,
          ⟨[5, 9, 10], [], [], Fct.val 33 (.int .i64 r238)⟩,
          ⟨[6], [], [], Fct.val 34 (.int .i64 (sb r238 1))⟩,
          ⟨[2, 7, 9, 10], [], [234, 232], Fct.mems [241, 242] 35 (fun (x : Option Addr × Nat) => .tuple #[]) (fun (x : Option Addr × Nat) own w => RwO own 241 [] w 30 R30 x.1 x.2 r239 ∧ BlkO own 242 w gh1 th1 #[.slice x.1 r239.length x.2]) (fun hk he h => ⟨RwO.evo (hits_sub hk (by decide)) he h.1, BlkO.evo (not_hit hk (by decide)) he h.2⟩)⟩]) (by kernel_rfl) hz235 hd235 (by simp only [List.forall_mem_cons]; exact ⟨b235_gh1, b235_A233, fun _ h => nomatch h⟩) ?_ ?_
      · refine steps_cons (fun own a wx hf hsl hE => ?_) ?_
        · obtain ⟨s_0, -⟩ := hsl
          exact sg_plain rfl rfl (or_move (s_0.trans e235_0))
        refine steps_cons (fun own a wx hf hsl hE => ?_) ?_
        · obtain ⟨(f_27 : a.eval (.tmp 27) = .pointer (some ⟨gh1, 0, none⟩)), -⟩ := hf
          exact sg_plain rfl rfl (or_k [(27, .pointer (some ⟨gh1, 0, none⟩))] rfl rfl ⟨f_27, trivial⟩ (by kernel_rfl))
        refine steps_cons (fun own a wx hf hsl hE => ?_) ?_
        · obtain ⟨(f_28 : a.eval (.tmp 28) = .pointer (some ⟨gh1, 0, none⟩)), -⟩ := hf
          exact sg_plain rfl rfl (or_field fo26_0 f_28 (by rfl))
        refine steps_cons (fun own a wx hf hsl hE => ?_) ?_
        · obtain ⟨s_0, -⟩ := hsl
          exact sg_plain rfl rfl (or_move (s_0.trans e235_0))
        refine steps_cons (fun own a wx hf hsl hE => ?_) ?_
        · obtain ⟨(f_30 : a.eval (.tmp 30) = .pointer (some ⟨gh1, 0, none⟩)), -⟩ := hf
          exact sg_plain rfl rfl (or_k [(30, .pointer (some ⟨gh1, 0, none⟩))] rfl rfl ⟨f_30, trivial⟩ (by kernel_rfl))
        refine steps_cons (fun own a wx hf hsl hE => ?_) ?_
        · obtain ⟨(f_31 : a.eval (.tmp 31) = .pointer (some ⟨gh1, 0, none⟩)), -⟩ := hf
          exact sg_plain rfl rfl (or_field fo26_0 f_31 (by rfl))
        refine steps_cons (fun own a wx hf hsl hE => ?_) ?_
        · obtain ⟨(f_32 : a.eval (.tmp 32) = .pointer (some ⟨gh1, 0, none⟩)), (b_gh1 : BlkO own 234 wx gh1 th1 #[.slice A233 x231.length cA233]), (b_A233 : RwO own 232 [] wx 30 R30 A233 cA233 x231), -⟩ := hf
          exact sg_plain rfl rfl (or_call cf20 (args1 f_32) (heap_list_count_w _ x231 gh1 th1 A233 cA233 (BlkO.zero_ b_gh1) (RdO.zero (RwO.rd b_A233)) r238 hr238) post_val)
        refine steps_cons (fun own a wx hf hsl hE => ?_) ?_
        · obtain ⟨(f_33 : a.eval (.tmp 33) = .int .i64 r238), -⟩ := hf
          exact sg_plain rfl rfl (or_sub f_33 rfl rfl)
        refine steps_cons (fun own a wx hf hsl hE => ?_) ?_
        · obtain ⟨(f_29 : a.eval (.tmp 29) = .pointer (some ⟨gh1, 0, none⟩)), (f_34 : a.eval (.tmp 34) = .int .i64 (sb r238 1)), (b_gh1 : BlkO own 234 wx gh1 th1 #[.slice A233 x231.length cA233]), (b_A233 : RwO own 232 [] wx 30 R30 A233 cA233 x231), -⟩ := hf
          exact sg_plain rfl rfl (or_call cf19 (args2 f_29 f_34) (heap_list_rise_w _ (forth own (look0 [(232, 2), (234, 1)])) x231 gh1 th1 A233 cA233 (sb r238 1) (look0_le rfl) (BlkO.forth_ (m := (look0 [(232, 2), (234, 1)])) b_gh1) (RwO.forth_ (m := (look0 [(232, 2), (234, 1)])) b_A233) r239 hr239) (post_mems (m := (look0 [(232, 2), (234, 1)])) (m' := (look0 [(1, 242), (2, 241)])) (hm_of rfl) (fun own' w' a' x h1 h => ⟨x, h1, ⟨RwO.back_ h.1 (by decide) (.inl (Rep.fl_flat _)), BlkO.back_ h.2 (by decide)⟩⟩)))
        exact steps_nil
      intro own243 a243 w243 hd243 hz243 hk243 hf243 hE243
      have e243_0 : a243.eval (.tmp 0) = .pointer (some ⟨gh1, 0, none⟩) := (hk243 0 rfl).trans e235_0
      have e243_9 : a243.eval (.tmp 9) = .slice Al2 l2.length cl2 := (hk243 9 rfl).trans e235_9
      have e243_10 : a243.eval (.tmp 10) = .int .i64 (l2.length : Int) := (hk243 10 rfl).trans e235_10
      have e243_11 : a243.eval (.tmp 11) = .int .i64 x175 := (hk243 11 rfl).trans e235_11
      obtain ⟨⟨⟨A240, cA240⟩, (f_35 : a243.eval (.tmp 35) = .tuple #[]), (b_A240 : RwO own243 241 [] w243 30 R30 A240 cA240 r239), (b_gh1 : BlkO own243 242 w243 gh1 th1 #[.slice A240 r239.length cA240])⟩, -⟩ := hf243 [8] rfl
      have hX243 := Evo.step hX235 hown hE243 rfl
      have b243_Al2 := RdO.evo rfl hE243 b235_Al2
      have b243_gh1 := b_gh1
      have b243_A240 := b_A240
      refine hn216 _ _ ?_
      refine hn215 _ _ ?_
      refine rg_plain (n := 41) (rs := []) (own0 := own243) (K := [])
          (bs := [0, 1])
          (ds := [⟨[], [11], [], Fct.val 36 (.int .i64 (ad x175 1))⟩,
          ⟨[0], [], [], Fct.val 11 (.int .i64 (ad x175 1))⟩]) (by kernel_rfl) hz243 hd243 (fun _ h => nomatch h) ?_ ?_
      · refine steps_cons (fun own a wx hf hsl hE => ?_) ?_
        · obtain ⟨s_11, -⟩ := hsl
          exact sg_plain rfl rfl (or_add (s_11.trans e243_11) rfl rfl)
        refine steps_cons (fun own a wx hf hsl hE => ?_) ?_
        · obtain ⟨(f_36 : a.eval (.tmp 36) = .int .i64 (ad x175 1)), -⟩ := hf
          exact sg_plain rfl rfl (or_move f_36)
        exact steps_nil
      intro own244 a244 w244 hd244 hz244 hk244 hf244 hE244
      have e244_0 : a244.eval (.tmp 0) = .pointer (some ⟨gh1, 0, none⟩) := (hk244 0 rfl).trans e243_0
      have e244_9 : a244.eval (.tmp 9) = .slice Al2 l2.length cl2 := (hk244 9 rfl).trans e243_9
      have e244_10 : a244.eval (.tmp 10) = .int .i64 (l2.length : Int) := (hk244 10 rfl).trans e243_10
      obtain ⟨(f_11 : a244.eval (.tmp 11) = .int .i64 (ad x175 1)), -⟩ := hf244 [1] rfl
      have e244_11 := f_11
      have hX244 := Evo.step hX243 hown hE244 rfl
      have b244_Al2 := RdO.evo rfl hE244 b243_Al2
      have b244_gh1 := BlkO.evo (by decide) hE244 b243_gh1
      have b244_A240 := RwO.evo rfl hE244 b243_A240
      exact hn210 _ _ _ hs ⟨(rl [(241, 174), (242, 170)] own244), A240, cA240, hd244, hz244, e244_0, e244_9, e244_10, e244_11, (Evo.rl_ hX244 hown rfl), (BlkO.rl_ (mm := [(241, 174), (242, 170)]) b244_gh1), (RwO.rl_ (mm := [(241, 174), (242, 170)]) b244_A240), (RdO.rl_ (mm := [(241, 174), (242, 170)]) b244_Al2)⟩
    refine fl_exit ?_
    refine hp213 _ _ _ rfl ?_
    replace hs := hz210 _ hs
    refine hp210 _ _ _ rfl ?_
    refine hx135 _ _ ?_
    refine hn133 _ _ ?_
    obtain ⟨r245, hr245, hs⟩ := obind hs
    refine rg_plain_seq (n := 41) (rs := []) (own0 := own212) (K := [])
        (bs := [0, 1, 3, 7, 15])
        (ds := [⟨[], [0], [], Fct.val 37 (.pointer (some ⟨gh1, 0, none⟩))⟩,
        ⟨[0], [], [], Fct.val 38 (.pointer (some ⟨gh1, 0, none⟩))⟩,
        ⟨[1], [], [], Fct.val 39 (.pointer (some ⟨gh1, 0, none⟩))⟩,
        ⟨[2], [], [], Fct.val 40 (.int .i64 r245)⟩,
        ⟨[3], [], [], Fct.val 4 (.int .i64 r245)⟩]) (by kernel_rfl) hz212 hd212 (fun _ h => nomatch h) ?_ ?_
    · refine steps_cons (fun own a wx hf hsl hE => ?_) ?_
      · obtain ⟨s_0, -⟩ := hsl
        exact sg_plain rfl rfl (or_move (s_0.trans e212_0))
      refine steps_cons (fun own a wx hf hsl hE => ?_) ?_
      · obtain ⟨(f_37 : a.eval (.tmp 37) = .pointer (some ⟨gh1, 0, none⟩)), -⟩ := hf
        exact sg_plain rfl rfl (or_k [(37, .pointer (some ⟨gh1, 0, none⟩))] rfl rfl ⟨f_37, trivial⟩ (by kernel_rfl))
      refine steps_cons (fun own a wx hf hsl hE => ?_) ?_
      · obtain ⟨(f_38 : a.eval (.tmp 38) = .pointer (some ⟨gh1, 0, none⟩)), -⟩ := hf
        exact sg_plain rfl rfl (or_field fo26_0 f_38 (by rfl))
      refine steps_cons (fun own a wx hf hsl hE => ?_) ?_
      · obtain ⟨(f_39 : a.eval (.tmp 39) = .pointer (some ⟨gh1, 0, none⟩)), -⟩ := hf
        exact sg_plain rfl rfl (or_call cf20 (args1 f_39) (heap_list_count_w _ h173 gh1 th1 A171 c172 (BlkO.zero_ (BlkO.evo (by decide) hE b212_gh1)) (RdO.zero (RwO.rd (RwO.evo rfl hE b212_A171))) r245 hr245) post_val)
      refine steps_cons (fun own a wx hf hsl hE => ?_) ?_
      · obtain ⟨(f_40 : a.eval (.tmp 40) = .int .i64 r245), -⟩ := hf
        exact sg_plain rfl rfl (or_assign f_40)
      exact steps_nil
    intro own246 a246 w246 hd246 hz246 hk246 hf246 hE246
    have e246_0 : a246.eval (.tmp 0) = .pointer (some ⟨gh1, 0, none⟩) := (hk246 0 rfl).trans e212_0
    obtain ⟨(f_4 : a246.eval (.tmp 4) = .int .i64 r245), -⟩ := hf246 [4] rfl
    have e246_4 := f_4
    have hX246 := Evo.step hX212 hown hE246 rfl
    have b246_gh1 := BlkO.evo (by decide) hE246 b212_gh1
    have b246_A171 := RwO.evo rfl hE246 b212_A171
    refine fl_ret ?_
    obtain rfl := osome hs
    exact hret _ _ _ _ (.inl rfl) hd246 (results1_ rfl (RVal.tmp_ e246_4)) ⟨(rl [(170, 1), (174, 2)] own246), (A171, c172), rfl, (Evo.rl_ hX246 hown rfl), (RwO.rl_ (mm := [(170, 1), (174, 2)]) b246_A171), (BlkO.rl_ (mm := [(170, 1), (174, 2)]) b246_gh1)⟩

end Go.Proofs.Ytoaplhnmmnejnaa
