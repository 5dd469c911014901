import Derived.Test.YtoccfdohlefifaaWp4
import Derived.Test.YtoccfdohlefifaaSp5
namespace Go.Proofs.Ytoccfdohlefifaa
open Go.RowKit
set_option linter.unusedVariables false
set_option maxRecDepth 10000
theorem law14_Cut_w (w : World) (own : Own) (l1 : List ((List (Int × Int)) × Int × Int)) (Al1 : Option Addr) (cl1 : Nat) (hown : ∀ b, own b ≤ 1) (hl1 : RdO own [1] w R63 Al1 cl1 l1) (r : List ((List (Int × Int)) × Int × Int)) (hs : law14_Cut l1 = some r) :
    Calls Try.prog 9 #[.slice Al1 l1.length cl1] w fun e w' => ∃ (own' : Own) (x : Option Addr × Nat), e = .returned (.slice x.1 r.length x.2) ∧ Evo [] own own' w w' ∧ RwO own' 2 [1, 3] w' 63 R63 x.1 x.2 r := by
  refine fl_enter (n := 33) rfl rfl rfl (Nat.le_of_ble_eq_true rfl) ?_
  intro a0 Q hd0 hz0 harg hret
  have ha0 := harg 0 _ rfl
  clear harg
  have hE0 : Evo [] own own w w := Evo.refl _ _ _
  refine rg0_seq 33 own (bz 1) [⟨[], [], [], Fct.val 2 (.slice none 0 0)⟩] hz0 hd0 (by kernel_rfl) ?_ ?_
  · refine sc (fun _ _ _ _ _ _ => px (or_assign rfl)) ?_
    exact steps_nil
  intro own108 a108 w108 hd108 hz108 hk108 hf108 hE108
  have e108_0 := (hk108 0 rfl).trans ha0
  have hX108 := Evo.step hE0 hown hE108 rfl
  have b108_Al1 := RdO.evo rfl hE108 hl1
  refine rg0_seq 33 own108 (bz 1) [⟨[], [], [], Fct.val 3 (.slice none 0 0)⟩] hz108 hd108 (by kernel_rfl) ?_ ?_
  · refine sc (fun _ _ _ _ _ _ => px (or_assign rfl)) ?_
    exact steps_nil
  intro own109 a109 w109 hd109 hz109 hk109 hf109 hE109
  have e109_0 := (hk109 0 rfl).trans e108_0
  obtain ⟨(e109_3 : a109.eval (.tmp 3) = .slice none 0 0), -⟩ := hf109 [0] rfl
  have hX109 := Evo.step hX108 hown hE109 rfl
  have b109_Al1 := RdO.evo rfl hE109 b108_Al1
  refine fl_seq (fun Q110 hn110 hp110 => ?_)
  refine rg0_seq 33 own109 (bz 1) [⟨[], [], [], Fct.val 4 (.int .i64 0)⟩] hz109 hd109 (by kernel_rfl) ?_ ?_
  · refine sc (fun _ _ _ _ _ _ => px (or_assign rfl)) ?_
    exact steps_nil
  intro own111 a111 w111 hd111 hz111 hk111 hf111 hE111
  have e111_0 := (hk111 0 rfl).trans e109_0
  have e111_3 := (hk111 3 rfl).trans e109_3
  obtain ⟨(e111_4 : a111.eval (.tmp 4) = .int .i64 0), -⟩ := hf111 [0] rfl
  have hX111 := Evo.step hX109 hown hE111 rfl
  have b111_Al1 := RdO.evo rfl hE111 b109_Al1
  refine fl_block (fun Q112 hn112 hx112 hp112 => ?_)
  refine fl_loop (body := (fun s => law14_Cut_b1 l1 s.1 s.2)) (z := r) (show loopO _ _ = _ from hs) (fun (s : (List ((List (Int × Int)) × Int × Int)) × Int) a wx => match s with | (out142, i145) => ∃ (ox : Own) (A140 : Option Addr) (c141 : Nat), a.defers = [] ∧ a.tmps.size = 33 ∧ a.eval (.tmp 0) = .slice Al1 l1.length cl1 ∧ a.eval (.tmp 3) = .slice A140 out142.length c141 ∧ a.eval (.tmp 4) = .int .i64 i145 ∧ Evo [] own ox w wx ∧ RdO ox [1] wx R63 Al1 cl1 l1 ∧ RwO ox 143 [1, 144] wx 63 R63 A140 c141 out142) ?_ ?_
  · exact ⟨own111, none, 0, hd111, hz111, e111_0, e111_3, e111_4, hX111, b111_Al1, RwO.nil_⟩
  · rintro ⟨out142, i145⟩ zz174 a174 w174 ⟨own174, A140, c141, hd175, hz175, e175_0, e175_3, e175_4, hE175, b175_Al1, b175_A140⟩ hs Q174 hn174 hp174 hz174
    have hs : law14_Cut_b1 l1 out142 i145 = some zz174 := hs
    refine fl_seq (fun Q176 hn176 hp176 => ?_)
    obtain ⟨x177, hx177, hs⟩ := obind hs
    refine rg0_seq 33 own174 [0, 0, 2, 7, 15, 31, 63, 127] [⟨[], [4], [], Fct.val 6 (.int .i64 i145)⟩,     ⟨[], [0], [], Fct.val 7 (.slice Al1 l1.length cl1)⟩,     ⟨[1], [], [], Fct.val 8 (.int .i64 (l1.length : Int))⟩,     ⟨[0, 2], [], [], Fct.val 9 (.bool (decide (i145 < (l1.length : Int))))⟩,     ⟨[3], [], [], Fct.val 10 (.bool (decide (i145 < (l1.length : Int))))⟩,     ⟨[4], [4], [], Fct.cond (decide (i145 < (l1.length : Int))) (some 11) (Fct.val 11 (.int .i64 i145))⟩,     ⟨[4, 5], [], [], Fct.cond (decide (i145 < (l1.length : Int))) (some 12) (Fct.val 12 (.bool (decide (i145 < 10))))⟩,     ⟨[4, 6], [], [], Fct.val 13 (.bool x177)⟩] hz175 hd175 (by kernel_rfl) ?_ ?_
    · refine sc (fun _ _ _ _ s _ => px (or_move (s.1.trans e175_4))) ?_
      refine sc (fun _ _ _ _ s _ => px (or_move (s.1.trans e175_0))) ?_
      refine sc (fun _ _ _ f _ _ => px (or_len tu23 f.1 rfl)) ?_
      refine sc (fun _ _ _ f _ _ => px (or_lss f.1 f.2.1 rfl)) ?_
      refine sc (fun _ _ _ f _ _ => px (or_move f.1)) ?_
      refine sc (fun _ _ _ f s _ => sg_t rfl rfl rfl f.1 (fun hg => or_move (s.1.trans e175_4))) ?_
      refine sc (fun _ _ _ f _ _ => sg_t rfl rfl rfl f.1 (fun hg => or_lss (f.2.1.1 hg) rfl rfl)) ?_
      refine sc (fun _ _ _ f _ _ => px (or_and f.1 (fun hx => f.2.1.1 hx) rfl (osome hx177).symm)) ?_
      exact steps_nil
    intro own178 a178 w178 hd178 hz178 hk178 hf178 hE178
    have e178_0 := (hk178 0 rfl).trans e175_0
    have e178_3 := (hk178 3 rfl).trans e175_3
    have e178_4 := (hk178 4 rfl).trans e175_4
    obtain ⟨(e178_13 : a178.eval (.tmp 13) = .bool x177), -⟩ := hf178 [7] rfl
    have hX178 := Evo.step hE175 hown hE178 rfl
    have b178_Al1 := RdO.evo rfl hE178 b175_Al1
    have b178_A140 := re_ hE178 b175_A140
    refine fl_cond e178_13 hs (fun c179 hs => ?_) (fun c179 hs => ?_)
    · refine fl_skip ?_
      refine hn176 _ _ ?_
      refine fl_seq (fun Q180 hn180 hp180 => ?_)
      refine fl_block (fun Q181 hn181 hx181 hp181 => ?_)
      obtain ⟨x182, hx182, hs⟩ := obind hs
      refine rg_plain_seq (n := 33) (rs := []) (own0 := own178) (K := [185]) (bs := [0, 0, 3, 7, 0, 31]) (ds := [⟨[], [0], [], Fct.val 16 (.slice Al1 l1.length cl1)⟩,     ⟨[], [4], [], Fct.val 17 (.int .i64 i145)⟩,     ⟨[0, 1], [], [], Fct.val 18 (.pointer (some ((adr Al1).add ((i145 : Int).toNat * R63.s))))⟩,     ⟨[2], [], [], Fct.nest X63 [1] 19 (fun (y : ((Option Addr × Nat) × Unit × Unit)) => .agg #[.slice y.1.1 x182.1.length y.1.2, .int .i64 x182.2.1, .int .i64 x182.2.2]) x182⟩,     ⟨[], [], [], Fct.blk 185 5 (fun g => .pointer (some ⟨g, 0, none⟩)) 63 #[.slice none 0 0, .int .i64 0, .int .i64 0]⟩,     ⟨[4, 3], [], [185], Fct.by_ [186] [5, 19] (fun l own w => ∃ g184 : Nat, l.getD 0 undef = .pointer (some ⟨g184, 0, none⟩) ∧ (∀ (A183 : Option Addr) (cA183 : Nat), l.getD 1 undef = .agg #[.slice A183 x182.1.length cA183, .int .i64 x182.2.1, .int .i64 x182.2.2] → BlkO own 186 w g184 63 #[.slice A183 x182.1.length cA183, .int .i64 x182.2.1, .int .i64 x182.2.2])) (fun hk he h => by obtain ⟨g, e, h⟩ := h; exact ⟨g, e, fun _ _ h0' => BlkO.evo (not_hit hk (by decide)) he (h _ _ h0')⟩)⟩]) (by kernel_rfl) hz178 hd178 nm_ ?_ ?_
      · refine sc (fun _ _ _ _ s _ => px (or_move (s.1.trans e178_0))) ?_
        refine sc (fun _ _ _ _ s _ => px (or_move (s.1.trans e178_4))) ?_
        refine sc (fun _ _ _ f _ _ => px (or_index (R := R63) (l := l1) tl23 f.1 f.2.1 (RdO.some_ b178_Al1 hx182) hx182)) ?_
        refine sc (fun _ _ _ f _ hE => px (or_loadN X63 0 3 ta63 f.1 (Addr.add_zero' _).symm (RdO.evo rfl hE b178_Al1) hx182 (fun _ => rfl) (fun _ => rfl))) ?_
        refine sc (fun _ _ _ _ _ _ => px (or_new [] rfl rfl trivial (by kernel_rfl))) ?_
        refine sc (fun own a wx hf hsl hE => ?_) ?_
        · obtain ⟨⟨g184, f_5, b_g184⟩, ⟨⟨⟨A183, cA183⟩, _, _⟩, (f_19 : a.eval (.tmp 19) = .agg #[.slice A183 x182.1.length cA183, .int .i64 x182.2.1, .int .i64 x182.2.2]), ⟨b_A183, -, -⟩⟩, -⟩ := hf
          exact px (or_store (l := #[.slice A183 x182.1.length cA183, .int .i64 x182.2.1, .int .i64 x182.2.2]) (lab := 185) (lab2 := 186) ts63 f_5 f_19 b_g184 (by simp) (by kernel_rfl) (mem_of rfl) (by decide) (by kernel_rfl) (fun own' a' w' ha hb => ⟨_, (ha 5).trans f_5, fun _ _ h0' => by cases (f_19.symm.trans ((ha 19).symm.trans h0')); exact hb⟩))
        exact steps_nil
      intro own187 a187 w187 hd187 hz187 hk187 hf187 hE187
      have e187_0 := (hk187 0 rfl).trans e178_0
      have e187_3 := (hk187 3 rfl).trans e178_3
      have e187_4 := (hk187 4 rfl).trans e178_4
      obtain ⟨⟨⟨⟨A183, cA183⟩, _, _⟩, (f_19 : a187.eval (.tmp 19) = .agg #[.slice A183 x182.1.length cA183, .int .i64 x182.2.1, .int .i64 x182.2.2]), ⟨(b187_A183 : RdO own187 [1] w187 R25 A183 cA183 x182.1), -, -⟩⟩, ⟨g184, (e187_5 : a187.eval (.tmp 5) = .pointer (some ⟨g184, 0, none⟩)), (bq_g184 : ∀ (A183 : Option Addr) (cA183 : Nat), a187.eval (.tmp 19) = .agg #[.slice A183 x182.1.length cA183, .int .i64 x182.2.1, .int .i64 x182.2.2] → BlkO own187 186 w187 g184 63 #[.slice A183 x182.1.length cA183, .int .i64 x182.2.1, .int .i64 x182.2.2])⟩, -⟩ := hf187 [3, 5] rfl
      have b187_g184 := bq_g184 _ _ f_19
      have hX187 := Evo.step hX178 hown hE187 rfl
      have b187_Al1 := RdO.evo rfl hE187 b178_Al1
      have b187_A140 := re_ hE187 b178_A140
      obtain ⟨x190, hx190, hs⟩ := obind hs
      refine rg_plain_seq (n := 33) (rs := [Fct.at_ 186 g184 63 #[.slice A183 x182.1.length cA183, .int .i64 x182.2.1, .int .i64 x182.2.2]]) (own0 := own187) (K := [186]) (bs := [0, 1, 0, 4, 12, 28, 63, 127, 255]) (ds := [⟨[], [5], [], Fct.val 20 (.pointer (some ⟨g184, 0, none⟩))⟩,     ⟨[0, 9], [], [], Fct.val 21 (.slice A183 x182.1.length cA183)⟩,     ⟨[], [5], [], Fct.val 22 (.pointer (some ⟨g184, 0, none⟩))⟩,     ⟨[2, 9], [], [], Fct.val 23 (.slice A183 x182.1.length cA183)⟩,     ⟨[3], [], [], Fct.val 24 (.int .i64 (x182.1.length : Int))⟩,     ⟨[4], [], [], Fct.val 25 (.int .i64 (mn (x182.1.length : Int) 20))⟩,     ⟨[1, 5], [], [], Fct.view [1] 26 R25 x190⟩,     ⟨[], [5], [], Fct.val 27 (.pointer (some ⟨g184, 0, none⟩))⟩,     ⟨[7, 6, 9], [], [186], Fct.by_ [192] [26] (fun l own w => ∀ (A191 : Option Addr) (cA191 : Nat), l.getD 0 undef = .slice A191 x190.length cA191 → BlkO own 192 w g184 63 #[.slice A191 x190.length cA191, .int .i64 x182.2.1, .int .i64 x182.2.2]) (fun hk he h _ _ h0' => BlkO.evo (not_hit hk (by decide)) he (h _ _ h0'))⟩]) (by kernel_rfl) hz187 hd187 (by simp only [List.forall_mem_cons]; exact ⟨b187_g184, fun _ h => nomatch h⟩) ?_ ?_
      · refine sc (fun _ _ _ _ s _ => px (or_field fo63_0 (s.1.trans e187_5) (by rfl))) ?_
        refine sc (fun own a wx hf hsl hE => ?_) ?_
        · obtain ⟨f_20, (b_g184 : BlkO own 186 wx g184 63 #[.slice A183 x182.1.length cA183, .int .i64 x182.2.1, .int .i64 x182.2.2]), -⟩ := hf
          exact px (or_load1 to55 f_20 (Blk.at_ b_g184.2 0 rfl))
        refine sc (fun _ _ _ _ s _ => px (or_field fo63_0 (s.1.trans e187_5) (by rfl))) ?_
        refine sc (fun own a wx hf hsl hE => ?_) ?_
        · obtain ⟨f_22, (b_g184 : BlkO own 186 wx g184 63 #[.slice A183 x182.1.length cA183, .int .i64 x182.2.1, .int .i64 x182.2.2]), -⟩ := hf
          exact px (or_load1 to55 f_22 (Blk.at_ b_g184.2 0 rfl))
        refine sc (fun _ _ _ f _ _ => px (or_len tu55 f.1 rfl)) ?_
        refine sc (fun _ _ _ f _ _ => px (or_min f.1 rfl)) ?_
        refine sc (fun _ _ _ f _ hE => px (or_view (R := R25) (l := x182.1) (L := [1]) tu55 ts25 f.1 Bnd.none_ (Bnd.some_ f.2.1) Bnd.none_ (RdO.evo rfl hE b187_A183) hx190 (.inl rfl) (by simp))) ?_
        refine sc (fun _ _ _ _ s _ => px (or_field fo63_0 (s.1.trans e187_5) (by rfl))) ?_
        refine sc (fun own a wx hf hsl hE => ?_) ?_
        · obtain ⟨f_27, ⟨⟨A191, cA191⟩, (f_26 : a.eval (.tmp 26) = .slice A191 x190.length cA191), b_A191⟩, b_g184, -⟩ := hf
          exact px (or_store1 (lab := 186) (lab2 := 192) ts55 f_27 f_26 b_g184 (by simp) rfl (mem_of rfl) (by decide) rfl (fun own' a' w' ha hb => fun _ _ h0' => by cases (f_26.symm.trans ((ha 26).symm.trans h0')); exact hb))
        exact steps_nil
      intro own193 a193 w193 hd193 hz193 hk193 hf193 hE193
      have e193_0 := (hk193 0 rfl).trans e187_0
      have e193_3 := (hk193 3 rfl).trans e187_3
      have e193_4 := (hk193 4 rfl).trans e187_4
      have e193_5 := (hk193 5 rfl).trans e187_5
      obtain ⟨⟨⟨A191, cA191⟩, (f_26 : a193.eval (.tmp 26) = .slice A191 x190.length cA191), (b193_A191 : RdO own193 [1] w193 R25 A191 cA191 x190)⟩, (bq_g184 : ∀ (A191 : Option Addr) (cA191 : Nat), a193.eval (.tmp 26) = .slice A191 x190.length cA191 → BlkO own193 192 w193 g184 63 #[.slice A191 x190.length cA191, .int .i64 x182.2.1, .int .i64 x182.2.2]), -⟩ := hf193 [6, 8] rfl
      have b193_g184 := bq_g184 _ _ f_26
      have hX193 := Evo.step hX187 hown hE193 rfl
      have b193_Al1 := RdO.evo rfl hE193 b187_Al1
      have b193_A140 := re_ hE193 b187_A140
      obtain ⟨x198, hx198, hs⟩ := obind hs
      refine rg_plain (n := 33) (rs := [Fct.rowAt 143 [1, 144] 63 R63 A140 c141 out142]) (own0 := own193) (K := [143]) (bs := [0, 0, 2, 7, 15]) (ds := [⟨[], [3], [], Fct.val 28 (.slice A140 out142.length c141)⟩,     ⟨[], [5], [], Fct.val 29 (.agg #[.slice A191 x190.length cA191, .int .i64 x182.2.1, .int .i64 x182.2.2])⟩,     ⟨[1], [], [], Fct.row 197 [1] 30 63 R63 [(x190, x182.2.1, x182.2.2)]⟩,     ⟨[0, 2, 5], [], [143], Fct.row 199 [1, 144, 197] 31 63 R63 x198⟩,     ⟨[3], [], [], Fct.rel [3, 31] (fun l => ∀ (A200 : Option Addr) (cA200 : Nat), l.getD 1 undef = .slice A200 x198.length cA200 → l.getD 0 undef = .slice A200 x198.length cA200)⟩]) (by kernel_rfl) hz193 hd193 (by simp only [List.forall_mem_cons]; exact ⟨b193_A140, fun _ h => nomatch h⟩) ?_ ?_
      · refine sc (fun _ _ _ _ s _ => px (or_move (s.1.trans e193_3))) ?_
        refine sc (fun _ _ _ _ s hE => px (or_load (l := [.slice A191 x190.length cA191, .int .i64 x182.2.1, .int .i64 x182.2.2]) ta63 (s.1.trans e193_5) (Blk.cellsFrom (be_ hE b193_g184).2 0 rfl) rfl)) ?_
        refine sc (fun _ _ _ f _ hE => px (or_litN (R := R63) (lab := 197) (L := [1]) (e := 63) (cs := #[.slice A191 x190.length cA191, .int .i64 x182.2.1, .int .i64 x182.2.2]) (l := [(x190, x182.2.1, x182.2.2)]) (n := 1) [(29, .agg #[.slice A191 x190.length cA191, .int .i64 x182.2.1, .int .i64 x182.2.2])] rfl rfl ⟨f.1, trivial⟩ (by kernel_rfl) rfl (by decide) ⟨(Ex.iff X63).2 ⟨((A191, cA191), (), ()), rfl, ⟨(RdO.evo rfl hE b193_A191), trivial, trivial⟩⟩, rfl⟩ rfl)) ?_
        refine sc (fun own a wx hf hsl hE => ?_) ?_
        · obtain ⟨f_28, ⟨⟨A196, cA196⟩, f_30, b_A196⟩, b_A140, -⟩ := hf
          exact px (or_append (R := R63) (lab := 143) (lab2 := 199) (L := [1, 144]) (L3 := [1, 144, 197]) tp23 f_28 b_A140 (by decide) f_30 (RwO.rd b_A196) hx198 (by decide) (by decide) (mem_of rfl) (.inr ⟨rfl, rfl, by decide, by decide⟩))
        refine sc (fun own a wx hf hsl hE => ?_) ?_
        · obtain ⟨⟨⟨A200, cA200⟩, (f_31 : a.eval (.tmp 31) = .slice A200 x198.length cA200), b_A200⟩, -⟩ := hf
          exact px (or_mono (f := Fct.val 3 (.slice A200 x198.length cA200)) (or_assign f_31) (fun own' a' w' v' hp h => fun _ _ h0' => by cases (f_31.symm.trans ((hp.2 31 (by decide)).symm.trans h0')); exact h))
        exact steps_nil
      intro own201 a201 w201 hd201 hz201 hk201 hf201 hE201
      have e201_0 := (hk201 0 rfl).trans e193_0
      have e201_4 := (hk201 4 rfl).trans e193_4
      obtain ⟨⟨⟨A200, cA200⟩, (f_31 : a201.eval (.tmp 31) = .slice A200 x198.length cA200), (b201_A200 : RwO own201 199 [1, 144, 197] w201 63 R63 A200 cA200 x198)⟩, (q_3 : ∀ (A200 : Option Addr) (cA200 : Nat), a201.eval (.tmp 31) = .slice A200 x198.length cA200 → a201.eval (.tmp 3) = .slice A200 x198.length cA200), -⟩ := hf201 [3, 4] rfl
      have e201_3 := q_3 _ _ f_31
      have hX201 := Evo.step hX193 hown hE201 rfl
      have b201_Al1 := RdO.evo rfl hE201 b193_Al1
      refine hn181 _ _ ?_
      refine hn180 _ _ ?_
      refine rg0 33 own201 (bz 3) [⟨[], [4], [], Fct.val 14 (.int .i64 i145)⟩,     ⟨[0], [], [], Fct.val 15 (.int .i64 (ad i145 1))⟩,     ⟨[1], [], [], Fct.val 4 (.int .i64 (ad i145 1))⟩] hz201 hd201 (by kernel_rfl) ?_ ?_
      · refine sc (fun _ _ _ _ s _ => px (or_move (s.1.trans e201_4))) ?_
        refine sc (fun _ _ _ f _ _ => px (or_add f.1 rfl rfl)) ?_
        refine sc (fun _ _ _ f _ _ => px (or_assign f.1)) ?_
        exact steps_nil
      intro own202 a202 w202 hd202 hz202 hk202 hf202 hE202
      have e202_0 := (hk202 0 rfl).trans e201_0
      have e202_3 := (hk202 3 rfl).trans e201_3
      obtain ⟨(e202_4 : a202.eval (.tmp 4) = .int .i64 (ad i145 1)), -⟩ := hf202 [2] rfl
      have hX202 := Evo.step hX201 hown hE202 rfl
      have b202_Al1 := RdO.evo rfl hE202 b201_Al1
      have b202_A200 := re_ hE202 b201_A200
      exact hn174 _ _ _ hs ⟨(rl [(197, 144), (199, 143)] own202), A200, cA200, hd202, hz202, e202_0, e202_3, e202_4, (Evo.rl_ hX202 hown rfl), (RdO.rl_ (mm := [(197, 144), (199, 143)]) b202_Al1), (RwO.more (RwO.rl_ (mm := [(197, 144), (199, 143)]) b202_A200) (by decide))⟩
    refine fl_exit ?_
    refine hp176 _ _ _ rfl ?_
    replace hs := hz174 _ hs
    refine hp174 _ _ _ rfl ?_
    refine hx112 _ _ ?_
    refine hn110 _ _ ?_
    refine rg0_seq 33 own178 (bz 2) [⟨[], [3], [], Fct.val 32 (.slice A140 out142.length c141)⟩,     ⟨[0], [], [], Fct.val 2 (.slice A140 out142.length c141)⟩] hz178 hd178 (by kernel_rfl) ?_ ?_
    · refine sc (fun _ _ _ _ s _ => px (or_move (s.1.trans e178_3))) ?_
      refine sc (fun _ _ _ f _ _ => px (or_assign f.1)) ?_
      exact steps_nil
    intro own203 a203 w203 hd203 hz203 hk203 hf203 hE203
    obtain ⟨(e203_2 : a203.eval (.tmp 2) = .slice A140 out142.length c141), -⟩ := hf203 [1] rfl
    have hX203 := Evo.step hX178 hown hE203 rfl
    have b203_A140 := re_ hE203 b178_A140
    refine fl_ret ?_
    obtain rfl := (osome hs).symm
    exact hret _ _ _ _ (.inl rfl) hd203 (results1_ rfl (RVal.tmp_ e203_2)) ⟨(rl [(143, 2), (144, 3)] own203), (A140, c141), rfl, (Evo.rl_ hX203 hown rfl), (RwO.rl_ (mm := [(143, 2), (144, 3)]) b203_A140)⟩
end Go.Proofs.Ytoccfdohlefifaa
