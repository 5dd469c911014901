import Derived.Test.YtaobbaohelpdgaaWp3
import Derived.Test.YtaobbaohelpdgaaSp4
namespace Go.Proofs.Ytaobbaohelpdgaa
open Go.RowKit
set_option linter.unusedVariables false
set_option maxRecDepth 10000
theorem law14_Cut_w (w : World) (own : Own) (l1 : List ((List (Int × Int)) × Int × Int)) (Al1 : Option Addr) (cl1 : Nat) (hown : ∀ b, own b ≤ 1) (hl1 : RdO own [1] w R59 Al1 cl1 l1) (r : List ((List (Int × Int)) × Int × Int)) (hs : law14_Cut l1 = some r) :
    Calls Try.prog 33 #[.slice Al1 l1.length cl1] w fun e w' => ∃ (own' : Own) (x : Option Addr × Nat), e = .returned (.slice x.1 r.length x.2) ∧ Evo [] own own' w w' ∧ RwO own' 2 [1, 3] w' 59 R59 x.1 x.2 r := by
  refine fl_enter (n := 33) rfl rfl rfl (Nat.le_of_ble_eq_true rfl) ?_
  intro a0 Q hd0 hz0 harg hret
  have ha0 := harg 0 _ rfl
  clear harg
  have hE0 : Evo [] own own w w := Evo.refl _ _ _
  refine rg0_seq 33 own (bz 1) [⟨[], [], [], Fct.val 2 (.slice none 0 0)⟩] hz0 hd0 (by kernel_rfl) ?_ ?_
  · refine sc (fun _ _ _ _ _ _ => px (or_assign rfl)) ?_
    exact steps_nil
  intro own108 a108 w108 hd108 hz108 hk108 hf108 hE108
  have e108_0 := (hk108 0 rfl).trans ha0
  have hX108 := Evo.step hE0 hown hE108 rfl
  have b108_Al1 := RdO.evo rfl hE108 hl1
  refine rg0_seq 33 own108 (bz 1) [⟨[], [], [], Fct.val 3 (.slice none 0 0)⟩] hz108 hd108 (by kernel_rfl) ?_ ?_
  · refine sc (fun _ _ _ _ _ _ => px (or_assign rfl)) ?_
    exact steps_nil
  intro own109 a109 w109 hd109 hz109 hk109 hf109 hE109
  have e109_0 := (hk109 0 rfl).trans e108_0
  obtain ⟨(e109_3 : a109.eval (.tmp 3) = .slice none 0 0), -⟩ := hf109 [0] rfl
  have hX109 := Evo.step hX108 hown hE109 rfl
  have b109_Al1 := RdO.evo rfl hE109 b108_Al1
  refine fl_seq (fun Q110 hn110 hp110 => ?_)
  refine rg0_seq 33 own109 (bz 1) [⟨[], [], [], Fct.val 4 (.int .i64 0)⟩] hz109 hd109 (by kernel_rfl) ?_ ?_
  · refine sc (fun _ _ _ _ _ _ => px (or_assign rfl)) ?_
    exact steps_nil
  intro own111 a111 w111 hd111 hz111 hk111 hf111 hE111
  have e111_0 := (hk111 0 rfl).trans e109_0
  have e111_3 := (hk111 3 rfl).trans e109_3
  obtain ⟨(e111_4 : a111.eval (.tmp 4) = .int .i64 0), -⟩ := hf111 [0] rfl
  have hX111 := Evo.step hX109 hown hE111 rfl
  have b111_Al1 := RdO.evo rfl hE111 b109_Al1
  refine fl_block (fun Q112 hn112 hx112 hp112 => ?_)
  refine fl_loop (body := (fun s => law14_Cut_b1 l1 s.1 s.2)) (z := r) (show loopO _ _ = _ from hs) (fun (s : (List ((List (Int × Int)) × Int × Int)) × Int) a wx => match s with | (out142, i145) => ∃ (ox : Own) (A140 : Option Addr) (c141 : Nat), a.defers = [] ∧ a.tmps.size = 33 ∧ a.eval (.tmp 0) = .slice Al1 l1.length cl1 ∧ a.eval (.tmp 3) = .slice A140 out142.length c141 ∧ a.eval (.tmp 4) = .int .i64 i145 ∧ Evo [] own ox w wx ∧ RdO ox [1] wx R59 Al1 cl1 l1 ∧ RwO ox 143 [1, 144] wx 59 R59 A140 c141 out142) ?_ ?_
  · exact ⟨own111, none, 0, hd111, hz111, e111_0, e111_3, e111_4, hX111, b111_Al1, RwO.nil_⟩
  · rintro ⟨out142, i145⟩ zz174 a174 w174 ⟨own174, A140, c141, hd175, hz175, e175_0, e175_3, e175_4, hE175, b175_Al1, b175_A140⟩ hs Q174 hn174 hp174 hz174
    have hs : law14_Cut_b1 l1 out142 i145 = some zz174 := hs
    refine fl_seq (fun Q176 hn176 hp176 => ?_)
    obtain ⟨x177, hx177, hs⟩ := obind hs
    refine rg0_seq 33 own174 [0, 0, 2, 7, 15, 31, 63, 127] [⟨[], [4], [], Fct.val 6 (.int .i64 i145)⟩, ⟨[], [0], [], Fct.val 7 (.slice Al1 l1.length cl1)⟩, ⟨[1], [], [], Fct.val 8 (.int .i64 (l1.length : Int))⟩, ⟨[0, 2], [], [], Fct.val 9 (.bool (decide (i145 < (l1.length : Int))))⟩, ⟨[3], [], [], Fct.val 10 (.bool (decide (i145 < (l1.length : Int))))⟩, ⟨[4], [4], [], Fct.cond (decide (i145 < (l1.length : Int))) (some 11) (Fct.val 11 (.int .i64 i145))⟩, ⟨[4, 5], [], [], Fct.cond (decide (i145 < (l1.length : Int))) (some 12) (Fct.val 12 (.bool (decide (i145 < 10))))⟩, ⟨[4, 6], [], [], Fct.val 13 (.bool x177)⟩] hz175 hd175 (by kernel_rfl) ?_ ?_
    · refine sc (fun _ _ _ _ s _ => px (or_move (s.1.trans e175_4))) ?_
      refine sc (fun _ _ _ _ s _ => px (or_move (s.1.trans e175_0))) ?_
      refine sc (fun _ _ _ f _ _ => px (or_len tu22 f.1 rfl)) ?_
      refine sc (fun _ _ _ f _ _ => px (or_lss f.1 f.2.1 rfl)) ?_
      refine sc (fun _ _ _ f _ _ => px (or_move f.1)) ?_
      refine sc (fun _ _ _ f s _ => sg_t rfl rfl rfl f.1 (fun hg => or_move (s.1.trans e175_4))) ?_
      refine sc (fun _ _ _ f _ _ => sg_t rfl rfl rfl f.1 (fun hg => or_lss (f.2.1.1 hg) rfl rfl)) ?_
      refine sc (fun _ _ _ f _ _ => px (or_and f.1 (fun hx => f.2.1.1 hx) rfl (osome hx177).symm)) ?_
      exact steps_nil
    intro own178 a178 w178 hd178 hz178 hk178 hf178 hE178
    have e178_0 := (hk178 0 rfl).trans e175_0
    have e178_3 := (hk178 3 rfl).trans e175_3
    have e178_4 := (hk178 4 rfl).trans e175_4
    obtain ⟨(e178_13 : a178.eval (.tmp 13) = .bool x177), -⟩ := hf178 [7] rfl
    have hX178 := Evo.step hE175 hown hE178 rfl
    have b178_Al1 := RdO.evo rfl hE178 b175_Al1
    have b178_A140 := re_ hE178 b175_A140
    refine fl_cond e178_13 hs (fun c179 hs => ?_) (fun c179 hs => ?_)
    · refine fl_skip ?_
      refine hn176 _ _ ?_
      refine fl_seq (fun Q180 hn180 hp180 => ?_)
      refine fl_block (fun Q181 hn181 hx181 hp181 => ?_)
      obtain ⟨x182, hx182, hs⟩ := obind hs
      refine rg_plain_seq (n := 33) (rs := []) (own0 := own178) (K := [185]) (bs := [0, 0, 3, 7, 0, 31]) (ds := [⟨[], [0], [], Fct.val 16 (.slice Al1 l1.length cl1)⟩, ⟨[], [4], [], Fct.val 17 (.int .i64 i145)⟩, ⟨[0, 1], [], [], Fct.val 18 (.pointer (some ((adr Al1).add ((i145 : Int).toNat * R59.s))))⟩, ⟨[2], [], [], Fct.nest X59 [1] 19 (fun (y : ((Option Addr × Nat) × Unit × Unit)) => .agg #[.slice y.1.1 x182.1.length y.1.2, .int .i64 x182.2.1, .int .i64 x182.2.2]) x182⟩, ⟨[], [], [], Fct.blk 185 5 (fun g => .pointer (some ⟨g, 0, none⟩)) 59 #[.slice none 0 0, .int .i64 0, .int .i64 0]⟩, ⟨[4, 3], [], [185], Fct.by_ [186] [5, 19] (fun l own w => ∃ g184 : Nat, l.getD 0 undef = .pointer (some ⟨g184, 0, none⟩) ∧ (∀ (A183 : Option Addr) (cA183 : Nat), l.getD 1 undef = .agg #[.slice A183 x182.1.length cA183, .int .i64 x182.2.1, .int .i64 x182.2.2] → BlkO own 186 w g184 59 #[.slice A183 x182.1.length cA183, .int .i64 x182.2.1, .int .i64 x182.2.2])) (fun hk he h => by obtain ⟨g, e, h⟩ := h; exact ⟨g, e, fun _ _ h0' => BlkO.evo (not_hit hk (by decide)) he (h _ _ h0')⟩)⟩]) (by kernel_rfl) hz178 hd178 nm_ ?_ ?_
      · refine sc (fun _ _ _ _ s _ => px (or_move (s.1.trans e178_0))) ?_
        refine sc (fun _ _ _ _ s _ => px (or_move (s.1.trans e178_4))) ?_
        refine sc (fun _ _ _ f _ _ => px (or_index (R := R59) (l := l1) tl22 f.1 f.2.1 (RdO.some_ b178_Al1 hx182) hx182)) ?_
        refine sc (fun _ _ _ f _ hE => px (or_loadN X59 0 3 ta59 f.1 (Addr.add_zero' _).symm (RdO.evo rfl hE b178_Al1) hx182 (fun _ => rfl) (fun _ => rfl))) ?_
        refine sc (fun _ _ _ _ _ _ => px (or_new [] rfl rfl trivial (by kernel_rfl))) ?_
        refine sc (fun own a wx hf hsl hE => ?_) ?_
        · obtain ⟨⟨g184, f_5, b_g184⟩, ⟨⟨⟨A183, cA183⟩, _, _⟩, (f_19 : a.eval (.tmp 19) = .agg #[.slice A183 x182.1.length cA183, .int .i64 x182.2.1, .int .i64 x182.2.2]), ⟨b_A183, -, -⟩⟩, -⟩ := hf
          exact px (or_store (l := #[.slice A183 x182.1.length cA183, .int .i64 x182.2.1, .int .i64 x182.2.2]) (lab := 185) (lab2 := 186) ts59 f_5 f_19 b_g184 (by simp) (by kernel_rfl) (mem_of rfl) (by decide) (by kernel_rfl) (fun own' a' w' ha hb => ⟨_, (ha 5).trans f_5, fun _ _ h0' => by cases (f_19.symm.trans ((ha 19).symm.trans h0')); exact hb⟩))
        exact steps_nil
      intro own187 a187 w187 hd187 hz187 hk187 hf187 hE187
      have e187_0 := (hk187 0 rfl).trans e178_0
      have e187_3 := (hk187 3 rfl).trans e178_3
      have e187_4 := (hk187 4 rfl).trans e178_4
      obtain ⟨⟨⟨⟨A183, cA183⟩, _, _⟩, (f_19 : a187.eval (.tmp 19) = .agg #[.slice A183 x182.1.length cA183, .int .i64 x182.2.1, .int .i64 x182.2.2]), ⟨(b187_A183 : RdO own187 [1] w187 R56 A183 cA183 x182.1), -, -⟩⟩, ⟨g184, (e187_5 : a187.eval (.tmp 5) = .pointer (some ⟨g184, 0, none⟩)), (bq_g184 : ∀ (A183 : Option Addr) (cA183 : Nat), a187.eval (.tmp 19) = .agg #[.slice A183 x182.1.length cA183, .int .i64 x182.2.1, .int .i64 x182.2.2] → BlkO own187 186 w187 g184 59 #[.slice A183 x182.1.length cA183, .int .i64 x182.2.1, .int .i64 x182.2.2])⟩, -⟩ := hf187 [3, 5] rfl
      have b187_g184 := bq_g184 _ _ f_19
      have hX187 := Evo.step hX178 hown hE187 rfl
      have b187_Al1 := RdO.evo rfl hE187 b178_Al1
      have b187_A140 := re_ hE187 b178_A140
      obtain ⟨x190, hx190, hs⟩ := obind hs
      refine rg_plain_seq (n := 33) (rs := [Fct.at_ 186 g184 59 #[.slice A183 x182.1.length cA183, .int .i64 x182.2.1, .int .i64 x182.2.2]]) (own0 := own187) (K := [186]) (bs := [0, 1, 0, 4, 12, 28, 63, 127, 255]) (ds := [⟨[], [5], [], Fct.val 20 (.pointer (some ⟨g184, 0, none⟩))⟩, ⟨[0, 9], [], [], Fct.val 21 (.slice A183 x182.1.length cA183)⟩, ⟨[], [5], [], Fct.val 22 (.pointer (some ⟨g184, 0, none⟩))⟩, ⟨[2, 9], [], [], Fct.val 23 (.slice A183 x182.1.length cA183)⟩, ⟨[3], [], [], Fct.val 24 (.int .i64 (x182.1.length : Int))⟩, ⟨[4], [], [], Fct.val 25 (.int .i64 (mn (x182.1.length : Int) 20))⟩, ⟨[1, 5], [], [], Fct.view [1] 26 R56 x190⟩, ⟨[], [5], [], Fct.val 27 (.pointer (some ⟨g184, 0, none⟩))⟩, ⟨[7, 6, 9], [], [186], Fct.by_ [192] [26] (fun l own w => ∀ (A191 : Option Addr) (cA191 : Nat), l.getD 0 undef = .slice A191 x190.length cA191 → BlkO own 192 w g184 59 #[.slice A191 x190.length cA191, .int .i64 x182.2.1, .int .i64 x182.2.2]) (fun hk he h _ _ h0' => BlkO.evo (not_hit hk (by decide)) he (h _ _ h0'))⟩]) (by kernel_rfl) hz187 hd187 (by simp only [List.forall_mem_cons]; exact ⟨b187_g184, fun _ h => nomatch h⟩) ?_ ?_
      · refine sc (fun _ _ _ _ s _ => px (or_field fo59_0 (s.1.trans e187_5) (by rfl))) ?_
        refine sc (fun own a wx hf hsl hE => ?_) ?_
        · obtain ⟨f_20, (b_g184 : BlkO own 186 wx g184 59 #[.slice A183 x182.1.length cA183, .int .i64 x182.2.1, .int .i64 x182.2.2]), -⟩ := hf
          exact px (or_load1 to57 f_20 (Blk.at_ b_g184.2 0 rfl))
        refine sc (fun _ _ _ _ s _ => px (or_field fo59_0 (s.1.trans e187_5) (by rfl))) ?_
        refine sc (fun own a wx hf hsl hE => ?_) ?_
        · obtain ⟨f_22, (b_g184 : BlkO own 186 wx g184 59 #[.slice A183 x182.1.length cA183, .int .i64 x182.2.1, .int .i64 x182.2.2]), -⟩ := hf
          exact px (or_load1 to57 f_22 (Blk.at_ b_g184.2 0 rfl))
        refine sc (fun _ _ _ f _ _ => px (or_len tu57 f.1 rfl)) ?_
        refine sc (fun _ _ _ f _ _ => px (or_min f.1 rfl)) ?_
        refine sc (fun _ _ _ f _ hE => px (or_view (R := R56) (l := x182.1) (L := [1]) tu57 ts56 f.1 Bnd.none_ (Bnd.some_ f.2.1) Bnd.none_ (RdO.evo rfl hE b187_A183) hx190 (.inl rfl) (by simp))) ?_
        refine sc (fun _ _ _ _ s _ => px (or_field fo59_0 (s.1.trans e187_5) (by rfl))) ?_
        refine sc (fun own a wx hf hsl hE => ?_) ?_
        · obtain ⟨f_27, ⟨⟨A191, cA191⟩, (f_26 : a.eval (.tmp 26) = .slice A191 x190.length cA191), b_A191⟩, b_g184, -⟩ := hf
          exact px (or_store1 (lab := 186) (lab2 := 192) ts57 f_27 f_26 b_g184 (by simp) rfl (mem_of rfl) (by decide) rfl (fun own' a' w' ha hb => fun _ _ h0' => by cases (f_26.symm.trans ((ha 26).symm.trans h0')); exact hb))
        exact steps_nil
      intro own193 a193 w193 hd193 hz193 hk193 hf193 hE193
      have e193_0 := (hk193 0 rfl).trans e187_0
      have e193_3 := (hk193 3 rfl).trans e187_3
      have e193_4 := (hk193 4 rfl).trans e187_4
      have e193_5 := (hk193 5 rfl).trans e187_5
      obtain ⟨⟨⟨A191, cA191⟩, (f_26 : a193.eval (.tmp 26) = .slice A191 x190.length cA191), (b193_A191 : RdO own193 [1] w193 R56 A191 cA191 x190)⟩, (bq_g184 : ∀ (A191 : Option Addr) (cA191 : Nat), a193.eval (.tmp 26) = .slice A191 x190.length cA191 → BlkO own193 192 w193 g184 59 #[.slice A191 x190.length cA191, .int .i64 x182.2.1, .int .i64 x182.2.2]), -⟩ := hf193 [6, 8] rfl
      have b193_g184 := bq_g184 _ _ f_26
      have hX193 := Evo.step hX187 hown hE193 rfl
      have b193_Al1 := RdO.evo rfl hE193 b187_Al1
      have b193_A140 := re_ hE193 b187_A140
      obtain ⟨x198, hx198, hs⟩ := obind hs
      refine rg_plain (n := 33) (rs := [Fct.rowAt 143 [1, 144] 59 R59 A140 c141 out142]) (own0 := own193) (K := [143]) (bs := [0, 0, 2, 7, 15]) (ds := [⟨[], [3], [], Fct.val 28 (.slice A140 out142.length c141)⟩, ⟨[], [5], [], Fct.val 29 (.agg #[.slice A191 x190.length cA191, .int .i64 x182.2.1, .int .i64 x182.2.2])⟩, ⟨[1], [], [], Fct.row 197 [1] 30 59 R59 [(x190, x182.2.1, x182.2.2)]⟩, ⟨[0, 2, 5], [], [143], Fct.row 199 [1, 144, 197] 31 59 R59 x198⟩, ⟨[3], [], [], Fct.rel [3, 31] (fun l => ∀ (A200 : Option Addr) (cA200 : Nat), l.getD 1 undef = .slice A200 x198.length cA200 → l.getD 0 undef = .slice A200 x198.length cA200)⟩]) (by kernel_rfl) hz193 hd193 (by simp only [List.forall_mem_cons]; exact ⟨b193_A140, fun _ h => nomatch h⟩) ?_ ?_
      · refine sc (fun _ _ _ _ s _ => px (or_move (s.1.trans e193_3))) ?_
        refine sc (fun _ _ _ _ s hE => px (or_load (l := [.slice A191 x190.length cA191, .int .i64 x182.2.1, .int .i64 x182.2.2]) ta59 (s.1.trans e193_5) (Blk.cellsFrom (be_ hE b193_g184).2 0 rfl) rfl)) ?_
        refine sc (fun _ _ _ f _ hE => px (or_litN (R := R59) (lab := 197) (L := [1]) (e := 59) (cs := #[.slice A191 x190.length cA191, .int .i64 x182.2.1, .int .i64 x182.2.2]) (l := [(x190, x182.2.1, x182.2.2)]) (n := 1) [(29, .agg #[.slice A191 x190.length cA191, .int .i64 x182.2.1, .int .i64 x182.2.2])] rfl rfl ⟨f.1, trivial⟩ (by kernel_rfl) rfl (by decide) ⟨(Ex.iff X59).2 ⟨((A191, cA191), (), ()), rfl, ⟨(RdO.evo rfl hE b193_A191), trivial, trivial⟩⟩, rfl⟩ rfl)) ?_
        refine sc (fun own a wx hf hsl hE => ?_) ?_
        · obtain ⟨f_28, ⟨⟨A196, cA196⟩, f_30, b_A196⟩, b_A140, -⟩ := hf
          exact px (or_append (R := R59) (lab := 143) (lab2 := 199) (L := [1, 144]) (L3 := [1, 144, 197]) tp22 f_28 b_A140 (by decide) f_30 (RwO.rd b_A196) hx198 (by decide) (by decide) (mem_of rfl) (.inr ⟨rfl, rfl, by decide, by decide⟩))
        refine sc (fun own a wx hf hsl hE => ?_) ?_
        · obtain ⟨⟨⟨A200, cA200⟩, (f_31 : a.eval (.tmp 31) = .slice A200 x198.length cA200), b_A200⟩, -⟩ := hf
          exact px (or_mono (f := Fct.val 3 (.slice A200 x198.length cA200)) (or_assign f_31) (fun own' a' w' v' hp h => fun _ _ h0' => by cases (f_31.symm.trans ((hp.2 31 (by decide)).symm.trans h0')); exact h))
        exact steps_nil
      intro own201 a201 w201 hd201 hz201 hk201 hf201 hE201
      have e201_0 := (hk201 0 rfl).trans e193_0
      have e201_4 := (hk201 4 rfl).trans e193_4
      obtain ⟨⟨⟨A200, cA200⟩, (f_31 : a201.eval (.tmp 31) = .slice A200 x198.length cA200), (b201_A200 : RwO own201 199 [1, 144, 197] w201 59 R59 A200 cA200 x198)⟩, (q_3 : ∀ (A200 : Option Addr) (cA200 : Nat), a201.eval (.tmp 31) = .slice A200 x198.length cA200 → a201.eval (.tmp 3) = .slice A200 x198.length cA200), -⟩ := hf201 [3, 4] rfl
      have e201_3 := q_3 _ _ f_31
      have hX201 := Evo.step hX193 hown hE201 rfl
      have b201_Al1 := RdO.evo rfl hE201 b193_Al1
      refine hn181 _ _ ?_
      refine hn180 _ _ ?_
      refine rg0 33 own201 (bz 3) [⟨[], [4], [], Fct.val 14 (.int .i64 i145)⟩, ⟨[0], [], [], Fct.val 15 (.int .i64 (ad i145 1))⟩, ⟨[1], [], [], Fct.val 4 (.int .i64 (ad i145 1))⟩] hz201 hd201 (by kernel_rfl) ?_ ?_
      · refine sc (fun _ _ _ _ s _ => px (or_move (s.1.trans e201_4))) ?_
        refine sc (fun _ _ _ f _ _ => px (or_add f.1 rfl rfl)) ?_
        refine sc (fun _ _ _ f _ _ => px (or_assign f.1)) ?_
        exact steps_nil
      intro own202 a202 w202 hd202 hz202 hk202 hf202 hE202
      have e202_0 := (hk202 0 rfl).trans e201_0
      have e202_3 := (hk202 3 rfl).trans e201_3
      obtain ⟨(e202_4 : a202.eval (.tmp 4) = .int .i64 (ad i145 1)), -⟩ := hf202 [2] rfl
      have hX202 := Evo.step hX201 hown hE202 rfl
      have b202_Al1 := RdO.evo rfl hE202 b201_Al1
      have b202_A200 := re_ hE202 b201_A200
      exact hn174 _ _ _ hs ⟨(rl [(197, 144), (199, 143)] own202), A200, cA200, hd202, hz202, e202_0, e202_3, e202_4, (Evo.rl_ hX202 hown rfl), (RdO.rl_ (mm := [(197, 144), (199, 143)]) b202_Al1), (RwO.more (RwO.rl_ (mm := [(197, 144), (199, 143)]) b202_A200) (by decide))⟩
    refine fl_exit ?_
    refine hp176 _ _ _ rfl ?_
    replace hs := hz174 _ hs
    refine hp174 _ _ _ rfl ?_
    refine hx112 _ _ ?_
    refine hn110 _ _ ?_
    refine rg0_seq 33 own178 (bz 2) [⟨[], [3], [], Fct.val 32 (.slice A140 out142.length c141)⟩, ⟨[0], [], [], Fct.val 2 (.slice A140 out142.length c141)⟩] hz178 hd178 (by kernel_rfl) ?_ ?_
    · refine sc (fun _ _ _ _ s _ => px (or_move (s.1.trans e178_3))) ?_
      refine sc (fun _ _ _ f _ _ => px (or_assign f.1)) ?_
      exact steps_nil
    intro own203 a203 w203 hd203 hz203 hk203 hf203 hE203
    obtain ⟨(e203_2 : a203.eval (.tmp 2) = .slice A140 out142.length c141), -⟩ := hf203 [1] rfl
    have hX203 := Evo.step hX178 hown hE203 rfl
    have b203_A140 := re_ hE203 b178_A140
    refine fl_ret ?_
    obtain rfl := (osome hs).symm
    exact hret _ _ _ _ (.inl rfl) hd203 (results1_ rfl (RVal.tmp_ e203_2)) ⟨(rl [(143, 2), (144, 3)] own203), (A140, c141), rfl, (Evo.rl_ hX203 hown rfl), (RwO.rl_ (mm := [(143, 2), (144, 3)]) b203_A140)⟩
theorem law15_Cut_w (w : World) (own : Own) (n1 : (List ((List (Int × Int)) × Int × Int)) × (List (List (List Int)))) (An1_0 : Option Addr) (cn1_0 : Nat) (An1_1 : Option Addr) (cn1_1 : Nat) (hown : ∀ b, own b ≤ 1) (hAn1_0 : RdO own [1] w R59 An1_0 cn1_0 n1.1) (hAn1_1 : RdO own [1] w R27 An1_1 cn1_1 n1.2) (r : (List ((List (Int × Int)) × Int × Int)) × (List (List (List Int)))) (hs : law15_Cut n1 = some r) :
    Calls Try.prog 15 #[.agg #[.slice An1_0 n1.1.length cn1_0, .slice An1_1 n1.2.length cn1_1]] w fun e w' => ∃ (own' : Own) (x : (Option Addr × Nat) × (Option Addr × Nat)), e = .returned (.agg #[.slice x.1.1 r.1.length x.1.2, .slice x.2.1 r.2.length x.2.2]) ∧ Evo [] own own' w w' ∧ RwO own' 2 [1, 3] w' 59 R59 x.1.1 x.1.2 r.1 ∧ RwO own' 4 [1, 5] w' 27 R27 x.2.1 x.2.2 r.2 := by
  refine fl_enter (n := 62) rfl rfl rfl (Nat.le_of_ble_eq_true rfl) ?_
  intro a0 Q hd0 hz0 harg hret
  have ha0 := harg 0 _ rfl
  clear harg
  have hE0 : Evo [] own own w w := Evo.refl _ _ _
  refine rg0_seq 62 own [0, 0] [⟨[], [0], [], Fct.blk 472 1 (fun g => .pointer (some ⟨g, 0, none⟩)) 25 #[.slice An1_0 n1.1.length cn1_0, .slice An1_1 n1.2.length cn1_1]⟩, ⟨[], [], [], Fct.blk 474 2 (fun g => .pointer (some ⟨g, 0, none⟩)) 25 #[.slice none 0 0, .slice none 0 0]⟩] hz0 hd0 (by kernel_rfl) ?_ ?_
  · refine sc (fun _ _ _ _ s _ => px (or_new [(0, .agg #[.slice An1_0 n1.1.length cn1_0, .slice An1_1 n1.2.length cn1_1])] rfl rfl ⟨(s.1.trans ha0), trivial⟩ (by kernel_rfl))) ?_
    refine sc (fun _ _ _ _ _ _ => px (or_new [] rfl rfl trivial (by kernel_rfl))) ?_
    exact steps_nil
  intro own475 a475 w475 hd475 hz475 hk475 hf475 hE475
  obtain ⟨⟨g471, (e475_1 : a475.eval (.tmp 1) = .pointer (some ⟨g471, 0, none⟩)), (b475_g471 : BlkO own475 472 w475 g471 25 #[.slice An1_0 n1.1.length cn1_0, .slice An1_1 n1.2.length cn1_1])⟩, ⟨g473, (e475_2 : a475.eval (.tmp 2) = .pointer (some ⟨g473, 0, none⟩)), (b475_g473 : BlkO own475 474 w475 g473 25 #[.slice none 0 0, .slice none 0 0])⟩, -⟩ := hf475 [0, 1] rfl
  have hX475 := Evo.step hE0 hown hE475 rfl
  have b475_An1_0 := RdO.evo rfl hE475 hAn1_0
  have b475_An1_1 := RdO.evo rfl hE475 hAn1_1
  obtain ⟨r476, hr476, hs⟩ := obind hs
  refine rg_plain_seq (n := 62) (rs := []) (own0 := own475) (K := [482]) (bs := [0, 1, 3, 7, 0, 31]) (ds := [⟨[], [1], [], Fct.val 8 (.pointer (some ⟨g471, 0, none⟩))⟩, ⟨[0], [], [], Fct.val 9 (.slice An1_0 n1.1.length cn1_0)⟩, ⟨[1], [], [], Fct.mems [478, 479, 480, 1] 10 (fun (x : Option Addr × Nat) => .slice x.1 r476.length x.2) (fun (x : Option Addr × Nat) own w => RwO own 478 [479, 480, 1] w 59 R59 x.1 x.2 r476) (fun hk he h => RwO.evo (hits_sub hk (by decide)) he h)⟩, ⟨[2], [], [], Fct.rel [11, 10] (fun l => ∀ (A477 : Option Addr) (cA477 : Nat), l.getD 1 undef = .slice A477 r476.length cA477 → l.getD 0 undef = .agg #[.slice A477 r476.length cA477, .slice none 0 0])⟩, ⟨[], [], [], Fct.blk 482 3 (fun g => .pointer (some ⟨g, 0, none⟩)) 25 #[.slice none 0 0, .slice none 0 0]⟩, ⟨[4, 3, 2], [], [482], Fct.by_ [483] [3, 10] (fun l own w => ∃ g481 : Nat, l.getD 0 undef = .pointer (some ⟨g481, 0, none⟩) ∧ (∀ (A477 : Option Addr) (cA477 : Nat), l.getD 1 undef = .slice A477 r476.length cA477 → BlkO own 483 w g481 25 #[.slice A477 r476.length cA477, .slice none 0 0])) (fun hk he h => by obtain ⟨g, e, h⟩ := h; exact ⟨g, e, fun _ _ h0' => BlkO.evo (not_hit hk (by decide)) he (h _ _ h0')⟩)⟩]) (by kernel_rfl) hz475 hd475 nm_ ?_ ?_
  · refine sc (fun _ _ _ _ s _ => px (or_field fo25_0 (s.1.trans e475_1) (by rfl))) ?_
    refine sc (fun _ _ _ f _ hE => px (or_load1 to22 f.1 (Blk.at_ (be_ hE b475_g471).2 0 rfl))) ?_
    refine sc (fun own _ _ f _ hE => px (or_call cf33 (args1 f.1) (law14_Cut_w _ (forth own (inL [1])) n1.1 An1_0 cn1_0 inL_le (RdO.alias_ (La := [1]) (RdO.evo rfl hE b475_An1_0) (by decide)) r476 hr476) (post_alias (La := [1]) (m' := (look0 [(1, 479), (2, 478), (3, 480)])) (fun own' w' a' x ho hsz h1 h => ⟨x, h1, RwO.backM_ ho h (by decide) (by decide) (by decide) (by decide)⟩)))) ?_
    refine sc (fun own a wx hf hsl hE => ?_) ?_
    · obtain ⟨⟨⟨A477, cA477⟩, (f_10 : a.eval (.tmp 10) = .slice A477 r476.length cA477), b_A477⟩, -⟩ := hf
      exact px (or_mono (f := Fct.val 11 (.agg #[.slice A477 r476.length cA477, .slice none 0 0])) (or_k [(10, .slice A477 r476.length cA477)] rfl rfl ⟨f_10, trivial⟩ (by kernel_rfl)) (fun own' a' w' v' hp h => fun _ _ h0' => by cases (f_10.symm.trans ((hp.2 10 (by decide)).symm.trans h0')); exact h))
    refine sc (fun _ _ _ _ _ _ => px (or_new [] rfl rfl trivial (by kernel_rfl))) ?_
    refine sc (fun own a wx hf hsl hE => ?_) ?_
    · obtain ⟨⟨g481, f_3, b_g481⟩, (q_11 : ∀ (A477 : Option Addr) (cA477 : Nat), a.eval (.tmp 10) = .slice A477 r476.length cA477 → a.eval (.tmp 11) = .agg #[.slice A477 r476.length cA477, .slice none 0 0]), ⟨⟨A477, cA477⟩, (f_10 : a.eval (.tmp 10) = .slice A477 r476.length cA477), b_A477⟩, -⟩ := hf
      have f_11 := q_11 _ _ f_10
      exact px (or_store (l := #[.slice A477 r476.length cA477, .slice none 0 0]) (lab := 482) (lab2 := 483) ts25 f_3 f_11 b_g481 (by simp) (by kernel_rfl) (mem_of rfl) (by decide) (by kernel_rfl) (fun own' a' w' ha hb => ⟨_, (ha 3).trans f_3, fun _ _ h0' => by cases (f_10.symm.trans ((ha 10).symm.trans h0')); exact hb⟩))
    exact steps_nil
  intro own484 a484 w484 hd484 hz484 hk484 hf484 hE484
  have e484_1 := (hk484 1 rfl).trans e475_1
  have e484_2 := (hk484 2 rfl).trans e475_2
  obtain ⟨⟨⟨A477, cA477⟩, (f_10 : a484.eval (.tmp 10) = .slice A477 r476.length cA477), (b484_A477 : RwO own484 478 [479, 480, 1] w484 59 R59 A477 cA477 r476)⟩, ⟨g481, (e484_3 : a484.eval (.tmp 3) = .pointer (some ⟨g481, 0, none⟩)), (bq_g481 : ∀ (A477 : Option Addr) (cA477 : Nat), a484.eval (.tmp 10) = .slice A477 r476.length cA477 → BlkO own484 483 w484 g481 25 #[.slice A477 r476.length cA477, .slice none 0 0])⟩, -⟩ := hf484 [2, 5] rfl
  have b484_g481 := bq_g481 _ _ f_10
  have hX484 := Evo.step hX475 hown hE484 rfl
  have b484_An1_0 := RdO.evo rfl hE484 b475_An1_0
  have b484_An1_1 := RdO.evo rfl hE484 b475_An1_1
  have b484_g471 := be_ hE484 b475_g471
  have b484_g473 := be_ hE484 b475_g473
  refine fl_seq (fun Q485 hn485 hp485 => ?_)
  refine rg0_seq 62 own484 (bz 1) [⟨[], [], [], Fct.val 4 (.int .i64 0)⟩] hz484 hd484 (by kernel_rfl) ?_ ?_
  · refine sc (fun _ _ _ _ _ _ => px (or_assign rfl)) ?_
    exact steps_nil
  intro own486 a486 w486 hd486 hz486 hk486 hf486 hE486
  have e486_1 := (hk486 1 rfl).trans e484_1
  have e486_2 := (hk486 2 rfl).trans e484_2
  have e486_3 := (hk486 3 rfl).trans e484_3
  obtain ⟨(e486_4 : a486.eval (.tmp 4) = .int .i64 0), -⟩ := hf486 [0] rfl
  have hX486 := Evo.step hX484 hown hE486 rfl
  have b486_An1_0 := RdO.evo rfl hE486 b484_An1_0
  have b486_An1_1 := RdO.evo rfl hE486 b484_An1_1
  have b486_g471 := be_ hE486 b484_g471
  have b486_g473 := be_ hE486 b484_g473
  have b486_A477 := re_ hE486 b484_A477
  have b486_g481 := be_ hE486 b484_g481
  refine fl_block (fun Q487 hn487 hx487 hp487 => ?_)
  refine fl_loop (body := (fun s => law15_Cut_b1 n1 r476 s.1 s.2)) (z := r) (show loopO _ _ = _ from hs) (fun (s : (List (List (List Int))) × Int) a wx => match s with | (out635, i638) => ∃ (ox : Own) (A633 : Option Addr) (c634 : Nat), a.defers = [] ∧ a.tmps.size = 62 ∧ a.eval (.tmp 1) = .pointer (some ⟨g471, 0, none⟩) ∧ a.eval (.tmp 2) = .pointer (some ⟨g473, 0, none⟩) ∧ a.eval (.tmp 3) = .pointer (some ⟨g481, 0, none⟩) ∧ a.eval (.tmp 4) = .int .i64 i638 ∧ Evo [] own ox w wx ∧ BlkO ox 472 wx g471 25 #[.slice An1_0 n1.1.length cn1_0, .slice An1_1 n1.2.length cn1_1] ∧ RdO ox [1] wx R59 An1_0 cn1_0 n1.1 ∧ RdO ox [1] wx R27 An1_1 cn1_1 n1.2 ∧ BlkO ox 474 wx g473 25 #[.slice none 0 0, .slice none 0 0] ∧ BlkO ox 631 wx g481 25 #[.slice A477 r476.length cA477, .slice A633 out635.length c634] ∧ RwO ox 478 [1, 632] wx 59 R59 A477 cA477 r476 ∧ RwO ox 636 [637] wx 27 R27 A633 c634 out635) ?_ ?_
  · exact ⟨(rl [(479, 632), (480, 632), (483, 631)] own486), none, 0, hd486, hz486, e486_1, e486_2, e486_3, e486_4, (Evo.rl_ hX486 hown rfl), (BlkO.rl_ (mm := [(479, 632), (480, 632), (483, 631)]) b486_g471), (RdO.rl_ (mm := [(479, 632), (480, 632), (483, 631)]) b486_An1_0), (RdO.rl_ (mm := [(479, 632), (480, 632), (483, 631)]) b486_An1_1), (BlkO.rl_ (mm := [(479, 632), (480, 632), (483, 631)]) b486_g473), (BlkO.rl_ (mm := [(479, 632), (480, 632), (483, 631)]) b486_g481), (RwO.more (RwO.rl_ (mm := [(479, 632), (480, 632), (483, 631)]) b486_A477) (by decide)), RwO.nil_⟩
  · rintro ⟨out635, i638⟩ zz783 a783 w783 ⟨own783, A633, c634, hd784, hz784, e784_1, e784_2, e784_3, e784_4, hE784, b784_g471, b784_An1_0, b784_An1_1, b784_g473, b784_g481, b784_A477, b784_A633⟩ hs Q783 hn783 hp783 hz783
    have hs : law15_Cut_b1 n1 r476 out635 i638 = some zz783 := hs
    refine fl_seq (fun Q785 hn785 hp785 => ?_)
    obtain ⟨x786, hx786, hs⟩ := obind hs
    refine rg0_seq 62 own783 [0, 0, 2, 6, 15, 31, 63, 127, 255] [⟨[], [4], [], Fct.val 12 (.int .i64 i638)⟩, ⟨[], [1], [], Fct.val 13 (.pointer (some ⟨g471, 1, none⟩))⟩, ⟨[1], [], [], Fct.val 14 (.slice An1_1 n1.2.length cn1_1)⟩, ⟨[2], [], [], Fct.val 15 (.int .i64 (n1.2.length : Int))⟩, ⟨[0, 3], [], [], Fct.val 16 (.bool (decide (i638 < (n1.2.length : Int))))⟩, ⟨[4], [], [], Fct.val 17 (.bool (decide (i638 < (n1.2.length : Int))))⟩, ⟨[5], [4], [], Fct.cond (decide (i638 < (n1.2.length : Int))) (some 18) (Fct.val 18 (.int .i64 i638))⟩, ⟨[5, 6], [], [], Fct.cond (decide (i638 < (n1.2.length : Int))) (some 19) (Fct.val 19 (.bool (decide (i638 < 6))))⟩, ⟨[5, 7], [], [], Fct.val 20 (.bool x786)⟩] hz784 hd784 (by kernel_rfl) ?_ ?_
    · refine sc (fun _ _ _ _ s _ => px (or_move (s.1.trans e784_4))) ?_
      refine sc (fun _ _ _ _ s _ => px (or_field fo25_1 (s.1.trans e784_1) (by rfl))) ?_
      refine sc (fun _ _ _ f _ hE => px (or_load1 to23 f.1 (Blk.at_ (be_ hE b784_g471).2 1 rfl))) ?_
      refine sc (fun _ _ _ f _ _ => px (or_len tu23 f.1 rfl)) ?_
      refine sc (fun _ _ _ f _ _ => px (or_lss f.1 f.2.1 rfl)) ?_
      refine sc (fun _ _ _ f _ _ => px (or_move f.1)) ?_
      refine sc (fun _ _ _ f s _ => sg_t rfl rfl rfl f.1 (fun hg => or_move (s.1.trans e784_4))) ?_
      refine sc (fun _ _ _ f _ _ => sg_t rfl rfl rfl f.1 (fun hg => or_lss (f.2.1.1 hg) rfl rfl)) ?_
      refine sc (fun _ _ _ f _ _ => px (or_and f.1 (fun hx => f.2.1.1 hx) rfl (osome hx786).symm)) ?_
      exact steps_nil
    intro own787 a787 w787 hd787 hz787 hk787 hf787 hE787
    have e787_1 := (hk787 1 rfl).trans e784_1
    have e787_2 := (hk787 2 rfl).trans e784_2
    have e787_3 := (hk787 3 rfl).trans e784_3
    have e787_4 := (hk787 4 rfl).trans e784_4
    obtain ⟨(e787_20 : a787.eval (.tmp 20) = .bool x786), -⟩ := hf787 [8] rfl
    have hX787 := Evo.step hE784 hown hE787 rfl
    have b787_g471 := be_ hE787 b784_g471
    have b787_An1_0 := RdO.evo rfl hE787 b784_An1_0
    have b787_An1_1 := RdO.evo rfl hE787 b784_An1_1
    have b787_g473 := be_ hE787 b784_g473
    have b787_g481 := be_ hE787 b784_g481
    have b787_A477 := re_ hE787 b784_A477
    have b787_A633 := re_ hE787 b784_A633
    refine fl_cond e787_20 hs (fun c788 hs => ?_) (fun c788 hs => ?_)
    · refine fl_skip ?_
      refine hn785 _ _ ?_
      refine fl_seq (fun Q789 hn789 hp789 => ?_)
      refine fl_block (fun Q790 hn790 hx790 hp790 => ?_)
      refine rg0_seq 62 own787 (bz 1) [⟨[], [], [], Fct.val 5 (.slice none 0 0)⟩] hz787 hd787 (by kernel_rfl) ?_ ?_
      · refine sc (fun _ _ _ _ _ _ => px (or_assign rfl)) ?_
        exact steps_nil
      intro own791 a791 w791 hd791 hz791 hk791 hf791 hE791
      have e791_1 := (hk791 1 rfl).trans e787_1
      have e791_2 := (hk791 2 rfl).trans e787_2
      have e791_3 := (hk791 3 rfl).trans e787_3
      have e791_4 := (hk791 4 rfl).trans e787_4
      obtain ⟨(e791_5 : a791.eval (.tmp 5) = .slice none 0 0), -⟩ := hf791 [0] rfl
      have hX791 := Evo.step hX787 hown hE791 rfl
      have b791_g471 := be_ hE791 b787_g471
      have b791_An1_0 := RdO.evo rfl hE791 b787_An1_0
      have b791_An1_1 := RdO.evo rfl hE791 b787_An1_1
      have b791_g473 := be_ hE791 b787_g473
      have b791_g481 := be_ hE791 b787_g481
      have b791_A477 := re_ hE791 b787_A477
      have b791_A633 := re_ hE791 b787_A633
      refine fl_seq (fun Q792 hn792 hp792 => ?_)
      refine rg0_seq 62 own791 (bz 1) [⟨[], [], [], Fct.val 6 (.int .i64 0)⟩] hz791 hd791 (by kernel_rfl) ?_ ?_
      · refine sc (fun _ _ _ _ _ _ => px (or_assign rfl)) ?_
        exact steps_nil
      intro own793 a793 w793 hd793 hz793 hk793 hf793 hE793
      have e793_1 := (hk793 1 rfl).trans e791_1
      have e793_2 := (hk793 2 rfl).trans e791_2
      have e793_3 := (hk793 3 rfl).trans e791_3
      have e793_4 := (hk793 4 rfl).trans e791_4
      have e793_5 := (hk793 5 rfl).trans e791_5
      obtain ⟨(e793_6 : a793.eval (.tmp 6) = .int .i64 0), -⟩ := hf793 [0] rfl
      have hX793 := Evo.step hX791 hown hE793 rfl
      have b793_g471 := be_ hE793 b791_g471
      have b793_An1_0 := RdO.evo rfl hE793 b791_An1_0
      have b793_An1_1 := RdO.evo rfl hE793 b791_An1_1
      have b793_g473 := be_ hE793 b791_g473
      have b793_g481 := be_ hE793 b791_g481
      have b793_A477 := re_ hE793 b791_A477
      have b793_A633 := re_ hE793 b791_A633
      refine fl_block (fun Q794 hn794 hx794 hp794 => ?_)
      refine fl_loop (body := (fun s => law15_Cut_b2 n1 out635 i638 s.1 s.2)) (z := zz783) (show loopO _ _ = _ from hs) (fun (s : (List (List Int)) × Int) a wx => match s with | (some832, k835) => ∃ (ox : Own) (A830 : Option Addr) (c831 : Nat), a.defers = [] ∧ a.tmps.size = 62 ∧ a.eval (.tmp 1) = .pointer (some ⟨g471, 0, none⟩) ∧ a.eval (.tmp 2) = .pointer (some ⟨g473, 0, none⟩) ∧ a.eval (.tmp 3) = .pointer (some ⟨g481, 0, none⟩) ∧ a.eval (.tmp 4) = .int .i64 i638 ∧ a.eval (.tmp 5) = .slice A830 some832.length c831 ∧ a.eval (.tmp 6) = .int .i64 k835 ∧ Evo [] own ox w wx ∧ BlkO ox 472 wx g471 25 #[.slice An1_0 n1.1.length cn1_0, .slice An1_1 n1.2.length cn1_1] ∧ RdO ox [1] wx R59 An1_0 cn1_0 n1.1 ∧ RdO ox [1] wx R27 An1_1 cn1_1 n1.2 ∧ BlkO ox 474 wx g473 25 #[.slice none 0 0, .slice none 0 0] ∧ BlkO ox 631 wx g481 25 #[.slice A477 r476.length cA477, .slice A633 out635.length c634] ∧ RwO ox 478 [1, 828] wx 59 R59 A477 cA477 r476 ∧ RwO ox 636 [829] wx 27 R27 A633 c634 out635 ∧ RwN ox 833 834 [] wx 28 3 R3 A830 c831 some832) ?_ ?_
      · exact ⟨(rl [(632, 828), (637, 829)] own793), none, 0, hd793, hz793, e793_1, e793_2, e793_3, e793_4, e793_5, e793_6, (Evo.rl_ hX793 hown rfl), (BlkO.rl_ (mm := [(632, 828), (637, 829)]) b793_g471), (RdO.rl_ (mm := [(632, 828), (637, 829)]) b793_An1_0), (RdO.rl_ (mm := [(632, 828), (637, 829)]) b793_An1_1), (BlkO.rl_ (mm := [(632, 828), (637, 829)]) b793_g473), (BlkO.rl_ (mm := [(632, 828), (637, 829)]) b793_g481), (RwO.rl_ (mm := [(632, 828), (637, 829)]) b793_A477), (RwO.rl_ (mm := [(632, 828), (637, 829)]) b793_A633), RwN.nil_⟩
      · rintro ⟨some832, k835⟩ zz874 a874 w874 ⟨own874, A830, c831, hd875, hz875, e875_1, e875_2, e875_3, e875_4, e875_5, e875_6, hE875, b875_g471, b875_An1_0, b875_An1_1, b875_g473, b875_g481, b875_A477, b875_A633, b875_A830⟩ hs Q874 hn874 hp874 hz874
        have hs : law15_Cut_b2 n1 out635 i638 some832 k835 = some zz874 := hs
        refine fl_seq (fun Q876 hn876 hp876 => ?_)
        obtain ⟨x877, hx877, hs⟩ := obind hs
        obtain ⟨x879, hx879, hs⟩ := obind hs
        refine rg0_seq 62 own874 [0, 0, 2, 0, 14, 30, 62, 127, 255, 511, 1023, 2047] [⟨[], [6], [], Fct.val 23 (.int .i64 k835)⟩, ⟨[], [1], [], Fct.val 24 (.pointer (some ⟨g471, 1, none⟩))⟩, ⟨[1], [], [], Fct.val 25 (.slice An1_1 n1.2.length cn1_1)⟩, ⟨[], [4], [], Fct.val 26 (.int .i64 i638)⟩, ⟨[2, 3], [], [], Fct.val 27 (.pointer (some ((adr An1_1).add ((i638 : Int).toNat * R27.s))))⟩, ⟨[4], [], [], Fct.nest X27 [1] 28 (fun (y : (Option Addr × Nat)) => .slice y.1 x877.length y.2) x877⟩, ⟨[5], [], [], Fct.val 29 (.int .i64 (x877.length : Int))⟩, ⟨[0, 6], [], [], Fct.val 30 (.bool (decide (k835 < (x877.length : Int))))⟩, ⟨[7], [], [], Fct.val 31 (.bool (decide (k835 < (x877.length : Int))))⟩, ⟨[8], [6], [], Fct.cond (decide (k835 < (x877.length : Int))) (some 32) (Fct.val 32 (.int .i64 k835))⟩, ⟨[8, 9], [], [], Fct.cond (decide (k835 < (x877.length : Int))) (some 33) (Fct.val 33 (.bool (decide (k835 < 5))))⟩, ⟨[8, 10], [], [], Fct.val 34 (.bool x879)⟩] hz875 hd875 (by kernel_rfl) ?_ ?_
        · refine sc (fun _ _ _ _ s _ => px (or_move (s.1.trans e875_6))) ?_
          refine sc (fun _ _ _ _ s _ => px (or_field fo25_1 (s.1.trans e875_1) (by rfl))) ?_
          refine sc (fun _ _ _ f _ hE => px (or_load1 to23 f.1 (Blk.at_ (be_ hE b875_g471).2 1 rfl))) ?_
          refine sc (fun _ _ _ _ s _ => px (or_move (s.1.trans e875_4))) ?_
          refine sc (fun _ _ _ f _ _ => px (or_index (R := R27) (l := n1.2) tl23 f.1 f.2.1 (RdO.some_ b875_An1_1 hx877) hx877)) ?_
          refine sc (fun _ _ _ f _ hE => px (or_loadN1 X27 0 to27 f.1 (Addr.add_zero' _).symm (RdO.evo rfl hE b875_An1_1) hx877 (fun _ => rfl))) ?_
          refine sc (fun own a wx hf hsl hE => ?_) ?_
          · obtain ⟨⟨⟨A878, cA878⟩, f_28, b_A878⟩, -⟩ := hf
            exact px (or_len tu27 f_28 rfl)
          refine sc (fun _ _ _ f _ _ => px (or_lss f.1 f.2.1 rfl)) ?_
          refine sc (fun _ _ _ f _ _ => px (or_move f.1)) ?_
          refine sc (fun _ _ _ f s _ => sg_t rfl rfl rfl f.1 (fun hg => or_move (s.1.trans e875_6))) ?_
          refine sc (fun _ _ _ f _ _ => sg_t rfl rfl rfl f.1 (fun hg => or_lss (f.2.1.1 hg) rfl rfl)) ?_
          refine sc (fun _ _ _ f _ _ => px (or_and f.1 (fun hx => f.2.1.1 hx) rfl (osome hx879).symm)) ?_
          exact steps_nil
        intro own880 a880 w880 hd880 hz880 hk880 hf880 hE880
        have e880_1 := (hk880 1 rfl).trans e875_1
        have e880_2 := (hk880 2 rfl).trans e875_2
        have e880_3 := (hk880 3 rfl).trans e875_3
        have e880_4 := (hk880 4 rfl).trans e875_4
        have e880_5 := (hk880 5 rfl).trans e875_5
        have e880_6 := (hk880 6 rfl).trans e875_6
        obtain ⟨(e880_34 : a880.eval (.tmp 34) = .bool x879), -⟩ := hf880 [11] rfl
        have hX880 := Evo.step hE875 hown hE880 rfl
        have b880_g471 := be_ hE880 b875_g471
        have b880_An1_0 := RdO.evo rfl hE880 b875_An1_0
        have b880_An1_1 := RdO.evo rfl hE880 b875_An1_1
        have b880_g473 := be_ hE880 b875_g473
        have b880_g481 := be_ hE880 b875_g481
        have b880_A477 := re_ hE880 b875_A477
        have b880_A633 := re_ hE880 b875_A633
        have b880_A830 := RwN.evo rfl hE880 b875_A830
        refine fl_cond e880_34 hs (fun c881 hs => ?_) (fun c881 hs => ?_)
        · refine fl_skip ?_
          refine hn876 _ _ ?_
          refine fl_seq (fun Q882 hn882 hp882 => ?_)
          refine fl_block (fun Q883 hn883 hx883 hp883 => ?_)
          obtain ⟨x884, hx884, hs⟩ := obind hs
          obtain ⟨x886, hx886, hs⟩ := obind hs
          refine rg0_seq 62 own880 [0, 1, 0, 7, 15, 0, 63, 127, 255] [⟨[], [1], [], Fct.val 37 (.pointer (some ⟨g471, 1, none⟩))⟩, ⟨[0], [], [], Fct.val 38 (.slice An1_1 n1.2.length cn1_1)⟩, ⟨[], [4], [], Fct.val 39 (.int .i64 i638)⟩, ⟨[1, 2], [], [], Fct.val 40 (.pointer (some ((adr An1_1).add ((i638 : Int).toNat * R27.s))))⟩, ⟨[3], [], [], Fct.nest X27 [1] 41 (fun (y : (Option Addr × Nat)) => .slice y.1 x884.length y.2) x884⟩, ⟨[], [6], [], Fct.val 42 (.int .i64 k835)⟩, ⟨[4, 5], [], [], Fct.rel [43, 41] (fun l => ∀ (A885 : Option Addr) (cA885 : Nat), l.getD 1 undef = .slice A885 x884.length cA885 → l.getD 0 undef = .pointer (some ((adr A885).add ((k835 : Int).toNat * R28.s))))⟩, ⟨[6, 4], [], [], Fct.nest X28 [1] 44 (fun (y : (Option Addr × Nat)) => .slice y.1 x886.length y.2) x886⟩, ⟨[7], [], [], Fct.rel [7, 44] (fun l => ∀ (A887 : Option Addr) (cA887 : Nat), l.getD 1 undef = .slice A887 x886.length cA887 → l.getD 0 undef = .slice A887 x886.length cA887)⟩] hz880 hd880 (by kernel_rfl) ?_ ?_
          · refine sc (fun _ _ _ _ s _ => px (or_field fo25_1 (s.1.trans e880_1) (by rfl))) ?_
            refine sc (fun _ _ _ f _ hE => px (or_load1 to23 f.1 (Blk.at_ (be_ hE b880_g471).2 1 rfl))) ?_
            refine sc (fun _ _ _ _ s _ => px (or_move (s.1.trans e880_4))) ?_
            refine sc (fun _ _ _ f _ _ => px (or_index (R := R27) (l := n1.2) tl23 f.1 f.2.1 (RdO.some_ b880_An1_1 hx884) hx884)) ?_
            refine sc (fun _ _ _ f _ hE => px (or_loadN1 X27 0 to27 f.1 (Addr.add_zero' _).symm (RdO.evo rfl hE b880_An1_1) hx884 (fun _ => rfl))) ?_
            refine sc (fun _ _ _ _ s _ => px (or_move (s.1.trans e880_6))) ?_
            refine sc (fun own a wx hf hsl hE => ?_) ?_
            · obtain ⟨⟨⟨A885, cA885⟩, (f_41 : a.eval (.tmp 41) = .slice A885 x884.length cA885), b_A885⟩, f_42, -⟩ := hf
              exact px (or_mono (f := Fct.val 43 (.pointer (some ((adr A885).add ((k835 : Int).toNat * R28.s))))) (or_index (R := R28) (l := x884) tl27 f_41 f_42 (RdO.some_ b_A885 hx886) hx886) (fun own' a' w' v' hp h => fun _ _ h0' => by cases (f_41.symm.trans ((hp.2 41 (by decide)).symm.trans h0')); exact h))
            refine sc (fun own a wx hf hsl hE => ?_) ?_
            · obtain ⟨(q_43 : ∀ (A885 : Option Addr) (cA885 : Nat), a.eval (.tmp 41) = .slice A885 x884.length cA885 → a.eval (.tmp 43) = .pointer (some ((adr A885).add ((k835 : Int).toNat * R28.s)))), ⟨⟨A885, cA885⟩, f_41, b_A885⟩, -⟩ := hf
              have f_43 := q_43 _ _ f_41
              exact px (or_loadN1 X28 0 to28 f_43 (Addr.add_zero' _).symm b_A885 hx886 (fun _ => rfl))
            refine sc (fun own a wx hf hsl hE => ?_) ?_
            · obtain ⟨⟨⟨A887, cA887⟩, (f_44 : a.eval (.tmp 44) = .slice A887 x886.length cA887), b_A887⟩, -⟩ := hf
              exact px (or_mono (f := Fct.val 7 (.slice A887 x886.length cA887)) (or_assign f_44) (fun own' a' w' v' hp h => fun _ _ h0' => by cases (f_44.symm.trans ((hp.2 44 (by decide)).symm.trans h0')); exact h))
            exact steps_nil
          intro own888 a888 w888 hd888 hz888 hk888 hf888 hE888
          have e888_1 := (hk888 1 rfl).trans e880_1
          have e888_2 := (hk888 2 rfl).trans e880_2
          have e888_3 := (hk888 3 rfl).trans e880_3
          have e888_4 := (hk888 4 rfl).trans e880_4
          have e888_5 := (hk888 5 rfl).trans e880_5
          have e888_6 := (hk888 6 rfl).trans e880_6
          obtain ⟨⟨⟨A887, cA887⟩, (f_44 : a888.eval (.tmp 44) = .slice A887 x886.length cA887), (b888_A887 : RdO own888 [1] w888 R3 A887 cA887 x886)⟩, (q_7 : ∀ (A887 : Option Addr) (cA887 : Nat), a888.eval (.tmp 44) = .slice A887 x886.length cA887 → a888.eval (.tmp 7) = .slice A887 x886.length cA887), -⟩ := hf888 [7, 8] rfl
          have e888_7 := q_7 _ _ f_44
          have hX888 := Evo.step hX880 hown hE888 rfl
          have b888_g471 := be_ hE888 b880_g471
          have b888_An1_0 := RdO.evo rfl hE888 b880_An1_0
          have b888_An1_1 := RdO.evo rfl hE888 b880_An1_1
          have b888_g473 := be_ hE888 b880_g473
          have b888_g481 := be_ hE888 b880_g481
          have b888_A477 := re_ hE888 b880_A477
          have b888_A633 := re_ hE888 b880_A633
          have b888_A830 := RwN.evo rfl hE888 b880_A830
          obtain ⟨x900, hx900, hs⟩ := obind hs
          obtain ⟨x902, hx902, hs⟩ := obind hs
          obtain ⟨x907, hx907, hs⟩ := obind hs
          refine rg_plain (n := 62) (rs := [Fct.rownAt 833 834 [] 28 3 R3 A830 c831 some832]) (own0 := own888) (K := [899, 833, 834, 903]) (bs := [0, 0, 0, 0, 8, 24, 60, 126, 254, 511, 1023]) (ds := [⟨[], [5], [], Fct.val 45 (.slice A830 some832.length c831)⟩, ⟨[], [], [], Fct.row 899 [] 46 3 R3 ([] : List Int)⟩, ⟨[], [7], [], Fct.val 47 (.slice A887 x886.length cA887)⟩, ⟨[], [7], [], Fct.val 48 (.slice A887 x886.length cA887)⟩, ⟨[3], [], [], Fct.val 49 (.int .i64 (x886.length : Int))⟩, ⟨[4], [], [], Fct.val 50 (.int .i64 (mn (x886.length : Int) 8))⟩, ⟨[2, 5], [], [], Fct.view [1] 51 R3 x900⟩, ⟨[1, 6], [], [899], Fct.row 903 [] 52 3 R3 x902⟩, ⟨[7], [], [], Fct.rown 906 903 [] 53 28 3 R3 [x902]⟩, ⟨[0, 8, 11], [], [833, 834, 903], Fct.rown 908 909 [] 54 28 3 R3 x907⟩, ⟨[9], [], [], Fct.rel [5, 54] (fun l => ∀ (A910 : Option Addr) (cA910 : Nat), l.getD 1 undef = .slice A910 x907.length cA910 → l.getD 0 undef = .slice A910 x907.length cA910)⟩]) (by kernel_rfl) hz888 hd888 (by simp only [List.forall_mem_cons]; exact ⟨b888_A830, fun _ h => nomatch h⟩) ?_ ?_
          · refine sc (fun _ _ _ _ s _ => px (or_move (s.1.trans e888_5))) ?_
            refine sc (fun _ _ _ _ _ _ => px (or_lit (lab := 899) (e := 3) (cs := #[]) (F := E3) (or_new [] rfl rfl trivial (by kernel_rfl)) rfl rfl (show 0 ≤ maxLen by decide))) ?_
            refine sc (fun _ _ _ _ s _ => px (or_move (s.1.trans e888_7))) ?_
            refine sc (fun _ _ _ _ s _ => px (or_move (s.1.trans e888_7))) ?_
            refine sc (fun _ _ _ f _ _ => px (or_len tu28 f.1 rfl)) ?_
            refine sc (fun _ _ _ f _ _ => px (or_min f.1 rfl)) ?_
            refine sc (fun _ _ _ f _ hE => px (or_view (R := R3) (l := x886) (L := [1]) tu28 ts3 f.1 Bnd.none_ (Bnd.some_ f.2.1) Bnd.none_ (RdO.evo rfl hE b888_A887) hx900 (.inl rfl) (by simp))) ?_
            refine sc (fun own a wx hf hsl hE => ?_) ?_
            · obtain ⟨⟨⟨A898, cA898⟩, f_46, b_A898⟩, ⟨⟨A901, cA901⟩, f_51, b_A901⟩, -⟩ := hf
              exact px (or_append (R := R3) (lab := 899) (lab2 := 903) (L := []) (L3 := []) tp28 f_46 b_A898 (by decide) f_51 b_A901 hx902 (by decide) (by decide) (mem_of rfl) (.inl (Rep.fl_flat _)))
            refine sc (fun own a wx hf hsl hE => ?_) ?_
            · obtain ⟨⟨⟨A904, cA904⟩, f_52, b_A904⟩, -⟩ := hf
              exact px (or_litO (R := R3) (lab := 906) (labE := 903) (L := []) (e := 28) (e2 := 3) (xl := x902) [(52, .slice A904 x902.length cA904)] rfl rfl ⟨f_52, trivial⟩ (by kernel_rfl) rfl b_A904 rfl)
            refine sc (fun own a wx hf hsl hE => ?_) ?_
            · obtain ⟨f_45, ⟨⟨A905, cA905⟩, f_53, b_A905⟩, b_A830, -⟩ := hf
              exact px (or_appendO (R := R3) (lab := 833) (labE := 834) (lab2 := 908) (lab3 := 909) (L := []) (L3 := []) tp27 f_45 b_A830 f_53 b_A905 hx907 (by decide) (by decide) (mem_of rfl) (mem_of rfl) (mem_of rfl) (by decide) (by decide) (by decide) (by decide) (by decide) (by decide) (by decide) rfl (by decide) (by decide))
            refine sc (fun own a wx hf hsl hE => ?_) ?_
            · obtain ⟨⟨⟨A910, cA910⟩, (f_54 : a.eval (.tmp 54) = .slice A910 x907.length cA910), b_A910⟩, -⟩ := hf
              exact px (or_mono (f := Fct.val 5 (.slice A910 x907.length cA910)) (or_assign f_54) (fun own' a' w' v' hp h => fun _ _ h0' => by cases (f_54.symm.trans ((hp.2 54 (by decide)).symm.trans h0')); exact h))
            exact steps_nil
          intro own911 a911 w911 hd911 hz911 hk911 hf911 hE911
          have e911_1 := (hk911 1 rfl).trans e888_1
          have e911_2 := (hk911 2 rfl).trans e888_2
          have e911_3 := (hk911 3 rfl).trans e888_3
          have e911_4 := (hk911 4 rfl).trans e888_4
          have e911_6 := (hk911 6 rfl).trans e888_6
          obtain ⟨⟨⟨A910, cA910⟩, (f_54 : a911.eval (.tmp 54) = .slice A910 x907.length cA910), (b911_A910 : RwN own911 908 909 [] w911 28 3 R3 A910 cA910 x907)⟩, (q_5 : ∀ (A910 : Option Addr) (cA910 : Nat), a911.eval (.tmp 54) = .slice A910 x907.length cA910 → a911.eval (.tmp 5) = .slice A910 x907.length cA910), -⟩ := hf911 [9, 10] rfl
          have e911_5 := q_5 _ _ f_54
          have hX911 := Evo.step hX888 hown hE911 rfl
          have b911_g471 := be_ hE911 b888_g471
          have b911_An1_0 := RdO.evo rfl hE911 b888_An1_0
          have b911_An1_1 := RdO.evo rfl hE911 b888_An1_1
          have b911_g473 := be_ hE911 b888_g473
          have b911_g481 := be_ hE911 b888_g481
          have b911_A477 := re_ hE911 b888_A477
          have b911_A633 := re_ hE911 b888_A633
          refine hn883 _ _ ?_
          refine hn882 _ _ ?_
          refine rg0 62 own911 (bz 3) [⟨[], [6], [], Fct.val 35 (.int .i64 k835)⟩, ⟨[0], [], [], Fct.val 36 (.int .i64 (ad k835 1))⟩, ⟨[1], [], [], Fct.val 6 (.int .i64 (ad k835 1))⟩] hz911 hd911 (by kernel_rfl) ?_ ?_
          · refine sc (fun _ _ _ _ s _ => px (or_move (s.1.trans e911_6))) ?_
            refine sc (fun _ _ _ f _ _ => px (or_add f.1 rfl rfl)) ?_
            refine sc (fun _ _ _ f _ _ => px (or_assign f.1)) ?_
            exact steps_nil
          intro own912 a912 w912 hd912 hz912 hk912 hf912 hE912
          have e912_1 := (hk912 1 rfl).trans e911_1
          have e912_2 := (hk912 2 rfl).trans e911_2
          have e912_3 := (hk912 3 rfl).trans e911_3
          have e912_4 := (hk912 4 rfl).trans e911_4
          have e912_5 := (hk912 5 rfl).trans e911_5
          obtain ⟨(e912_6 : a912.eval (.tmp 6) = .int .i64 (ad k835 1)), -⟩ := hf912 [2] rfl
          have hX912 := Evo.step hX911 hown hE912 rfl
          have b912_g471 := be_ hE912 b911_g471
          have b912_An1_0 := RdO.evo rfl hE912 b911_An1_0
          have b912_An1_1 := RdO.evo rfl hE912 b911_An1_1
          have b912_g473 := be_ hE912 b911_g473
          have b912_g481 := be_ hE912 b911_g481
          have b912_A477 := re_ hE912 b911_A477
          have b912_A633 := re_ hE912 b911_A633
          have b912_A910 := RwN.evo rfl hE912 b911_A910
          exact hn874 _ _ _ hs ⟨(rl [(908, 833), (909, 834)] own912), A910, cA910, hd912, hz912, e912_1, e912_2, e912_3, e912_4, e912_5, e912_6, (Evo.rl_ hX912 hown rfl), (BlkO.rl_ (mm := [(908, 833), (909, 834)]) b912_g471), (RdO.rl_ (mm := [(908, 833), (909, 834)]) b912_An1_0), (RdO.rl_ (mm := [(908, 833), (909, 834)]) b912_An1_1), (BlkO.rl_ (mm := [(908, 833), (909, 834)]) b912_g473), (BlkO.rl_ (mm := [(908, 833), (909, 834)]) b912_g481), (RwO.rl_ (mm := [(908, 833), (909, 834)]) b912_A477), (RwO.rl_ (mm := [(908, 833), (909, 834)]) b912_A633), (RwN.rl_ (mm := [(908, 833), (909, 834)]) b912_A910)⟩
        refine fl_exit ?_
        refine hp876 _ _ _ rfl ?_
        replace hs := hz874 _ hs
        refine hp874 _ _ _ rfl ?_
        refine hx794 _ _ ?_
        refine hn792 _ _ ?_
        obtain ⟨x922, hx922, hs⟩ := obind hs
        refine rg_plain (n := 62) (rs := [Fct.rowAt 636 [829] 27 R27 A633 c634 out635, Fct.at_ 631 g481 25 #[.slice A477 r476.length cA477, .slice A633 out635.length c634]]) (own0 := own880) (K := [636, 631]) (bs := [0, 1, 0, 4, 15, 31, 63]) (ds := [⟨[], [3], [], Fct.val 55 (.pointer (some ⟨g481, 1, none⟩))⟩, ⟨[0, 8], [], [], Fct.val 56 (.slice A633 out635.length c634)⟩, ⟨[], [5], [], Fct.val 57 (.slice A830 some832.length c831)⟩, ⟨[2], [], [], Fct.row 921 [833, 834] 58 27 R27 [some832]⟩, ⟨[1, 3, 7], [], [636], Fct.row 923 [829, 833, 834, 921] 59 27 R27 x922⟩, ⟨[], [3], [], Fct.val 60 (.pointer (some ⟨g481, 1, none⟩))⟩, ⟨[5, 4, 8], [], [631], Fct.by_ [925] [59] (fun l own w => ∀ (A924 : Option Addr) (cA924 : Nat), l.getD 0 undef = .slice A924 x922.length cA924 → BlkO own 925 w g481 25 #[.slice A477 r476.length cA477, .slice A924 x922.length cA924]) (fun hk he h _ _ h0' => BlkO.evo (not_hit hk (by decide)) he (h _ _ h0'))⟩]) (by kernel_rfl) hz880 hd880 (by simp only [List.forall_mem_cons]; exact ⟨b880_A633, b880_g481, fun _ h => nomatch h⟩) ?_ ?_
        · refine sc (fun _ _ _ _ s _ => px (or_field fo25_1 (s.1.trans e880_3) (by rfl))) ?_
          refine sc (fun own a wx hf hsl hE => ?_) ?_
          · obtain ⟨f_55, (b_g481 : BlkO own 631 wx g481 25 #[.slice A477 r476.length cA477, .slice A633 out635.length c634]), -⟩ := hf
            exact px (or_load1 to23 f_55 (Blk.at_ b_g481.2 1 rfl))
          refine sc (fun _ _ _ _ s _ => px (or_move (s.1.trans e880_5))) ?_
          refine sc (fun _ _ _ f _ hE => px (or_litN (R := R27) (lab := 921) (L := [833, 834]) (e := 27) (cs := #[.slice A830 some832.length c831]) (l := [some832]) (n := 1) [(57, .slice A830 some832.length c831)] rfl rfl ⟨f.1, trivial⟩ (by kernel_rfl) rfl (by decide) ⟨(Ex.iff X27).2 ⟨(A830, c831), rfl, (RwN.rd (RwN.evo rfl hE b880_A830))⟩, rfl⟩ rfl)) ?_
          refine sc (fun own a wx hf hsl hE => ?_) ?_
          · obtain ⟨f_56, ⟨⟨A920, cA920⟩, f_58, b_A920⟩, b_A633, -⟩ := hf
            exact px (or_append (R := R27) (lab := 636) (lab2 := 923) (L := [829]) (L3 := [829, 833, 834, 921]) tp23 f_56 b_A633 (by decide) f_58 (RwO.rd b_A920) hx922 (by decide) (by decide) (mem_of rfl) (.inr ⟨rfl, rfl, by decide, by decide⟩))
          refine sc (fun _ _ _ _ s _ => px (or_field fo25_1 (s.1.trans e880_3) (by rfl))) ?_
          refine sc (fun own a wx hf hsl hE => ?_) ?_
          · obtain ⟨f_60, ⟨⟨A924, cA924⟩, (f_59 : a.eval (.tmp 59) = .slice A924 x922.length cA924), b_A924⟩, b_g481, -⟩ := hf
            exact px (or_store1 (lab := 631) (lab2 := 925) ts23 f_60 f_59 b_g481 (by simp) rfl (mem_of rfl) (by decide) rfl (fun own' a' w' ha hb => fun _ _ h0' => by cases (f_59.symm.trans ((ha 59).symm.trans h0')); exact hb))
          exact steps_nil
        intro own926 a926 w926 hd926 hz926 hk926 hf926 hE926
        have e926_1 := (hk926 1 rfl).trans e880_1
        have e926_2 := (hk926 2 rfl).trans e880_2
        have e926_3 := (hk926 3 rfl).trans e880_3
        have e926_4 := (hk926 4 rfl).trans e880_4
        obtain ⟨⟨⟨A924, cA924⟩, (f_59 : a926.eval (.tmp 59) = .slice A924 x922.length cA924), (b926_A924 : RwO own926 923 [829, 833, 834, 921] w926 27 R27 A924 cA924 x922)⟩, (bq_g481 : ∀ (A924 : Option Addr) (cA924 : Nat), a926.eval (.tmp 59) = .slice A924 x922.length cA924 → BlkO own926 925 w926 g481 25 #[.slice A477 r476.length cA477, .slice A924 x922.length cA924]), -⟩ := hf926 [4, 6] rfl
        have b926_g481 := bq_g481 _ _ f_59
        have hX926 := Evo.step hX880 hown hE926 rfl
        have b926_g471 := be_ hE926 b880_g471
        have b926_An1_0 := RdO.evo rfl hE926 b880_An1_0
        have b926_An1_1 := RdO.evo rfl hE926 b880_An1_1
        have b926_g473 := be_ hE926 b880_g473
        have b926_A477 := re_ hE926 b880_A477
        refine hn790 _ _ ?_
        refine hn789 _ _ ?_
        refine rg0 62 own926 (bz 3) [⟨[], [4], [], Fct.val 21 (.int .i64 i638)⟩, ⟨[0], [], [], Fct.val 22 (.int .i64 (ad i638 1))⟩, ⟨[1], [], [], Fct.val 4 (.int .i64 (ad i638 1))⟩] hz926 hd926 (by kernel_rfl) ?_ ?_
        · refine sc (fun _ _ _ _ s _ => px (or_move (s.1.trans e926_4))) ?_
          refine sc (fun _ _ _ f _ _ => px (or_add f.1 rfl rfl)) ?_
          refine sc (fun _ _ _ f _ _ => px (or_assign f.1)) ?_
          exact steps_nil
        intro own927 a927 w927 hd927 hz927 hk927 hf927 hE927
        have e927_1 := (hk927 1 rfl).trans e926_1
        have e927_2 := (hk927 2 rfl).trans e926_2
        have e927_3 := (hk927 3 rfl).trans e926_3
        obtain ⟨(e927_4 : a927.eval (.tmp 4) = .int .i64 (ad i638 1)), -⟩ := hf927 [2] rfl
        have hX927 := Evo.step hX926 hown hE927 rfl
        have b927_g471 := be_ hE927 b926_g471
        have b927_An1_0 := RdO.evo rfl hE927 b926_An1_0
        have b927_An1_1 := RdO.evo rfl hE927 b926_An1_1
        have b927_g473 := be_ hE927 b926_g473
        have b927_A477 := re_ hE927 b926_A477
        have b927_g481 := be_ hE927 b926_g481
        have b927_A924 := re_ hE927 b926_A924
        exact hn783 _ _ _ hs ⟨(rl [(828, 632), (829, 637), (833, 637), (834, 637), (921, 637), (923, 636), (925, 631)] own927), A924, cA924, hd927, hz927, e927_1, e927_2, e927_3, e927_4, (Evo.rl_ hX927 hown rfl), (BlkO.rl_ (mm := [(828, 632), (829, 637), (833, 637), (834, 637), (921, 637), (923, 636), (925, 631)]) b927_g471), (RdO.rl_ (mm := [(828, 632), (829, 637), (833, 637), (834, 637), (921, 637), (923, 636), (925, 631)]) b927_An1_0), (RdO.rl_ (mm := [(828, 632), (829, 637), (833, 637), (834, 637), (921, 637), (923, 636), (925, 631)]) b927_An1_1), (BlkO.rl_ (mm := [(828, 632), (829, 637), (833, 637), (834, 637), (921, 637), (923, 636), (925, 631)]) b927_g473), (BlkO.rl_ (mm := [(828, 632), (829, 637), (833, 637), (834, 637), (921, 637), (923, 636), (925, 631)]) b927_g481), (RwO.rl_ (mm := [(828, 632), (829, 637), (833, 637), (834, 637), (921, 637), (923, 636), (925, 631)]) b927_A477), (RwO.more (RwO.rl_ (mm := [(828, 632), (829, 637), (833, 637), (834, 637), (921, 637), (923, 636), (925, 631)]) b927_A924) (by decide))⟩
    refine fl_exit ?_
    refine hp785 _ _ _ rfl ?_
    replace hs := hz783 _ hs
    refine hp783 _ _ _ rfl ?_
    refine hx487 _ _ ?_
    refine hn485 _ _ ?_
    refine rg_plain_seq (n := 62) (rs := [Fct.at_ 474 g473 25 #[.slice none 0 0, .slice none 0 0]]) (own0 := own787) (K := [474]) (bs := (bz 2)) (ds := [⟨[], [3], [], Fct.val 61 (.agg #[.slice A477 r476.length cA477, .slice A633 out635.length c634])⟩, ⟨[0, 2], [2], [474], Fct.at_ 928 g473 25 #[.slice A477 r476.length cA477, .slice A633 out635.length c634]⟩]) (by kernel_rfl) hz787 hd787 (by simp only [List.forall_mem_cons]; exact ⟨b787_g473, fun _ h => nomatch h⟩) ?_ ?_
    · refine sc (fun _ _ _ _ s hE => px (or_load (l := [.slice A477 r476.length cA477, .slice A633 out635.length c634]) ta25 (s.1.trans e787_3) (Blk.cellsFrom (be_ hE b787_g481).2 0 rfl) rfl)) ?_
      refine sc (fun own a wx hf hsl hE => ?_) ?_
      · obtain ⟨f_61, b_g473, -⟩ := hf
        obtain ⟨s_2, -⟩ := hsl
        exact px (or_store (l := #[.slice A477 r476.length cA477, .slice A633 out635.length c634]) (lab := 474) (lab2 := 928) ts25 (s_2.trans e787_2) f_61 b_g473 (by simp) (by kernel_rfl) (mem_of rfl) (by decide) (by kernel_rfl) (fun own' a' w' ha hb => hb))
      exact steps_nil
    intro own929 a929 w929 hd929 hz929 hk929 hf929 hE929
    have e929_2 := (hk929 2 rfl).trans e787_2
    obtain ⟨(b929_g473 : BlkO own929 928 w929 g473 25 #[.slice A477 r476.length cA477, .slice A633 out635.length c634]), -⟩ := hf929 [1] rfl
    have hX929 := Evo.step hX787 hown hE929 rfl
    have b929_A477 := re_ hE929 b787_A477
    have b929_A633 := re_ hE929 b787_A633
    refine fl_ret ?_
    obtain rfl := osome hs
    exact hret _ _ _ _ (.inl rfl) hd929 (results1_ rfl (RVal.cell_ e929_2 (run_loadVarAgg (l := [.slice A477 r476.length cA477, .slice A633 out635.length c634]) ta25 (Blk.cellsFrom b929_g473.2 0 rfl) rfl))) ⟨(rl [(478, 2), (632, 3), (636, 4), (637, 5)] own929), ((A477, cA477), (A633, c634)), rfl, (Evo.rl_ hX929 hown rfl), (RwO.rl_ (mm := [(478, 2), (632, 3), (636, 4), (637, 5)]) b929_A477), (RwO.more (RwO.rl_ (mm := [(478, 2), (632, 3), (636, 4), (637, 5)]) b929_A633) (by decide))⟩
theorem slices_Equal_api_Point_api_Point_w (w : World) (s1 : List (Int × Int)) (As1 : Option Addr) (cs1 : Nat) (s2 : List (Int × Int)) (As2 : Option Addr) (cs2 : Nat) (hs1 : RdO (fun _ => 0) [0] w R56 As1 cs1 s1) (hs2 : RdO (fun _ => 0) [0] w R56 As2 cs2 s2) (r : Bool) (hs : slices_Equal_api_Point_api_Point s1 s2 = some r) :
    Calls Try.prog 59 #[.slice As1 s1.length cs1, .slice As2 s2.length cs2] w fun e w' => ∃ own' : Own, e = .returned (.bool r) ∧ Evo [] (fun _ => 0) own' w w' := by
  refine fl_enter (n := 26) rfl rfl rfl (Nat.le_of_ble_eq_true rfl) ?_
  intro a0 Q hd0 hz0 harg hret
  have ha0 := harg 0 _ rfl
  have ha1 := harg 1 _ rfl
  clear harg
  have hE0 : Evo [] (fun _ => 0) (fun _ => 0) w w := Evo.refl _ _ _
  refine rg0_seq 26 (fun _ => 0) (bz 1) [⟨[], [], [], Fct.val 4 (.bool false)⟩] hz0 hd0 (by kernel_rfl) ?_ ?_
  · refine sc (fun _ _ _ _ _ _ => px (or_assign rfl)) ?_
    exact steps_nil
  intro own61 a61 w61 hd61 hz61 hk61 hf61 hE61
  have e61_0 := (hk61 0 rfl).trans ha0
  have e61_1 := (hk61 1 rfl).trans ha1
  have hX61 := es_ hE0 hE61
  have b61_As1 := RdO.evo rfl hE61 hs1
  have b61_As2 := RdO.evo rfl hE61 hs2
  refine fl_seq (fun Q62 hn62 hp62 => ?_)
  refine rg0_seq 26 own61 [0, 1, 0, 4, 15] [⟨[], [0], [], Fct.val 6 (.slice As1 s1.length cs1)⟩, ⟨[0], [], [], Fct.val 7 (.int .i64 (s1.length : Int))⟩, ⟨[], [1], [], Fct.val 8 (.slice As2 s2.length cs2)⟩, ⟨[2], [], [], Fct.val 9 (.int .i64 (s2.length : Int))⟩, ⟨[1, 3], [], [], Fct.val 10 (.bool (!decide ((s1.length : Int) = (s2.length : Int))))⟩] hz61 hd61 (by kernel_rfl) ?_ ?_
  · refine sc (fun _ _ _ _ s _ => px (or_move (s.1.trans e61_0))) ?_
    refine sc (fun _ _ _ f _ _ => px (or_len tu57 f.1 rfl)) ?_
    refine sc (fun _ _ _ _ s _ => px (or_move (s.1.trans e61_1))) ?_
    refine sc (fun _ _ _ f _ _ => px (or_len tu57 f.1 rfl)) ?_
    refine sc (fun _ _ _ f _ _ => px (or_neq f.1 f.2.1 rfl)) ?_
    exact steps_nil
  intro own63 a63 w63 hd63 hz63 hk63 hf63 hE63
  have e63_0 := (hk63 0 rfl).trans e61_0
  have e63_1 := (hk63 1 rfl).trans e61_1
  obtain ⟨(e63_10 : a63.eval (.tmp 10) = .bool (!decide ((s1.length : Int) = (s2.length : Int)))), -⟩ := hf63 [4] rfl
  have hX63 := es_ hX61 hE63
  have b63_As1 := RdO.evo rfl hE63 b61_As1
  have b63_As2 := RdO.evo rfl hE63 b61_As2
  refine fl_cond e63_10 hs (fun c64 hs => ?_) (fun c64 hs => ?_)
  · refine rg0_seq 26 own63 (bz 1) [⟨[], [], [], Fct.val 4 (.bool false)⟩] hz63 hd63 (by kernel_rfl) ?_ ?_
    · refine sc (fun _ _ _ _ _ _ => px (or_assign rfl)) ?_
      exact steps_nil
    intro own65 a65 w65 hd65 hz65 hk65 hf65 hE65
    obtain ⟨(e65_4 : a65.eval (.tmp 4) = .bool false), -⟩ := hf65 [0] rfl
    have hX65 := es_ hX63 hE65
    refine fl_ret ?_
    refine hp62 _ _ _ rfl ?_
    obtain rfl := osome hs
    exact hret _ _ _ _ (.inl rfl) hd65 (results1_ rfl (RVal.tmp_ e65_4)) ⟨own65, rfl, hX65⟩
  refine fl_skip ?_
  refine hn62 _ _ ?_
  refine fl_seq (fun Q66 hn66 hp66 => ?_)
  refine rg0_seq 26 own63 [0, 1, 0] [⟨[], [0], [], Fct.val 11 (.slice As1 s1.length cs1)⟩, ⟨[0], [], [], Fct.val 12 (.int .i64 (s1.length : Int))⟩, ⟨[], [], [], Fct.val 13 (.int .i64 0)⟩] hz63 hd63 (by kernel_rfl) ?_ ?_
  · refine sc (fun _ _ _ _ s _ => px (or_move (s.1.trans e63_0))) ?_
    refine sc (fun _ _ _ f _ _ => px (or_len tu57 f.1 rfl)) ?_
    refine sc (fun _ _ _ _ _ _ => px (or_move rfl)) ?_
    exact steps_nil
  intro own67 a67 w67 hd67 hz67 hk67 hf67 hE67
  have e67_0 := (hk67 0 rfl).trans e63_0
  have e67_1 := (hk67 1 rfl).trans e63_1
  obtain ⟨(e67_12 : a67.eval (.tmp 12) = .int .i64 (s1.length : Int)), (e67_13 : a67.eval (.tmp 13) = .int .i64 0), -⟩ := hf67 [1, 2] rfl
  have hX67 := es_ hX63 hE67
  have b67_As1 := RdO.evo rfl hE67 b63_As1
  have b67_As2 := RdO.evo rfl hE67 b63_As2
  refine fl_block (fun Q68 hn68 hx68 hp68 => ?_)
  refine fl_loop (body := (fun s => slices_Equal_api_Point_api_Point_b1 s1 s2 s)) (z := r) (show loopO _ _ = _ from hs) (fun (x82 : Int) a wx => ∃ (ox : Own), a.defers = [] ∧ a.tmps.size = 26 ∧ a.eval (.tmp 0) = .slice As1 s1.length cs1 ∧ a.eval (.tmp 1) = .slice As2 s2.length cs2 ∧ a.eval (.tmp 12) = .int .i64 (s1.length : Int) ∧ a.eval (.tmp 13) = .int .i64 x82 ∧ Evo [] (fun _ => 0) ox w wx ∧ RdO ox [0] wx R56 As1 cs1 s1 ∧ RdO ox [0] wx R56 As2 cs2 s2) ?_ ?_
  · exact ⟨own67, hd67, hz67, e67_0, e67_1, e67_12, e67_13, hX67, b67_As1, b67_As2⟩
  · rintro x82 zz96 a96 w96 ⟨own96, hd97, hz97, e97_0, e97_1, e97_12, e97_13, hE97, b97_As1, b97_As2⟩ hs Q96 hn96 hp96 hz96
    have hs : slices_Equal_api_Point_api_Point_b1 s1 s2 x82 = some zz96 := hs
    refine rg0_seq 26 own96 (bz 1) [⟨[], [13, 12], [], Fct.val 14 (.bool (decide (x82 < (s1.length : Int))))⟩] hz97 hd97 (by kernel_rfl) ?_ ?_
    · refine sc (fun _ _ _ _ s _ => px (or_lss (s.1.trans e97_13) (s.2.1.trans e97_12) rfl)) ?_
      exact steps_nil
    intro own98 a98 w98 hd98 hz98 hk98 hf98 hE98
    have e98_0 := (hk98 0 rfl).trans e97_0
    have e98_1 := (hk98 1 rfl).trans e97_1
    have e98_12 := (hk98 12 rfl).trans e97_12
    have e98_13 := (hk98 13 rfl).trans e97_13
    obtain ⟨(e98_14 : a98.eval (.tmp 14) = .bool (decide (x82 < (s1.length : Int)))), -⟩ := hf98 [0] rfl
    have hX98 := es_ hE97 hE98
    have b98_As1 := RdO.evo rfl hE98 b97_As1
    have b98_As2 := RdO.evo rfl hE98 b97_As2
    refine fl_seq (fun Q99 hn99 hp99 => ?_)
    refine fl_cond e98_14 hs (fun c100 hs => ?_) (fun c100 hs => ?_)
    · refine fl_skip ?_
      refine hn99 _ _ ?_
      refine fl_seq (fun Q101 hn101 hp101 => ?_)
      refine fl_block (fun Q102 hn102 hx102 hp102 => ?_)
      refine rg0_seq 26 own98 (bz 2) [⟨[], [13], [], Fct.val 15 (.int .i64 x82)⟩, ⟨[0], [], [], Fct.val 5 (.int .i64 x82)⟩] hz98 hd98 (by kernel_rfl) ?_ ?_
      · refine sc (fun _ _ _ _ s _ => px (or_move (s.1.trans e98_13))) ?_
        refine sc (fun _ _ _ f _ _ => px (or_assign f.1)) ?_
        exact steps_nil
      intro own103 a103 w103 hd103 hz103 hk103 hf103 hE103
      have e103_0 := (hk103 0 rfl).trans e98_0
      have e103_1 := (hk103 1 rfl).trans e98_1
      have e103_12 := (hk103 12 rfl).trans e98_12
      have e103_13 := (hk103 13 rfl).trans e98_13
      obtain ⟨(e103_5 : a103.eval (.tmp 5) = .int .i64 x82), -⟩ := hf103 [1] rfl
      have hX103 := es_ hX98 hE103
      have b103_As1 := RdO.evo rfl hE103 b98_As1
      have b103_As2 := RdO.evo rfl hE103 b98_As2
      obtain ⟨x104, hx104, hs⟩ := obind hs
      obtain ⟨x105, hx105, hs⟩ := obind hs
      refine rg_draw_seq g_mixed (n := 26) (rs := []) (own0 := own103) (K := []) (bs := [0, 0, 3, 7, 0, 0, 48, 112, 255]) (ds := [⟨[], [0], [], Fct.val 16 (.slice As1 s1.length cs1)⟩, ⟨[], [5], [], Fct.val 17 (.int .i64 x82)⟩, ⟨[0, 1], [], [], Fct.val 18 (.pointer (some ((adr As1).add ((x82 : Int).toNat * R56.s))))⟩, ⟨[2], [], [], Fct.val 19 (.agg #[.int .i64 x104.1, .int .i64 x104.2])⟩, ⟨[], [1], [], Fct.val 20 (.slice As2 s2.length cs2)⟩, ⟨[], [5], [], Fct.val 21 (.int .i64 x82)⟩, ⟨[4, 5], [], [], Fct.val 22 (.pointer (some ((adr As2).add ((x82 : Int).toNat * R56.s))))⟩, ⟨[6], [], [], Fct.val 23 (.agg #[.int .i64 x105.1, .int .i64 x105.2])⟩, ⟨[3, 7], [], [], Fct.val 24 (.bool (!decide (x104 = x105)))⟩]) (by kernel_rfl) hz103 hd103 nm_ ?_ ?_
      · refine sc (fun _ _ _ _ s _ => px (or_move (s.1.trans e103_0))) ?_
        refine sc (fun _ _ _ _ s _ => px (or_move (s.1.trans e103_5))) ?_
        refine sc (fun _ _ _ f _ _ => px (or_index (R := R56) (l := s1) tl57 f.1 f.2.1 (RdO.some_ b103_As1 hx104) hx104)) ?_
        refine sc (fun _ _ _ f _ hE => px (or_load (l := E56.f x104) ta56 f.1 (RdO.cells (F := E56) (RdO.evo rfl hE b103_As1) hx104) rfl)) ?_
        refine sc (fun _ _ _ _ s _ => px (or_move (s.1.trans e103_1))) ?_
        refine sc (fun _ _ _ _ s _ => px (or_move (s.1.trans e103_5))) ?_
        refine sc (fun _ _ _ f _ _ => px (or_index (R := R56) (l := s2) tl57 f.1 f.2.1 (RdO.some_ b103_As2 hx105) hx105)) ?_
        refine sc (fun _ _ _ f _ hE => px (or_load (l := E56.f x105) ta56 f.1 (RdO.cells (F := E56) (RdO.evo rfl hE b103_As2) hx105) rfl)) ?_
        refine sc (fun _ _ _ f _ _ => px (or_neqA sg56 f.1 f.2.1 (sn56 x104.1 x104.2 x105.1 x105.2 _) rfl)) ?_
        exact steps_nil
      intro own106 a106 w106 hd106 hz106 hk106 hf106 hE106
      have e106_0 := (hk106 0 rfl).trans e103_0
      have e106_1 := (hk106 1 rfl).trans e103_1
      have e106_12 := (hk106 12 rfl).trans e103_12
      have e106_13 := (hk106 13 rfl).trans e103_13
      obtain ⟨(e106_24 : a106.eval (.tmp 24) = .bool (!decide (x104 = x105))), -⟩ := hf106 [8] rfl
      have hX106 := es_ hX103 hE106
      have b106_As1 := RdO.evo rfl hE106 b103_As1
      have b106_As2 := RdO.evo rfl hE106 b103_As2
      refine fl_cond e106_24 hs (fun c107 hs => ?_) (fun c107 hs => ?_)
      · refine rg0_seq 26 own106 (bz 1) [⟨[], [], [], Fct.val 4 (.bool false)⟩] hz106 hd106 (by kernel_rfl) ?_ ?_
        · refine sc (fun _ _ _ _ _ _ => px (or_assign rfl)) ?_
          exact steps_nil
        intro own108 a108 w108 hd108 hz108 hk108 hf108 hE108
        obtain ⟨(e108_4 : a108.eval (.tmp 4) = .bool false), -⟩ := hf108 [0] rfl
        have hX108 := es_ hX106 hE108
        refine fl_ret ?_
        refine hp102 _ _ _ rfl ?_
        refine hp101 _ _ _ rfl ?_
        replace hs := hz96 _ hs
        refine hp96 _ _ _ rfl ?_
        refine hp68 _ _ _ rfl ?_
        refine hp66 _ _ _ rfl ?_
        obtain rfl := osome hs
        exact hret _ _ _ _ (.inl rfl) hd108 (results1_ rfl (RVal.tmp_ e108_4)) ⟨own108, rfl, hX108⟩
      refine fl_skip ?_
      refine hn102 _ _ ?_
      refine hn101 _ _ ?_
      refine rg0 26 own106 (bz 2) [⟨[], [13], [], Fct.val 25 (.int .i64 (ad x82 1))⟩, ⟨[0], [], [], Fct.val 13 (.int .i64 (ad x82 1))⟩] hz106 hd106 (by kernel_rfl) ?_ ?_
      · refine sc (fun _ _ _ _ s _ => px (or_add (s.1.trans e106_13) rfl rfl)) ?_
        refine sc (fun _ _ _ f _ _ => px (or_move f.1)) ?_
        exact steps_nil
      intro own109 a109 w109 hd109 hz109 hk109 hf109 hE109
      have e109_0 := (hk109 0 rfl).trans e106_0
      have e109_1 := (hk109 1 rfl).trans e106_1
      have e109_12 := (hk109 12 rfl).trans e106_12
      obtain ⟨(e109_13 : a109.eval (.tmp 13) = .int .i64 (ad x82 1)), -⟩ := hf109 [1] rfl
      have hX109 := es_ hX106 hE109
      have b109_As1 := RdO.evo rfl hE109 b106_As1
      have b109_As2 := RdO.evo rfl hE109 b106_As2
      exact hn96 _ _ _ hs ⟨own109, hd109, hz109, e109_0, e109_1, e109_12, e109_13, hX109, b109_As1, b109_As2⟩
    refine fl_exit ?_
    refine hp99 _ _ _ rfl ?_
    replace hs := hz96 _ hs
    refine hp96 _ _ _ rfl ?_
    refine hx68 _ _ ?_
    refine hn66 _ _ ?_
    refine rg0_seq 26 own98 (bz 1) [⟨[], [], [], Fct.val 4 (.bool true)⟩] hz98 hd98 (by kernel_rfl) ?_ ?_
    · refine sc (fun _ _ _ _ _ _ => px (or_assign rfl)) ?_
      exact steps_nil
    intro own110 a110 w110 hd110 hz110 hk110 hf110 hE110
    obtain ⟨(e110_4 : a110.eval (.tmp 4) = .bool true), -⟩ := hf110 [0] rfl
    have hX110 := es_ hX98 hE110
    refine fl_ret ?_
    obtain rfl := osome hs
    exact hret _ _ _ _ (.inl rfl) hd110 (results1_ rfl (RVal.tmp_ e110_4)) ⟨own110, rfl, hX110⟩
theorem arcs_Same_1_w (w : World) (x1 : (List (Int × Int)) × Int × Int) (Ax1_0 : Option Addr) (cx1_0 : Nat) (y2 : (List (Int × Int)) × Int × Int) (Ay2_0 : Option Addr) (cy2_0 : Nat) (hAx1_0 : RdO (fun _ => 0) [0] w R56 Ax1_0 cx1_0 x1.1) (hAy2_0 : RdO (fun _ => 0) [0] w R56 Ay2_0 cy2_0 y2.1) (r : Bool) (hs : arcs_Same_1 x1 y2 = some r) :
    Calls Try.prog 58 #[.agg #[.slice Ax1_0 x1.1.length cx1_0, .int .i64 x1.2.1, .int .i64 x1.2.2], .agg #[.slice Ay2_0 y2.1.length cy2_0, .int .i64 y2.2.1, .int .i64 y2.2.2]] w fun e w' => ∃ own' : Own, e = .returned (.bool r) ∧ Evo [] (fun _ => 0) own' w w' := by
  refine fl_enter (n := 24) rfl rfl rfl (Nat.le_of_ble_eq_true rfl) ?_
  intro a0 Q hd0 hz0 harg hret
  have ha0 := harg 0 _ rfl
  have ha1 := harg 1 _ rfl
  clear harg
  have hE0 : Evo [] (fun _ => 0) (fun _ => 0) w w := Evo.refl _ _ _
  refine rg0_seq 24 (fun _ => 0) [0, 0, 0] [⟨[], [0], [], Fct.blk 20 2 (fun g => .pointer (some ⟨g, 0, none⟩)) 59 #[.slice Ax1_0 x1.1.length cx1_0, .int .i64 x1.2.1, .int .i64 x1.2.2]⟩, ⟨[], [1], [], Fct.blk 22 3 (fun g => .pointer (some ⟨g, 0, none⟩)) 59 #[.slice Ay2_0 y2.1.length cy2_0, .int .i64 y2.2.1, .int .i64 y2.2.2]⟩, ⟨[], [], [], Fct.val 4 (.bool false)⟩] hz0 hd0 (by kernel_rfl) ?_ ?_
  · refine sc (fun _ _ _ _ s _ => px (or_new [(0, .agg #[.slice Ax1_0 x1.1.length cx1_0, .int .i64 x1.2.1, .int .i64 x1.2.2])] rfl rfl ⟨(s.1.trans ha0), trivial⟩ (by kernel_rfl))) ?_
    refine sc (fun _ _ _ _ s _ => px (or_new [(1, .agg #[.slice Ay2_0 y2.1.length cy2_0, .int .i64 y2.2.1, .int .i64 y2.2.2])] rfl rfl ⟨(s.1.trans ha1), trivial⟩ (by kernel_rfl))) ?_
    refine sc (fun _ _ _ _ _ _ => px (or_assign rfl)) ?_
    exact steps_nil
  intro own23 a23 w23 hd23 hz23 hk23 hf23 hE23
  obtain ⟨⟨g19, (e23_2 : a23.eval (.tmp 2) = .pointer (some ⟨g19, 0, none⟩)), (b23_g19 : BlkO own23 20 w23 g19 59 #[.slice Ax1_0 x1.1.length cx1_0, .int .i64 x1.2.1, .int .i64 x1.2.2])⟩, ⟨g21, (e23_3 : a23.eval (.tmp 3) = .pointer (some ⟨g21, 0, none⟩)), (b23_g21 : BlkO own23 22 w23 g21 59 #[.slice Ay2_0 y2.1.length cy2_0, .int .i64 y2.2.1, .int .i64 y2.2.2])⟩, -⟩ := hf23 [0, 1] rfl
  have hX23 := es_ hE0 hE23
  have b23_Ax1_0 := RdO.evo rfl hE23 hAx1_0
  have b23_Ay2_0 := RdO.evo rfl hE23 hAy2_0
  obtain ⟨x24, hx24, hs⟩ := obind hs
  obtain ⟨r25, hr25, hs⟩ := obind hs
  refine rg0_seq 24 own23 [0, 1, 0, 4, 15, 31, 63, 127, 63, 319, 1023, 2047, 4095, 8191, 16383, 8191, 40959, 131071, 262143, 524287] [⟨[], [2], [], Fct.val 5 (.pointer (some ⟨g19, 1, none⟩))⟩, ⟨[0], [], [], Fct.val 6 (.int .i64 x1.2.1)⟩, ⟨[], [3], [], Fct.val 7 (.pointer (some ⟨g21, 1, none⟩))⟩, ⟨[2], [], [], Fct.val 8 (.int .i64 y2.2.1)⟩, ⟨[1, 3], [], [], Fct.val 9 (.bool (decide (x1.2.1 = y2.2.1)))⟩, ⟨[4], [], [], Fct.val 10 (.bool (decide (x1.2.1 = y2.2.1)))⟩, ⟨[5], [2], [], Fct.cond (decide (x1.2.1 = y2.2.1)) (some 11) (Fct.val 11 (.pointer (some ⟨g19, 2, none⟩)))⟩, ⟨[5, 6], [], [], Fct.cond (decide (x1.2.1 = y2.2.1)) (some 12) (Fct.val 12 (.int .i64 x1.2.2))⟩, ⟨[5], [3], [], Fct.cond (decide (x1.2.1 = y2.2.1)) (some 13) (Fct.val 13 (.pointer (some ⟨g21, 2, none⟩)))⟩, ⟨[5, 8], [], [], Fct.cond (decide (x1.2.1 = y2.2.1)) (some 14) (Fct.val 14 (.int .i64 y2.2.2))⟩, ⟨[5, 7, 9], [], [], Fct.cond (decide (x1.2.1 = y2.2.1)) (some 15) (Fct.val 15 (.bool (decide (x1.2.2 = y2.2.2))))⟩, ⟨[5, 10], [], [], Fct.val 16 (.bool x24)⟩, ⟨[11], [], [], Fct.val 17 (.bool x24)⟩, ⟨[12], [2], [], Fct.cond x24 (some 18) (Fct.val 18 (.pointer (some ⟨g19, 0, none⟩)))⟩, ⟨[12, 13], [], [], Fct.cond x24 (some 19) (Fct.val 19 (.slice Ax1_0 x1.1.length cx1_0))⟩, ⟨[12], [3], [], Fct.cond x24 (some 20) (Fct.val 20 (.pointer (some ⟨g21, 0, none⟩)))⟩, ⟨[12, 15], [], [], Fct.cond x24 (some 21) (Fct.val 21 (.slice Ay2_0 y2.1.length cy2_0))⟩, ⟨[12, 14, 16], [], [], Fct.cond x24 (some 22) (Fct.val 22 (.bool r25))⟩, ⟨[12, 17], [], [], Fct.val 23 (.bool (x24 && r25))⟩, ⟨[18], [], [], Fct.val 4 (.bool (x24 && r25))⟩] hz23 hd23 (by kernel_rfl) ?_ ?_
  · refine sc (fun _ _ _ _ s _ => px (or_field fo59_1 (s.1.trans e23_2) (by rfl))) ?_
    refine sc (fun _ _ _ f _ hE => px (or_load1 to3 f.1 (Blk.at_ (be_ hE b23_g19).2 1 rfl))) ?_
    refine sc (fun _ _ _ _ s _ => px (or_field fo59_1 (s.1.trans e23_3) (by rfl))) ?_
    refine sc (fun _ _ _ f _ hE => px (or_load1 to3 f.1 (Blk.at_ (be_ hE b23_g21).2 1 rfl))) ?_
    refine sc (fun _ _ _ f _ _ => px (or_eql f.1 f.2.1 rfl)) ?_
    refine sc (fun _ _ _ f _ _ => px (or_move f.1)) ?_
    refine sc (fun _ _ _ f s _ => sg_t rfl rfl rfl f.1 (fun hg => or_field fo59_2 (s.1.trans e23_2) (by rfl))) ?_
    refine sc (fun _ _ _ f _ hE => sg_t rfl rfl rfl f.1 (fun hg => or_load1 to3 (f.2.1.1 hg) (Blk.at_ (be_ hE b23_g19).2 2 rfl))) ?_
    refine sc (fun _ _ _ f s _ => sg_t rfl rfl rfl f.1 (fun hg => or_field fo59_2 (s.1.trans e23_3) (by rfl))) ?_
    refine sc (fun _ _ _ f _ hE => sg_t rfl rfl rfl f.1 (fun hg => or_load1 to3 (f.2.1.1 hg) (Blk.at_ (be_ hE b23_g21).2 2 rfl))) ?_
    refine sc (fun _ _ _ f _ _ => sg_t rfl rfl rfl f.1 (fun hg => or_eql (f.2.1.1 hg) (f.2.2.1.1 hg) rfl)) ?_
    refine sc (fun _ _ _ f _ _ => px (or_and f.1 (fun hx => f.2.1.1 hx) rfl (osome hx24).symm)) ?_
    refine sc (fun _ _ _ f _ _ => px (or_move f.1)) ?_
    refine sc (fun _ _ _ f s _ => sg_t rfl rfl rfl f.1 (fun hg => or_field fo59_0 (s.1.trans e23_2) (by rfl))) ?_
    refine sc (fun _ _ _ f _ hE => sg_t rfl rfl rfl f.1 (fun hg => or_load1 to57 (f.2.1.1 hg) (Blk.at_ (be_ hE b23_g19).2 0 rfl))) ?_
    refine sc (fun _ _ _ f s _ => sg_t rfl rfl rfl f.1 (fun hg => or_field fo59_0 (s.1.trans e23_3) (by rfl))) ?_
    refine sc (fun _ _ _ f _ hE => sg_t rfl rfl rfl f.1 (fun hg => or_load1 to57 (f.2.1.1 hg) (Blk.at_ (be_ hE b23_g21).2 0 rfl))) ?_
    refine sc (fun _ _ _ f _ hE => sg_t rfl rfl rfl f.1 (fun hg => or_call cf59 (args2 (f.2.1.1 hg) (f.2.2.1.1 hg)) (slices_Equal_api_Point_api_Point_w _ x1.1 Ax1_0 cx1_0 y2.1 Ay2_0 cy2_0 (RdO.zero (RdO.evo rfl hE b23_Ax1_0)) (RdO.zero (RdO.evo rfl hE b23_Ay2_0)) r25 (gd_t hr25 hg)) post_val)) ?_
    refine sc (fun _ _ _ f _ _ => px (or_and f.1 (fun hx => f.2.1.1 hx) rfl rfl)) ?_
    refine sc (fun _ _ _ f _ _ => px (or_assign f.1)) ?_
    exact steps_nil
  intro own26 a26 w26 hd26 hz26 hk26 hf26 hE26
  obtain ⟨(e26_4 : a26.eval (.tmp 4) = .bool (x24 && r25)), -⟩ := hf26 [19] rfl
  have hX26 := es_ hX23 hE26
  refine fl_ret ?_
  obtain rfl := osome hs
  exact hret _ _ _ _ (.inl rfl) hd26 (results1_ rfl (RVal.tmp_ e26_4)) ⟨own26, rfl, hX26⟩
theorem slices_EqualFunc_arcs_Arc_arcs_Arc_arcs_Arc_arcs_Arc_Same_1_w (w : World) (s1 : List ((List (Int × Int)) × Int × Int)) (As1 : Option Addr) (cs1 : Nat) (s2 : List ((List (Int × Int)) × Int × Int)) (As2 : Option Addr) (cs2 : Nat) (hs1 : RdO (fun _ => 0) [0] w R59 As1 cs1 s1) (hs2 : RdO (fun _ => 0) [0] w R59 As2 cs2 s2) (r : Bool) (hs : slices_EqualFunc_arcs_Arc_arcs_Arc_arcs_Arc_arcs_Arc_Same_1 s1 s2 = some r) :
    Calls Try.prog 57 #[.slice As1 s1.length cs1, .slice As2 s2.length cs2, .func (.func 58) #[] #[]] w fun e w' => ∃ own' : Own, e = .returned (.bool r) ∧ Evo [] (fun _ => 0) own' w w' := by
  refine fl_enter (n := 32) rfl rfl rfl (Nat.le_of_ble_eq_true rfl) ?_
  intro a0 Q hd0 hz0 harg hret
  have ha0 := harg 0 _ rfl
  have ha1 := harg 1 _ rfl
  have ha2 := harg 2 _ rfl
  clear harg
  have hE0 : Evo [] (fun _ => 0) (fun _ => 0) w w := Evo.refl _ _ _
  refine rg0_seq 32 (fun _ => 0) (bz 1) [⟨[], [], [], Fct.val 6 (.bool false)⟩] hz0 hd0 (by kernel_rfl) ?_ ?_
  · refine sc (fun _ _ _ _ _ _ => px (or_assign rfl)) ?_
    exact steps_nil
  intro own91 a91 w91 hd91 hz91 hk91 hf91 hE91
  have e91_0 := (hk91 0 rfl).trans ha0
  have e91_1 := (hk91 1 rfl).trans ha1
  have e91_2 := (hk91 2 rfl).trans ha2
  have hX91 := es_ hE0 hE91
  have b91_As1 := RdO.evo rfl hE91 hs1
  have b91_As2 := RdO.evo rfl hE91 hs2
  refine fl_seq (fun Q92 hn92 hp92 => ?_)
  refine rg0_seq 32 own91 [0, 1, 0, 4, 15] [⟨[], [0], [], Fct.val 10 (.slice As1 s1.length cs1)⟩, ⟨[0], [], [], Fct.val 11 (.int .i64 (s1.length : Int))⟩, ⟨[], [1], [], Fct.val 12 (.slice As2 s2.length cs2)⟩, ⟨[2], [], [], Fct.val 13 (.int .i64 (s2.length : Int))⟩, ⟨[1, 3], [], [], Fct.val 14 (.bool (!decide ((s1.length : Int) = (s2.length : Int))))⟩] hz91 hd91 (by kernel_rfl) ?_ ?_
  · refine sc (fun _ _ _ _ s _ => px (or_move (s.1.trans e91_0))) ?_
    refine sc (fun _ _ _ f _ _ => px (or_len tu22 f.1 rfl)) ?_
    refine sc (fun _ _ _ _ s _ => px (or_move (s.1.trans e91_1))) ?_
    refine sc (fun _ _ _ f _ _ => px (or_len tu22 f.1 rfl)) ?_
    refine sc (fun _ _ _ f _ _ => px (or_neq f.1 f.2.1 rfl)) ?_
    exact steps_nil
  intro own93 a93 w93 hd93 hz93 hk93 hf93 hE93
  have e93_0 := (hk93 0 rfl).trans e91_0
  have e93_1 := (hk93 1 rfl).trans e91_1
  have e93_2 := (hk93 2 rfl).trans e91_2
  obtain ⟨(e93_14 : a93.eval (.tmp 14) = .bool (!decide ((s1.length : Int) = (s2.length : Int)))), -⟩ := hf93 [4] rfl
  have hX93 := es_ hX91 hE93
  have b93_As1 := RdO.evo rfl hE93 b91_As1
  have b93_As2 := RdO.evo rfl hE93 b91_As2
  refine fl_cond e93_14 hs (fun c94 hs => ?_) (fun c94 hs => ?_)
  · refine rg0_seq 32 own93 (bz 1) [⟨[], [], [], Fct.val 6 (.bool false)⟩] hz93 hd93 (by kernel_rfl) ?_ ?_
    · refine sc (fun _ _ _ _ _ _ => px (or_assign rfl)) ?_
      exact steps_nil
    intro own95 a95 w95 hd95 hz95 hk95 hf95 hE95
    obtain ⟨(e95_6 : a95.eval (.tmp 6) = .bool false), -⟩ := hf95 [0] rfl
    have hX95 := es_ hX93 hE95
    refine fl_ret ?_
    refine hp92 _ _ _ rfl ?_
    obtain rfl := osome hs
    exact hret _ _ _ _ (.inl rfl) hd95 (results1_ rfl (RVal.tmp_ e95_6)) ⟨own95, rfl, hX95⟩
  refine fl_skip ?_
  refine hn92 _ _ ?_
  refine fl_seq (fun Q96 hn96 hp96 => ?_)
  refine rg0_seq 32 own93 [0, 1, 0] [⟨[], [0], [], Fct.val 15 (.slice As1 s1.length cs1)⟩, ⟨[0], [], [], Fct.val 16 (.int .i64 (s1.length : Int))⟩, ⟨[], [], [], Fct.val 17 (.int .i64 0)⟩] hz93 hd93 (by kernel_rfl) ?_ ?_
  · refine sc (fun _ _ _ _ s _ => px (or_move (s.1.trans e93_0))) ?_
    refine sc (fun _ _ _ f _ _ => px (or_len tu22 f.1 rfl)) ?_
    refine sc (fun _ _ _ _ _ _ => px (or_move rfl)) ?_
    exact steps_nil
  intro own97 a97 w97 hd97 hz97 hk97 hf97 hE97
  have e97_1 := (hk97 1 rfl).trans e93_1
  have e97_2 := (hk97 2 rfl).trans e93_2
  obtain ⟨(e97_15 : a97.eval (.tmp 15) = .slice As1 s1.length cs1), (e97_16 : a97.eval (.tmp 16) = .int .i64 (s1.length : Int)), (e97_17 : a97.eval (.tmp 17) = .int .i64 0), -⟩ := hf97 [0, 1, 2] rfl
  have hX97 := es_ hX93 hE97
  have b97_As1 := RdO.evo rfl hE97 b93_As1
  have b97_As2 := RdO.evo rfl hE97 b93_As2
  refine fl_block (fun Q98 hn98 hx98 hp98 => ?_)
  refine fl_loop (body := (fun s => slices_EqualFunc_arcs_Arc_arcs_Arc_arcs_Arc_arcs_Arc_Same_1_b1 s1 s2 s)) (z := r) (show loopO _ _ = _ from hs) (fun (x122 : Int) a wx => ∃ (ox : Own), a.defers = [] ∧ a.tmps.size = 32 ∧ a.eval (.tmp 1) = .slice As2 s2.length cs2 ∧ a.eval (.tmp 2) = .func (.func 58) #[] #[] ∧ a.eval (.tmp 15) = .slice As1 s1.length cs1 ∧ a.eval (.tmp 16) = .int .i64 (s1.length : Int) ∧ a.eval (.tmp 17) = .int .i64 x122 ∧ Evo [] (fun _ => 0) ox w wx ∧ RdO ox [0] wx R59 As2 cs2 s2 ∧ RdO ox [0] wx R59 As1 cs1 s1) ?_ ?_
  · exact ⟨own97, hd97, hz97, e97_1, e97_2, e97_15, e97_16, e97_17, hX97, b97_As2, b97_As1⟩
  · rintro x122 zz146 a146 w146 ⟨own146, hd147, hz147, e147_1, e147_2, e147_15, e147_16, e147_17, hE147, b147_As2, b147_As1⟩ hs Q146 hn146 hp146 hz146
    have hs : slices_EqualFunc_arcs_Arc_arcs_Arc_arcs_Arc_arcs_Arc_Same_1_b1 s1 s2 x122 = some zz146 := hs
    refine rg0_seq 32 own146 (bz 1) [⟨[], [17, 16], [], Fct.val 18 (.bool (decide (x122 < (s1.length : Int))))⟩] hz147 hd147 (by kernel_rfl) ?_ ?_
    · refine sc (fun _ _ _ _ s _ => px (or_lss (s.1.trans e147_17) (s.2.1.trans e147_16) rfl)) ?_
      exact steps_nil
    intro own148 a148 w148 hd148 hz148 hk148 hf148 hE148
    have e148_1 := (hk148 1 rfl).trans e147_1
    have e148_2 := (hk148 2 rfl).trans e147_2
    have e148_15 := (hk148 15 rfl).trans e147_15
    have e148_16 := (hk148 16 rfl).trans e147_16
    have e148_17 := (hk148 17 rfl).trans e147_17
    obtain ⟨(e148_18 : a148.eval (.tmp 18) = .bool (decide (x122 < (s1.length : Int)))), -⟩ := hf148 [0] rfl
    have hX148 := es_ hE147 hE148
    have b148_As2 := RdO.evo rfl hE148 b147_As2
    have b148_As1 := RdO.evo rfl hE148 b147_As1
    refine fl_seq (fun Q149 hn149 hp149 => ?_)
    refine fl_cond e148_18 hs (fun c150 hs => ?_) (fun c150 hs => ?_)
    · refine fl_skip ?_
      refine hn149 _ _ ?_
      refine fl_seq (fun Q151 hn151 hp151 => ?_)
      refine fl_block (fun Q152 hn152 hx152 hp152 => ?_)
      obtain ⟨x153, hx153, hs⟩ := obind hs
      refine rg_plain_seq (n := 32) (rs := []) (own0 := own148) (K := [156]) (bs := [0, 0, 2, 0, 15, 31]) (ds := [⟨[], [17], [], Fct.val 19 (.int .i64 x122)⟩, ⟨[], [15, 17], [], Fct.val 20 (.pointer (some ((adr As1).add ((x122 : Int).toNat * R59.s))))⟩, ⟨[1], [], [], Fct.nest X59 [0] 21 (fun (y : ((Option Addr × Nat) × Unit × Unit)) => .agg #[.slice y.1.1 x153.1.length y.1.2, .int .i64 x153.2.1, .int .i64 x153.2.2]) x153⟩, ⟨[], [], [], Fct.blk 156 8 (fun g => .pointer (some ⟨g, 0, none⟩)) 59 #[.slice none 0 0, .int .i64 0, .int .i64 0]⟩, ⟨[0], [], [], Fct.val 7 (.int .i64 x122)⟩, ⟨[3, 2], [], [156], Fct.by_ [157] [8, 21] (fun l own w => ∃ g155 : Nat, l.getD 0 undef = .pointer (some ⟨g155, 0, none⟩) ∧ (∀ (A154 : Option Addr) (cA154 : Nat), l.getD 1 undef = .agg #[.slice A154 x153.1.length cA154, .int .i64 x153.2.1, .int .i64 x153.2.2] → BlkO own 157 w g155 59 #[.slice A154 x153.1.length cA154, .int .i64 x153.2.1, .int .i64 x153.2.2])) (fun hk he h => by obtain ⟨g, e, h⟩ := h; exact ⟨g, e, fun _ _ h0' => BlkO.evo (not_hit hk (by decide)) he (h _ _ h0')⟩)⟩]) (by kernel_rfl) hz148 hd148 nm_ ?_ ?_
      · refine sc (fun _ _ _ _ s _ => px (or_move (s.1.trans e148_17))) ?_
        refine sc (fun _ _ _ _ s _ => px (or_index (R := R59) (l := s1) tl22 (s.1.trans e148_15) (s.2.1.trans e148_17) (RdO.some_ b148_As1 hx153) hx153)) ?_
        refine sc (fun _ _ _ f _ hE => px (or_loadN X59 0 3 ta59 f.1 (Addr.add_zero' _).symm (RdO.evo rfl hE b148_As1) hx153 (fun _ => rfl) (fun _ => rfl))) ?_
        refine sc (fun _ _ _ _ _ _ => px (or_new [] rfl rfl trivial (by kernel_rfl))) ?_
        refine sc (fun _ _ _ f _ _ => px (or_assign f.1)) ?_
        refine sc (fun own a wx hf hsl hE => ?_) ?_
        · obtain ⟨⟨g155, f_8, b_g155⟩, ⟨⟨⟨A154, cA154⟩, _, _⟩, (f_21 : a.eval (.tmp 21) = .agg #[.slice A154 x153.1.length cA154, .int .i64 x153.2.1, .int .i64 x153.2.2]), ⟨b_A154, -, -⟩⟩, -⟩ := hf
          exact px (or_store (l := #[.slice A154 x153.1.length cA154, .int .i64 x153.2.1, .int .i64 x153.2.2]) (lab := 156) (lab2 := 157) ts59 f_8 f_21 b_g155 (by simp) (by kernel_rfl) (mem_of rfl) (by decide) (by kernel_rfl) (fun own' a' w' ha hb => ⟨_, (ha 8).trans f_8, fun _ _ h0' => by cases (f_21.symm.trans ((ha 21).symm.trans h0')); exact hb⟩))
        exact steps_nil
      intro own158 a158 w158 hd158 hz158 hk158 hf158 hE158
      have e158_1 := (hk158 1 rfl).trans e148_1
      have e158_2 := (hk158 2 rfl).trans e148_2
      have e158_15 := (hk158 15 rfl).trans e148_15
      have e158_16 := (hk158 16 rfl).trans e148_16
      have e158_17 := (hk158 17 rfl).trans e148_17
      obtain ⟨⟨⟨⟨A154, cA154⟩, _, _⟩, (f_21 : a158.eval (.tmp 21) = .agg #[.slice A154 x153.1.length cA154, .int .i64 x153.2.1, .int .i64 x153.2.2]), ⟨(b158_A154 : RdO own158 [0] w158 R56 A154 cA154 x153.1), -, -⟩⟩, ⟨g155, (e158_8 : a158.eval (.tmp 8) = .pointer (some ⟨g155, 0, none⟩)), (bq_g155 : ∀ (A154 : Option Addr) (cA154 : Nat), a158.eval (.tmp 21) = .agg #[.slice A154 x153.1.length cA154, .int .i64 x153.2.1, .int .i64 x153.2.2] → BlkO own158 157 w158 g155 59 #[.slice A154 x153.1.length cA154, .int .i64 x153.2.1, .int .i64 x153.2.2])⟩, (e158_7 : a158.eval (.tmp 7) = .int .i64 x122), -⟩ := hf158 [2, 5, 4] rfl
      have b158_g155 := bq_g155 _ _ f_21
      have hX158 := es_ hX148 hE158
      have b158_As2 := RdO.evo rfl hE158 b148_As2
      have b158_As1 := RdO.evo rfl hE158 b148_As1
      obtain ⟨x159, hx159, hs⟩ := obind hs
      refine rg_plain_seq (n := 32) (rs := []) (own0 := own158) (K := [162]) (bs := [0, 0, 3, 7, 0, 31]) (ds := [⟨[], [1], [], Fct.val 22 (.slice As2 s2.length cs2)⟩, ⟨[], [7], [], Fct.val 23 (.int .i64 x122)⟩, ⟨[0, 1], [], [], Fct.val 24 (.pointer (some ((adr As2).add ((x122 : Int).toNat * R59.s))))⟩, ⟨[2], [], [], Fct.nest X59 [0] 25 (fun (y : ((Option Addr × Nat) × Unit × Unit)) => .agg #[.slice y.1.1 x159.1.length y.1.2, .int .i64 x159.2.1, .int .i64 x159.2.2]) x159⟩, ⟨[], [], [], Fct.blk 162 9 (fun g => .pointer (some ⟨g, 0, none⟩)) 59 #[.slice none 0 0, .int .i64 0, .int .i64 0]⟩, ⟨[4, 3], [], [162], Fct.by_ [163] [9, 25] (fun l own w => ∃ g161 : Nat, l.getD 0 undef = .pointer (some ⟨g161, 0, none⟩) ∧ (∀ (A160 : Option Addr) (cA160 : Nat), l.getD 1 undef = .agg #[.slice A160 x159.1.length cA160, .int .i64 x159.2.1, .int .i64 x159.2.2] → BlkO own 163 w g161 59 #[.slice A160 x159.1.length cA160, .int .i64 x159.2.1, .int .i64 x159.2.2])) (fun hk he h => by obtain ⟨g, e, h⟩ := h; exact ⟨g, e, fun _ _ h0' => BlkO.evo (not_hit hk (by decide)) he (h _ _ h0')⟩)⟩]) (by kernel_rfl) hz158 hd158 nm_ ?_ ?_
      · refine sc (fun _ _ _ _ s _ => px (or_move (s.1.trans e158_1))) ?_
        refine sc (fun _ _ _ _ s _ => px (or_move (s.1.trans e158_7))) ?_
        refine sc (fun _ _ _ f _ _ => px (or_index (R := R59) (l := s2) tl22 f.1 f.2.1 (RdO.some_ b158_As2 hx159) hx159)) ?_
        refine sc (fun _ _ _ f _ hE => px (or_loadN X59 0 3 ta59 f.1 (Addr.add_zero' _).symm (RdO.evo rfl hE b158_As2) hx159 (fun _ => rfl) (fun _ => rfl))) ?_
        refine sc (fun _ _ _ _ _ _ => px (or_new [] rfl rfl trivial (by kernel_rfl))) ?_
        refine sc (fun own a wx hf hsl hE => ?_) ?_
        · obtain ⟨⟨g161, f_9, b_g161⟩, ⟨⟨⟨A160, cA160⟩, _, _⟩, (f_25 : a.eval (.tmp 25) = .agg #[.slice A160 x159.1.length cA160, .int .i64 x159.2.1, .int .i64 x159.2.2]), ⟨b_A160, -, -⟩⟩, -⟩ := hf
          exact px (or_store (l := #[.slice A160 x159.1.length cA160, .int .i64 x159.2.1, .int .i64 x159.2.2]) (lab := 162) (lab2 := 163) ts59 f_9 f_25 b_g161 (by simp) (by kernel_rfl) (mem_of rfl) (by decide) (by kernel_rfl) (fun own' a' w' ha hb => ⟨_, (ha 9).trans f_9, fun _ _ h0' => by cases (f_25.symm.trans ((ha 25).symm.trans h0')); exact hb⟩))
        exact steps_nil
      intro own164 a164 w164 hd164 hz164 hk164 hf164 hE164
      have e164_1 := (hk164 1 rfl).trans e158_1
      have e164_2 := (hk164 2 rfl).trans e158_2
      have e164_8 := (hk164 8 rfl).trans e158_8
      have e164_15 := (hk164 15 rfl).trans e158_15
      have e164_16 := (hk164 16 rfl).trans e158_16
      have e164_17 := (hk164 17 rfl).trans e158_17
      obtain ⟨⟨⟨⟨A160, cA160⟩, _, _⟩, (f_25 : a164.eval (.tmp 25) = .agg #[.slice A160 x159.1.length cA160, .int .i64 x159.2.1, .int .i64 x159.2.2]), ⟨(b164_A160 : RdO own164 [0] w164 R56 A160 cA160 x159.1), -, -⟩⟩, ⟨g161, (e164_9 : a164.eval (.tmp 9) = .pointer (some ⟨g161, 0, none⟩)), (bq_g161 : ∀ (A160 : Option Addr) (cA160 : Nat), a164.eval (.tmp 25) = .agg #[.slice A160 x159.1.length cA160, .int .i64 x159.2.1, .int .i64 x159.2.2] → BlkO own164 163 w164 g161 59 #[.slice A160 x159.1.length cA160, .int .i64 x159.2.1, .int .i64 x159.2.2])⟩, -⟩ := hf164 [3, 5] rfl
      have b164_g161 := bq_g161 _ _ f_25
      have hX164 := es_ hX158 hE164
      have b164_As2 := RdO.evo rfl hE164 b158_As2
      have b164_As1 := RdO.evo rfl hE164 b158_As1
      have b164_A154 := RdO.evo rfl hE164 b158_A154
      have b164_g155 := be_ hE164 b158_g155
      obtain ⟨r165, hr165, hs⟩ := obind hs
      refine rg0_seq 32 own164 [0, 0, 0, 7, 15] [⟨[], [2], [], Fct.val 26 (.func (.func 58) #[] #[])⟩, ⟨[], [8], [], Fct.val 27 (.agg #[.slice A154 x153.1.length cA154, .int .i64 x153.2.1, .int .i64 x153.2.2])⟩, ⟨[], [9], [], Fct.val 28 (.agg #[.slice A160 x159.1.length cA160, .int .i64 x159.2.1, .int .i64 x159.2.2])⟩, ⟨[0, 1, 2], [], [], Fct.val 29 (.bool r165)⟩, ⟨[3], [], [], Fct.val 30 (.bool (!r165))⟩] hz164 hd164 (by kernel_rfl) ?_ ?_
      · refine sc (fun _ _ _ _ s _ => px (or_move (s.1.trans e164_2))) ?_
        refine sc (fun _ _ _ _ s hE => px (or_load (l := [.slice A154 x153.1.length cA154, .int .i64 x153.2.1, .int .i64 x153.2.2]) ta59 (s.1.trans e164_8) (Blk.cellsFrom (be_ hE b164_g155).2 0 rfl) rfl)) ?_
        refine sc (fun _ _ _ _ s hE => px (or_load (l := [.slice A160 x159.1.length cA160, .int .i64 x159.2.1, .int .i64 x159.2.2]) ta59 (s.1.trans e164_9) (Blk.cellsFrom (be_ hE b164_g161).2 0 rfl) rfl)) ?_
        refine sc (fun _ _ _ f _ hE => px (or_callf cf58 f.1 (args2 f.2.1 f.2.2.1) rfl (arcs_Same_1_w _ x153 A154 cA154 x159 A160 cA160 (RdO.zero (RdO.evo rfl hE b164_A154)) (RdO.zero (RdO.evo rfl hE b164_A160)) r165 hr165) post_val)) ?_
        refine sc (fun _ _ _ f _ _ => px (or_not f.1 rfl)) ?_
        exact steps_nil
      intro own166 a166 w166 hd166 hz166 hk166 hf166 hE166
      have e166_1 := (hk166 1 rfl).trans e164_1
      have e166_2 := (hk166 2 rfl).trans e164_2
      have e166_15 := (hk166 15 rfl).trans e164_15
      have e166_16 := (hk166 16 rfl).trans e164_16
      have e166_17 := (hk166 17 rfl).trans e164_17
      obtain ⟨(e166_30 : a166.eval (.tmp 30) = .bool (!r165)), -⟩ := hf166 [4] rfl
      have hX166 := es_ hX164 hE166
      have b166_As2 := RdO.evo rfl hE166 b164_As2
      have b166_As1 := RdO.evo rfl hE166 b164_As1
      refine fl_cond e166_30 hs (fun c167 hs => ?_) (fun c167 hs => ?_)
      · refine rg0_seq 32 own166 (bz 1) [⟨[], [], [], Fct.val 6 (.bool false)⟩] hz166 hd166 (by kernel_rfl) ?_ ?_
        · refine sc (fun _ _ _ _ _ _ => px (or_assign rfl)) ?_
          exact steps_nil
        intro own168 a168 w168 hd168 hz168 hk168 hf168 hE168
        obtain ⟨(e168_6 : a168.eval (.tmp 6) = .bool false), -⟩ := hf168 [0] rfl
        have hX168 := es_ hX166 hE168
        refine fl_ret ?_
        refine hp152 _ _ _ rfl ?_
        refine hp151 _ _ _ rfl ?_
        replace hs := hz146 _ hs
        refine hp146 _ _ _ rfl ?_
        refine hp98 _ _ _ rfl ?_
        refine hp96 _ _ _ rfl ?_
        obtain rfl := osome hs
        exact hret _ _ _ _ (.inl rfl) hd168 (results1_ rfl (RVal.tmp_ e168_6)) ⟨own168, rfl, hX168⟩
      refine fl_skip ?_
      refine hn152 _ _ ?_
      refine hn151 _ _ ?_
      refine rg0 32 own166 (bz 2) [⟨[], [17], [], Fct.val 31 (.int .i64 (ad x122 1))⟩, ⟨[0], [], [], Fct.val 17 (.int .i64 (ad x122 1))⟩] hz166 hd166 (by kernel_rfl) ?_ ?_
      · refine sc (fun _ _ _ _ s _ => px (or_add (s.1.trans e166_17) rfl rfl)) ?_
        refine sc (fun _ _ _ f _ _ => px (or_move f.1)) ?_
        exact steps_nil
      intro own169 a169 w169 hd169 hz169 hk169 hf169 hE169
      have e169_1 := (hk169 1 rfl).trans e166_1
      have e169_2 := (hk169 2 rfl).trans e166_2
      have e169_15 := (hk169 15 rfl).trans e166_15
      have e169_16 := (hk169 16 rfl).trans e166_16
      obtain ⟨(e169_17 : a169.eval (.tmp 17) = .int .i64 (ad x122 1)), -⟩ := hf169 [1] rfl
      have hX169 := es_ hX166 hE169
      have b169_As2 := RdO.evo rfl hE169 b166_As2
      have b169_As1 := RdO.evo rfl hE169 b166_As1
      exact hn146 _ _ _ hs ⟨own169, hd169, hz169, e169_1, e169_2, e169_15, e169_16, e169_17, hX169, b169_As2, b169_As1⟩
    refine fl_exit ?_
    refine hp149 _ _ _ rfl ?_
    replace hs := hz146 _ hs
    refine hp146 _ _ _ rfl ?_
    refine hx98 _ _ ?_
    refine hn96 _ _ ?_
    refine rg0_seq 32 own148 (bz 1) [⟨[], [], [], Fct.val 6 (.bool true)⟩] hz148 hd148 (by kernel_rfl) ?_ ?_
    · refine sc (fun _ _ _ _ _ _ => px (or_assign rfl)) ?_
      exact steps_nil
    intro own170 a170 w170 hd170 hz170 hk170 hf170 hE170
    obtain ⟨(e170_6 : a170.eval (.tmp 6) = .bool true), -⟩ := hf170 [0] rfl
    have hX170 := es_ hX148 hE170
    refine fl_ret ?_
    obtain rfl := osome hs
    exact hret _ _ _ _ (.inl rfl) hd170 (results1_ rfl (RVal.tmp_ e170_6)) ⟨own170, rfl, hX170⟩
theorem arcs_Same_w (w : World) (x1 : List ((List (Int × Int)) × Int × Int)) (Ax1 : Option Addr) (cx1 : Nat) (b2 : List ((List (Int × Int)) × Int × Int)) (Ab2 : Option Addr) (cb2 : Nat) (hx1 : RdO (fun _ => 0) [0] w R59 Ax1 cx1 x1) (hb2 : RdO (fun _ => 0) [0] w R59 Ab2 cb2 b2) (r : Bool) (hs : arcs_Same x1 b2 = some r) :
    Calls Try.prog 38 #[.slice Ax1 x1.length cx1, .slice Ab2 b2.length cb2] w fun e w' => ∃ own' : Own, e = .returned (.bool r) ∧ Evo [] (fun _ => 0) own' w w' := by
  refine fl_enter (n := 8) rfl rfl rfl (Nat.le_of_ble_eq_true rfl) ?_
  intro a0 Q hd0 hz0 harg hret
  have ha0 := harg 0 _ rfl
  have ha1 := harg 1 _ rfl
  clear harg
  have hE0 : Evo [] (fun _ => 0) (fun _ => 0) w w := Evo.refl _ _ _
  refine rg0_seq 8 (fun _ => 0) (bz 1) [⟨[], [], [], Fct.val 4 (.bool false)⟩] hz0 hd0 (by kernel_rfl) ?_ ?_
  · refine sc (fun _ _ _ _ _ _ => px (or_assign rfl)) ?_
    exact steps_nil
  intro own14 a14 w14 hd14 hz14 hk14 hf14 hE14
  have e14_0 := (hk14 0 rfl).trans ha0
  have e14_1 := (hk14 1 rfl).trans ha1
  have hX14 := es_ hE0 hE14
  have b14_Ax1 := RdO.evo rfl hE14 hx1
  have b14_Ab2 := RdO.evo rfl hE14 hb2
  obtain ⟨r15, hr15, hs⟩ := obind hs
  refine rg0_seq 8 own14 [0, 0, 3, 7] [⟨[], [0], [], Fct.val 5 (.slice Ax1 x1.length cx1)⟩, ⟨[], [1], [], Fct.val 6 (.slice Ab2 b2.length cb2)⟩, ⟨[0, 1], [], [], Fct.val 7 (.bool r15)⟩, ⟨[2], [], [], Fct.val 4 (.bool r15)⟩] hz14 hd14 (by kernel_rfl) ?_ ?_
  · refine sc (fun _ _ _ _ s _ => px (or_move (s.1.trans e14_0))) ?_
    refine sc (fun _ _ _ _ s _ => px (or_move (s.1.trans e14_1))) ?_
    refine sc (fun _ _ _ f _ hE => px (or_call cf57 (args3 f.1 f.2.1 rfl) (slices_EqualFunc_arcs_Arc_arcs_Arc_arcs_Arc_arcs_Arc_Same_1_w _ x1 Ax1 cx1 b2 Ab2 cb2 (RdO.zero (RdO.evo rfl hE b14_Ax1)) (RdO.zero (RdO.evo rfl hE b14_Ab2)) r15 hr15) post_val)) ?_
    refine sc (fun _ _ _ f _ _ => px (or_assign f.1)) ?_
    exact steps_nil
  intro own16 a16 w16 hd16 hz16 hk16 hf16 hE16
  obtain ⟨(e16_4 : a16.eval (.tmp 4) = .bool r15), -⟩ := hf16 [3] rfl
  have hX16 := es_ hX14 hE16
  refine fl_ret ?_
  obtain rfl := (osome hs).symm
  exact hret _ _ _ _ (.inl rfl) hd16 (results1_ rfl (RVal.tmp_ e16_4)) ⟨own16, rfl, hX16⟩
theorem slices_Equal_int_int_w (w : World) (s1 : List Int) (As1 : Option Addr) (cs1 : Nat) (s2 : List Int) (As2 : Option Addr) (cs2 : Nat) (hs1 : RdO (fun _ => 0) [0] w R3 As1 cs1 s1) (hs2 : RdO (fun _ => 0) [0] w R3 As2 cs2 s2) (r : Bool) (hs : slices_Equal_int_int s1 s2 = some r) :
    Calls Try.prog 42 #[.slice As1 s1.length cs1, .slice As2 s2.length cs2] w fun e w' => ∃ own' : Own, e = .returned (.bool r) ∧ Evo [] (fun _ => 0) own' w w' := by
  refine fl_enter (n := 26) rfl rfl rfl (Nat.le_of_ble_eq_true rfl) ?_
  intro a0 Q hd0 hz0 harg hret
  have ha0 := harg 0 _ rfl
  have ha1 := harg 1 _ rfl
  clear harg
  have hE0 : Evo [] (fun _ => 0) (fun _ => 0) w w := Evo.refl _ _ _
  refine rg0_seq 26 (fun _ => 0) (bz 1) [⟨[], [], [], Fct.val 4 (.bool false)⟩] hz0 hd0 (by kernel_rfl) ?_ ?_
  · refine sc (fun _ _ _ _ _ _ => px (or_assign rfl)) ?_
    exact steps_nil
  intro own61 a61 w61 hd61 hz61 hk61 hf61 hE61
  have e61_0 := (hk61 0 rfl).trans ha0
  have e61_1 := (hk61 1 rfl).trans ha1
  have hX61 := es_ hE0 hE61
  have b61_As1 := RdO.evo rfl hE61 hs1
  have b61_As2 := RdO.evo rfl hE61 hs2
  refine fl_seq (fun Q62 hn62 hp62 => ?_)
  refine rg0_seq 26 own61 [0, 1, 0, 4, 15] [⟨[], [0], [], Fct.val 6 (.slice As1 s1.length cs1)⟩, ⟨[0], [], [], Fct.val 7 (.int .i64 (s1.length : Int))⟩, ⟨[], [1], [], Fct.val 8 (.slice As2 s2.length cs2)⟩, ⟨[2], [], [], Fct.val 9 (.int .i64 (s2.length : Int))⟩, ⟨[1, 3], [], [], Fct.val 10 (.bool (!decide ((s1.length : Int) = (s2.length : Int))))⟩] hz61 hd61 (by kernel_rfl) ?_ ?_
  · refine sc (fun _ _ _ _ s _ => px (or_move (s.1.trans e61_0))) ?_
    refine sc (fun _ _ _ f _ _ => px (or_len tu28 f.1 rfl)) ?_
    refine sc (fun _ _ _ _ s _ => px (or_move (s.1.trans e61_1))) ?_
    refine sc (fun _ _ _ f _ _ => px (or_len tu28 f.1 rfl)) ?_
    refine sc (fun _ _ _ f _ _ => px (or_neq f.1 f.2.1 rfl)) ?_
    exact steps_nil
  intro own63 a63 w63 hd63 hz63 hk63 hf63 hE63
  have e63_0 := (hk63 0 rfl).trans e61_0
  have e63_1 := (hk63 1 rfl).trans e61_1
  obtain ⟨(e63_10 : a63.eval (.tmp 10) = .bool (!decide ((s1.length : Int) = (s2.length : Int)))), -⟩ := hf63 [4] rfl
  have hX63 := es_ hX61 hE63
  have b63_As1 := RdO.evo rfl hE63 b61_As1
  have b63_As2 := RdO.evo rfl hE63 b61_As2
  refine fl_cond e63_10 hs (fun c64 hs => ?_) (fun c64 hs => ?_)
  · refine rg0_seq 26 own63 (bz 1) [⟨[], [], [], Fct.val 4 (.bool false)⟩] hz63 hd63 (by kernel_rfl) ?_ ?_
    · refine sc (fun _ _ _ _ _ _ => px (or_assign rfl)) ?_
      exact steps_nil
    intro own65 a65 w65 hd65 hz65 hk65 hf65 hE65
    obtain ⟨(e65_4 : a65.eval (.tmp 4) = .bool false), -⟩ := hf65 [0] rfl
    have hX65 := es_ hX63 hE65
    refine fl_ret ?_
    refine hp62 _ _ _ rfl ?_
    obtain rfl := osome hs
    exact hret _ _ _ _ (.inl rfl) hd65 (results1_ rfl (RVal.tmp_ e65_4)) ⟨own65, rfl, hX65⟩
  refine fl_skip ?_
  refine hn62 _ _ ?_
  refine fl_seq (fun Q66 hn66 hp66 => ?_)
  refine rg0_seq 26 own63 [0, 1, 0] [⟨[], [0], [], Fct.val 11 (.slice As1 s1.length cs1)⟩, ⟨[0], [], [], Fct.val 12 (.int .i64 (s1.length : Int))⟩, ⟨[], [], [], Fct.val 13 (.int .i64 0)⟩] hz63 hd63 (by kernel_rfl) ?_ ?_
  · refine sc (fun _ _ _ _ s _ => px (or_move (s.1.trans e63_0))) ?_
    refine sc (fun _ _ _ f _ _ => px (or_len tu28 f.1 rfl)) ?_
    refine sc (fun _ _ _ _ _ _ => px (or_move rfl)) ?_
    exact steps_nil
  intro own67 a67 w67 hd67 hz67 hk67 hf67 hE67
  have e67_0 := (hk67 0 rfl).trans e63_0
  have e67_1 := (hk67 1 rfl).trans e63_1
  obtain ⟨(e67_12 : a67.eval (.tmp 12) = .int .i64 (s1.length : Int)), (e67_13 : a67.eval (.tmp 13) = .int .i64 0), -⟩ := hf67 [1, 2] rfl
  have hX67 := es_ hX63 hE67
  have b67_As1 := RdO.evo rfl hE67 b63_As1
  have b67_As2 := RdO.evo rfl hE67 b63_As2
  refine fl_block (fun Q68 hn68 hx68 hp68 => ?_)
  refine fl_loop (body := (fun s => slices_Equal_int_int_b1 s1 s2 s)) (z := r) (show loopO _ _ = _ from hs) (fun (x82 : Int) a wx => ∃ (ox : Own), a.defers = [] ∧ a.tmps.size = 26 ∧ a.eval (.tmp 0) = .slice As1 s1.length cs1 ∧ a.eval (.tmp 1) = .slice As2 s2.length cs2 ∧ a.eval (.tmp 12) = .int .i64 (s1.length : Int) ∧ a.eval (.tmp 13) = .int .i64 x82 ∧ Evo [] (fun _ => 0) ox w wx ∧ RdO ox [0] wx R3 As1 cs1 s1 ∧ RdO ox [0] wx R3 As2 cs2 s2) ?_ ?_
  · exact ⟨own67, hd67, hz67, e67_0, e67_1, e67_12, e67_13, hX67, b67_As1, b67_As2⟩
  · rintro x82 zz96 a96 w96 ⟨own96, hd97, hz97, e97_0, e97_1, e97_12, e97_13, hE97, b97_As1, b97_As2⟩ hs Q96 hn96 hp96 hz96
    have hs : slices_Equal_int_int_b1 s1 s2 x82 = some zz96 := hs
    refine rg0_seq 26 own96 (bz 1) [⟨[], [13, 12], [], Fct.val 14 (.bool (decide (x82 < (s1.length : Int))))⟩] hz97 hd97 (by kernel_rfl) ?_ ?_
    · refine sc (fun _ _ _ _ s _ => px (or_lss (s.1.trans e97_13) (s.2.1.trans e97_12) rfl)) ?_
      exact steps_nil
    intro own98 a98 w98 hd98 hz98 hk98 hf98 hE98
    have e98_0 := (hk98 0 rfl).trans e97_0
    have e98_1 := (hk98 1 rfl).trans e97_1
    have e98_12 := (hk98 12 rfl).trans e97_12
    have e98_13 := (hk98 13 rfl).trans e97_13
    obtain ⟨(e98_14 : a98.eval (.tmp 14) = .bool (decide (x82 < (s1.length : Int)))), -⟩ := hf98 [0] rfl
    have hX98 := es_ hE97 hE98
    have b98_As1 := RdO.evo rfl hE98 b97_As1
    have b98_As2 := RdO.evo rfl hE98 b97_As2
    refine fl_seq (fun Q99 hn99 hp99 => ?_)
    refine fl_cond e98_14 hs (fun c100 hs => ?_) (fun c100 hs => ?_)
    · refine fl_skip ?_
      refine hn99 _ _ ?_
      refine fl_seq (fun Q101 hn101 hp101 => ?_)
      refine fl_block (fun Q102 hn102 hx102 hp102 => ?_)
      refine rg0_seq 26 own98 (bz 2) [⟨[], [13], [], Fct.val 15 (.int .i64 x82)⟩, ⟨[0], [], [], Fct.val 5 (.int .i64 x82)⟩] hz98 hd98 (by kernel_rfl) ?_ ?_
      · refine sc (fun _ _ _ _ s _ => px (or_move (s.1.trans e98_13))) ?_
        refine sc (fun _ _ _ f _ _ => px (or_assign f.1)) ?_
        exact steps_nil
      intro own103 a103 w103 hd103 hz103 hk103 hf103 hE103
      have e103_0 := (hk103 0 rfl).trans e98_0
      have e103_1 := (hk103 1 rfl).trans e98_1
      have e103_12 := (hk103 12 rfl).trans e98_12
      have e103_13 := (hk103 13 rfl).trans e98_13
      obtain ⟨(e103_5 : a103.eval (.tmp 5) = .int .i64 x82), -⟩ := hf103 [1] rfl
      have hX103 := es_ hX98 hE103
      have b103_As1 := RdO.evo rfl hE103 b98_As1
      have b103_As2 := RdO.evo rfl hE103 b98_As2
      obtain ⟨x104, hx104, hs⟩ := obind hs
      obtain ⟨x105, hx105, hs⟩ := obind hs
      refine rg_draw_seq g_mixed (n := 26) (rs := []) (own0 := own103) (K := []) (bs := [0, 0, 3, 7, 0, 0, 48, 112, 255]) (ds := [⟨[], [0], [], Fct.val 16 (.slice As1 s1.length cs1)⟩, ⟨[], [5], [], Fct.val 17 (.int .i64 x82)⟩, ⟨[0, 1], [], [], Fct.val 18 (.pointer (some ((adr As1).add ((x82 : Int).toNat * R3.s))))⟩, ⟨[2], [], [], Fct.val 19 (.int .i64 x104)⟩, ⟨[], [1], [], Fct.val 20 (.slice As2 s2.length cs2)⟩, ⟨[], [5], [], Fct.val 21 (.int .i64 x82)⟩, ⟨[4, 5], [], [], Fct.val 22 (.pointer (some ((adr As2).add ((x82 : Int).toNat * R3.s))))⟩, ⟨[6], [], [], Fct.val 23 (.int .i64 x105)⟩, ⟨[3, 7], [], [], Fct.val 24 (.bool (!decide (x104 = x105)))⟩]) (by kernel_rfl) hz103 hd103 nm_ ?_ ?_
      · refine sc (fun _ _ _ _ s _ => px (or_move (s.1.trans e103_0))) ?_
        refine sc (fun _ _ _ _ s _ => px (or_move (s.1.trans e103_5))) ?_
        refine sc (fun _ _ _ f _ _ => px (or_index (R := R3) (l := s1) tl28 f.1 f.2.1 (RdO.some_ b103_As1 hx104) hx104)) ?_
        refine sc (fun _ _ _ f _ hE => px (or_load1 to3 f.1 (CellsAt.zero (RdO.cells (F := E3) (RdO.evo rfl hE b103_As1) hx104) rfl))) ?_
        refine sc (fun _ _ _ _ s _ => px (or_move (s.1.trans e103_1))) ?_
        refine sc (fun _ _ _ _ s _ => px (or_move (s.1.trans e103_5))) ?_
        refine sc (fun _ _ _ f _ _ => px (or_index (R := R3) (l := s2) tl28 f.1 f.2.1 (RdO.some_ b103_As2 hx105) hx105)) ?_
        refine sc (fun _ _ _ f _ hE => px (or_load1 to3 f.1 (CellsAt.zero (RdO.cells (F := E3) (RdO.evo rfl hE b103_As2) hx105) rfl))) ?_
        refine sc (fun _ _ _ f _ _ => px (or_neq f.1 f.2.1 rfl)) ?_
        exact steps_nil
      intro own106 a106 w106 hd106 hz106 hk106 hf106 hE106
      have e106_0 := (hk106 0 rfl).trans e103_0
      have e106_1 := (hk106 1 rfl).trans e103_1
      have e106_12 := (hk106 12 rfl).trans e103_12
      have e106_13 := (hk106 13 rfl).trans e103_13
      obtain ⟨(e106_24 : a106.eval (.tmp 24) = .bool (!decide (x104 = x105))), -⟩ := hf106 [8] rfl
      have hX106 := es_ hX103 hE106
      have b106_As1 := RdO.evo rfl hE106 b103_As1
      have b106_As2 := RdO.evo rfl hE106 b103_As2
      refine fl_cond e106_24 hs (fun c107 hs => ?_) (fun c107 hs => ?_)
      · refine rg0_seq 26 own106 (bz 1) [⟨[], [], [], Fct.val 4 (.bool false)⟩] hz106 hd106 (by kernel_rfl) ?_ ?_
        · refine sc (fun _ _ _ _ _ _ => px (or_assign rfl)) ?_
          exact steps_nil
        intro own108 a108 w108 hd108 hz108 hk108 hf108 hE108
        obtain ⟨(e108_4 : a108.eval (.tmp 4) = .bool false), -⟩ := hf108 [0] rfl
        have hX108 := es_ hX106 hE108
        refine fl_ret ?_
        refine hp102 _ _ _ rfl ?_
        refine hp101 _ _ _ rfl ?_
        replace hs := hz96 _ hs
        refine hp96 _ _ _ rfl ?_
        refine hp68 _ _ _ rfl ?_
        refine hp66 _ _ _ rfl ?_
        obtain rfl := osome hs
        exact hret _ _ _ _ (.inl rfl) hd108 (results1_ rfl (RVal.tmp_ e108_4)) ⟨own108, rfl, hX108⟩
      refine fl_skip ?_
      refine hn102 _ _ ?_
      refine hn101 _ _ ?_
      refine rg0 26 own106 (bz 2) [⟨[], [13], [], Fct.val 25 (.int .i64 (ad x82 1))⟩, ⟨[0], [], [], Fct.val 13 (.int .i64 (ad x82 1))⟩] hz106 hd106 (by kernel_rfl) ?_ ?_
      · refine sc (fun _ _ _ _ s _ => px (or_add (s.1.trans e106_13) rfl rfl)) ?_
        refine sc (fun _ _ _ f _ _ => px (or_move f.1)) ?_
        exact steps_nil
      intro own109 a109 w109 hd109 hz109 hk109 hf109 hE109
      have e109_0 := (hk109 0 rfl).trans e106_0
      have e109_1 := (hk109 1 rfl).trans e106_1
      have e109_12 := (hk109 12 rfl).trans e106_12
      obtain ⟨(e109_13 : a109.eval (.tmp 13) = .int .i64 (ad x82 1)), -⟩ := hf109 [1] rfl
      have hX109 := es_ hX106 hE109
      have b109_As1 := RdO.evo rfl hE109 b106_As1
      have b109_As2 := RdO.evo rfl hE109 b106_As2
      exact hn96 _ _ _ hs ⟨own109, hd109, hz109, e109_0, e109_1, e109_12, e109_13, hX109, b109_As1, b109_As2⟩
    refine fl_exit ?_
    refine hp99 _ _ _ rfl ?_
    replace hs := hz96 _ hs
    refine hp96 _ _ _ rfl ?_
    refine hx68 _ _ ?_
    refine hn66 _ _ ?_
    refine rg0_seq 26 own98 (bz 1) [⟨[], [], [], Fct.val 4 (.bool true)⟩] hz98 hd98 (by kernel_rfl) ?_ ?_
    · refine sc (fun _ _ _ _ _ _ => px (or_assign rfl)) ?_
      exact steps_nil
    intro own110 a110 w110 hd110 hz110 hk110 hf110 hE110
    obtain ⟨(e110_4 : a110.eval (.tmp 4) = .bool true), -⟩ := hf110 [0] rfl
    have hX110 := es_ hX98 hE110
    refine fl_ret ?_
    obtain rfl := osome hs
    exact hret _ _ _ _ (.inl rfl) hd110 (results1_ rfl (RVal.tmp_ e110_4)) ⟨own110, rfl, hX110⟩
theorem slices_EqualFunc_int_int_int_int_int_w (w : World) (s1 : List (List Int)) (As1 : Option Addr) (cs1 : Nat) (s2 : List (List Int)) (As2 : Option Addr) (cs2 : Nat) (hs1 : RdO (fun _ => 0) [0] w R28 As1 cs1 s1) (hs2 : RdO (fun _ => 0) [0] w R28 As2 cs2 s2) (r : Bool) (hs : slices_EqualFunc_int_int_int_int_int s1 s2 = some r) :
    Calls Try.prog 41 #[.slice As1 s1.length cs1, .slice As2 s2.length cs2, .func (.func 42) #[] #[]] w fun e w' => ∃ own' : Own, e = .returned (.bool r) ∧ Evo [] (fun _ => 0) own' w w' := by
  refine fl_enter (n := 32) rfl rfl rfl (Nat.le_of_ble_eq_true rfl) ?_
  intro a0 Q hd0 hz0 harg hret
  have ha0 := harg 0 _ rfl
  have ha1 := harg 1 _ rfl
  have ha2 := harg 2 _ rfl
  clear harg
  have hE0 : Evo [] (fun _ => 0) (fun _ => 0) w w := Evo.refl _ _ _
  refine rg0_seq 32 (fun _ => 0) (bz 1) [⟨[], [], [], Fct.val 6 (.bool false)⟩] hz0 hd0 (by kernel_rfl) ?_ ?_
  · refine sc (fun _ _ _ _ _ _ => px (or_assign rfl)) ?_
    exact steps_nil
  intro own73 a73 w73 hd73 hz73 hk73 hf73 hE73
  have e73_0 := (hk73 0 rfl).trans ha0
  have e73_1 := (hk73 1 rfl).trans ha1
  have e73_2 := (hk73 2 rfl).trans ha2
  have hX73 := es_ hE0 hE73
  have b73_As1 := RdO.evo rfl hE73 hs1
  have b73_As2 := RdO.evo rfl hE73 hs2
  refine fl_seq (fun Q74 hn74 hp74 => ?_)
  refine rg0_seq 32 own73 [0, 1, 0, 4, 15] [⟨[], [0], [], Fct.val 10 (.slice As1 s1.length cs1)⟩, ⟨[0], [], [], Fct.val 11 (.int .i64 (s1.length : Int))⟩, ⟨[], [1], [], Fct.val 12 (.slice As2 s2.length cs2)⟩, ⟨[2], [], [], Fct.val 13 (.int .i64 (s2.length : Int))⟩, ⟨[1, 3], [], [], Fct.val 14 (.bool (!decide ((s1.length : Int) = (s2.length : Int))))⟩] hz73 hd73 (by kernel_rfl) ?_ ?_
  · refine sc (fun _ _ _ _ s _ => px (or_move (s.1.trans e73_0))) ?_
    refine sc (fun _ _ _ f _ _ => px (or_len tu27 f.1 rfl)) ?_
    refine sc (fun _ _ _ _ s _ => px (or_move (s.1.trans e73_1))) ?_
    refine sc (fun _ _ _ f _ _ => px (or_len tu27 f.1 rfl)) ?_
    refine sc (fun _ _ _ f _ _ => px (or_neq f.1 f.2.1 rfl)) ?_
    exact steps_nil
  intro own75 a75 w75 hd75 hz75 hk75 hf75 hE75
  have e75_0 := (hk75 0 rfl).trans e73_0
  have e75_1 := (hk75 1 rfl).trans e73_1
  have e75_2 := (hk75 2 rfl).trans e73_2
  obtain ⟨(e75_14 : a75.eval (.tmp 14) = .bool (!decide ((s1.length : Int) = (s2.length : Int)))), -⟩ := hf75 [4] rfl
  have hX75 := es_ hX73 hE75
  have b75_As1 := RdO.evo rfl hE75 b73_As1
  have b75_As2 := RdO.evo rfl hE75 b73_As2
  refine fl_cond e75_14 hs (fun c76 hs => ?_) (fun c76 hs => ?_)
  · refine rg0_seq 32 own75 (bz 1) [⟨[], [], [], Fct.val 6 (.bool false)⟩] hz75 hd75 (by kernel_rfl) ?_ ?_
    · refine sc (fun _ _ _ _ _ _ => px (or_assign rfl)) ?_
      exact steps_nil
    intro own77 a77 w77 hd77 hz77 hk77 hf77 hE77
    obtain ⟨(e77_6 : a77.eval (.tmp 6) = .bool false), -⟩ := hf77 [0] rfl
    have hX77 := es_ hX75 hE77
    refine fl_ret ?_
    refine hp74 _ _ _ rfl ?_
    obtain rfl := osome hs
    exact hret _ _ _ _ (.inl rfl) hd77 (results1_ rfl (RVal.tmp_ e77_6)) ⟨own77, rfl, hX77⟩
  refine fl_skip ?_
  refine hn74 _ _ ?_
  refine fl_seq (fun Q78 hn78 hp78 => ?_)
  refine rg0_seq 32 own75 [0, 1, 0] [⟨[], [0], [], Fct.val 15 (.slice As1 s1.length cs1)⟩, ⟨[0], [], [], Fct.val 16 (.int .i64 (s1.length : Int))⟩, ⟨[], [], [], Fct.val 17 (.int .i64 0)⟩] hz75 hd75 (by kernel_rfl) ?_ ?_
  · refine sc (fun _ _ _ _ s _ => px (or_move (s.1.trans e75_0))) ?_
    refine sc (fun _ _ _ f _ _ => px (or_len tu27 f.1 rfl)) ?_
    refine sc (fun _ _ _ _ _ _ => px (or_move rfl)) ?_
    exact steps_nil
  intro own79 a79 w79 hd79 hz79 hk79 hf79 hE79
  have e79_1 := (hk79 1 rfl).trans e75_1
  have e79_2 := (hk79 2 rfl).trans e75_2
  obtain ⟨(e79_15 : a79.eval (.tmp 15) = .slice As1 s1.length cs1), (e79_16 : a79.eval (.tmp 16) = .int .i64 (s1.length : Int)), (e79_17 : a79.eval (.tmp 17) = .int .i64 0), -⟩ := hf79 [0, 1, 2] rfl
  have hX79 := es_ hX75 hE79
  have b79_As1 := RdO.evo rfl hE79 b75_As1
  have b79_As2 := RdO.evo rfl hE79 b75_As2
  refine fl_block (fun Q80 hn80 hx80 hp80 => ?_)
  refine fl_loop (body := (fun s => slices_EqualFunc_int_int_int_int_int_b1 s1 s2 s)) (z := r) (show loopO _ _ = _ from hs) (fun (x98 : Int) a wx => ∃ (ox : Own), a.defers = [] ∧ a.tmps.size = 32 ∧ a.eval (.tmp 1) = .slice As2 s2.length cs2 ∧ a.eval (.tmp 2) = .func (.func 42) #[] #[] ∧ a.eval (.tmp 15) = .slice As1 s1.length cs1 ∧ a.eval (.tmp 16) = .int .i64 (s1.length : Int) ∧ a.eval (.tmp 17) = .int .i64 x98 ∧ Evo [] (fun _ => 0) ox w wx ∧ RdO ox [0] wx R28 As2 cs2 s2 ∧ RdO ox [0] wx R28 As1 cs1 s1) ?_ ?_
  · exact ⟨own79, hd79, hz79, e79_1, e79_2, e79_15, e79_16, e79_17, hX79, b79_As2, b79_As1⟩
  · rintro x98 zz116 a116 w116 ⟨own116, hd117, hz117, e117_1, e117_2, e117_15, e117_16, e117_17, hE117, b117_As2, b117_As1⟩ hs Q116 hn116 hp116 hz116
    have hs : slices_EqualFunc_int_int_int_int_int_b1 s1 s2 x98 = some zz116 := hs
    refine rg0_seq 32 own116 (bz 1) [⟨[], [17, 16], [], Fct.val 18 (.bool (decide (x98 < (s1.length : Int))))⟩] hz117 hd117 (by kernel_rfl) ?_ ?_
    · refine sc (fun _ _ _ _ s _ => px (or_lss (s.1.trans e117_17) (s.2.1.trans e117_16) rfl)) ?_
      exact steps_nil
    intro own118 a118 w118 hd118 hz118 hk118 hf118 hE118
    have e118_1 := (hk118 1 rfl).trans e117_1
    have e118_2 := (hk118 2 rfl).trans e117_2
    have e118_15 := (hk118 15 rfl).trans e117_15
    have e118_16 := (hk118 16 rfl).trans e117_16
    have e118_17 := (hk118 17 rfl).trans e117_17
    obtain ⟨(e118_18 : a118.eval (.tmp 18) = .bool (decide (x98 < (s1.length : Int)))), -⟩ := hf118 [0] rfl
    have hX118 := es_ hE117 hE118
    have b118_As2 := RdO.evo rfl hE118 b117_As2
    have b118_As1 := RdO.evo rfl hE118 b117_As1
    refine fl_seq (fun Q119 hn119 hp119 => ?_)
    refine fl_cond e118_18 hs (fun c120 hs => ?_) (fun c120 hs => ?_)
    · refine fl_skip ?_
      refine hn119 _ _ ?_
      refine fl_seq (fun Q121 hn121 hp121 => ?_)
      refine fl_block (fun Q122 hn122 hx122 hp122 => ?_)
      obtain ⟨x123, hx123, hs⟩ := obind hs
      refine rg0_seq 32 own118 [0, 0, 2, 7, 15] [⟨[], [17], [], Fct.val 19 (.int .i64 x98)⟩, ⟨[], [15, 17], [], Fct.val 20 (.pointer (some ((adr As1).add ((x98 : Int).toNat * R28.s))))⟩, ⟨[1], [], [], Fct.nest X28 [0] 21 (fun (y : (Option Addr × Nat)) => .slice y.1 x123.length y.2) x123⟩, ⟨[0], [], [], Fct.val 7 (.int .i64 x98)⟩, ⟨[2], [], [], Fct.rel [8, 21] (fun l => ∀ (A124 : Option Addr) (cA124 : Nat), l.getD 1 undef = .slice A124 x123.length cA124 → l.getD 0 undef = .slice A124 x123.length cA124)⟩] hz118 hd118 (by kernel_rfl) ?_ ?_
      · refine sc (fun _ _ _ _ s _ => px (or_move (s.1.trans e118_17))) ?_
        refine sc (fun _ _ _ _ s _ => px (or_index (R := R28) (l := s1) tl27 (s.1.trans e118_15) (s.2.1.trans e118_17) (RdO.some_ b118_As1 hx123) hx123)) ?_
        refine sc (fun _ _ _ f _ hE => px (or_loadN1 X28 0 to28 f.1 (Addr.add_zero' _).symm (RdO.evo rfl hE b118_As1) hx123 (fun _ => rfl))) ?_
        refine sc (fun _ _ _ f _ _ => px (or_assign f.1)) ?_
        refine sc (fun own a wx hf hsl hE => ?_) ?_
        · obtain ⟨⟨⟨A124, cA124⟩, (f_21 : a.eval (.tmp 21) = .slice A124 x123.length cA124), b_A124⟩, -⟩ := hf
          exact px (or_mono (f := Fct.val 8 (.slice A124 x123.length cA124)) (or_assign f_21) (fun own' a' w' v' hp h => fun _ _ h0' => by cases (f_21.symm.trans ((hp.2 21 (by decide)).symm.trans h0')); exact h))
        exact steps_nil
      intro own125 a125 w125 hd125 hz125 hk125 hf125 hE125
      have e125_1 := (hk125 1 rfl).trans e118_1
      have e125_2 := (hk125 2 rfl).trans e118_2
      have e125_15 := (hk125 15 rfl).trans e118_15
      have e125_16 := (hk125 16 rfl).trans e118_16
      have e125_17 := (hk125 17 rfl).trans e118_17
      obtain ⟨(e125_7 : a125.eval (.tmp 7) = .int .i64 x98), ⟨⟨A124, cA124⟩, (f_21 : a125.eval (.tmp 21) = .slice A124 x123.length cA124), (b125_A124 : RdO own125 [0] w125 R3 A124 cA124 x123)⟩, (q_8 : ∀ (A124 : Option Addr) (cA124 : Nat), a125.eval (.tmp 21) = .slice A124 x123.length cA124 → a125.eval (.tmp 8) = .slice A124 x123.length cA124), -⟩ := hf125 [3, 2, 4] rfl
      have e125_8 := q_8 _ _ f_21
      have hX125 := es_ hX118 hE125
      have b125_As2 := RdO.evo rfl hE125 b118_As2
      have b125_As1 := RdO.evo rfl hE125 b118_As1
      obtain ⟨x126, hx126, hs⟩ := obind hs
      refine rg0_seq 32 own125 [0, 0, 3, 7, 15] [⟨[], [1], [], Fct.val 22 (.slice As2 s2.length cs2)⟩, ⟨[], [7], [], Fct.val 23 (.int .i64 x98)⟩, ⟨[0, 1], [], [], Fct.val 24 (.pointer (some ((adr As2).add ((x98 : Int).toNat * R28.s))))⟩, ⟨[2], [], [], Fct.nest X28 [0] 25 (fun (y : (Option Addr × Nat)) => .slice y.1 x126.length y.2) x126⟩, ⟨[3], [], [], Fct.rel [9, 25] (fun l => ∀ (A127 : Option Addr) (cA127 : Nat), l.getD 1 undef = .slice A127 x126.length cA127 → l.getD 0 undef = .slice A127 x126.length cA127)⟩] hz125 hd125 (by kernel_rfl) ?_ ?_
      · refine sc (fun _ _ _ _ s _ => px (or_move (s.1.trans e125_1))) ?_
        refine sc (fun _ _ _ _ s _ => px (or_move (s.1.trans e125_7))) ?_
        refine sc (fun _ _ _ f _ _ => px (or_index (R := R28) (l := s2) tl27 f.1 f.2.1 (RdO.some_ b125_As2 hx126) hx126)) ?_
        refine sc (fun _ _ _ f _ hE => px (or_loadN1 X28 0 to28 f.1 (Addr.add_zero' _).symm (RdO.evo rfl hE b125_As2) hx126 (fun _ => rfl))) ?_
        refine sc (fun own a wx hf hsl hE => ?_) ?_
        · obtain ⟨⟨⟨A127, cA127⟩, (f_25 : a.eval (.tmp 25) = .slice A127 x126.length cA127), b_A127⟩, -⟩ := hf
          exact px (or_mono (f := Fct.val 9 (.slice A127 x126.length cA127)) (or_assign f_25) (fun own' a' w' v' hp h => fun _ _ h0' => by cases (f_25.symm.trans ((hp.2 25 (by decide)).symm.trans h0')); exact h))
        exact steps_nil
      intro own128 a128 w128 hd128 hz128 hk128 hf128 hE128
      have e128_1 := (hk128 1 rfl).trans e125_1
      have e128_2 := (hk128 2 rfl).trans e125_2
      have e128_8 := (hk128 8 rfl).trans e125_8
      have e128_15 := (hk128 15 rfl).trans e125_15
      have e128_16 := (hk128 16 rfl).trans e125_16
      have e128_17 := (hk128 17 rfl).trans e125_17
      obtain ⟨⟨⟨A127, cA127⟩, (f_25 : a128.eval (.tmp 25) = .slice A127 x126.length cA127), (b128_A127 : RdO own128 [0] w128 R3 A127 cA127 x126)⟩, (q_9 : ∀ (A127 : Option Addr) (cA127 : Nat), a128.eval (.tmp 25) = .slice A127 x126.length cA127 → a128.eval (.tmp 9) = .slice A127 x126.length cA127), -⟩ := hf128 [3, 4] rfl
      have e128_9 := q_9 _ _ f_25
      have hX128 := es_ hX125 hE128
      have b128_As2 := RdO.evo rfl hE128 b125_As2
      have b128_As1 := RdO.evo rfl hE128 b125_As1
      have b128_A124 := RdO.evo rfl hE128 b125_A124
      obtain ⟨r129, hr129, hs⟩ := obind hs
      refine rg0_seq 32 own128 [0, 0, 0, 7, 15] [⟨[], [2], [], Fct.val 26 (.func (.func 42) #[] #[])⟩, ⟨[], [8], [], Fct.val 27 (.slice A124 x123.length cA124)⟩, ⟨[], [9], [], Fct.val 28 (.slice A127 x126.length cA127)⟩, ⟨[0, 1, 2], [], [], Fct.val 29 (.bool r129)⟩, ⟨[3], [], [], Fct.val 30 (.bool (!r129))⟩] hz128 hd128 (by kernel_rfl) ?_ ?_
      · refine sc (fun _ _ _ _ s _ => px (or_move (s.1.trans e128_2))) ?_
        refine sc (fun _ _ _ _ s _ => px (or_move (s.1.trans e128_8))) ?_
        refine sc (fun _ _ _ _ s _ => px (or_move (s.1.trans e128_9))) ?_
        refine sc (fun _ _ _ f _ hE => px (or_callf cf42 f.1 (args2 f.2.1 f.2.2.1) rfl (slices_Equal_int_int_w _ x123 A124 cA124 x126 A127 cA127 (RdO.zero (RdO.evo rfl hE b128_A124)) (RdO.zero (RdO.evo rfl hE b128_A127)) r129 hr129) post_val)) ?_
        refine sc (fun _ _ _ f _ _ => px (or_not f.1 rfl)) ?_
        exact steps_nil
      intro own130 a130 w130 hd130 hz130 hk130 hf130 hE130
      have e130_1 := (hk130 1 rfl).trans e128_1
      have e130_2 := (hk130 2 rfl).trans e128_2
      have e130_15 := (hk130 15 rfl).trans e128_15
      have e130_16 := (hk130 16 rfl).trans e128_16
      have e130_17 := (hk130 17 rfl).trans e128_17
      obtain ⟨(e130_30 : a130.eval (.tmp 30) = .bool (!r129)), -⟩ := hf130 [4] rfl
      have hX130 := es_ hX128 hE130
      have b130_As2 := RdO.evo rfl hE130 b128_As2
      have b130_As1 := RdO.evo rfl hE130 b128_As1
      refine fl_cond e130_30 hs (fun c131 hs => ?_) (fun c131 hs => ?_)
      · refine rg0_seq 32 own130 (bz 1) [⟨[], [], [], Fct.val 6 (.bool false)⟩] hz130 hd130 (by kernel_rfl) ?_ ?_
        · refine sc (fun _ _ _ _ _ _ => px (or_assign rfl)) ?_
          exact steps_nil
        intro own132 a132 w132 hd132 hz132 hk132 hf132 hE132
        obtain ⟨(e132_6 : a132.eval (.tmp 6) = .bool false), -⟩ := hf132 [0] rfl
        have hX132 := es_ hX130 hE132
        refine fl_ret ?_
        refine hp122 _ _ _ rfl ?_
        refine hp121 _ _ _ rfl ?_
        replace hs := hz116 _ hs
        refine hp116 _ _ _ rfl ?_
        refine hp80 _ _ _ rfl ?_
        refine hp78 _ _ _ rfl ?_
        obtain rfl := osome hs
        exact hret _ _ _ _ (.inl rfl) hd132 (results1_ rfl (RVal.tmp_ e132_6)) ⟨own132, rfl, hX132⟩
      refine fl_skip ?_
      refine hn122 _ _ ?_
      refine hn121 _ _ ?_
      refine rg0 32 own130 (bz 2) [⟨[], [17], [], Fct.val 31 (.int .i64 (ad x98 1))⟩, ⟨[0], [], [], Fct.val 17 (.int .i64 (ad x98 1))⟩] hz130 hd130 (by kernel_rfl) ?_ ?_
      · refine sc (fun _ _ _ _ s _ => px (or_add (s.1.trans e130_17) rfl rfl)) ?_
        refine sc (fun _ _ _ f _ _ => px (or_move f.1)) ?_
        exact steps_nil
      intro own133 a133 w133 hd133 hz133 hk133 hf133 hE133
      have e133_1 := (hk133 1 rfl).trans e130_1
      have e133_2 := (hk133 2 rfl).trans e130_2
      have e133_15 := (hk133 15 rfl).trans e130_15
      have e133_16 := (hk133 16 rfl).trans e130_16
      obtain ⟨(e133_17 : a133.eval (.tmp 17) = .int .i64 (ad x98 1)), -⟩ := hf133 [1] rfl
      have hX133 := es_ hX130 hE133
      have b133_As2 := RdO.evo rfl hE133 b130_As2
      have b133_As1 := RdO.evo rfl hE133 b130_As1
      exact hn116 _ _ _ hs ⟨own133, hd133, hz133, e133_1, e133_2, e133_15, e133_16, e133_17, hX133, b133_As2, b133_As1⟩
    refine fl_exit ?_
    refine hp119 _ _ _ rfl ?_
    replace hs := hz116 _ hs
    refine hp116 _ _ _ rfl ?_
    refine hx80 _ _ ?_
    refine hn78 _ _ ?_
    refine rg0_seq 32 own118 (bz 1) [⟨[], [], [], Fct.val 6 (.bool true)⟩] hz118 hd118 (by kernel_rfl) ?_ ?_
    · refine sc (fun _ _ _ _ _ _ => px (or_assign rfl)) ?_
      exact steps_nil
    intro own134 a134 w134 hd134 hz134 hk134 hf134 hE134
    obtain ⟨(e134_6 : a134.eval (.tmp 6) = .bool true), -⟩ := hf134 [0] rfl
    have hX134 := es_ hX118 hE134
    refine fl_ret ?_
    obtain rfl := osome hs
    exact hret _ _ _ _ (.inl rfl) hd134 (results1_ rfl (RVal.tmp_ e134_6)) ⟨own134, rfl, hX134⟩
theorem net_Same_1_w (w : World) (x1 : List (List Int)) (Ax1 : Option Addr) (cx1 : Nat) (y2 : List (List Int)) (Ay2 : Option Addr) (cy2 : Nat) (hx1 : RdO (fun _ => 0) [0] w R28 Ax1 cx1 x1) (hy2 : RdO (fun _ => 0) [0] w R28 Ay2 cy2 y2) (r : Bool) (hs : net_Same_1 x1 y2 = some r) :
    Calls Try.prog 40 #[.slice Ax1 x1.length cx1, .slice Ay2 y2.length cy2] w fun e w' => ∃ own' : Own, e = .returned (.bool r) ∧ Evo [] (fun _ => 0) own' w w' := by
  refine fl_enter (n := 8) rfl rfl rfl (Nat.le_of_ble_eq_true rfl) ?_
  intro a0 Q hd0 hz0 harg hret
  have ha0 := harg 0 _ rfl
  have ha1 := harg 1 _ rfl
  clear harg
  have hE0 : Evo [] (fun _ => 0) (fun _ => 0) w w := Evo.refl _ _ _
  refine rg0_seq 8 (fun _ => 0) (bz 1) [⟨[], [], [], Fct.val 4 (.bool false)⟩] hz0 hd0 (by kernel_rfl) ?_ ?_
  · refine sc (fun _ _ _ _ _ _ => px (or_assign rfl)) ?_
    exact steps_nil
  intro own14 a14 w14 hd14 hz14 hk14 hf14 hE14
  have e14_0 := (hk14 0 rfl).trans ha0
  have e14_1 := (hk14 1 rfl).trans ha1
  have hX14 := es_ hE0 hE14
  have b14_Ax1 := RdO.evo rfl hE14 hx1
  have b14_Ay2 := RdO.evo rfl hE14 hy2
  obtain ⟨r15, hr15, hs⟩ := obind hs
  refine rg0_seq 8 own14 [0, 0, 3, 7] [⟨[], [0], [], Fct.val 5 (.slice Ax1 x1.length cx1)⟩, ⟨[], [1], [], Fct.val 6 (.slice Ay2 y2.length cy2)⟩, ⟨[0, 1], [], [], Fct.val 7 (.bool r15)⟩, ⟨[2], [], [], Fct.val 4 (.bool r15)⟩] hz14 hd14 (by kernel_rfl) ?_ ?_
  · refine sc (fun _ _ _ _ s _ => px (or_move (s.1.trans e14_0))) ?_
    refine sc (fun _ _ _ _ s _ => px (or_move (s.1.trans e14_1))) ?_
    refine sc (fun _ _ _ f _ hE => px (or_call cf41 (args3 f.1 f.2.1 rfl) (slices_EqualFunc_int_int_int_int_int_w _ x1 Ax1 cx1 y2 Ay2 cy2 (RdO.zero (RdO.evo rfl hE b14_Ax1)) (RdO.zero (RdO.evo rfl hE b14_Ay2)) r15 hr15) post_val)) ?_
    refine sc (fun _ _ _ f _ _ => px (or_assign f.1)) ?_
    exact steps_nil
  intro own16 a16 w16 hd16 hz16 hk16 hf16 hE16
  obtain ⟨(e16_4 : a16.eval (.tmp 4) = .bool r15), -⟩ := hf16 [3] rfl
  have hX16 := es_ hX14 hE16
  refine fl_ret ?_
  obtain rfl := (osome hs).symm
  exact hret _ _ _ _ (.inl rfl) hd16 (results1_ rfl (RVal.tmp_ e16_4)) ⟨own16, rfl, hX16⟩
theorem slices_EqualFunc_int_int_int_int_Same_1_w (w : World) (s1 : List (List (List Int))) (As1 : Option Addr) (cs1 : Nat) (s2 : List (List (List Int))) (As2 : Option Addr) (cs2 : Nat) (hs1 : RdO (fun _ => 0) [0] w R27 As1 cs1 s1) (hs2 : RdO (fun _ => 0) [0] w R27 As2 cs2 s2) (r : Bool) (hs : slices_EqualFunc_int_int_int_int_Same_1 s1 s2 = some r) :
    Calls Try.prog 39 #[.slice As1 s1.length cs1, .slice As2 s2.length cs2, .func (.func 40) #[] #[]] w fun e w' => ∃ own' : Own, e = .returned (.bool r) ∧ Evo [] (fun _ => 0) own' w w' := by
  refine fl_enter (n := 32) rfl rfl rfl (Nat.le_of_ble_eq_true rfl) ?_
  intro a0 Q hd0 hz0 harg hret
  have ha0 := harg 0 _ rfl
  have ha1 := harg 1 _ rfl
  have ha2 := harg 2 _ rfl
  clear harg
  have hE0 : Evo [] (fun _ => 0) (fun _ => 0) w w := Evo.refl _ _ _
  refine rg0_seq 32 (fun _ => 0) (bz 1) [⟨[], [], [], Fct.val 6 (.bool false)⟩] hz0 hd0 (by kernel_rfl) ?_ ?_
  · refine sc (fun _ _ _ _ _ _ => px (or_assign rfl)) ?_
    exact steps_nil
  intro own73 a73 w73 hd73 hz73 hk73 hf73 hE73
  have e73_0 := (hk73 0 rfl).trans ha0
  have e73_1 := (hk73 1 rfl).trans ha1
  have e73_2 := (hk73 2 rfl).trans ha2
  have hX73 := es_ hE0 hE73
  have b73_As1 := RdO.evo rfl hE73 hs1
  have b73_As2 := RdO.evo rfl hE73 hs2
  refine fl_seq (fun Q74 hn74 hp74 => ?_)
  refine rg0_seq 32 own73 [0, 1, 0, 4, 15] [⟨[], [0], [], Fct.val 10 (.slice As1 s1.length cs1)⟩, ⟨[0], [], [], Fct.val 11 (.int .i64 (s1.length : Int))⟩, ⟨[], [1], [], Fct.val 12 (.slice As2 s2.length cs2)⟩, ⟨[2], [], [], Fct.val 13 (.int .i64 (s2.length : Int))⟩, ⟨[1, 3], [], [], Fct.val 14 (.bool (!decide ((s1.length : Int) = (s2.length : Int))))⟩] hz73 hd73 (by kernel_rfl) ?_ ?_
  · refine sc (fun _ _ _ _ s _ => px (or_move (s.1.trans e73_0))) ?_
    refine sc (fun _ _ _ f _ _ => px (or_len tu23 f.1 rfl)) ?_
    refine sc (fun _ _ _ _ s _ => px (or_move (s.1.trans e73_1))) ?_
    refine sc (fun _ _ _ f _ _ => px (or_len tu23 f.1 rfl)) ?_
    refine sc (fun _ _ _ f _ _ => px (or_neq f.1 f.2.1 rfl)) ?_
    exact steps_nil
  intro own75 a75 w75 hd75 hz75 hk75 hf75 hE75
  have e75_0 := (hk75 0 rfl).trans e73_0
  have e75_1 := (hk75 1 rfl).trans e73_1
  have e75_2 := (hk75 2 rfl).trans e73_2
  obtain ⟨(e75_14 : a75.eval (.tmp 14) = .bool (!decide ((s1.length : Int) = (s2.length : Int)))), -⟩ := hf75 [4] rfl
  have hX75 := es_ hX73 hE75
  have b75_As1 := RdO.evo rfl hE75 b73_As1
  have b75_As2 := RdO.evo rfl hE75 b73_As2
  refine fl_cond e75_14 hs (fun c76 hs => ?_) (fun c76 hs => ?_)
  · refine rg0_seq 32 own75 (bz 1) [⟨[], [], [], Fct.val 6 (.bool false)⟩] hz75 hd75 (by kernel_rfl) ?_ ?_
    · refine sc (fun _ _ _ _ _ _ => px (or_assign rfl)) ?_
      exact steps_nil
    intro own77 a77 w77 hd77 hz77 hk77 hf77 hE77
    obtain ⟨(e77_6 : a77.eval (.tmp 6) = .bool false), -⟩ := hf77 [0] rfl
    have hX77 := es_ hX75 hE77
    refine fl_ret ?_
    refine hp74 _ _ _ rfl ?_
    obtain rfl := osome hs
    exact hret _ _ _ _ (.inl rfl) hd77 (results1_ rfl (RVal.tmp_ e77_6)) ⟨own77, rfl, hX77⟩
  refine fl_skip ?_
  refine hn74 _ _ ?_
  refine fl_seq (fun Q78 hn78 hp78 => ?_)
  refine rg0_seq 32 own75 [0, 1, 0] [⟨[], [0], [], Fct.val 15 (.slice As1 s1.length cs1)⟩, ⟨[0], [], [], Fct.val 16 (.int .i64 (s1.length : Int))⟩, ⟨[], [], [], Fct.val 17 (.int .i64 0)⟩] hz75 hd75 (by kernel_rfl) ?_ ?_
  · refine sc (fun _ _ _ _ s _ => px (or_move (s.1.trans e75_0))) ?_
    refine sc (fun _ _ _ f _ _ => px (or_len tu23 f.1 rfl)) ?_
    refine sc (fun _ _ _ _ _ _ => px (or_move rfl)) ?_
    exact steps_nil
  intro own79 a79 w79 hd79 hz79 hk79 hf79 hE79
  have e79_1 := (hk79 1 rfl).trans e75_1
  have e79_2 := (hk79 2 rfl).trans e75_2
  obtain ⟨(e79_15 : a79.eval (.tmp 15) = .slice As1 s1.length cs1), (e79_16 : a79.eval (.tmp 16) = .int .i64 (s1.length : Int)), (e79_17 : a79.eval (.tmp 17) = .int .i64 0), -⟩ := hf79 [0, 1, 2] rfl
  have hX79 := es_ hX75 hE79
  have b79_As1 := RdO.evo rfl hE79 b75_As1
  have b79_As2 := RdO.evo rfl hE79 b75_As2
  refine fl_block (fun Q80 hn80 hx80 hp80 => ?_)
  refine fl_loop (body := (fun s => slices_EqualFunc_int_int_int_int_Same_1_b1 s1 s2 s)) (z := r) (show loopO _ _ = _ from hs) (fun (x98 : Int) a wx => ∃ (ox : Own), a.defers = [] ∧ a.tmps.size = 32 ∧ a.eval (.tmp 1) = .slice As2 s2.length cs2 ∧ a.eval (.tmp 2) = .func (.func 40) #[] #[] ∧ a.eval (.tmp 15) = .slice As1 s1.length cs1 ∧ a.eval (.tmp 16) = .int .i64 (s1.length : Int) ∧ a.eval (.tmp 17) = .int .i64 x98 ∧ Evo [] (fun _ => 0) ox w wx ∧ RdO ox [0] wx R27 As2 cs2 s2 ∧ RdO ox [0] wx R27 As1 cs1 s1) ?_ ?_
  · exact ⟨own79, hd79, hz79, e79_1, e79_2, e79_15, e79_16, e79_17, hX79, b79_As2, b79_As1⟩
  · rintro x98 zz116 a116 w116 ⟨own116, hd117, hz117, e117_1, e117_2, e117_15, e117_16, e117_17, hE117, b117_As2, b117_As1⟩ hs Q116 hn116 hp116 hz116
    have hs : slices_EqualFunc_int_int_int_int_Same_1_b1 s1 s2 x98 = some zz116 := hs
    refine rg0_seq 32 own116 (bz 1) [⟨[], [17, 16], [], Fct.val 18 (.bool (decide (x98 < (s1.length : Int))))⟩] hz117 hd117 (by kernel_rfl) ?_ ?_
    · refine sc (fun _ _ _ _ s _ => px (or_lss (s.1.trans e117_17) (s.2.1.trans e117_16) rfl)) ?_
      exact steps_nil
    intro own118 a118 w118 hd118 hz118 hk118 hf118 hE118
    have e118_1 := (hk118 1 rfl).trans e117_1
    have e118_2 := (hk118 2 rfl).trans e117_2
    have e118_15 := (hk118 15 rfl).trans e117_15
    have e118_16 := (hk118 16 rfl).trans e117_16
    have e118_17 := (hk118 17 rfl).trans e117_17
    obtain ⟨(e118_18 : a118.eval (.tmp 18) = .bool (decide (x98 < (s1.length : Int)))), -⟩ := hf118 [0] rfl
    have hX118 := es_ hE117 hE118
    have b118_As2 := RdO.evo rfl hE118 b117_As2
    have b118_As1 := RdO.evo rfl hE118 b117_As1
    refine fl_seq (fun Q119 hn119 hp119 => ?_)
    refine fl_cond e118_18 hs (fun c120 hs => ?_) (fun c120 hs => ?_)
    · refine fl_skip ?_
      refine hn119 _ _ ?_
      refine fl_seq (fun Q121 hn121 hp121 => ?_)
      refine fl_block (fun Q122 hn122 hx122 hp122 => ?_)
      obtain ⟨x123, hx123, hs⟩ := obind hs
      refine rg0_seq 32 own118 [0, 0, 2, 7, 15] [⟨[], [17], [], Fct.val 19 (.int .i64 x98)⟩, ⟨[], [15, 17], [], Fct.val 20 (.pointer (some ((adr As1).add ((x98 : Int).toNat * R27.s))))⟩, ⟨[1], [], [], Fct.nest X27 [0] 21 (fun (y : (Option Addr × Nat)) => .slice y.1 x123.length y.2) x123⟩, ⟨[0], [], [], Fct.val 7 (.int .i64 x98)⟩, ⟨[2], [], [], Fct.rel [8, 21] (fun l => ∀ (A124 : Option Addr) (cA124 : Nat), l.getD 1 undef = .slice A124 x123.length cA124 → l.getD 0 undef = .slice A124 x123.length cA124)⟩] hz118 hd118 (by kernel_rfl) ?_ ?_
      · refine sc (fun _ _ _ _ s _ => px (or_move (s.1.trans e118_17))) ?_
        refine sc (fun _ _ _ _ s _ => px (or_index (R := R27) (l := s1) tl23 (s.1.trans e118_15) (s.2.1.trans e118_17) (RdO.some_ b118_As1 hx123) hx123)) ?_
        refine sc (fun _ _ _ f _ hE => px (or_loadN1 X27 0 to27 f.1 (Addr.add_zero' _).symm (RdO.evo rfl hE b118_As1) hx123 (fun _ => rfl))) ?_
        refine sc (fun _ _ _ f _ _ => px (or_assign f.1)) ?_
        refine sc (fun own a wx hf hsl hE => ?_) ?_
        · obtain ⟨⟨⟨A124, cA124⟩, (f_21 : a.eval (.tmp 21) = .slice A124 x123.length cA124), b_A124⟩, -⟩ := hf
          exact px (or_mono (f := Fct.val 8 (.slice A124 x123.length cA124)) (or_assign f_21) (fun own' a' w' v' hp h => fun _ _ h0' => by cases (f_21.symm.trans ((hp.2 21 (by decide)).symm.trans h0')); exact h))
        exact steps_nil
      intro own125 a125 w125 hd125 hz125 hk125 hf125 hE125
      have e125_1 := (hk125 1 rfl).trans e118_1
      have e125_2 := (hk125 2 rfl).trans e118_2
      have e125_15 := (hk125 15 rfl).trans e118_15
      have e125_16 := (hk125 16 rfl).trans e118_16
      have e125_17 := (hk125 17 rfl).trans e118_17
      obtain ⟨(e125_7 : a125.eval (.tmp 7) = .int .i64 x98), ⟨⟨A124, cA124⟩, (f_21 : a125.eval (.tmp 21) = .slice A124 x123.length cA124), (b125_A124 : RdO own125 [0] w125 R28 A124 cA124 x123)⟩, (q_8 : ∀ (A124 : Option Addr) (cA124 : Nat), a125.eval (.tmp 21) = .slice A124 x123.length cA124 → a125.eval (.tmp 8) = .slice A124 x123.length cA124), -⟩ := hf125 [3, 2, 4] rfl
      have e125_8 := q_8 _ _ f_21
      have hX125 := es_ hX118 hE125
      have b125_As2 := RdO.evo rfl hE125 b118_As2
      have b125_As1 := RdO.evo rfl hE125 b118_As1
      obtain ⟨x126, hx126, hs⟩ := obind hs
      refine rg0_seq 32 own125 [0, 0, 3, 7, 15] [⟨[], [1], [], Fct.val 22 (.slice As2 s2.length cs2)⟩, ⟨[], [7], [], Fct.val 23 (.int .i64 x98)⟩, ⟨[0, 1], [], [], Fct.val 24 (.pointer (some ((adr As2).add ((x98 : Int).toNat * R27.s))))⟩, ⟨[2], [], [], Fct.nest X27 [0] 25 (fun (y : (Option Addr × Nat)) => .slice y.1 x126.length y.2) x126⟩, ⟨[3], [], [], Fct.rel [9, 25] (fun l => ∀ (A127 : Option Addr) (cA127 : Nat), l.getD 1 undef = .slice A127 x126.length cA127 → l.getD 0 undef = .slice A127 x126.length cA127)⟩] hz125 hd125 (by kernel_rfl) ?_ ?_
      · refine sc (fun _ _ _ _ s _ => px (or_move (s.1.trans e125_1))) ?_
        refine sc (fun _ _ _ _ s _ => px (or_move (s.1.trans e125_7))) ?_
        refine sc (fun _ _ _ f _ _ => px (or_index (R := R27) (l := s2) tl23 f.1 f.2.1 (RdO.some_ b125_As2 hx126) hx126)) ?_
        refine sc (fun _ _ _ f _ hE => px (or_loadN1 X27 0 to27 f.1 (Addr.add_zero' _).symm (RdO.evo rfl hE b125_As2) hx126 (fun _ => rfl))) ?_
        refine sc (fun own a wx hf hsl hE => ?_) ?_
        · obtain ⟨⟨⟨A127, cA127⟩, (f_25 : a.eval (.tmp 25) = .slice A127 x126.length cA127), b_A127⟩, -⟩ := hf
          exact px (or_mono (f := Fct.val 9 (.slice A127 x126.length cA127)) (or_assign f_25) (fun own' a' w' v' hp h => fun _ _ h0' => by cases (f_25.symm.trans ((hp.2 25 (by decide)).symm.trans h0')); exact h))
        exact steps_nil
      intro own128 a128 w128 hd128 hz128 hk128 hf128 hE128
      have e128_1 := (hk128 1 rfl).trans e125_1
      have e128_2 := (hk128 2 rfl).trans e125_2
      have e128_8 := (hk128 8 rfl).trans e125_8
      have e128_15 := (hk128 15 rfl).trans e125_15
      have e128_16 := (hk128 16 rfl).trans e125_16
      have e128_17 := (hk128 17 rfl).trans e125_17
      obtain ⟨⟨⟨A127, cA127⟩, (f_25 : a128.eval (.tmp 25) = .slice A127 x126.length cA127), (b128_A127 : RdO own128 [0] w128 R28 A127 cA127 x126)⟩, (q_9 : ∀ (A127 : Option Addr) (cA127 : Nat), a128.eval (.tmp 25) = .slice A127 x126.length cA127 → a128.eval (.tmp 9) = .slice A127 x126.length cA127), -⟩ := hf128 [3, 4] rfl
      have e128_9 := q_9 _ _ f_25
      have hX128 := es_ hX125 hE128
      have b128_As2 := RdO.evo rfl hE128 b125_As2
      have b128_As1 := RdO.evo rfl hE128 b125_As1
      have b128_A124 := RdO.evo rfl hE128 b125_A124
      obtain ⟨r129, hr129, hs⟩ := obind hs
      refine rg0_seq 32 own128 [0, 0, 0, 7, 15] [⟨[], [2], [], Fct.val 26 (.func (.func 40) #[] #[])⟩, ⟨[], [8], [], Fct.val 27 (.slice A124 x123.length cA124)⟩, ⟨[], [9], [], Fct.val 28 (.slice A127 x126.length cA127)⟩, ⟨[0, 1, 2], [], [], Fct.val 29 (.bool r129)⟩, ⟨[3], [], [], Fct.val 30 (.bool (!r129))⟩] hz128 hd128 (by kernel_rfl) ?_ ?_
      · refine sc (fun _ _ _ _ s _ => px (or_move (s.1.trans e128_2))) ?_
        refine sc (fun _ _ _ _ s _ => px (or_move (s.1.trans e128_8))) ?_
        refine sc (fun _ _ _ _ s _ => px (or_move (s.1.trans e128_9))) ?_
        refine sc (fun _ _ _ f _ hE => px (or_callf cf40 f.1 (args2 f.2.1 f.2.2.1) rfl (net_Same_1_w _ x123 A124 cA124 x126 A127 cA127 (RdO.zero (RdO.evo rfl hE b128_A124)) (RdO.zero (RdO.evo rfl hE b128_A127)) r129 hr129) post_val)) ?_
        refine sc (fun _ _ _ f _ _ => px (or_not f.1 rfl)) ?_
        exact steps_nil
      intro own130 a130 w130 hd130 hz130 hk130 hf130 hE130
      have e130_1 := (hk130 1 rfl).trans e128_1
      have e130_2 := (hk130 2 rfl).trans e128_2
      have e130_15 := (hk130 15 rfl).trans e128_15
      have e130_16 := (hk130 16 rfl).trans e128_16
      have e130_17 := (hk130 17 rfl).trans e128_17
      obtain ⟨(e130_30 : a130.eval (.tmp 30) = .bool (!r129)), -⟩ := hf130 [4] rfl
      have hX130 := es_ hX128 hE130
      have b130_As2 := RdO.evo rfl hE130 b128_As2
      have b130_As1 := RdO.evo rfl hE130 b128_As1
      refine fl_cond e130_30 hs (fun c131 hs => ?_) (fun c131 hs => ?_)
      · refine rg0_seq 32 own130 (bz 1) [⟨[], [], [], Fct.val 6 (.bool false)⟩] hz130 hd130 (by kernel_rfl) ?_ ?_
        · refine sc (fun _ _ _ _ _ _ => px (or_assign rfl)) ?_
          exact steps_nil
        intro own132 a132 w132 hd132 hz132 hk132 hf132 hE132
        obtain ⟨(e132_6 : a132.eval (.tmp 6) = .bool false), -⟩ := hf132 [0] rfl
        have hX132 := es_ hX130 hE132
        refine fl_ret ?_
        refine hp122 _ _ _ rfl ?_
        refine hp121 _ _ _ rfl ?_
        replace hs := hz116 _ hs
        refine hp116 _ _ _ rfl ?_
        refine hp80 _ _ _ rfl ?_
        refine hp78 _ _ _ rfl ?_
        obtain rfl := osome hs
        exact hret _ _ _ _ (.inl rfl) hd132 (results1_ rfl (RVal.tmp_ e132_6)) ⟨own132, rfl, hX132⟩
      refine fl_skip ?_
      refine hn122 _ _ ?_
      refine hn121 _ _ ?_
      refine rg0 32 own130 (bz 2) [⟨[], [17], [], Fct.val 31 (.int .i64 (ad x98 1))⟩, ⟨[0], [], [], Fct.val 17 (.int .i64 (ad x98 1))⟩] hz130 hd130 (by kernel_rfl) ?_ ?_
      · refine sc (fun _ _ _ _ s _ => px (or_add (s.1.trans e130_17) rfl rfl)) ?_
        refine sc (fun _ _ _ f _ _ => px (or_move f.1)) ?_
        exact steps_nil
      intro own133 a133 w133 hd133 hz133 hk133 hf133 hE133
      have e133_1 := (hk133 1 rfl).trans e130_1
      have e133_2 := (hk133 2 rfl).trans e130_2
      have e133_15 := (hk133 15 rfl).trans e130_15
      have e133_16 := (hk133 16 rfl).trans e130_16
      obtain ⟨(e133_17 : a133.eval (.tmp 17) = .int .i64 (ad x98 1)), -⟩ := hf133 [1] rfl
      have hX133 := es_ hX130 hE133
      have b133_As2 := RdO.evo rfl hE133 b130_As2
      have b133_As1 := RdO.evo rfl hE133 b130_As1
      exact hn116 _ _ _ hs ⟨own133, hd133, hz133, e133_1, e133_2, e133_15, e133_16, e133_17, hX133, b133_As2, b133_As1⟩
    refine fl_exit ?_
    refine hp119 _ _ _ rfl ?_
    replace hs := hz116 _ hs
    refine hp116 _ _ _ rfl ?_
    refine hx80 _ _ ?_
    refine hn78 _ _ ?_
    refine rg0_seq 32 own118 (bz 1) [⟨[], [], [], Fct.val 6 (.bool true)⟩] hz118 hd118 (by kernel_rfl) ?_ ?_
    · refine sc (fun _ _ _ _ _ _ => px (or_assign rfl)) ?_
      exact steps_nil
    intro own134 a134 w134 hd134 hz134 hk134 hf134 hE134
    obtain ⟨(e134_6 : a134.eval (.tmp 6) = .bool true), -⟩ := hf134 [0] rfl
    have hX134 := es_ hX118 hE134
    refine fl_ret ?_
    obtain rfl := osome hs
    exact hret _ _ _ _ (.inl rfl) hd134 (results1_ rfl (RVal.tmp_ e134_6)) ⟨own134, rfl, hX134⟩
theorem net_Same_w (w : World) (x1 : (List ((List (Int × Int)) × Int × Int)) × (List (List (List Int)))) (Ax1_0 : Option Addr) (cx1_0 : Nat) (Ax1_1 : Option Addr) (cx1_1 : Nat) (b2 : (List ((List (Int × Int)) × Int × Int)) × (List (List (List Int)))) (Ab2_0 : Option Addr) (cb2_0 : Nat) (Ab2_1 : Option Addr) (cb2_1 : Nat) (hAx1_0 : RdO (fun _ => 0) [0] w R59 Ax1_0 cx1_0 x1.1) (hAx1_1 : RdO (fun _ => 0) [0] w R27 Ax1_1 cx1_1 x1.2) (hAb2_0 : RdO (fun _ => 0) [0] w R59 Ab2_0 cb2_0 b2.1) (hAb2_1 : RdO (fun _ => 0) [0] w R27 Ab2_1 cb2_1 b2.2) (r : Bool) (hs : net_Same x1 b2 = some r) :
    Calls Try.prog 19 #[.agg #[.slice Ax1_0 x1.1.length cx1_0, .slice Ax1_1 x1.2.length cx1_1], .agg #[.slice Ab2_0 b2.1.length cb2_0, .slice Ab2_1 b2.2.length cb2_1]] w fun e w' => ∃ own' : Own, e = .returned (.bool r) ∧ Evo [] (fun _ => 0) own' w w' := by
  refine fl_enter (n := 17) rfl rfl rfl (Nat.le_of_ble_eq_true rfl) ?_
  intro a0 Q hd0 hz0 harg hret
  have ha0 := harg 0 _ rfl
  have ha1 := harg 1 _ rfl
  clear harg
  have hE0 : Evo [] (fun _ => 0) (fun _ => 0) w w := Evo.refl _ _ _
  refine rg0_seq 17 (fun _ => 0) [0, 0, 0] [⟨[], [0], [], Fct.blk 20 2 (fun g => .pointer (some ⟨g, 0, none⟩)) 25 #[.slice Ax1_0 x1.1.length cx1_0, .slice Ax1_1 x1.2.length cx1_1]⟩, ⟨[], [1], [], Fct.blk 22 3 (fun g => .pointer (some ⟨g, 0, none⟩)) 25 #[.slice Ab2_0 b2.1.length cb2_0, .slice Ab2_1 b2.2.length cb2_1]⟩, ⟨[], [], [], Fct.val 4 (.bool false)⟩] hz0 hd0 (by kernel_rfl) ?_ ?_
  · refine sc (fun _ _ _ _ s _ => px (or_new [(0, .agg #[.slice Ax1_0 x1.1.length cx1_0, .slice Ax1_1 x1.2.length cx1_1])] rfl rfl ⟨(s.1.trans ha0), trivial⟩ (by kernel_rfl))) ?_
    refine sc (fun _ _ _ _ s _ => px (or_new [(1, .agg #[.slice Ab2_0 b2.1.length cb2_0, .slice Ab2_1 b2.2.length cb2_1])] rfl rfl ⟨(s.1.trans ha1), trivial⟩ (by kernel_rfl))) ?_
    refine sc (fun _ _ _ _ _ _ => px (or_assign rfl)) ?_
    exact steps_nil
  intro own23 a23 w23 hd23 hz23 hk23 hf23 hE23
  obtain ⟨⟨g19, (e23_2 : a23.eval (.tmp 2) = .pointer (some ⟨g19, 0, none⟩)), (b23_g19 : BlkO own23 20 w23 g19 25 #[.slice Ax1_0 x1.1.length cx1_0, .slice Ax1_1 x1.2.length cx1_1])⟩, ⟨g21, (e23_3 : a23.eval (.tmp 3) = .pointer (some ⟨g21, 0, none⟩)), (b23_g21 : BlkO own23 22 w23 g21 25 #[.slice Ab2_0 b2.1.length cb2_0, .slice Ab2_1 b2.2.length cb2_1])⟩, -⟩ := hf23 [0, 1] rfl
  have hX23 := es_ hE0 hE23
  have b23_Ax1_0 := RdO.evo rfl hE23 hAx1_0
  have b23_Ax1_1 := RdO.evo rfl hE23 hAx1_1
  have b23_Ab2_0 := RdO.evo rfl hE23 hAb2_0
  have b23_Ab2_1 := RdO.evo rfl hE23 hAb2_1
  obtain ⟨r24, hr24, hs⟩ := obind hs
  obtain ⟨r25, hr25, hs⟩ := obind hs
  refine rg0_seq 17 own23 [0, 1, 0, 4, 15, 31, 63, 127, 63, 319, 1023, 2047, 4095] [⟨[], [2], [], Fct.val 5 (.pointer (some ⟨g19, 0, none⟩))⟩, ⟨[0], [], [], Fct.val 6 (.slice Ax1_0 x1.1.length cx1_0)⟩, ⟨[], [3], [], Fct.val 7 (.pointer (some ⟨g21, 0, none⟩))⟩, ⟨[2], [], [], Fct.val 8 (.slice Ab2_0 b2.1.length cb2_0)⟩, ⟨[1, 3], [], [], Fct.val 9 (.bool r24)⟩, ⟨[4], [], [], Fct.val 10 (.bool r24)⟩, ⟨[5], [2], [], Fct.cond r24 (some 11) (Fct.val 11 (.pointer (some ⟨g19, 1, none⟩)))⟩, ⟨[5, 6], [], [], Fct.cond r24 (some 12) (Fct.val 12 (.slice Ax1_1 x1.2.length cx1_1))⟩, ⟨[5], [3], [], Fct.cond r24 (some 13) (Fct.val 13 (.pointer (some ⟨g21, 1, none⟩)))⟩, ⟨[5, 8], [], [], Fct.cond r24 (some 14) (Fct.val 14 (.slice Ab2_1 b2.2.length cb2_1))⟩, ⟨[5, 7, 9], [], [], Fct.cond r24 (some 15) (Fct.val 15 (.bool r25))⟩, ⟨[5, 10], [], [], Fct.val 16 (.bool (r24 && r25))⟩, ⟨[11], [], [], Fct.val 4 (.bool (r24 && r25))⟩] hz23 hd23 (by kernel_rfl) ?_ ?_
  · refine sc (fun _ _ _ _ s _ => px (or_field fo25_0 (s.1.trans e23_2) (by rfl))) ?_
    refine sc (fun _ _ _ f _ hE => px (or_load1 to22 f.1 (Blk.at_ (be_ hE b23_g19).2 0 rfl))) ?_
    refine sc (fun _ _ _ _ s _ => px (or_field fo25_0 (s.1.trans e23_3) (by rfl))) ?_
    refine sc (fun _ _ _ f _ hE => px (or_load1 to22 f.1 (Blk.at_ (be_ hE b23_g21).2 0 rfl))) ?_
    refine sc (fun _ _ _ f _ hE => px (or_call cf38 (args2 f.1 f.2.1) (arcs_Same_w _ x1.1 Ax1_0 cx1_0 b2.1 Ab2_0 cb2_0 (RdO.zero (RdO.evo rfl hE b23_Ax1_0)) (RdO.zero (RdO.evo rfl hE b23_Ab2_0)) r24 hr24) post_val)) ?_
    refine sc (fun _ _ _ f _ _ => px (or_move f.1)) ?_
    refine sc (fun _ _ _ f s _ => sg_t rfl rfl rfl f.1 (fun hg => or_field fo25_1 (s.1.trans e23_2) (by rfl))) ?_
    refine sc (fun _ _ _ f _ hE => sg_t rfl rfl rfl f.1 (fun hg => or_load1 to23 (f.2.1.1 hg) (Blk.at_ (be_ hE b23_g19).2 1 rfl))) ?_
    refine sc (fun _ _ _ f s _ => sg_t rfl rfl rfl f.1 (fun hg => or_field fo25_1 (s.1.trans e23_3) (by rfl))) ?_
    refine sc (fun _ _ _ f _ hE => sg_t rfl rfl rfl f.1 (fun hg => or_load1 to23 (f.2.1.1 hg) (Blk.at_ (be_ hE b23_g21).2 1 rfl))) ?_
    refine sc (fun _ _ _ f _ hE => sg_t rfl rfl rfl f.1 (fun hg => or_call cf39 (args3 (f.2.1.1 hg) (f.2.2.1.1 hg) rfl) (slices_EqualFunc_int_int_int_int_Same_1_w _ x1.2 Ax1_1 cx1_1 b2.2 Ab2_1 cb2_1 (RdO.zero (RdO.evo rfl hE b23_Ax1_1)) (RdO.zero (RdO.evo rfl hE b23_Ab2_1)) r25 (gd_t hr25 hg)) post_val)) ?_
    refine sc (fun _ _ _ f _ _ => px (or_and f.1 (fun hx => f.2.1.1 hx) rfl rfl)) ?_
    refine sc (fun _ _ _ f _ _ => px (or_assign f.1)) ?_
    exact steps_nil
  intro own26 a26 w26 hd26 hz26 hk26 hf26 hE26
  obtain ⟨(e26_4 : a26.eval (.tmp 4) = .bool (r24 && r25)), -⟩ := hf26 [12] rfl
  have hX26 := es_ hX23 hE26
  refine fl_ret ?_
  obtain rfl := osome hs
  exact hret _ _ _ _ (.inl rfl) hd26 (results1_ rfl (RVal.tmp_ e26_4)) ⟨own26, rfl, hX26⟩
end Go.Proofs.Ytaobbaohelpdgaa
