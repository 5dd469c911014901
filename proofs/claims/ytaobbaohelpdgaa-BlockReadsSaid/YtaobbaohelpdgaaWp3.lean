import Derived.Test.YtaobbaohelpdgaaWp2
import Derived.Test.YtaobbaohelpdgaaSp3
namespace Go.Proofs.Ytaobbaohelpdgaa
open Go.RowKit
set_option linter.unusedVariables false
set_option maxRecDepth 10000
theorem block_Read_1_nil_w (w : World) (f0 : (List ((List (Int × Int)) × Int × Int)) × (List (List (List Int)))) (gf0 : Nat) (tf0 : TypeId) (Af0_0 : Option Addr) (cf0_0 : Nat) (Af0_1 : Option Addr) (cf0_1 : Nat) (f1 : Int) (gf1 : Nat) (tf1 : TypeId) (f2 : Int) (gf2 : Nat) (tf2 : TypeId) (hgf0 : BlkO (fun _ => 0) 0 w gf0 tf0 #[.slice Af0_0 f0.1.length cf0_0, .slice Af0_1 f0.2.length cf0_1]) (hAf0_0 : RdO (fun _ => 0) [0] w R59 Af0_0 cf0_0 f0.1) (hAf0_1 : RdO (fun _ => 0) [0] w R27 Af0_1 cf0_1 f0.2) (hgf1 : BlkO (fun _ => 0) 0 w gf1 tf1 #[.int .i64 f1]) (hgf2 : BlkO (fun _ => 0) 0 w gf2 tf2 #[.int .i64 f2]) (r : Unit) (hs : block_Read_1_nil f0 f1 f2 = some r) :
    CallsD Try.prog 24 #[.pointer (some ⟨gf0, 0, none⟩), .pointer (some ⟨gf1, 0, none⟩), .pointer (some ⟨gf2, 0, none⟩)] .returning w fun e u2 w' => u2 = .returning ∧ ∃ own' : Own, e = .returned (.tuple #[]) ∧ Evo [] (fun _ => 0) own' w w' := by
  refine fl_enterD (n := 15) rec_nil rfl rfl rfl (Nat.le_of_ble_eq_true rfl) (by decide) ?_
  intro a0 Q hd0 hz0 harg hrc hret
  have ha0 := harg 0 _ (by decide) rfl
  have ha1 := harg 1 _ (by decide) rfl
  have ha2 := harg 2 _ (by decide) rfl
  clear harg
  have hE0 : Evo [] (fun _ => 0) (fun _ => 0) w w := Evo.refl _ _ _
  refine fl_block (fun Q16 hn16 hx16 hp16 => ?_)
  refine rg0_seq 15 (fun _ => 0) (bz 1) [⟨[], [6], [], Fct.val 8 (.bool true)⟩] hz0 hd0 (by kernel_rfl) ?_ ?_
  · refine sc (fun _ _ _ _ s _ => px (or_k [(6, .nilIface)] rfl rfl ⟨(s.1.trans hrc), trivial⟩ (by kernel_rfl))) ?_
    exact steps_nil
  intro own19 a19 w19 hd19 hz19 hk19 hf19 hE19
  have e19_0 := (hk19 0 rfl).trans ha0
  have e19_1 := (hk19 1 rfl).trans ha1
  have e19_2 := (hk19 2 rfl).trans ha2
  have e19_6 := (hk19 6 rfl).trans hrc
  obtain ⟨(e19_8 : a19.eval (.tmp 8) = .bool true), -⟩ := hf19 [0] rfl
  have hX19 := es_ hE0 hE19
  have b19_Af0_0 := RdO.evo rfl hE19 hAf0_0
  have b19_Af0_1 := RdO.evo rfl hE19 hAf0_1
  have b19_gf0 := be_ hE19 hgf0
  have b19_gf1 := be_ hE19 hgf1
  have b19_gf2 := be_ hE19 hgf2
  refine fl_t e19_8 ?_
  refine rg0 15 own19 (bz 1) [⟨[], [6], [], Fct.val 3 (.nilIface)⟩] hz19 hd19 (by kernel_rfl) ?_ ?_
  · refine sc (fun _ _ _ _ s _ => px (or_assign (s.1.trans e19_6))) ?_
    exact steps_nil
  intro own20 a20 w20 hd20 hz20 hk20 hf20 hE20
  have hX20 := es_ hX19 hE20
  refine hn16 _ _ ?_
  obtain rfl := osome hs
  exact hret _ _ _ _ (.inr rfl) hd20 (results0_ rfl ) ⟨own20, rfl, hX20⟩
theorem block_Read_1_stop_w (w : World) (own : Own) (f0 : (List ((List (Int × Int)) × Int × Int)) × (List (List (List Int)))) (gf0 : Nat) (tf0 : TypeId) (Af0_0 : Option Addr) (cf0_0 : Nat) (Af0_1 : Option Addr) (cf0_1 : Nat) (f1 : Int) (gf1 : Nat) (tf1 : TypeId) (f2 : Int) (gf2 : Nat) (tf2 : TypeId) (e0 : Int) (hown : ∀ b, own b ≤ 5) (hgf0 : BlkO own 1 w gf0 tf0 #[.slice Af0_0 f0.1.length cf0_0, .slice Af0_1 f0.2.length cf0_1]) (hAf0_0 : RwO own 2 [] w 59 R59 Af0_0 cf0_0 f0.1) (hAf0_1 : RwO own 3 [] w 27 R27 Af0_1 cf0_1 f0.2) (hgf1 : BlkO own 4 w gf1 tf1 #[.int .i64 f1]) (hgf2 : BlkO own 5 w gf2 tf2 #[.int .i64 f2]) (r : ((List ((List (Int × Int)) × Int × Int)) × (List (List (List Int)))) × Int × Int) (hs : block_Read_1_stop f0 f1 f2 e0 = some r) :
    CallsD Try.prog 24 #[.pointer (some ⟨gf0, 0, none⟩), .pointer (some ⟨gf1, 0, none⟩), .pointer (some ⟨gf2, 0, none⟩)] (.panicking (pE (.iface 69 (.agg #[.int .i64 e0])))) w fun e u2 w' => u2 = .panicking [{ v := .iface 69 (.agg #[.int .i64 e0]), recovered := true }] ∧ ∃ (own' : Own) (x : (Option Addr × Nat) × (Option Addr × Nat)), e = .returned (.tuple #[]) ∧ Evo [1, 2, 3, 4, 5] own own' w w' ∧ RwO own' 2 [] w' 59 R59 x.1.1 x.1.2 r.1.1 ∧ RwO own' 3 [] w' 27 R27 x.2.1 x.2.2 r.1.2 ∧ BlkO own' 1 w' gf0 tf0 #[.slice x.1.1 r.1.1.length x.1.2, .slice x.2.1 r.1.2.length x.2.2] ∧ BlkO own' 4 w' gf1 tf1 #[.int .i64 r.2.1] ∧ BlkO own' 5 w' gf2 tf2 #[.int .i64 r.2.2] := by
  refine fl_enterD (n := 15) (rec_stop _) rfl rfl rfl (Nat.le_of_ble_eq_true rfl) (by decide) ?_
  intro a0 Q hd0 hz0 harg hrc hret
  have ha0 := harg 0 _ (by decide) rfl
  have ha1 := harg 1 _ (by decide) rfl
  have ha2 := harg 2 _ (by decide) rfl
  clear harg
  have hE0 : Evo [1, 2, 3, 4, 5] own own w w := Evo.refl _ _ _
  refine fl_block (fun Q43 hn43 hx43 hp43 => ?_)
  refine rg0_seq 15 own (bz 1) [⟨[], [6], [], Fct.val 8 (.bool false)⟩] hz0 hd0 (by kernel_rfl) ?_ ?_
  · refine sc (fun _ _ _ _ s _ => px (or_k [(6, .iface 69 (.agg #[.int .i64 e0]))] rfl rfl ⟨(s.1.trans hrc), trivial⟩ (by kernel_rfl))) ?_
    exact steps_nil
  intro own57 a57 w57 hd57 hz57 hk57 hf57 hE57
  have e57_0 := (hk57 0 rfl).trans ha0
  have e57_1 := (hk57 1 rfl).trans ha1
  have e57_2 := (hk57 2 rfl).trans ha2
  have e57_6 := (hk57 6 rfl).trans hrc
  obtain ⟨(e57_8 : a57.eval (.tmp 8) = .bool false), -⟩ := hf57 [0] rfl
  have hX57 := Evo.step hE0 hown hE57 rfl
  have b57_Af0_0 := re_ hE57 hAf0_0
  have b57_Af0_1 := re_ hE57 hAf0_1
  have b57_gf0 := be_ hE57 hgf0
  have b57_gf1 := be_ hE57 hgf1
  have b57_gf2 := be_ hE57 hgf2
  refine fl_f e57_8 ?_
  refine rg0_seq 15 own57 [0, 1, 1] [⟨[], [6], [], Fct.val 9 (.tuple #[.agg #[.int .i64 e0], .bool true])⟩, ⟨[0], [], [], Fct.val 10 (.bool true)⟩, ⟨[0], [], [], Fct.val 11 (.agg #[.int .i64 e0])⟩] hz57 hd57 (by kernel_rfl) ?_ ?_
  · refine sc (fun _ _ _ _ s _ => px (or_k [(6, .iface 69 (.agg #[.int .i64 e0]))] rfl rfl ⟨(s.1.trans e57_6), trivial⟩ (by kernel_rfl))) ?_
    refine sc (fun _ _ _ f _ _ => px (or_k [(9, .tuple #[.agg #[.int .i64 e0], .bool true])] rfl rfl ⟨f.1, trivial⟩ (by kernel_rfl))) ?_
    refine sc (fun _ _ _ f _ _ => px (or_k [(9, .tuple #[.agg #[.int .i64 e0], .bool true])] rfl rfl ⟨f.1, trivial⟩ (by kernel_rfl))) ?_
    exact steps_nil
  intro own58 a58 w58 hd58 hz58 hk58 hf58 hE58
  have e58_0 := (hk58 0 rfl).trans e57_0
  have e58_1 := (hk58 1 rfl).trans e57_1
  have e58_2 := (hk58 2 rfl).trans e57_2
  have e58_6 := (hk58 6 rfl).trans e57_6
  obtain ⟨(e58_10 : a58.eval (.tmp 10) = .bool true), (e58_11 : a58.eval (.tmp 11) = .agg #[.int .i64 e0]), -⟩ := hf58 [1, 2] rfl
  have hX58 := Evo.step hX57 hown hE58 rfl
  have b58_Af0_0 := re_ hE58 b57_Af0_0
  have b58_Af0_1 := re_ hE58 b57_Af0_1
  have b58_gf0 := be_ hE58 b57_gf0
  have b58_gf1 := be_ hE58 b57_gf1
  have b58_gf2 := be_ hE58 b57_gf2
  refine fl_t e58_10 ?_
  refine rg_plain_seq (n := 15) (rs := []) (own0 := own58) (K := [60]) (bs := (bz 2)) (ds := [⟨[], [], [], Fct.blk 60 4 (fun g => .pointer (some ⟨g, 0, none⟩)) 69 #[.int .i64 0]⟩, ⟨[0], [11], [60], Fct.blk 61 4 (fun g => .pointer (some ⟨g, 0, none⟩)) 69 #[.int .i64 e0]⟩]) (by kernel_rfl) hz58 hd58 nm_ ?_ ?_
  · refine sc (fun _ _ _ _ _ _ => px (or_new [] rfl rfl trivial (by kernel_rfl))) ?_
    refine sc (fun own a wx hf hsl hE => ?_) ?_
    · obtain ⟨⟨g59, f_4, b_g59⟩, -⟩ := hf
      obtain ⟨s_11, -⟩ := hsl
      exact px (or_store (l := #[.int .i64 e0]) (lab := 60) (lab2 := 61) ts69 f_4 (s_11.trans e58_11) b_g59 (by simp) (by kernel_rfl) (mem_of rfl) (by decide) (by kernel_rfl) (fun own' a' w' ha hb => ⟨_, (ha 4).trans f_4, hb⟩))
    exact steps_nil
  intro own62 a62 w62 hd62 hz62 hk62 hf62 hE62
  have e62_0 := (hk62 0 rfl).trans e58_0
  have e62_1 := (hk62 1 rfl).trans e58_1
  have e62_2 := (hk62 2 rfl).trans e58_2
  obtain ⟨⟨g59, (e62_4 : a62.eval (.tmp 4) = .pointer (some ⟨g59, 0, none⟩)), (b62_g59 : BlkO own62 61 w62 g59 69 #[.int .i64 e0])⟩, -⟩ := hf62 [1] rfl
  have hX62 := Evo.step hX58 hown hE62 rfl
  have b62_Af0_0 := re_ hE62 b58_Af0_0
  have b62_Af0_1 := re_ hE62 b58_Af0_1
  have b62_gf0 := be_ hE62 b58_gf0
  have b62_gf1 := be_ hE62 b58_gf1
  have b62_gf2 := be_ hE62 b58_gf2
  refine rg_draw g_mixed (n := 15) (rs := [Fct.at_ 1 gf0 tf0 #[.slice Af0_0 f0.1.length cf0_0, .slice Af0_1 f0.2.length cf0_1], Fct.at_ 4 gf1 tf1 #[.int .i64 f1], Fct.at_ 5 gf2 tf2 #[.int .i64 f2]]) (own0 := own62) (K := [1, 4, 5]) (bs := [0, 0, 2, 1, 9, 31]) (ds := [⟨[], [], [], Fct.val 12 (.agg #[.slice none 0 0, .slice none 0 0])⟩, ⟨[], [4], [], Fct.val 13 (.pointer (some ⟨g59, 0, none⟩))⟩, ⟨[1], [], [], Fct.val 14 (.int .i64 e0)⟩, ⟨[0, 6], [0], [1], Fct.at_ 66 gf0 tf0 #[.slice none 0 0, .slice none 0 0]⟩, ⟨[7], [1], [4], Fct.at_ 67 gf1 tf1 #[.int .i64 0]⟩, ⟨[2, 8], [2], [5], Fct.at_ 68 gf2 tf2 #[.int .i64 e0]⟩]) (by kernel_rfl) hz62 hd62 (by simp only [List.forall_mem_cons]; exact ⟨b62_gf0, b62_gf1, b62_gf2, fun _ h => nomatch h⟩) ?_ ?_
  · refine sc (fun _ _ _ _ _ _ => px (or_k [] rfl rfl trivial (by kernel_rfl))) ?_
    refine sc (fun _ _ _ _ s _ => px (or_field fo69_0 (s.1.trans e62_4) (by rfl))) ?_
    refine sc (fun _ _ _ f _ hE => px (or_load1 to29 f.1 (Blk.at_ (be_ hE b62_g59).2 0 rfl))) ?_
    refine sc (fun own a wx hf hsl hE => ?_) ?_
    · obtain ⟨f_12, b_gf0, -⟩ := hf
      obtain ⟨s_0, -⟩ := hsl
      exact px (or_store (l := #[.slice none 0 0, .slice none 0 0]) (lab := 1) (lab2 := 66) ts25 (s_0.trans e62_0) f_12 b_gf0 (by simp) (by kernel_rfl) (mem_of rfl) (by decide) (by kernel_rfl) (fun own' a' w' ha hb => hb))
    refine sc (fun own a wx hf hsl hE => ?_) ?_
    · obtain ⟨b_gf1, -⟩ := hf
      obtain ⟨s_1, -⟩ := hsl
      exact px (or_store1 (lab := 4) (lab2 := 67) ts3 (s_1.trans e62_1) rfl b_gf1 (by simp) rfl (mem_of rfl) (by decide) rfl (fun own' a' w' ha hb => hb))
    refine sc (fun own a wx hf hsl hE => ?_) ?_
    · obtain ⟨f_14, b_gf2, -⟩ := hf
      obtain ⟨s_2, -⟩ := hsl
      exact px (or_store1 (lab := 5) (lab2 := 68) ts29 (s_2.trans e62_2) f_14 b_gf2 (by simp) rfl (mem_of rfl) (by decide) rfl (fun own' a' w' ha hb => hb))
    exact steps_nil
  intro own69 a69 w69 hd69 hz69 hk69 hf69 hE69
  have e69_0 := (hk69 0 rfl).trans e62_0
  have e69_1 := (hk69 1 rfl).trans e62_1
  have e69_2 := (hk69 2 rfl).trans e62_2
  obtain ⟨(b69_gf0 : BlkO own69 66 w69 gf0 tf0 #[.slice none 0 0, .slice none 0 0]), (b69_gf1 : BlkO own69 67 w69 gf1 tf1 #[.int .i64 0]), (b69_gf2 : BlkO own69 68 w69 gf2 tf2 #[.int .i64 e0]), -⟩ := hf69 [3, 4, 5] rfl
  have hX69 := Evo.step hX62 hown hE69 rfl
  refine hn43 _ _ ?_
  obtain rfl := osome hs
  exact hret _ _ _ _ (.inr rfl) hd69 (results0_ rfl ) ⟨(rl [(66, 1), (67, 4), (68, 5)] own69), ((none, 0), (none, 0)), rfl, (Evo.rl_ hX69 hown rfl), RwO.nil_, RwO.nil_, (BlkO.rl_ (mm := [(66, 1), (67, 4), (68, 5)]) b69_gf0), (BlkO.rl_ (mm := [(66, 1), (67, 4), (68, 5)]) b69_gf1), (BlkO.rl_ (mm := [(66, 1), (67, 4), (68, 5)]) b69_gf2)⟩
theorem block_Read_w (w : World) (b1 : List Int) (Ab1 : Option Addr) (cb1 : Nat) (hb1 : RdO (fun _ => 0) [0] w R5 Ab1 cb1 b1) (r : ((List ((List (Int × Int)) × Int × Int)) × (List (List (List Int)))) × Int × Int) (hs : block_Read b1 = some r) :
    Calls Try.prog 9 #[.slice Ab1 b1.length cb1] w fun e w' => ∃ (own' : Own) (x : (Option Addr × Nat) × (Option Addr × Nat)), e = .returned (.tuple #[.agg #[.slice x.1.1 r.1.1.length x.1.2, .slice x.2.1 r.1.2.length x.2.2], .int .i64 r.2.1, .int .i64 r.2.2]) ∧ Evo [] (fun _ => 0) own' w w' ∧ RwO own' 1 [2] w' 59 R59 x.1.1 x.1.2 r.1.1 ∧ RwO own' 3 [4] w' 27 R27 x.2.1 x.2.2 r.1.2 := by
  refine fl_enterR (n := 19) rfl rfl rfl (Nat.le_of_ble_eq_true rfl) ?_
  intro a0 Q hd0 hz0 harg hret hpan
  have ha0 := harg 0 _ rfl
  clear harg
  have hE0 : Evo [] (fun _ => 0) (fun _ => 0) w w := Evo.refl _ _ _
  refine rg0_seq 19 (fun _ => 0) [0, 0, 0] [⟨[], [], [], Fct.blk 56 2 (fun g => .pointer (some ⟨g, 0, none⟩)) 25 #[.slice none 0 0, .slice none 0 0]⟩, ⟨[], [], [], Fct.blk 58 3 (fun g => .pointer (some ⟨g, 0, none⟩)) 3 #[.int .i64 0]⟩, ⟨[], [], [], Fct.blk 60 4 (fun g => .pointer (some ⟨g, 0, none⟩)) 29 #[.int .i64 0]⟩] hz0 hd0 (by kernel_rfl) ?_ ?_
  · refine sc (fun _ _ _ _ _ _ => px (or_new [] rfl rfl trivial (by kernel_rfl))) ?_
    refine sc (fun _ _ _ _ _ _ => px (or_new [] rfl rfl trivial (by kernel_rfl))) ?_
    refine sc (fun _ _ _ _ _ _ => px (or_new [] rfl rfl trivial (by kernel_rfl))) ?_
    exact steps_nil
  intro own61 a61 w61 hd61 hz61 hk61 hf61 hE61
  have e61_0 := (hk61 0 rfl).trans ha0
  obtain ⟨⟨g55, (e61_2 : a61.eval (.tmp 2) = .pointer (some ⟨g55, 0, none⟩)), (b61_g55 : BlkO own61 56 w61 g55 25 #[.slice none 0 0, .slice none 0 0])⟩, ⟨g57, (e61_3 : a61.eval (.tmp 3) = .pointer (some ⟨g57, 0, none⟩)), (b61_g57 : BlkO own61 58 w61 g57 3 #[.int .i64 0])⟩, ⟨g59, (e61_4 : a61.eval (.tmp 4) = .pointer (some ⟨g59, 0, none⟩)), (b61_g59 : BlkO own61 60 w61 g59 29 #[.int .i64 0])⟩, -⟩ := hf61 [0, 1, 2] rfl
  have hX61 := es_ hE0 hE61
  have b61_Ab1 := RdO.evo rfl hE61 hb1
  refine rg0_seq 19 own61 (bz 5) [⟨[], [0], [], Fct.val 6 (.slice Ab1 b1.length cb1)⟩, ⟨[0], [], [], Fct.val 7 (.agg #[.slice Ab1 b1.length cb1, .int .i64 0])⟩, ⟨[1], [], [], Fct.val 8 (.agg #[.slice Ab1 b1.length cb1, .int .i64 0, .int .i64 0, .int .i64 0])⟩, ⟨[2], [], [], Fct.blk 63 9 (fun g => .pointer (some ⟨g, 0, none⟩)) 67 #[.slice Ab1 b1.length cb1, .int .i64 0, .int .i64 0, .int .i64 0]⟩, ⟨[3], [], [], Fct.rel [5, 9] (fun l => ∀ (g62 : Nat), l.getD 1 undef = .pointer (some ⟨g62, 0, none⟩) → l.getD 0 undef = .pointer (some ⟨g62, 0, none⟩))⟩] hz61 hd61 (by kernel_rfl) ?_ ?_
  · refine sc (fun _ _ _ _ s _ => px (or_move (s.1.trans e61_0))) ?_
    refine sc (fun _ _ _ f _ _ => px (or_k [(6, .slice Ab1 b1.length cb1)] rfl rfl ⟨f.1, trivial⟩ (by kernel_rfl))) ?_
    refine sc (fun _ _ _ f _ _ => px (or_k [(7, .agg #[.slice Ab1 b1.length cb1, .int .i64 0])] rfl rfl ⟨f.1, trivial⟩ (by kernel_rfl))) ?_
    refine sc (fun _ _ _ f _ _ => px (or_new [(8, .agg #[.slice Ab1 b1.length cb1, .int .i64 0, .int .i64 0, .int .i64 0])] rfl rfl ⟨f.1, trivial⟩ (by kernel_rfl))) ?_
    refine sc (fun own a wx hf hsl hE => ?_) ?_
    · obtain ⟨⟨g62, (f_9 : a.eval (.tmp 9) = .pointer (some ⟨g62, 0, none⟩)), b_g62⟩, -⟩ := hf
      exact px (or_mono (f := Fct.val 5 (.pointer (some ⟨g62, 0, none⟩))) (or_assign f_9) (fun own' a' w' v' hp h => fun _ h0' => by cases (f_9.symm.trans ((hp.2 9 (by decide)).symm.trans h0')); exact h))
    exact steps_nil
  intro own64 a64 w64 hd64 hz64 hk64 hf64 hE64
  have e64_2 := (hk64 2 rfl).trans e61_2
  have e64_3 := (hk64 3 rfl).trans e61_3
  have e64_4 := (hk64 4 rfl).trans e61_4
  obtain ⟨⟨g62, (f_9 : a64.eval (.tmp 9) = .pointer (some ⟨g62, 0, none⟩)), (b64_g62 : BlkO own64 63 w64 g62 67 #[.slice Ab1 b1.length cb1, .int .i64 0, .int .i64 0, .int .i64 0])⟩, (q_5 : ∀ (g62 : Nat), a64.eval (.tmp 9) = .pointer (some ⟨g62, 0, none⟩) → a64.eval (.tmp 5) = .pointer (some ⟨g62, 0, none⟩)), -⟩ := hf64 [3, 4] rfl
  have e64_5 := q_5 _ f_9
  have hX64 := es_ hX61 hE64
  have b64_Ab1 := RdO.evo rfl hE64 b61_Ab1
  have b64_g55 := be_ hE64 b61_g55
  have b64_g57 := be_ hE64 b61_g57
  have b64_g59 := be_ hE64 b61_g59
  refine rg_defer_seq (n := 19) (args3 e64_2 e64_3 e64_4) hd64 hz64 (by decide) ?_
  intro a65 hd65 hz65 hk65
  have e65_2 := (hk65 2 (by decide)).trans e64_2
  have e65_3 := (hk65 3 (by decide)).trans e64_3
  have e65_4 := (hk65 4 (by decide)).trans e64_4
  have e65_5 := (hk65 5 (by decide)).trans e64_5
  refine rngO_cases hs (fun e83 he83 hs => ?_) (fun r74 hr74 hs => ?_)
  · refine rg_pan_seq 1 (n := 19) (rs := [Fct.at_ 63 g62 67 #[.slice Ab1 b1.length cb1, .int .i64 0, .int .i64 0, .int .i64 0], Fct.at_ 56 g55 25 #[.slice none 0 0, .slice none 0 0]]) (own0 := own64) (K := [63]) (bs := (bz 3)) (ds := [⟨[], [5], [], Fct.val 11 (.pointer (some ⟨g62, 0, none⟩))⟩, ⟨[0, 3], [], [63], Fct.any⟩, dN]) (by kernel_rfl) hz65 hd65 (by simp only [List.forall_mem_cons]; exact ⟨b64_g62, b64_g55, fun _ h => nomatch h⟩) rfl rfl rfl ?_ (ch := pE (.iface 69 (.agg #[.int .i64 e83]))) ?_ ?_
    · refine sc (fun _ _ _ _ s _ => px (or_move (s.1.trans e65_5))) ?_
      exact steps_nil
    · intro own a wx hf hsl hE
      obtain ⟨f_11, b_g62, -⟩ := hf
      exact or_callP cf25 (args1 f_11) (block_cursor_net_p _ (forth own (look0 [(63, 1)])) ((b1, 0), (0, 0)) g62 67 Ab1 cb1 (look0_le rfl) (BlkO.forth_ (m := (look0 [(63, 1)])) b_g62) (RdO.forth_ (m := (look0 [(63, 1)])) (RdO.evo rfl hE b64_Ab1)) e83 he83) (m' := look [(1, 63)]) (hm_of rfl)
    intro own84 a84 w84 hd84 hz84 hk84 hE84
    have hX84 := es_ hX64 hE84
    have e84_2 := (hk84 2 rfl).trans e65_2
    have e84_3 := (hk84 3 rfl).trans e65_3
    have e84_4 := (hk84 4 rfl).trans e65_4
    have b84_Ab1 := RdO.evo rfl hE84 b64_Ab1
    have b84_g55 := be_ hE84 b64_g55
    have b84_g57 := be_ hE84 b64_g57
    have b84_g59 := be_ hE84 b64_g59
    obtain ⟨rr85, hrr85, hs⟩ := obind hs
    refine hpan _ _ _ ?_
    rw [hd84]
    refine leaves1_panM cf24 (block_Read_1_stop_w _ (forth own84 (look0 [(56, 1), (58, 4), (60, 5)])) (([] : List ((List (Int × Int)) × Int × Int)), ([] : List (List (List Int)))) g55 25 none 0 none 0 0 g57 3 0 g59 29 e83 (look0_le rfl) (BlkO.forth_ (m := (look0 [(56, 1), (58, 4), (60, 5)])) b84_g55) RwO.nil_ RwO.nil_ (BlkO.forth_ (m := (look0 [(56, 1), (58, 4), (60, 5)])) b84_g57) (BlkO.forth_ (m := (look0 [(56, 1), (58, 4), (60, 5)])) b84_g59) rr85 hrr85) ?_
    rintro w86 own86 ⟨⟨A86_0, cA86_0⟩, ⟨A86_1, cA86_1⟩⟩ hE86_ ⟨f86_0, f86_1, f86_2, f86_3, f86_4⟩
    have hE86 : Evo [56, 58, 60] own84 (back own84 own86 w84 (look0 [(1, 89), (2, 87), (3, 88), (4, 90), (5, 91)])) w84 w86 := Evo.back_ (m := (look0 [(56, 1), (58, 4), (60, 5)])) (m' := (look0 [(1, 89), (2, 87), (3, 88), (4, 90), (5, 91)])) hE86_ (hm_of rfl)
    have hX86 := es_ hX84 hE86
    have bf86_0 := RwO.back_ (own := own84) (w := w84) (m' := (look0 [(1, 89), (2, 87), (3, 88), (4, 90), (5, 91)])) f86_0 (by decide) (.inr (by decide))
    have bf86_1 := RwO.back_ (own := own84) (w := w84) (m' := (look0 [(1, 89), (2, 87), (3, 88), (4, 90), (5, 91)])) f86_1 (by decide) (.inr (by decide))
    have bf86_2 := BlkO.back_ (own := own84) (w := w84) (m' := (look0 [(1, 89), (2, 87), (3, 88), (4, 90), (5, 91)])) f86_2 (by decide)
    have bf86_3 := BlkO.back_ (own := own84) (w := w84) (m' := (look0 [(1, 89), (2, 87), (3, 88), (4, 90), (5, 91)])) f86_3 (by decide)
    have bf86_4 := BlkO.back_ (own := own84) (w := w84) (m' := (look0 [(1, 89), (2, 87), (3, 88), (4, 90), (5, 91)])) f86_4 (by decide)
    obtain rfl := osome hs
    exact ⟨_, results3_ rfl (RVal.cell_ e84_2 (run_loadVarAgg (l := [.slice A86_0 rr85.1.1.length cA86_0, .slice A86_1 rr85.1.2.length cA86_1]) ta25 (Blk.cellsFrom bf86_2.2 0 rfl) rfl)) (RVal.cell_ e84_3 (run_loadVarOne to3 (Blk.at_ bf86_3.2 0 rfl))) (RVal.cell_ e84_4 (run_loadVarOne to29 (Blk.at_ bf86_4.2 0 rfl))), ⟨(rl [(87, 1), (88, 3)] (back own84 own86 w84 (look0 [(1, 89), (2, 87), (3, 88), (4, 90), (5, 91)]))), ((A86_0, cA86_0), (A86_1, cA86_1)), rfl, (Evo.rl_ hX86 (fun _ => Nat.le_refl 0) rfl), (RwO.more (RwO.rl_ (mm := [(87, 1), (88, 3)]) bf86_0) (by decide)), (RwO.more (RwO.rl_ (mm := [(87, 1), (88, 3)]) bf86_1) (by decide))⟩⟩
  refine rg_plain_seq (n := 19) (rs := [Fct.at_ 63 g62 67 #[.slice Ab1 b1.length cb1, .int .i64 0, .int .i64 0, .int .i64 0], Fct.at_ 56 g55 25 #[.slice none 0 0, .slice none 0 0]]) (own0 := own64) (K := [63, 56]) (bs := (bz 3)) (ds := [⟨[], [5], [], Fct.val 11 (.pointer (some ⟨g62, 0, none⟩))⟩, ⟨[0, 3], [], [63], Fct.mems [77, 78, 79, 80, 81] 12 (fun (x : (Option Addr × Nat) × (Option Addr × Nat)) => .agg #[.slice x.1.1 r74.1.1.length x.1.2, .slice x.2.1 r74.1.2.length x.2.2]) (fun (x : (Option Addr × Nat) × (Option Addr × Nat)) own w => RwO own 77 [78] w 59 R59 x.1.1 x.1.2 r74.1.1 ∧ RwO own 79 [80] w 27 R27 x.2.1 x.2.2 r74.1.2 ∧ BlkO own 81 w g62 67 #[.slice Ab1 b1.length cb1, .int .i64 r74.2.1.2, .int .i64 r74.2.2.1, .int .i64 r74.2.2.2]) (fun hk he h => ⟨RwO.evo (hits_sub hk (by decide)) he h.1, RwO.evo (hits_sub hk (by decide)) he h.2.1, BlkO.evo (not_hit hk (by decide)) he h.2.2⟩)⟩, ⟨[1, 4], [2], [56], Fct.by_ [82] [12] (fun l own w => ∀ (A75 : Option Addr) (cA75 : Nat) (A76 : Option Addr) (cA76 : Nat), l.getD 0 undef = .agg #[.slice A75 r74.1.1.length cA75, .slice A76 r74.1.2.length cA76] → BlkO own 82 w g55 25 #[.slice A75 r74.1.1.length cA75, .slice A76 r74.1.2.length cA76]) (fun hk he h _ _ _ _ h0' => BlkO.evo (not_hit hk (by decide)) he (h _ _ _ _ h0'))⟩]) (by kernel_rfl) hz65 hd65 (by simp only [List.forall_mem_cons]; exact ⟨b64_g62, b64_g55, fun _ h => nomatch h⟩) ?_ ?_
  · refine sc (fun _ _ _ _ s _ => px (or_move (s.1.trans e65_5))) ?_
    refine sc (fun own a wx hf hsl hE => ?_) ?_
    · obtain ⟨f_11, b_g62, -⟩ := hf
      exact px (or_call cf25 (args1 f_11) (block_cursor_net_w _ (forth own (look0 [(63, 1)])) ((b1, 0), (0, 0)) g62 67 Ab1 cb1 (look0_le rfl) (BlkO.forth_ (m := (look0 [(63, 1)])) b_g62) (RdO.forth_ (m := (look0 [(63, 1)])) (RdO.evo rfl hE b64_Ab1)) r74 hr74) (post_mems (m := (look0 [(63, 1)])) (m' := (look0 [(1, 81), (2, 77), (3, 78), (4, 79), (5, 80)])) (hm_of rfl) (fun own' w' a' x h1 h => ⟨x, h1, ⟨RwO.back_ h.1 (by decide) (.inr (by decide)), RwO.back_ h.2.1 (by decide) (.inr (by decide)), BlkO.back_ h.2.2 (by decide)⟩⟩)))
    refine sc (fun own a wx hf hsl hE => ?_) ?_
    · obtain ⟨⟨⟨⟨A75, cA75⟩, ⟨A76, cA76⟩⟩, (f_12 : a.eval (.tmp 12) = .agg #[.slice A75 r74.1.1.length cA75, .slice A76 r74.1.2.length cA76]), b_A75, b_A76, b_g62⟩, b_g55, -⟩ := hf
      obtain ⟨s_2, -⟩ := hsl
      exact px (or_store (l := #[.slice A75 r74.1.1.length cA75, .slice A76 r74.1.2.length cA76]) (lab := 56) (lab2 := 82) ts25 (s_2.trans e65_2) f_12 b_g55 (by simp) (by kernel_rfl) (mem_of rfl) (by decide) (by kernel_rfl) (fun own' a' w' ha hb => fun _ _ _ _ h0' => by cases (f_12.symm.trans ((ha 12).symm.trans h0')); exact hb))
    exact steps_nil
  intro own92 a92 w92 hd92 hz92 hk92 hf92 hE92
  have e92_2 := (hk92 2 rfl).trans e65_2
  have e92_3 := (hk92 3 rfl).trans e65_3
  have e92_4 := (hk92 4 rfl).trans e65_4
  have e92_5 := (hk92 5 rfl).trans e65_5
  obtain ⟨⟨⟨⟨A75, cA75⟩, ⟨A76, cA76⟩⟩, (f_12 : a92.eval (.tmp 12) = .agg #[.slice A75 r74.1.1.length cA75, .slice A76 r74.1.2.length cA76]), (b92_A75 : RwO own92 77 [78] w92 59 R59 A75 cA75 r74.1.1), (b92_A76 : RwO own92 79 [80] w92 27 R27 A76 cA76 r74.1.2), (b92_g62 : BlkO own92 81 w92 g62 67 #[.slice Ab1 b1.length cb1, .int .i64 r74.2.1.2, .int .i64 r74.2.2.1, .int .i64 r74.2.2.2])⟩, (bq_g55 : ∀ (A75 : Option Addr) (cA75 : Nat) (A76 : Option Addr) (cA76 : Nat), a92.eval (.tmp 12) = .agg #[.slice A75 r74.1.1.length cA75, .slice A76 r74.1.2.length cA76] → BlkO own92 82 w92 g55 25 #[.slice A75 r74.1.1.length cA75, .slice A76 r74.1.2.length cA76]), -⟩ := hf92 [1, 2] rfl
  have b92_g55 := bq_g55 _ _ _ _ f_12
  have hX92 := es_ hX64 hE92
  have b92_Ab1 := RdO.evo rfl hE92 b64_Ab1
  have b92_g57 := be_ hE92 b64_g57
  have b92_g59 := be_ hE92 b64_g59
  refine rg_draw_seq g_mixed (n := 19) (rs := [Fct.at_ 82 g55 25 #[.slice A75 r74.1.1.length cA75, .slice A76 r74.1.2.length cA76], Fct.at_ 58 g57 3 #[.int .i64 0], Fct.at_ 60 g59 29 #[.int .i64 0]]) (own0 := own92) (K := [82, 58, 60]) (bs := [0, 0, 2, 6, 14, 30, 1, 127, 255]) (ds := [⟨[9], [2], [], Fct.val 13 (.agg #[.slice A75 r74.1.1.length cA75, .slice A76 r74.1.2.length cA76])⟩, ⟨[], [5], [], Fct.val 14 (.pointer (some ⟨g62, 0, none⟩))⟩, ⟨[1], [], [], Fct.val 15 (.pointer (some ⟨g62, 0, none⟩))⟩, ⟨[2], [], [], Fct.val 16 (.pointer (some ⟨g62, 0, none⟩))⟩, ⟨[3], [], [], Fct.val 17 (.pointer (some ⟨g62, 1, none⟩))⟩, ⟨[4], [], [], Fct.val 18 (.int .i64 r74.2.1.2)⟩, ⟨[0, 9], [2], [82], Fct.at_ 96 g55 25 #[.slice A75 r74.1.1.length cA75, .slice A76 r74.1.2.length cA76]⟩, ⟨[5, 10], [3], [58], Fct.at_ 97 g57 3 #[.int .i64 r74.2.1.2]⟩, ⟨[11], [4], [60], Fct.at_ 98 g59 29 #[.int .i64 0]⟩]) (by kernel_rfl) hz92 hd92 (by simp only [List.forall_mem_cons]; exact ⟨b92_g55, b92_g57, b92_g59, fun _ h => nomatch h⟩) ?_ ?_
  · refine sc (fun own a wx hf hsl hE => ?_) ?_
    · obtain ⟨(b_g55 : BlkO own 82 wx g55 25 #[.slice A75 r74.1.1.length cA75, .slice A76 r74.1.2.length cA76]), -⟩ := hf
      obtain ⟨s_2, -⟩ := hsl
      exact px (or_load (l := [.slice A75 r74.1.1.length cA75, .slice A76 r74.1.2.length cA76]) ta25 (s_2.trans e92_2) (Blk.cellsFrom b_g55.2 0 rfl) rfl)
    refine sc (fun _ _ _ _ s _ => px (or_move (s.1.trans e92_5))) ?_
    refine sc (fun _ _ _ f _ _ => px (or_k [(14, .pointer (some ⟨g62, 0, none⟩))] rfl rfl ⟨f.1, trivial⟩ (by kernel_rfl))) ?_
    refine sc (fun _ _ _ f _ _ => px (or_field fo67_0 f.1 (by rfl))) ?_
    refine sc (fun _ _ _ f _ _ => px (or_field fo65_1 f.1 (by rfl))) ?_
    refine sc (fun _ _ _ f _ hE => px (or_load1 to3 f.1 (Blk.at_ (be_ hE b92_g62).2 1 rfl))) ?_
    refine sc (fun own a wx hf hsl hE => ?_) ?_
    · obtain ⟨f_13, b_g55, -⟩ := hf
      obtain ⟨s_2, -⟩ := hsl
      exact px (or_store (l := #[.slice A75 r74.1.1.length cA75, .slice A76 r74.1.2.length cA76]) (lab := 82) (lab2 := 96) ts25 (s_2.trans e92_2) f_13 b_g55 (by simp) (by kernel_rfl) (mem_of rfl) (by decide) (by kernel_rfl) (fun own' a' w' ha hb => hb))
    refine sc (fun own a wx hf hsl hE => ?_) ?_
    · obtain ⟨f_18, b_g57, -⟩ := hf
      obtain ⟨s_3, -⟩ := hsl
      exact px (or_store1 (lab := 58) (lab2 := 97) ts3 (s_3.trans e92_3) f_18 b_g57 (by simp) rfl (mem_of rfl) (by decide) rfl (fun own' a' w' ha hb => hb))
    refine sc (fun own a wx hf hsl hE => ?_) ?_
    · obtain ⟨b_g59, -⟩ := hf
      obtain ⟨s_4, -⟩ := hsl
      exact px (or_store1 (lab := 60) (lab2 := 98) ts29 (s_4.trans e92_4) rfl b_g59 (by simp) rfl (mem_of rfl) (by decide) rfl (fun own' a' w' ha hb => hb))
    exact steps_nil
  intro own99 a99 w99 hd99 hz99 hk99 hf99 hE99
  have e99_2 := (hk99 2 rfl).trans e92_2
  have e99_3 := (hk99 3 rfl).trans e92_3
  have e99_4 := (hk99 4 rfl).trans e92_4
  obtain ⟨(b99_g55 : BlkO own99 96 w99 g55 25 #[.slice A75 r74.1.1.length cA75, .slice A76 r74.1.2.length cA76]), (b99_g57 : BlkO own99 97 w99 g57 3 #[.int .i64 r74.2.1.2]), (b99_g59 : BlkO own99 98 w99 g59 29 #[.int .i64 0]), -⟩ := hf99 [6, 7, 8] rfl
  have hX99 := es_ hX92 hE99
  have b99_A75 := re_ hE99 b92_A75
  have b99_A76 := re_ hE99 b92_A76
  refine fl_ret ?_
  refine hret _ _ _ (.inl rfl) ?_
  rw [hd99]
  refine leaves1_ret0 cf24 (block_Read_1_nil_w _ r74.1 g55 25 A75 cA75 A76 cA76 r74.2.1.2 g57 3 0 g59 29 (BlkO.zero_ b99_g55) (RdO.zero (RwO.rd b99_A75)) (RdO.zero (RwO.rd b99_A76)) (BlkO.zero_ b99_g57) (BlkO.zero_ b99_g59) () rfl) ?_
  intro w100 own100 hE100_
  have hE100 := Evo.back0_ (own := own99) [] (fun _ => 0) hE100_
  have hX101 := es_ hX99 hE100
  have b101_A75 := re_ hE100 b99_A75
  have b101_A76 := re_ hE100 b99_A76
  have b101_g55 := be_ hE100 b99_g55
  have b101_g57 := be_ hE100 b99_g57
  have b101_g59 := be_ hE100 b99_g59
  obtain rfl := osome hs
  exact ⟨_, results3_ rfl (RVal.cell_ e99_2 (run_loadVarAgg (l := [.slice A75 r74.1.1.length cA75, .slice A76 r74.1.2.length cA76]) ta25 (Blk.cellsFrom b101_g55.2 0 rfl) rfl)) (RVal.cell_ e99_3 (run_loadVarOne to3 (Blk.at_ b101_g57.2 0 rfl))) (RVal.cell_ e99_4 (run_loadVarOne to29 (Blk.at_ b101_g59.2 0 rfl))), ⟨(rl [(77, 1), (78, 2), (79, 3), (80, 4)] (back own99 own100 w99 (fun _ => 0))), ((A75, cA75), (A76, cA76)), rfl, (Evo.rl_ hX101 (fun _ => Nat.le_refl 0) rfl), (RwO.rl_ (mm := [(77, 1), (78, 2), (79, 3), (80, 4)]) b101_A75), (RwO.rl_ (mm := [(77, 1), (78, 2), (79, 3), (80, 4)]) b101_A76)⟩⟩
theorem block_Parse_w (w : World) (b1 : List Int) (Ab1 : Option Addr) (cb1 : Nat) (hb1 : RdO (fun _ => 0) [0] w R5 Ab1 cb1 b1) (r : ((List ((List (Int × Int)) × Int × Int)) × (List (List (List Int)))) × Int) (hs : block_Parse b1 = some r) :
    Calls Try.prog 12 #[.slice Ab1 b1.length cb1] w fun e w' => ∃ (own' : Own) (x : (Option Addr × Nat) × (Option Addr × Nat)), e = .returned (.tuple #[.agg #[.slice x.1.1 r.1.1.length x.1.2, .slice x.2.1 r.1.2.length x.2.2], .int .i64 r.2]) ∧ Evo [] (fun _ => 0) own' w w' ∧ RwO own' 1 [2] w' 59 R59 x.1.1 x.1.2 r.1.1 ∧ RwO own' 3 [4] w' 27 R27 x.2.1 x.2.2 r.1.2 := by
  refine fl_enter (n := 25) rfl rfl rfl (Nat.le_of_ble_eq_true rfl) ?_
  intro a0 Q hd0 hz0 harg hret
  have ha0 := harg 0 _ rfl
  clear harg
  have hE0 : Evo [] (fun _ => 0) (fun _ => 0) w w := Evo.refl _ _ _
  refine rg0_seq 25 (fun _ => 0) [0, 0] [⟨[], [], [], Fct.blk 38 2 (fun g => .pointer (some ⟨g, 0, none⟩)) 25 #[.slice none 0 0, .slice none 0 0]⟩, ⟨[], [], [], Fct.val 3 (.int .i64 0)⟩] hz0 hd0 (by kernel_rfl) ?_ ?_
  · refine sc (fun _ _ _ _ _ _ => px (or_new [] rfl rfl trivial (by kernel_rfl))) ?_
    refine sc (fun _ _ _ _ _ _ => px (or_assign rfl)) ?_
    exact steps_nil
  intro own39 a39 w39 hd39 hz39 hk39 hf39 hE39
  have e39_0 := (hk39 0 rfl).trans ha0
  obtain ⟨⟨g37, (e39_2 : a39.eval (.tmp 2) = .pointer (some ⟨g37, 0, none⟩)), (b39_g37 : BlkO own39 38 w39 g37 25 #[.slice none 0 0, .slice none 0 0])⟩, -⟩ := hf39 [0] rfl
  have hX39 := es_ hE0 hE39
  have b39_Ab1 := RdO.evo rfl hE39 hb1
  obtain ⟨r40, hr40, hs⟩ := obind hs
  refine rg_plain_seq (n := 25) (rs := []) (own0 := own39) (K := [48]) (bs := [0, 1, 3, 7, 7, 7, 0, 79, 223, 511]) (ds := [⟨[], [0], [], Fct.val 8 (.slice Ab1 b1.length cb1)⟩, ⟨[0], [], [], Fct.mems [43, 44, 45, 46] 9 (fun (x : (Option Addr × Nat) × (Option Addr × Nat)) => .tuple #[.agg #[.slice x.1.1 r40.1.1.length x.1.2, .slice x.2.1 r40.1.2.length x.2.2], .int .i64 r40.2.1, .int .i64 r40.2.2]) (fun (x : (Option Addr × Nat) × (Option Addr × Nat)) own w => RwO own 43 [44] w 59 R59 x.1.1 x.1.2 r40.1.1 ∧ RwO own 45 [46] w 27 R27 x.2.1 x.2.2 r40.1.2) (fun hk he h => ⟨RwO.evo (hits_sub hk (by decide)) he h.1, RwO.evo (hits_sub hk (by decide)) he h.2⟩)⟩, ⟨[1], [], [], Fct.rel [7, 9] (fun l => ∀ (A41 : Option Addr) (cA41 : Nat) (A42 : Option Addr) (cA42 : Nat), l.getD 1 undef = .tuple #[.agg #[.slice A41 r40.1.1.length cA41, .slice A42 r40.1.2.length cA42], .int .i64 r40.2.1, .int .i64 r40.2.2] → l.getD 0 undef = .tuple #[.agg #[.slice A41 r40.1.1.length cA41, .slice A42 r40.1.2.length cA42], .int .i64 r40.2.1, .int .i64 r40.2.2])⟩, ⟨[2, 1], [], [], Fct.rel [10, 9] (fun l => ∀ (A41 : Option Addr) (cA41 : Nat) (A42 : Option Addr) (cA42 : Nat), l.getD 1 undef = .tuple #[.agg #[.slice A41 r40.1.1.length cA41, .slice A42 r40.1.2.length cA42], .int .i64 r40.2.1, .int .i64 r40.2.2] → l.getD 0 undef = .agg #[.slice A41 r40.1.1.length cA41, .slice A42 r40.1.2.length cA42])⟩, ⟨[2, 1], [], [], Fct.val 11 (.int .i64 r40.2.1)⟩, ⟨[2, 1], [], [], Fct.val 12 (.int .i64 r40.2.2)⟩, ⟨[], [], [], Fct.blk 48 4 (fun g => .pointer (some ⟨g, 0, none⟩)) 25 #[.slice none 0 0, .slice none 0 0]⟩, ⟨[6, 3, 1], [], [48], Fct.by_ [49] [4, 9] (fun l own w => ∃ g47 : Nat, l.getD 0 undef = .pointer (some ⟨g47, 0, none⟩) ∧ (∀ (A41 : Option Addr) (cA41 : Nat) (A42 : Option Addr) (cA42 : Nat), l.getD 1 undef = .tuple #[.agg #[.slice A41 r40.1.1.length cA41, .slice A42 r40.1.2.length cA42], .int .i64 r40.2.1, .int .i64 r40.2.2] → BlkO own 49 w g47 25 #[.slice A41 r40.1.1.length cA41, .slice A42 r40.1.2.length cA42])) (fun hk he h => by obtain ⟨g, e, h⟩ := h; exact ⟨g, e, fun _ _ _ _ h0' => BlkO.evo (not_hit hk (by decide)) he (h _ _ _ _ h0')⟩)⟩, ⟨[4], [], [], Fct.val 5 (.int .i64 r40.2.1)⟩, ⟨[5], [], [], Fct.val 6 (.int .i64 r40.2.2)⟩]) (by kernel_rfl) hz39 hd39 nm_ ?_ ?_
  · refine sc (fun _ _ _ _ s _ => px (or_move (s.1.trans e39_0))) ?_
    refine sc (fun _ _ _ f _ hE => px (or_call cf9 (args1 f.1) (block_Read_w _ b1 Ab1 cb1 (RdO.zero (RdO.evo rfl hE b39_Ab1)) r40 hr40) (post_mems (m := (fun _ => 0)) (m' := (look0 [(1, 43), (2, 44), (3, 45), (4, 46)])) (fun _ _ => .inl rfl) (fun own' w' a' x h1 h => ⟨x, h1, ⟨RwO.back_ h.1 (by decide) (.inr (by decide)), RwO.back_ h.2 (by decide) (.inr (by decide))⟩⟩)))) ?_
    refine sc (fun own a wx hf hsl hE => ?_) ?_
    · obtain ⟨⟨⟨⟨A41, cA41⟩, ⟨A42, cA42⟩⟩, (f_9 : a.eval (.tmp 9) = .tuple #[.agg #[.slice A41 r40.1.1.length cA41, .slice A42 r40.1.2.length cA42], .int .i64 r40.2.1, .int .i64 r40.2.2]), b_A41, b_A42⟩, -⟩ := hf
      exact px (or_mono (f := Fct.val 7 (.tuple #[.agg #[.slice A41 r40.1.1.length cA41, .slice A42 r40.1.2.length cA42], .int .i64 r40.2.1, .int .i64 r40.2.2])) (or_move f_9) (fun own' a' w' v' hp h => fun _ _ _ _ h0' => by cases (f_9.symm.trans ((hp.2 9 (by decide)).symm.trans h0')); exact h))
    refine sc (fun own a wx hf hsl hE => ?_) ?_
    · obtain ⟨(q_7 : ∀ (A41 : Option Addr) (cA41 : Nat) (A42 : Option Addr) (cA42 : Nat), a.eval (.tmp 9) = .tuple #[.agg #[.slice A41 r40.1.1.length cA41, .slice A42 r40.1.2.length cA42], .int .i64 r40.2.1, .int .i64 r40.2.2] → a.eval (.tmp 7) = .tuple #[.agg #[.slice A41 r40.1.1.length cA41, .slice A42 r40.1.2.length cA42], .int .i64 r40.2.1, .int .i64 r40.2.2]), ⟨⟨⟨A41, cA41⟩, ⟨A42, cA42⟩⟩, (f_9 : a.eval (.tmp 9) = .tuple #[.agg #[.slice A41 r40.1.1.length cA41, .slice A42 r40.1.2.length cA42], .int .i64 r40.2.1, .int .i64 r40.2.2]), b_A41, b_A42⟩, -⟩ := hf
      have f_7 := q_7 _ _ _ _ f_9
      exact px (or_mono (f := Fct.val 10 (.agg #[.slice A41 r40.1.1.length cA41, .slice A42 r40.1.2.length cA42])) (or_k [(7, .tuple #[.agg #[.slice A41 r40.1.1.length cA41, .slice A42 r40.1.2.length cA42], .int .i64 r40.2.1, .int .i64 r40.2.2])] rfl rfl ⟨f_7, trivial⟩ (by kernel_rfl)) (fun own' a' w' v' hp h => fun _ _ _ _ h0' => by cases (f_9.symm.trans ((hp.2 9 (by decide)).symm.trans h0')); exact h))
    refine sc (fun own a wx hf hsl hE => ?_) ?_
    · obtain ⟨(q_7 : ∀ (A41 : Option Addr) (cA41 : Nat) (A42 : Option Addr) (cA42 : Nat), a.eval (.tmp 9) = .tuple #[.agg #[.slice A41 r40.1.1.length cA41, .slice A42 r40.1.2.length cA42], .int .i64 r40.2.1, .int .i64 r40.2.2] → a.eval (.tmp 7) = .tuple #[.agg #[.slice A41 r40.1.1.length cA41, .slice A42 r40.1.2.length cA42], .int .i64 r40.2.1, .int .i64 r40.2.2]), ⟨⟨⟨A41, cA41⟩, ⟨A42, cA42⟩⟩, f_9, b_A41, b_A42⟩, -⟩ := hf
      have f_7 := q_7 _ _ _ _ f_9
      exact px (or_k [(7, .tuple #[.agg #[.slice A41 r40.1.1.length cA41, .slice A42 r40.1.2.length cA42], .int .i64 r40.2.1, .int .i64 r40.2.2])] rfl rfl ⟨f_7, trivial⟩ (by kernel_rfl))
    refine sc (fun own a wx hf hsl hE => ?_) ?_
    · obtain ⟨(q_7 : ∀ (A41 : Option Addr) (cA41 : Nat) (A42 : Option Addr) (cA42 : Nat), a.eval (.tmp 9) = .tuple #[.agg #[.slice A41 r40.1.1.length cA41, .slice A42 r40.1.2.length cA42], .int .i64 r40.2.1, .int .i64 r40.2.2] → a.eval (.tmp 7) = .tuple #[.agg #[.slice A41 r40.1.1.length cA41, .slice A42 r40.1.2.length cA42], .int .i64 r40.2.1, .int .i64 r40.2.2]), ⟨⟨⟨A41, cA41⟩, ⟨A42, cA42⟩⟩, f_9, b_A41, b_A42⟩, -⟩ := hf
      have f_7 := q_7 _ _ _ _ f_9
      exact px (or_k [(7, .tuple #[.agg #[.slice A41 r40.1.1.length cA41, .slice A42 r40.1.2.length cA42], .int .i64 r40.2.1, .int .i64 r40.2.2])] rfl rfl ⟨f_7, trivial⟩ (by kernel_rfl))
    refine sc (fun _ _ _ _ _ _ => px (or_new [] rfl rfl trivial (by kernel_rfl))) ?_
    refine sc (fun own a wx hf hsl hE => ?_) ?_
    · obtain ⟨⟨g47, f_4, b_g47⟩, (q_10 : ∀ (A41 : Option Addr) (cA41 : Nat) (A42 : Option Addr) (cA42 : Nat), a.eval (.tmp 9) = .tuple #[.agg #[.slice A41 r40.1.1.length cA41, .slice A42 r40.1.2.length cA42], .int .i64 r40.2.1, .int .i64 r40.2.2] → a.eval (.tmp 10) = .agg #[.slice A41 r40.1.1.length cA41, .slice A42 r40.1.2.length cA42]), ⟨⟨⟨A41, cA41⟩, ⟨A42, cA42⟩⟩, (f_9 : a.eval (.tmp 9) = .tuple #[.agg #[.slice A41 r40.1.1.length cA41, .slice A42 r40.1.2.length cA42], .int .i64 r40.2.1, .int .i64 r40.2.2]), b_A41, b_A42⟩, -⟩ := hf
      have f_10 := q_10 _ _ _ _ f_9
      exact px (or_store (l := #[.slice A41 r40.1.1.length cA41, .slice A42 r40.1.2.length cA42]) (lab := 48) (lab2 := 49) ts25 f_4 f_10 b_g47 (by simp) (by kernel_rfl) (mem_of rfl) (by decide) (by kernel_rfl) (fun own' a' w' ha hb => ⟨_, (ha 4).trans f_4, fun _ _ _ _ h0' => by cases (f_9.symm.trans ((ha 9).symm.trans h0')); exact hb⟩))
    refine sc (fun _ _ _ f _ _ => px (or_assign f.1)) ?_
    refine sc (fun _ _ _ f _ _ => px (or_assign f.1)) ?_
    exact steps_nil
  intro own50 a50 w50 hd50 hz50 hk50 hf50 hE50
  have e50_0 := (hk50 0 rfl).trans e39_0
  have e50_2 := (hk50 2 rfl).trans e39_2
  obtain ⟨⟨⟨⟨A41, cA41⟩, ⟨A42, cA42⟩⟩, (f_9 : a50.eval (.tmp 9) = .tuple #[.agg #[.slice A41 r40.1.1.length cA41, .slice A42 r40.1.2.length cA42], .int .i64 r40.2.1, .int .i64 r40.2.2]), (b50_A41 : RwO own50 43 [44] w50 59 R59 A41 cA41 r40.1.1), (b50_A42 : RwO own50 45 [46] w50 27 R27 A42 cA42 r40.1.2)⟩, ⟨g47, (e50_4 : a50.eval (.tmp 4) = .pointer (some ⟨g47, 0, none⟩)), (bq_g47 : ∀ (A41 : Option Addr) (cA41 : Nat) (A42 : Option Addr) (cA42 : Nat), a50.eval (.tmp 9) = .tuple #[.agg #[.slice A41 r40.1.1.length cA41, .slice A42 r40.1.2.length cA42], .int .i64 r40.2.1, .int .i64 r40.2.2] → BlkO own50 49 w50 g47 25 #[.slice A41 r40.1.1.length cA41, .slice A42 r40.1.2.length cA42])⟩, (e50_5 : a50.eval (.tmp 5) = .int .i64 r40.2.1), (e50_6 : a50.eval (.tmp 6) = .int .i64 r40.2.2), -⟩ := hf50 [1, 7, 8, 9] rfl
  have b50_g47 := bq_g47 _ _ _ _ f_9
  have hX50 := es_ hX39 hE50
  have b50_Ab1 := RdO.evo rfl hE50 b39_Ab1
  have b50_g37 := be_ hE50 b39_g37
  refine fl_seq (fun Q51 hn51 hp51 => ?_)
  refine fl_block (fun Q52 hn52 hx52 hp52 => ?_)
  refine rg0_seq 25 own50 (bz 3) [⟨[], [6], [], Fct.val 14 (.int .i64 r40.2.2)⟩, ⟨[0], [], [], Fct.val 15 (.bool (!decide (r40.2.2 = 0)))⟩, ⟨[1], [], [], Fct.val 13 (.bool (!decide (r40.2.2 = 0)))⟩] hz50 hd50 (by kernel_rfl) ?_ ?_
  · refine sc (fun _ _ _ _ s _ => px (or_move (s.1.trans e50_6))) ?_
    refine sc (fun _ _ _ f _ _ => px (or_neq f.1 rfl rfl)) ?_
    refine sc (fun _ _ _ f _ _ => px (or_assign f.1)) ?_
    exact steps_nil
  intro own53 a53 w53 hd53 hz53 hk53 hf53 hE53
  have e53_0 := (hk53 0 rfl).trans e50_0
  have e53_2 := (hk53 2 rfl).trans e50_2
  have e53_4 := (hk53 4 rfl).trans e50_4
  have e53_5 := (hk53 5 rfl).trans e50_5
  have e53_6 := (hk53 6 rfl).trans e50_6
  obtain ⟨(e53_13 : a53.eval (.tmp 13) = .bool (!decide (r40.2.2 = 0))), -⟩ := hf53 [2] rfl
  have hX53 := es_ hX50 hE53
  have b53_Ab1 := RdO.evo rfl hE53 b50_Ab1
  have b53_g37 := be_ hE53 b50_g37
  have b53_A41 := re_ hE53 b50_A41
  have b53_A42 := re_ hE53 b50_A42
  have b53_g47 := be_ hE53 b50_g47
  refine fl_cond e53_13 hs (fun c54 hs => ?_) (fun c54 hs => ?_)
  · refine rg_plain_seq (n := 25) (rs := [Fct.at_ 38 g37 25 #[.slice none 0 0, .slice none 0 0]]) (own0 := own53) (K := [38]) (bs := [0, 0, 1, 7]) (ds := [⟨[], [], [], Fct.val 16 (.agg #[.slice none 0 0, .slice none 0 0])⟩, ⟨[], [6], [], Fct.val 17 (.int .i64 r40.2.2)⟩, ⟨[0, 4], [2], [38], Fct.at_ 55 g37 25 #[.slice none 0 0, .slice none 0 0]⟩, ⟨[1], [], [], Fct.val 3 (.int .i64 r40.2.2)⟩]) (by kernel_rfl) hz53 hd53 (by simp only [List.forall_mem_cons]; exact ⟨b53_g37, fun _ h => nomatch h⟩) ?_ ?_
    · refine sc (fun _ _ _ _ _ _ => px (or_k [] rfl rfl trivial (by kernel_rfl))) ?_
      refine sc (fun _ _ _ _ s _ => px (or_move (s.1.trans e53_6))) ?_
      refine sc (fun own a wx hf hsl hE => ?_) ?_
      · obtain ⟨f_16, b_g37, -⟩ := hf
        obtain ⟨s_2, -⟩ := hsl
        exact px (or_store (l := #[.slice none 0 0, .slice none 0 0]) (lab := 38) (lab2 := 55) ts25 (s_2.trans e53_2) f_16 b_g37 (by simp) (by kernel_rfl) (mem_of rfl) (by decide) (by kernel_rfl) (fun own' a' w' ha hb => hb))
      refine sc (fun _ _ _ f _ _ => px (or_assign f.1)) ?_
      exact steps_nil
    intro own56 a56 w56 hd56 hz56 hk56 hf56 hE56
    have e56_2 := (hk56 2 rfl).trans e53_2
    obtain ⟨(e56_3 : a56.eval (.tmp 3) = .int .i64 r40.2.2), (b56_g37 : BlkO own56 55 w56 g37 25 #[.slice none 0 0, .slice none 0 0]), -⟩ := hf56 [3, 2] rfl
    have hX56 := es_ hX53 hE56
    refine fl_ret ?_
    refine hp52 _ _ _ rfl ?_
    refine hp51 _ _ _ rfl ?_
    obtain rfl := osome hs
    exact hret _ _ _ _ (.inl rfl) hd56 (results2_ rfl (RVal.cell_ e56_2 (run_loadVarAgg (l := [.slice none 0 0, .slice none 0 0]) ta25 (Blk.cellsFrom b56_g37.2 0 rfl) rfl)) (RVal.tmp_ e56_3)) ⟨own56, ((none, 0), (none, 0)), rfl, hX56, RwO.nil_, RwO.nil_⟩
  refine rg0_seq 25 own53 [0, 0, 2, 7, 15] [⟨[], [5], [], Fct.val 19 (.int .i64 r40.2.1)⟩, ⟨[], [0], [], Fct.val 20 (.slice Ab1 b1.length cb1)⟩, ⟨[1], [], [], Fct.val 21 (.int .i64 (b1.length : Int))⟩, ⟨[0, 2], [], [], Fct.val 22 (.bool (decide (r40.2.1 < (b1.length : Int))))⟩, ⟨[3], [], [], Fct.val 18 (.bool (decide (r40.2.1 < (b1.length : Int))))⟩] hz53 hd53 (by kernel_rfl) ?_ ?_
  · refine sc (fun _ _ _ _ s _ => px (or_move (s.1.trans e53_5))) ?_
    refine sc (fun _ _ _ _ s _ => px (or_move (s.1.trans e53_0))) ?_
    refine sc (fun _ _ _ f _ _ => px (or_len tu33 f.1 rfl)) ?_
    refine sc (fun _ _ _ f _ _ => px (or_lss f.1 f.2.1 rfl)) ?_
    refine sc (fun _ _ _ f _ _ => px (or_assign f.1)) ?_
    exact steps_nil
  intro own57 a57 w57 hd57 hz57 hk57 hf57 hE57
  have e57_2 := (hk57 2 rfl).trans e53_2
  have e57_4 := (hk57 4 rfl).trans e53_4
  obtain ⟨(e57_18 : a57.eval (.tmp 18) = .bool (decide (r40.2.1 < (b1.length : Int)))), -⟩ := hf57 [4] rfl
  have hX57 := es_ hX53 hE57
  have b57_g37 := be_ hE57 b53_g37
  have b57_A41 := re_ hE57 b53_A41
  have b57_A42 := re_ hE57 b53_A42
  have b57_g47 := be_ hE57 b53_g47
  refine fl_cond e57_18 hs (fun c58 hs => ?_) (fun c58 hs => ?_)
  · refine rg_plain_seq (n := 25) (rs := [Fct.at_ 38 g37 25 #[.slice none 0 0, .slice none 0 0]]) (own0 := own57) (K := [38]) (bs := (bz 3)) (ds := [⟨[], [], [], Fct.val 23 (.agg #[.slice none 0 0, .slice none 0 0])⟩, ⟨[0, 3], [2], [38], Fct.at_ 59 g37 25 #[.slice none 0 0, .slice none 0 0]⟩, ⟨[], [], [], Fct.val 3 (.int .i64 3)⟩]) (by kernel_rfl) hz57 hd57 (by simp only [List.forall_mem_cons]; exact ⟨b57_g37, fun _ h => nomatch h⟩) ?_ ?_
    · refine sc (fun _ _ _ _ _ _ => px (or_k [] rfl rfl trivial (by kernel_rfl))) ?_
      refine sc (fun own a wx hf hsl hE => ?_) ?_
      · obtain ⟨f_23, b_g37, -⟩ := hf
        obtain ⟨s_2, -⟩ := hsl
        exact px (or_store (l := #[.slice none 0 0, .slice none 0 0]) (lab := 38) (lab2 := 59) ts25 (s_2.trans e57_2) f_23 b_g37 (by simp) (by kernel_rfl) (mem_of rfl) (by decide) (by kernel_rfl) (fun own' a' w' ha hb => hb))
      refine sc (fun _ _ _ _ _ _ => px (or_assign rfl)) ?_
      exact steps_nil
    intro own60 a60 w60 hd60 hz60 hk60 hf60 hE60
    have e60_2 := (hk60 2 rfl).trans e57_2
    obtain ⟨(e60_3 : a60.eval (.tmp 3) = .int .i64 3), (b60_g37 : BlkO own60 59 w60 g37 25 #[.slice none 0 0, .slice none 0 0]), -⟩ := hf60 [2, 1] rfl
    have hX60 := es_ hX57 hE60
    refine fl_ret ?_
    refine hp52 _ _ _ rfl ?_
    refine hp51 _ _ _ rfl ?_
    obtain rfl := osome hs
    exact hret _ _ _ _ (.inl rfl) hd60 (results2_ rfl (RVal.cell_ e60_2 (run_loadVarAgg (l := [.slice none 0 0, .slice none 0 0]) ta25 (Blk.cellsFrom b60_g37.2 0 rfl) rfl)) (RVal.tmp_ e60_3)) ⟨own60, ((none, 0), (none, 0)), rfl, hX60, RwO.nil_, RwO.nil_⟩
  refine fl_skip ?_
  refine hn52 _ _ ?_
  refine hn51 _ _ ?_
  refine rg_plain_seq (n := 25) (rs := [Fct.at_ 38 g37 25 #[.slice none 0 0, .slice none 0 0]]) (own0 := own57) (K := [38]) (bs := (bz 3)) (ds := [⟨[], [4], [], Fct.val 24 (.agg #[.slice A41 r40.1.1.length cA41, .slice A42 r40.1.2.length cA42])⟩, ⟨[0, 3], [2], [38], Fct.at_ 61 g37 25 #[.slice A41 r40.1.1.length cA41, .slice A42 r40.1.2.length cA42]⟩, ⟨[], [], [], Fct.val 3 (.int .i64 0)⟩]) (by kernel_rfl) hz57 hd57 (by simp only [List.forall_mem_cons]; exact ⟨b57_g37, fun _ h => nomatch h⟩) ?_ ?_
  · refine sc (fun _ _ _ _ s hE => px (or_load (l := [.slice A41 r40.1.1.length cA41, .slice A42 r40.1.2.length cA42]) ta25 (s.1.trans e57_4) (Blk.cellsFrom (be_ hE b57_g47).2 0 rfl) rfl)) ?_
    refine sc (fun own a wx hf hsl hE => ?_) ?_
    · obtain ⟨f_24, b_g37, -⟩ := hf
      obtain ⟨s_2, -⟩ := hsl
      exact px (or_store (l := #[.slice A41 r40.1.1.length cA41, .slice A42 r40.1.2.length cA42]) (lab := 38) (lab2 := 61) ts25 (s_2.trans e57_2) f_24 b_g37 (by simp) (by kernel_rfl) (mem_of rfl) (by decide) (by kernel_rfl) (fun own' a' w' ha hb => hb))
    refine sc (fun _ _ _ _ _ _ => px (or_assign rfl)) ?_
    exact steps_nil
  intro own62 a62 w62 hd62 hz62 hk62 hf62 hE62
  have e62_2 := (hk62 2 rfl).trans e57_2
  obtain ⟨(e62_3 : a62.eval (.tmp 3) = .int .i64 0), (b62_g37 : BlkO own62 61 w62 g37 25 #[.slice A41 r40.1.1.length cA41, .slice A42 r40.1.2.length cA42]), -⟩ := hf62 [2, 1] rfl
  have hX62 := es_ hX57 hE62
  have b62_A41 := re_ hE62 b57_A41
  have b62_A42 := re_ hE62 b57_A42
  refine fl_ret ?_
  obtain rfl := osome hs
  exact hret _ _ _ _ (.inl rfl) hd62 (results2_ rfl (RVal.cell_ e62_2 (run_loadVarAgg (l := [.slice A41 r40.1.1.length cA41, .slice A42 r40.1.2.length cA42]) ta25 (Blk.cellsFrom b62_g37.2 0 rfl) rfl)) (RVal.tmp_ e62_3)) ⟨(rl [(43, 1), (44, 2), (45, 3), (46, 4)] own62), ((A41, cA41), (A42, cA42)), rfl, (Evo.rl_ hX62 (fun _ => Nat.le_refl 0) rfl), (RwO.rl_ (mm := [(43, 1), (44, 2), (45, 3), (46, 4)]) b62_A41), (RwO.rl_ (mm := [(43, 1), (44, 2), (45, 3), (46, 4)]) b62_A42)⟩
end Go.Proofs.Ytaobbaohelpdgaa
