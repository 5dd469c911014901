import Derived.Test.YtaobbaohelpdgaaWp6
import Derived.Test.YtaobbaohelpdgaaSp7
namespace Go.Proofs.Ytaobbaohelpdgaa
open Go.RowKit
set_option linter.unusedVariables false
set_option maxRecDepth 10000
theorem ref07_Bytes_w : ∀ (fu : Nat) (w : World) (n1 : Int) (r : List Int) (hs : ref07_Bytes fu n1 = some r),
    Calls Try.prog 37 #[.int .u64 n1] w fun e w' => ∃ (own' : Own) (x : Option Addr × Nat), e = .returned (.slice x.1 r.length x.2) ∧ Evo [] (fun _ => 0) own' w w' ∧ RwO own' 1 [] w' 5 R5 x.1 x.2 r := by
  intro fu
  induction fu with
  | zero => intros; rename_i hs; exact nomatch hs
  | succ fu ih =>
  intro w n1 r hs
  refine fl_enter (n := 17) rfl rfl rfl (Nat.le_of_ble_eq_true rfl) ?_
  replace hs : (if (decide (n1 < 128)) then (some [IntKind.u8.wrap n1]) else ((rmK n1 128).bind fun x47 => (quK .u64 n1 128).bind fun x50 => (ref07_Bytes fu x50).bind fun r51 => (app [IntKind.u8.wrap (adK .u64 128 x47)] r51).bind fun x54 => some x54)) = some r := hs
  intro a0 Q hd0 hz0 harg hret
  have ha0 := harg 0 _ rfl
  clear harg
  have hE0 : Evo [] (fun _ => 0) (fun _ => 0) w w := Evo.refl _ _ _
  refine rg0_seq 17 (fun _ => 0) (bz 1) [⟨[], [], [], Fct.val 2 (.slice none 0 0)⟩] hz0 hd0 (by kernel_rfl) ?_ ?_
  · refine sc (fun _ _ _ _ _ _ => px (or_assign rfl)) ?_
    exact steps_nil
  intro own40 a40 w40 hd40 hz40 hk40 hf40 hE40
  have e40_0 := (hk40 0 rfl).trans ha0
  have hX40 := es_ hE0 hE40
  refine fl_seq (fun Q41 hn41 hp41 => ?_)
  refine rg0_seq 17 own40 (bz 2) [⟨[], [0], [], Fct.val 3 (.int .u64 n1)⟩, ⟨[0], [], [], Fct.val 4 (.bool (decide (n1 < 128)))⟩] hz40 hd40 (by kernel_rfl) ?_ ?_
  · refine sc (fun _ _ _ _ s _ => px (or_move (s.1.trans e40_0))) ?_
    refine sc (fun _ _ _ f _ _ => px (or_lss f.1 rfl rfl)) ?_
    exact steps_nil
  intro own42 a42 w42 hd42 hz42 hk42 hf42 hE42
  have e42_0 := (hk42 0 rfl).trans e40_0
  obtain ⟨(e42_4 : a42.eval (.tmp 4) = .bool (decide (n1 < 128))), -⟩ := hf42 [1] rfl
  have hX42 := es_ hX40 hE42
  refine fl_cond e42_4 hs (fun c43 hs => ?_) (fun c43 hs => ?_)
  · refine rg0_seq 17 own42 (bz 4) [⟨[], [0], [], Fct.val 5 (.int .u64 n1)⟩, ⟨[0], [], [], Fct.val 6 (.int .u8 (IntKind.u8.wrap n1))⟩, ⟨[1], [], [], Fct.row 45 [] 7 5 R5 [IntKind.u8.wrap n1]⟩, ⟨[2], [], [], Fct.rel [2, 7] (fun l => ∀ (A44 : Option Addr) (cA44 : Nat), l.getD 1 undef = .slice A44 [IntKind.u8.wrap n1].length cA44 → l.getD 0 undef = .slice A44 [IntKind.u8.wrap n1].length cA44)⟩] hz42 hd42 (by kernel_rfl) ?_ ?_
    · refine sc (fun _ _ _ _ s _ => px (or_move (s.1.trans e42_0))) ?_
      refine sc (fun _ _ _ f _ _ => px (or_conv f.1 tn26 tn5 rfl)) ?_
      refine sc (fun _ _ _ f _ _ => px (or_lit (lab := 45) (e := 5) (cs := #[.int .u8 (IntKind.u8.wrap n1)]) (F := E5) (or_new [(6, .int .u8 (IntKind.u8.wrap n1))] rfl rfl ⟨f.1, trivial⟩ (by kernel_rfl)) rfl rfl (show 1 ≤ maxLen by decide))) ?_
      refine sc (fun own a wx hf hsl hE => ?_) ?_
      · obtain ⟨⟨⟨A44, cA44⟩, (f_7 : a.eval (.tmp 7) = .slice A44 [IntKind.u8.wrap n1].length cA44), b_A44⟩, -⟩ := hf
        exact px (or_mono (f := Fct.val 2 (.slice A44 [IntKind.u8.wrap n1].length cA44)) (or_assign f_7) (fun own' a' w' v' hp h => fun _ _ h0' => by cases (f_7.symm.trans ((hp.2 7 (by decide)).symm.trans h0')); exact h))
      exact steps_nil
    intro own46 a46 w46 hd46 hz46 hk46 hf46 hE46
    obtain ⟨⟨⟨A44, cA44⟩, (f_7 : a46.eval (.tmp 7) = .slice A44 [IntKind.u8.wrap n1].length cA44), (b46_A44 : RwO own46 45 [] w46 5 R5 A44 cA44 [IntKind.u8.wrap n1])⟩, (q_2 : ∀ (A44 : Option Addr) (cA44 : Nat), a46.eval (.tmp 7) = .slice A44 [IntKind.u8.wrap n1].length cA44 → a46.eval (.tmp 2) = .slice A44 [IntKind.u8.wrap n1].length cA44), -⟩ := hf46 [2, 3] rfl
    have e46_2 := q_2 _ _ f_7
    have hX46 := es_ hX42 hE46
    refine fl_ret ?_
    refine hp41 _ _ _ rfl ?_
    obtain rfl := osome hs
    exact hret _ _ _ _ (.inl rfl) hd46 (results1_ rfl (RVal.tmp_ e46_2)) ⟨(rl [(45, 1)] own46), (A44, cA44), rfl, (Evo.rl_ hX46 (fun _ => Nat.le_refl 0) rfl), (RwO.rl_ (mm := [(45, 1)]) b46_A44)⟩
  refine fl_skip ?_
  refine hn41 _ _ ?_
  obtain ⟨x47, hx47, hs⟩ := obind hs
  obtain ⟨x50, hx50, hs⟩ := obind hs
  obtain ⟨r51, hr51, hs⟩ := obind hs
  obtain ⟨x54, hx54, hs⟩ := obind hs
  refine rg_plain_seq (n := 17) (rs := []) (own0 := own42) (K := [49]) (bs := [0, 1, 3, 7, 15, 0, 32, 96, 255, 511]) (ds := [⟨[], [0], [], Fct.val 8 (.int .u64 n1)⟩, ⟨[0], [], [], Fct.val 9 (.int .u64 x47)⟩, ⟨[1], [], [], Fct.val 10 (.int .u64 (adK .u64 128 x47))⟩, ⟨[2], [], [], Fct.val 11 (.int .u8 (IntKind.u8.wrap (adK .u64 128 x47)))⟩, ⟨[3], [], [], Fct.row 49 [] 12 5 R5 [IntKind.u8.wrap (adK .u64 128 x47)]⟩, ⟨[], [0], [], Fct.val 13 (.int .u64 n1)⟩, ⟨[5], [], [], Fct.val 14 (.int .u64 x50)⟩, ⟨[6], [], [], Fct.row 53 [] 15 5 R5 r51⟩, ⟨[4, 7], [], [49], Fct.row 55 [] 16 5 R5 x54⟩, ⟨[8], [], [], Fct.rel [2, 16] (fun l => ∀ (A56 : Option Addr) (cA56 : Nat), l.getD 1 undef = .slice A56 x54.length cA56 → l.getD 0 undef = .slice A56 x54.length cA56)⟩]) (by kernel_rfl) hz42 hd42 nm_ ?_ ?_
  · refine sc (fun _ _ _ _ s _ => px (or_move (s.1.trans e42_0))) ?_
    refine sc (fun _ _ _ f _ _ => px (or_rem f.1 rfl hx47)) ?_
    refine sc (fun _ _ _ f _ _ => px (or_add rfl f.1 rfl)) ?_
    refine sc (fun _ _ _ f _ _ => px (or_conv f.1 tn26 tn5 rfl)) ?_
    refine sc (fun _ _ _ f _ _ => px (or_lit (lab := 49) (e := 5) (cs := #[.int .u8 (IntKind.u8.wrap (adK .u64 128 x47))]) (F := E5) (or_new [(11, .int .u8 (IntKind.u8.wrap (adK .u64 128 x47)))] rfl rfl ⟨f.1, trivial⟩ (by kernel_rfl)) rfl rfl (show 1 ≤ maxLen by decide))) ?_
    refine sc (fun _ _ _ _ s _ => px (or_move (s.1.trans e42_0))) ?_
    refine sc (fun _ _ _ f _ _ => px (or_quo f.1 rfl hx50)) ?_
    refine sc (fun _ _ _ f _ _ => px (or_call cf37 (args1 f.1) (ih _ x50  r51 hr51) (post_row (m' := (look0 [(1, 53)])) (.inl (Rep.fl_flat _)) rfl rfl (fun _ => rfl)))) ?_
    refine sc (fun own a wx hf hsl hE => ?_) ?_
    · obtain ⟨⟨⟨A48, cA48⟩, f_12, b_A48⟩, ⟨⟨A52, cA52⟩, f_15, b_A52⟩, -⟩ := hf
      exact px (or_append (R := R5) (lab := 49) (lab2 := 55) (L := []) (L3 := []) tp33 f_12 b_A48 (by decide) f_15 (RwO.rd b_A52) hx54 (by decide) (by decide) (mem_of rfl) (.inl (Rep.fl_flat _)))
    refine sc (fun own a wx hf hsl hE => ?_) ?_
    · obtain ⟨⟨⟨A56, cA56⟩, (f_16 : a.eval (.tmp 16) = .slice A56 x54.length cA56), b_A56⟩, -⟩ := hf
      exact px (or_mono (f := Fct.val 2 (.slice A56 x54.length cA56)) (or_assign f_16) (fun own' a' w' v' hp h => fun _ _ h0' => by cases (f_16.symm.trans ((hp.2 16 (by decide)).symm.trans h0')); exact h))
    exact steps_nil
  intro own57 a57 w57 hd57 hz57 hk57 hf57 hE57
  obtain ⟨⟨⟨A56, cA56⟩, (f_16 : a57.eval (.tmp 16) = .slice A56 x54.length cA56), (b57_A56 : RwO own57 55 [] w57 5 R5 A56 cA56 x54)⟩, (q_2 : ∀ (A56 : Option Addr) (cA56 : Nat), a57.eval (.tmp 16) = .slice A56 x54.length cA56 → a57.eval (.tmp 2) = .slice A56 x54.length cA56), -⟩ := hf57 [8, 9] rfl
  have e57_2 := q_2 _ _ f_16
  have hX57 := es_ hX42 hE57
  refine fl_ret ?_
  obtain rfl := (osome hs).symm
  exact hret _ _ _ _ (.inl rfl) hd57 (results1_ rfl (RVal.tmp_ e57_2)) ⟨(rl [(55, 1)] own57), (A56, cA56), rfl, (Evo.rl_ hX57 (fun _ => Nat.le_refl 0) rfl), (RwO.rl_ (mm := [(55, 1)]) b57_A56)⟩
theorem ref26_Bytes_w (w : World) (n1 : (List ((List (Int × Int)) × Int × Int)) × (List (List (List Int)))) (An1_0 : Option Addr) (cn1_0 : Nat) (An1_1 : Option Addr) (cn1_1 : Nat) (hAn1_0 : RdO (fun _ => 0) [0] w R78 An1_0 cn1_0 n1.1) (hAn1_1 : RdO (fun _ => 0) [0] w R27 An1_1 cn1_1 n1.2) (r : List Int) (hs : ref26_Bytes n1 = some r) :
    Calls Try.prog 18 #[.agg #[.slice An1_0 n1.1.length cn1_0, .slice An1_1 n1.2.length cn1_1]] w fun e w' => ∃ (own' : Own) (x : Option Addr × Nat), e = .returned (.slice x.1 r.length x.2) ∧ Evo [] (fun _ => 0) own' w w' ∧ RwO own' 1 [] w' 5 R5 x.1 x.2 r := by
  refine fl_enter (n := 22) rfl rfl rfl (Nat.le_of_ble_eq_true rfl) ?_
  intro a0 Q hd0 hz0 harg hret
  have ha0 := harg 0 _ rfl
  clear harg
  have hE0 : Evo [] (fun _ => 0) (fun _ => 0) w w := Evo.refl _ _ _
  refine rg0_seq 22 (fun _ => 0) [0, 0] [⟨[], [0], [], Fct.blk 84 1 (fun g => .pointer (some ⟨g, 0, none⟩)) 38 #[.slice An1_0 n1.1.length cn1_0, .slice An1_1 n1.2.length cn1_1]⟩, ⟨[], [], [], Fct.val 2 (.slice none 0 0)⟩] hz0 hd0 (by kernel_rfl) ?_ ?_
  · refine sc (fun _ _ _ _ s _ => px (or_new [(0, .agg #[.slice An1_0 n1.1.length cn1_0, .slice An1_1 n1.2.length cn1_1])] rfl rfl ⟨(s.1.trans ha0), trivial⟩ (by kernel_rfl))) ?_
    refine sc (fun _ _ _ _ _ _ => px (or_assign rfl)) ?_
    exact steps_nil
  intro own85 a85 w85 hd85 hz85 hk85 hf85 hE85
  obtain ⟨⟨g83, (e85_1 : a85.eval (.tmp 1) = .pointer (some ⟨g83, 0, none⟩)), (b85_g83 : BlkO own85 84 w85 g83 38 #[.slice An1_0 n1.1.length cn1_0, .slice An1_1 n1.2.length cn1_1])⟩, -⟩ := hf85 [0] rfl
  have hX85 := es_ hE0 hE85
  have b85_An1_0 := RdO.evo rfl hE85 hAn1_0
  have b85_An1_1 := RdO.evo rfl hE85 hAn1_1
  refine rg0_seq 22 own85 (bz 1) [⟨[], [], [], Fct.val 3 (.slice none 0 0)⟩] hz85 hd85 (by kernel_rfl) ?_ ?_
  · refine sc (fun _ _ _ _ _ _ => px (or_assign rfl)) ?_
    exact steps_nil
  intro own86 a86 w86 hd86 hz86 hk86 hf86 hE86
  have e86_1 := (hk86 1 rfl).trans e85_1
  obtain ⟨(e86_3 : a86.eval (.tmp 3) = .slice none 0 0), -⟩ := hf86 [0] rfl
  have hX86 := es_ hX85 hE86
  have b86_An1_0 := RdO.evo rfl hE86 b85_An1_0
  have b86_An1_1 := RdO.evo rfl hE86 b85_An1_1
  have b86_g83 := be_ hE86 b85_g83
  obtain ⟨r87, hr87, hs⟩ := obind hs
  refine rg0_seq 22 own86 (bz 3) [⟨[], [1], [], Fct.val 6 (.agg #[.slice An1_0 n1.1.length cn1_0, .slice An1_1 n1.2.length cn1_1])⟩, ⟨[0], [], [], Fct.row 89 [] 7 26 R26 r87⟩, ⟨[1], [], [], Fct.rel [4, 7] (fun l => ∀ (A88 : Option Addr) (cA88 : Nat), l.getD 1 undef = .slice A88 r87.length cA88 → l.getD 0 undef = .slice A88 r87.length cA88)⟩] hz86 hd86 (by kernel_rfl) ?_ ?_
  · refine sc (fun _ _ _ _ s hE => px (or_load (l := [.slice An1_0 n1.1.length cn1_0, .slice An1_1 n1.2.length cn1_1]) ta38 (s.1.trans e86_1) (Blk.cellsFrom (be_ hE b86_g83).2 0 rfl) rfl)) ?_
    refine sc (fun _ _ _ f _ hE => px (or_call cf36 (args1 f.1) (ref26_Numbers_w _ n1 An1_0 cn1_0 An1_1 cn1_1 (RdO.zero (RdO.evo rfl hE b86_An1_0)) (RdO.zero (RdO.evo rfl hE b86_An1_1)) r87 hr87) (post_row (m' := (look0 [(1, 89)])) (.inl (Rep.fl_flat _)) rfl rfl (fun _ => rfl)))) ?_
    refine sc (fun own a wx hf hsl hE => ?_) ?_
    · obtain ⟨⟨⟨A88, cA88⟩, (f_7 : a.eval (.tmp 7) = .slice A88 r87.length cA88), b_A88⟩, -⟩ := hf
      exact px (or_mono (f := Fct.val 4 (.slice A88 r87.length cA88)) (or_assign f_7) (fun own' a' w' v' hp h => fun _ _ h0' => by cases (f_7.symm.trans ((hp.2 7 (by decide)).symm.trans h0')); exact h))
    exact steps_nil
  intro own90 a90 w90 hd90 hz90 hk90 hf90 hE90
  have e90_3 := (hk90 3 rfl).trans e86_3
  obtain ⟨⟨⟨A88, cA88⟩, (f_7 : a90.eval (.tmp 7) = .slice A88 r87.length cA88), (b90_A88 : RwO own90 89 [] w90 26 R26 A88 cA88 r87)⟩, (q_4 : ∀ (A88 : Option Addr) (cA88 : Nat), a90.eval (.tmp 7) = .slice A88 r87.length cA88 → a90.eval (.tmp 4) = .slice A88 r87.length cA88), -⟩ := hf90 [1, 2] rfl
  have e90_4 := q_4 _ _ f_7
  have hX90 := es_ hX86 hE90
  refine fl_seq (fun Q91 hn91 hp91 => ?_)
  refine rg0_seq 22 own90 (bz 1) [⟨[], [], [], Fct.val 5 (.int .i64 0)⟩] hz90 hd90 (by kernel_rfl) ?_ ?_
  · refine sc (fun _ _ _ _ _ _ => px (or_assign rfl)) ?_
    exact steps_nil
  intro own92 a92 w92 hd92 hz92 hk92 hf92 hE92
  have e92_3 := (hk92 3 rfl).trans e90_3
  have e92_4 := (hk92 4 rfl).trans e90_4
  obtain ⟨(e92_5 : a92.eval (.tmp 5) = .int .i64 0), -⟩ := hf92 [0] rfl
  have hX92 := es_ hX90 hE92
  have b92_A88 := re_ hE92 b90_A88
  refine fl_block (fun Q93 hn93 hx93 hp93 => ?_)
  refine fl_loop (body := (fun s => ref26_Bytes_b1 r87 s.1 s.2)) (z := r) (show loopO _ _ = _ from hs) (fun (s : (List Int) × Int) a wx => match s with | (out112, i114) => ∃ (ox : Own) (A110 : Option Addr) (c111 : Nat), a.defers = [] ∧ a.tmps.size = 22 ∧ a.eval (.tmp 3) = .slice A110 out112.length c111 ∧ a.eval (.tmp 4) = .slice A88 r87.length cA88 ∧ a.eval (.tmp 5) = .int .i64 i114 ∧ Evo [] (fun _ => 0) ox w wx ∧ RwO ox 113 [] wx 5 R5 A110 c111 out112 ∧ RwO ox 89 [] wx 26 R26 A88 cA88 r87) ?_ ?_
  · exact ⟨own92, none, 0, hd92, hz92, e92_3, e92_4, e92_5, hX92, RwO.nil_, b92_A88⟩
  · rintro ⟨out112, i114⟩ zz134 a134 w134 ⟨own134, A110, c111, hd135, hz135, e135_3, e135_4, e135_5, hE135, b135_A110, b135_A88⟩ hs Q134 hn134 hp134 hz134
    have hs : ref26_Bytes_b1 r87 out112 i114 = some zz134 := hs
    refine fl_seq (fun Q136 hn136 hp136 => ?_)
    refine rg0_seq 22 own134 [0, 0, 2, 7] [⟨[], [5], [], Fct.val 8 (.int .i64 i114)⟩, ⟨[], [4], [], Fct.val 9 (.slice A88 r87.length cA88)⟩, ⟨[1], [], [], Fct.val 10 (.int .i64 (r87.length : Int))⟩, ⟨[0, 2], [], [], Fct.val 11 (.bool (decide (i114 < (r87.length : Int))))⟩] hz135 hd135 (by kernel_rfl) ?_ ?_
    · refine sc (fun _ _ _ _ s _ => px (or_move (s.1.trans e135_5))) ?_
      refine sc (fun _ _ _ _ s _ => px (or_move (s.1.trans e135_4))) ?_
      refine sc (fun _ _ _ f _ _ => px (or_len tu87 f.1 rfl)) ?_
      refine sc (fun _ _ _ f _ _ => px (or_lss f.1 f.2.1 rfl)) ?_
      exact steps_nil
    intro own137 a137 w137 hd137 hz137 hk137 hf137 hE137
    have e137_3 := (hk137 3 rfl).trans e135_3
    have e137_4 := (hk137 4 rfl).trans e135_4
    have e137_5 := (hk137 5 rfl).trans e135_5
    obtain ⟨(e137_11 : a137.eval (.tmp 11) = .bool (decide (i114 < (r87.length : Int)))), -⟩ := hf137 [3] rfl
    have hX137 := es_ hE135 hE137
    have b137_A110 := re_ hE137 b135_A110
    have b137_A88 := re_ hE137 b135_A88
    refine fl_cond e137_11 hs (fun c138 hs => ?_) (fun c138 hs => ?_)
    · refine fl_skip ?_
      refine hn136 _ _ ?_
      refine fl_seq (fun Q139 hn139 hp139 => ?_)
      refine fl_block (fun Q140 hn140 hx140 hp140 => ?_)
      obtain ⟨x145, hx145, hs⟩ := obind hs
      obtain ⟨r146, hr146, hs⟩ := obind hs
      obtain ⟨x149, hx149, hs⟩ := obind hs
      refine rg_plain (n := 22) (rs := [Fct.rowAt 113 [] 5 R5 A110 c111 out112]) (own0 := own137) (K := [113]) (bs := [0, 0, 0, 6, 14, 30, 63, 127]) (ds := [⟨[], [3], [], Fct.val 14 (.slice A110 out112.length c111)⟩, ⟨[], [4], [], Fct.val 15 (.slice A88 r87.length cA88)⟩, ⟨[], [5], [], Fct.val 16 (.int .i64 i114)⟩, ⟨[1, 2], [], [], Fct.val 17 (.pointer (some ((adr A88).add ((i114 : Int).toNat * R26.s))))⟩, ⟨[3], [], [], Fct.val 18 (.int .u64 x145)⟩, ⟨[4], [], [], Fct.row 148 [] 19 5 R5 r146⟩, ⟨[0, 5, 8], [], [113], Fct.row 150 [] 20 5 R5 x149⟩, ⟨[6], [], [], Fct.rel [3, 20] (fun l => ∀ (A151 : Option Addr) (cA151 : Nat), l.getD 1 undef = .slice A151 x149.length cA151 → l.getD 0 undef = .slice A151 x149.length cA151)⟩]) (by kernel_rfl) hz137 hd137 (by simp only [List.forall_mem_cons]; exact ⟨b137_A110, fun _ h => nomatch h⟩) ?_ ?_
      · refine sc (fun _ _ _ _ s _ => px (or_move (s.1.trans e137_3))) ?_
        refine sc (fun _ _ _ _ s _ => px (or_move (s.1.trans e137_4))) ?_
        refine sc (fun _ _ _ _ s _ => px (or_move (s.1.trans e137_5))) ?_
        refine sc (fun _ _ _ f _ _ => px (or_index (R := R26) (l := r87) tl87 f.1 f.2.1 (RdO.some_ (RwO.rd b137_A88) hx145) hx145)) ?_
        refine sc (fun _ _ _ f _ hE => px (or_load1 to26 f.1 (CellsAt.zero (RdO.cells (F := E26) (RwO.rd (re_ hE b137_A88)) hx145) rfl))) ?_
        refine sc (fun _ _ _ f _ _ => px (or_call cf37 (args1 f.1) (ref07_Bytes_w 12 _ x145  r146 hr146) (post_row (m' := (look0 [(1, 148)])) (.inl (Rep.fl_flat _)) rfl rfl (fun _ => rfl)))) ?_
        refine sc (fun own a wx hf hsl hE => ?_) ?_
        · obtain ⟨f_14, ⟨⟨A147, cA147⟩, f_19, b_A147⟩, b_A110, -⟩ := hf
          exact px (or_append (R := R5) (lab := 113) (lab2 := 150) (L := []) (L3 := []) tp33 f_14 b_A110 (by decide) f_19 (RwO.rd b_A147) hx149 (by decide) (by decide) (mem_of rfl) (.inl (Rep.fl_flat _)))
        refine sc (fun own a wx hf hsl hE => ?_) ?_
        · obtain ⟨⟨⟨A151, cA151⟩, (f_20 : a.eval (.tmp 20) = .slice A151 x149.length cA151), b_A151⟩, -⟩ := hf
          exact px (or_mono (f := Fct.val 3 (.slice A151 x149.length cA151)) (or_assign f_20) (fun own' a' w' v' hp h => fun _ _ h0' => by cases (f_20.symm.trans ((hp.2 20 (by decide)).symm.trans h0')); exact h))
        exact steps_nil
      intro own152 a152 w152 hd152 hz152 hk152 hf152 hE152
      have e152_4 := (hk152 4 rfl).trans e137_4
      have e152_5 := (hk152 5 rfl).trans e137_5
      obtain ⟨⟨⟨A151, cA151⟩, (f_20 : a152.eval (.tmp 20) = .slice A151 x149.length cA151), (b152_A151 : RwO own152 150 [] w152 5 R5 A151 cA151 x149)⟩, (q_3 : ∀ (A151 : Option Addr) (cA151 : Nat), a152.eval (.tmp 20) = .slice A151 x149.length cA151 → a152.eval (.tmp 3) = .slice A151 x149.length cA151), -⟩ := hf152 [6, 7] rfl
      have e152_3 := q_3 _ _ f_20
      have hX152 := es_ hX137 hE152
      have b152_A88 := re_ hE152 b137_A88
      refine hn140 _ _ ?_
      refine hn139 _ _ ?_
      refine rg0 22 own152 (bz 3) [⟨[], [5], [], Fct.val 12 (.int .i64 i114)⟩, ⟨[0], [], [], Fct.val 13 (.int .i64 (ad i114 1))⟩, ⟨[1], [], [], Fct.val 5 (.int .i64 (ad i114 1))⟩] hz152 hd152 (by kernel_rfl) ?_ ?_
      · refine sc (fun _ _ _ _ s _ => px (or_move (s.1.trans e152_5))) ?_
        refine sc (fun _ _ _ f _ _ => px (or_add f.1 rfl rfl)) ?_
        refine sc (fun _ _ _ f _ _ => px (or_assign f.1)) ?_
        exact steps_nil
      intro own153 a153 w153 hd153 hz153 hk153 hf153 hE153
      have e153_3 := (hk153 3 rfl).trans e152_3
      have e153_4 := (hk153 4 rfl).trans e152_4
      obtain ⟨(e153_5 : a153.eval (.tmp 5) = .int .i64 (ad i114 1)), -⟩ := hf153 [2] rfl
      have hX153 := es_ hX152 hE153
      have b153_A88 := re_ hE153 b152_A88
      have b153_A151 := re_ hE153 b152_A151
      exact hn134 _ _ _ hs ⟨(rl [(150, 113)] own153), A151, cA151, hd153, hz153, e153_3, e153_4, e153_5, (Evo.rl_ hX153 (fun _ => Nat.le_refl 0) rfl), (RwO.rl_ (mm := [(150, 113)]) b153_A151), (RwO.rl_ (mm := [(150, 113)]) b153_A88)⟩
    refine fl_exit ?_
    refine hp136 _ _ _ rfl ?_
    replace hs := hz134 _ hs
    refine hp134 _ _ _ rfl ?_
    refine hx93 _ _ ?_
    refine hn91 _ _ ?_
    refine rg0_seq 22 own137 (bz 2) [⟨[], [3], [], Fct.val 21 (.slice A110 out112.length c111)⟩, ⟨[0], [], [], Fct.val 2 (.slice A110 out112.length c111)⟩] hz137 hd137 (by kernel_rfl) ?_ ?_
    · refine sc (fun _ _ _ _ s _ => px (or_move (s.1.trans e137_3))) ?_
      refine sc (fun _ _ _ f _ _ => px (or_assign f.1)) ?_
      exact steps_nil
    intro own154 a154 w154 hd154 hz154 hk154 hf154 hE154
    obtain ⟨(e154_2 : a154.eval (.tmp 2) = .slice A110 out112.length c111), -⟩ := hf154 [1] rfl
    have hX154 := es_ hX137 hE154
    have b154_A110 := re_ hE154 b137_A110
    refine fl_ret ?_
    obtain rfl := (osome hs).symm
    exact hret _ _ _ _ (.inl rfl) hd154 (results1_ rfl (RVal.tmp_ e154_2)) ⟨(rl [(113, 1)] own154), (A110, c111), rfl, (Evo.rl_ hX154 (fun _ => Nat.le_refl 0) rfl), (RwO.rl_ (mm := [(113, 1)]) b154_A110)⟩
theorem law26_BlockTells_w (w : World) (n1 : (List ((List (Int × Int)) × Int × Int)) × (List (List (List Int)))) (An1_0 : Option Addr) (cn1_0 : Nat) (An1_1 : Option Addr) (cn1_1 : Nat) (more2 : List Int) (Amore2 : Option Addr) (cmore2 : Nat) (hAn1_0 : RdO (fun _ => 0) [0] w R59 An1_0 cn1_0 n1.1) (hAn1_1 : RdO (fun _ => 0) [0] w R27 An1_1 cn1_1 n1.2) (hmore2 : RdO (fun _ => 0) [0] w R5 Amore2 cmore2 more2) (r : Bool) (hs : law26_BlockTells n1 more2 = some r) :
    Calls Try.prog 5 #[.agg #[.slice An1_0 n1.1.length cn1_0, .slice An1_1 n1.2.length cn1_1], .slice Amore2 more2.length cmore2] w fun e w' => ∃ own' : Own, e = .returned (.bool r) ∧ Evo [] (fun _ => 0) own' w w' := by
  refine fl_enter (n := 92) rfl rfl rfl (Nat.le_of_ble_eq_true rfl) ?_
  intro a0 Q hd0 hz0 harg hret
  have ha0 := harg 0 _ rfl
  have ha1 := harg 1 _ rfl
  clear harg
  have hE0 : Evo [] (fun _ => 0) (fun _ => 0) w w := Evo.refl _ _ _
  refine rg0_seq 92 (fun _ => 0) [0, 0] [⟨[], [0], [], Fct.blk 110 2 (fun g => .pointer (some ⟨g, 0, none⟩)) 25 #[.slice An1_0 n1.1.length cn1_0, .slice An1_1 n1.2.length cn1_1]⟩, ⟨[], [], [], Fct.val 4 (.bool false)⟩] hz0 hd0 (by kernel_rfl) ?_ ?_
  · refine sc (fun _ _ _ _ s _ => px (or_new [(0, .agg #[.slice An1_0 n1.1.length cn1_0, .slice An1_1 n1.2.length cn1_1])] rfl rfl ⟨(s.1.trans ha0), trivial⟩ (by kernel_rfl))) ?_
    refine sc (fun _ _ _ _ _ _ => px (or_assign rfl)) ?_
    exact steps_nil
  intro own111 a111 w111 hd111 hz111 hk111 hf111 hE111
  have e111_1 := (hk111 1 rfl).trans ha1
  obtain ⟨⟨g109, (e111_2 : a111.eval (.tmp 2) = .pointer (some ⟨g109, 0, none⟩)), (b111_g109 : BlkO own111 110 w111 g109 25 #[.slice An1_0 n1.1.length cn1_0, .slice An1_1 n1.2.length cn1_1])⟩, -⟩ := hf111 [0] rfl
  have hX111 := es_ hE0 hE111
  have b111_An1_0 := RdO.evo rfl hE111 hAn1_0
  have b111_An1_1 := RdO.evo rfl hE111 hAn1_1
  have b111_Amore2 := RdO.evo rfl hE111 hmore2
  obtain ⟨r122, hr122, hs⟩ := obind hs
  obtain ⟨x130, hx130, hs⟩ := obind hs
  refine rg_draw_seq g_mixed (n := 92) (rs := [Fct.at_ 110 g109 25 #[.slice An1_0 n1.1.length cn1_0, .slice An1_1 n1.2.length cn1_1]]) (own0 := own111) (K := [110]) (bs := [0, 1, 0, 0, 8, 24, 60, 3, 255]) (ds := [⟨[9], [2], [], Fct.val 13 (.agg #[.slice An1_0 n1.1.length cn1_0, .slice An1_1 n1.2.length cn1_1])⟩, ⟨[0], [], [], Fct.mems [125, 126, 127, 0, 128, 129] 14 (fun (x : (Option Addr × Nat) × (Option Addr × Nat)) => .agg #[.slice x.1.1 r122.1.length x.1.2, .slice x.2.1 r122.2.length x.2.2]) (fun (x : (Option Addr × Nat) × (Option Addr × Nat)) own w => RwO own 125 [126, 127, 0] w 59 R59 x.1.1 x.1.2 r122.1 ∧ RwO own 128 [126, 129, 0] w 27 R27 x.2.1 x.2.2 r122.2) (fun hk he h => ⟨RwO.evo (hits_sub hk (by decide)) he h.1, RwO.evo (hits_sub hk (by decide)) he h.2⟩)⟩, ⟨[], [1], [], Fct.val 15 (.slice Amore2 more2.length cmore2)⟩, ⟨[], [1], [], Fct.val 16 (.slice Amore2 more2.length cmore2)⟩, ⟨[3], [], [], Fct.val 17 (.int .i64 (more2.length : Int))⟩, ⟨[4], [], [], Fct.val 18 (.int .i64 (mn (more2.length : Int) 20))⟩, ⟨[2, 5], [], [], Fct.view [0] 19 R5 x130⟩, ⟨[1, 9], [2], [110], Fct.by_ [132] [14] (fun l own w => ∀ (A123 : Option Addr) (cA123 : Nat) (A124 : Option Addr) (cA124 : Nat), l.getD 0 undef = .agg #[.slice A123 r122.1.length cA123, .slice A124 r122.2.length cA124] → BlkO own 132 w g109 25 #[.slice A123 r122.1.length cA123, .slice A124 r122.2.length cA124]) (fun hk he h _ _ _ _ h0' => BlkO.evo (not_hit hk (by decide)) he (h _ _ _ _ h0'))⟩, ⟨[6], [], [], Fct.rel [1, 19] (fun l => ∀ (A131 : Option Addr) (cA131 : Nat), l.getD 1 undef = .slice A131 x130.length cA131 → l.getD 0 undef = .slice A131 x130.length cA131)⟩]) (by kernel_rfl) hz111 hd111 (by simp only [List.forall_mem_cons]; exact ⟨b111_g109, fun _ h => nomatch h⟩) ?_ ?_
  · refine sc (fun own a wx hf hsl hE => ?_) ?_
    · obtain ⟨(b_g109 : BlkO own 110 wx g109 25 #[.slice An1_0 n1.1.length cn1_0, .slice An1_1 n1.2.length cn1_1]), -⟩ := hf
      obtain ⟨s_2, -⟩ := hsl
      exact px (or_load (l := [.slice An1_0 n1.1.length cn1_0, .slice An1_1 n1.2.length cn1_1]) ta25 (s_2.trans e111_2) (Blk.cellsFrom b_g109.2 0 rfl) rfl)
    refine sc (fun own _ _ f _ hE => px (or_call cf15 (args1 f.1) (law15_Cut_w _ (forth own (inL [0])) n1 An1_0 cn1_0 An1_1 cn1_1 inL_le (RdO.alias_ (La := [0]) (RdO.evo rfl hE b111_An1_0) (by decide)) (RdO.alias_ (La := [0]) (RdO.evo rfl hE b111_An1_1) (by decide)) r122 hr122) (post_alias (La := [0]) (m' := (look0 [(1, 126), (2, 125), (3, 127), (4, 128), (5, 129)])) (fun own' w' a' x ho hsz h1 h => ⟨x, h1, ⟨RwO.backM_ ho h.1 (by decide) (by decide) (by decide) (by decide), RwO.backM_ ho h.2 (by decide) (by decide) (by decide) (by decide)⟩⟩)))) ?_
    refine sc (fun _ _ _ _ s _ => px (or_move (s.1.trans e111_1))) ?_
    refine sc (fun _ _ _ _ s _ => px (or_move (s.1.trans e111_1))) ?_
    refine sc (fun _ _ _ f _ _ => px (or_len tu33 f.1 rfl)) ?_
    refine sc (fun _ _ _ f _ _ => px (or_min f.1 rfl)) ?_
    refine sc (fun _ _ _ f _ hE => px (or_view (R := R5) (l := more2) (L := [0]) tu33 ts5 f.1 Bnd.none_ (Bnd.some_ f.2.1) Bnd.none_ (RdO.evo rfl hE b111_Amore2) hx130 (.inl rfl) (by simp))) ?_
    refine sc (fun own a wx hf hsl hE => ?_) ?_
    · obtain ⟨⟨⟨⟨A123, cA123⟩, ⟨A124, cA124⟩⟩, (f_14 : a.eval (.tmp 14) = .agg #[.slice A123 r122.1.length cA123, .slice A124 r122.2.length cA124]), b_A123, b_A124⟩, b_g109, -⟩ := hf
      obtain ⟨s_2, -⟩ := hsl
      exact px (or_store (l := #[.slice A123 r122.1.length cA123, .slice A124 r122.2.length cA124]) (lab := 110) (lab2 := 132) ts25 (s_2.trans e111_2) f_14 b_g109 (by simp) (by kernel_rfl) (mem_of rfl) (by decide) (by kernel_rfl) (fun own' a' w' ha hb => fun _ _ _ _ h0' => by cases (f_14.symm.trans ((ha 14).symm.trans h0')); exact hb))
    refine sc (fun own a wx hf hsl hE => ?_) ?_
    · obtain ⟨⟨⟨A131, cA131⟩, (f_19 : a.eval (.tmp 19) = .slice A131 x130.length cA131), b_A131⟩, -⟩ := hf
      exact px (or_mono (f := Fct.val 1 (.slice A131 x130.length cA131)) (or_assign f_19) (fun own' a' w' v' hp h => fun _ _ h0' => by cases (f_19.symm.trans ((hp.2 19 (by decide)).symm.trans h0')); exact h))
    exact steps_nil
  intro own133 a133 w133 hd133 hz133 hk133 hf133 hE133
  have e133_2 := (hk133 2 rfl).trans e111_2
  obtain ⟨⟨⟨A131, cA131⟩, (f_19 : a133.eval (.tmp 19) = .slice A131 x130.length cA131), (b133_A131 : RdO own133 [0] w133 R5 A131 cA131 x130)⟩, (q_1 : ∀ (A131 : Option Addr) (cA131 : Nat), a133.eval (.tmp 19) = .slice A131 x130.length cA131 → a133.eval (.tmp 1) = .slice A131 x130.length cA131), ⟨⟨⟨A123, cA123⟩, ⟨A124, cA124⟩⟩, (f_14 : a133.eval (.tmp 14) = .agg #[.slice A123 r122.1.length cA123, .slice A124 r122.2.length cA124]), (b133_A123 : RwO own133 125 [126, 127, 0] w133 59 R59 A123 cA123 r122.1), (b133_A124 : RwO own133 128 [126, 129, 0] w133 27 R27 A124 cA124 r122.2)⟩, (bq_g109 : ∀ (A123 : Option Addr) (cA123 : Nat) (A124 : Option Addr) (cA124 : Nat), a133.eval (.tmp 14) = .agg #[.slice A123 r122.1.length cA123, .slice A124 r122.2.length cA124] → BlkO own133 132 w133 g109 25 #[.slice A123 r122.1.length cA123, .slice A124 r122.2.length cA124]), -⟩ := hf133 [6, 8, 1, 7] rfl
  have e133_1 := q_1 _ _ f_19
  have b133_g109 := bq_g109 _ _ _ _ f_14
  have hX133 := es_ hX111 hE133
  obtain ⟨r134, hr134, hs⟩ := obind hs
  obtain ⟨r141, hr141, hs⟩ := obind hs
  refine rg0_seq 92 own133 (bz 4) [⟨[], [2], [], Fct.val 20 (.agg #[.slice A123 r122.1.length cA123, .slice A124 r122.2.length cA124])⟩, ⟨[0], [], [], Fct.mems [137, 138, 139, 125, 126, 127, 0, 128, 129, 140] 21 (fun (x : (Option Addr × Nat) × (Option Addr × Nat)) => .agg #[.slice x.1.1 r134.1.length x.1.2, .slice x.2.1 r134.2.length x.2.2]) (fun (x : (Option Addr × Nat) × (Option Addr × Nat)) own w => RwO own 137 [138, 139, 125, 126, 127, 0, 128, 129] w 78 R78 x.1.1 x.1.2 r134.1 ∧ RdO own [138, 140, 125, 126, 127, 0, 128, 129] w R27 x.2.1 x.2.2 r134.2) (fun hk he h => ⟨RwO.evo (hits_sub hk (by decide)) he h.1, RdO.evo (hits_sub hk (by decide)) he h.2⟩)⟩, ⟨[1], [], [], Fct.val 22 (.int .i64 r141)⟩, ⟨[2], [], [], Fct.val 5 (.int .i64 r141)⟩] hz133 hd133 (by kernel_rfl) ?_ ?_
  · refine sc (fun _ _ _ _ s hE => px (or_load (l := [.slice A123 r122.1.length cA123, .slice A124 r122.2.length cA124]) ta25 (s.1.trans e133_2) (Blk.cellsFrom (be_ hE b133_g109).2 0 rfl) rfl)) ?_
    refine sc (fun own _ _ f _ hE => px (or_call cf17 (args1 f.1) (law15_Of_w _ (forth own (inL [125, 126, 127, 0, 128, 129])) r122 A123 cA123 A124 cA124 inL_le (RdO.alias_ (La := [125, 126, 127, 0, 128, 129]) (RwO.rd (re_ hE b133_A123)) (by decide)) (RdO.alias_ (La := [125, 126, 127, 0, 128, 129]) (RwO.rd (re_ hE b133_A124)) (by decide)) r134 hr134) (post_alias (La := [125, 126, 127, 0, 128, 129]) (m' := (look0 [(1, 138), (2, 137), (3, 139), (4, 140)])) (fun own' w' a' x ho hsz h1 h => ⟨x, h1, ⟨RwO.backM_ ho h.1 (by decide) (by decide) (by decide) (by decide), RdO.backN_ ho hsz h.2 (by decide) (by decide) (by decide)⟩⟩)))) ?_
    refine sc (fun own a wx hf hsl hE => ?_) ?_
    · obtain ⟨⟨⟨⟨A135, cA135⟩, ⟨A136, cA136⟩⟩, f_21, b_A135, b_A136⟩, -⟩ := hf
      exact px (or_call cf16 (args1 f_21) (ref26_Check_w _ r134 A135 cA135 A136 cA136 (RdO.zero (RwO.rd b_A135)) (RdO.zero b_A136) r141 hr141) post_val)
    refine sc (fun _ _ _ f _ _ => px (or_assign f.1)) ?_
    exact steps_nil
  intro own142 a142 w142 hd142 hz142 hk142 hf142 hE142
  have e142_1 := (hk142 1 rfl).trans e133_1
  have e142_2 := (hk142 2 rfl).trans e133_2
  obtain ⟨(e142_5 : a142.eval (.tmp 5) = .int .i64 r141), -⟩ := hf142 [3] rfl
  have hX142 := es_ hX133 hE142
  have b142_g109 := be_ hE142 b133_g109
  have b142_A123 := re_ hE142 b133_A123
  have b142_A124 := re_ hE142 b133_A124
  have b142_A131 := RdO.evo rfl hE142 b133_A131
  obtain ⟨r143, hr143, hs⟩ := obind hs
  refine rg0_seq 92 own142 [0, 1, 3, 7, 7, 15, 63] [⟨[], [2], [], Fct.val 24 (.agg #[.slice A123 r122.1.length cA123, .slice A124 r122.2.length cA124])⟩, ⟨[0], [], [], Fct.mems [145] 25 (fun (x : Option Addr × Nat) => .tuple #[.slice x.1 r143.1.length x.2, .int .i64 r143.2]) (fun (x : Option Addr × Nat) own w => RwO own 145 [] w 5 R5 x.1 x.2 r143.1) (fun hk he h => RwO.evo (hits_sub hk (by decide)) he h)⟩, ⟨[1], [], [], Fct.rel [23, 25] (fun l => ∀ (A144 : Option Addr) (cA144 : Nat), l.getD 1 undef = .tuple #[.slice A144 r143.1.length cA144, .int .i64 r143.2] → l.getD 0 undef = .tuple #[.slice A144 r143.1.length cA144, .int .i64 r143.2])⟩, ⟨[2, 1], [], [], Fct.rel [26, 25] (fun l => ∀ (A144 : Option Addr) (cA144 : Nat), l.getD 1 undef = .tuple #[.slice A144 r143.1.length cA144, .int .i64 r143.2] → l.getD 0 undef = .slice A144 r143.1.length cA144)⟩, ⟨[2, 1], [], [], Fct.val 27 (.int .i64 r143.2)⟩, ⟨[3, 1], [], [], Fct.rel [6, 25] (fun l => ∀ (A144 : Option Addr) (cA144 : Nat), l.getD 1 undef = .tuple #[.slice A144 r143.1.length cA144, .int .i64 r143.2] → l.getD 0 undef = .slice A144 r143.1.length cA144)⟩, ⟨[4], [], [], Fct.val 7 (.int .i64 r143.2)⟩] hz142 hd142 (by kernel_rfl) ?_ ?_
  · refine sc (fun _ _ _ _ s hE => px (or_load (l := [.slice A123 r122.1.length cA123, .slice A124 r122.2.length cA124]) ta25 (s.1.trans e142_2) (Blk.cellsFrom (be_ hE b142_g109).2 0 rfl) rfl)) ?_
    refine sc (fun _ _ _ f _ hE => px (or_call cf13 (args1 f.1) (block_Bytes_w _ r122 A123 cA123 A124 cA124 (RdO.zero (RwO.rd (re_ hE b142_A123))) (RdO.zero (RwO.rd (re_ hE b142_A124))) r143 hr143) (post_mems (m := (fun _ => 0)) (m' := (look0 [(1, 145)])) (fun _ _ => .inl rfl) (fun own' w' a' x h1 h => ⟨x, h1, RwO.back_ h (by decide) (.inl (Rep.fl_flat _))⟩)))) ?_
    refine sc (fun own a wx hf hsl hE => ?_) ?_
    · obtain ⟨⟨⟨A144, cA144⟩, (f_25 : a.eval (.tmp 25) = .tuple #[.slice A144 r143.1.length cA144, .int .i64 r143.2]), b_A144⟩, -⟩ := hf
      exact px (or_mono (f := Fct.val 23 (.tuple #[.slice A144 r143.1.length cA144, .int .i64 r143.2])) (or_move f_25) (fun own' a' w' v' hp h => fun _ _ h0' => by cases (f_25.symm.trans ((hp.2 25 (by decide)).symm.trans h0')); exact h))
    refine sc (fun own a wx hf hsl hE => ?_) ?_
    · obtain ⟨(q_23 : ∀ (A144 : Option Addr) (cA144 : Nat), a.eval (.tmp 25) = .tuple #[.slice A144 r143.1.length cA144, .int .i64 r143.2] → a.eval (.tmp 23) = .tuple #[.slice A144 r143.1.length cA144, .int .i64 r143.2]), ⟨⟨A144, cA144⟩, (f_25 : a.eval (.tmp 25) = .tuple #[.slice A144 r143.1.length cA144, .int .i64 r143.2]), b_A144⟩, -⟩ := hf
      have f_23 := q_23 _ _ f_25
      exact px (or_mono (f := Fct.val 26 (.slice A144 r143.1.length cA144)) (or_k [(23, .tuple #[.slice A144 r143.1.length cA144, .int .i64 r143.2])] rfl rfl ⟨f_23, trivial⟩ (by kernel_rfl)) (fun own' a' w' v' hp h => fun _ _ h0' => by cases (f_25.symm.trans ((hp.2 25 (by decide)).symm.trans h0')); exact h))
    refine sc (fun own a wx hf hsl hE => ?_) ?_
    · obtain ⟨(q_23 : ∀ (A144 : Option Addr) (cA144 : Nat), a.eval (.tmp 25) = .tuple #[.slice A144 r143.1.length cA144, .int .i64 r143.2] → a.eval (.tmp 23) = .tuple #[.slice A144 r143.1.length cA144, .int .i64 r143.2]), ⟨⟨A144, cA144⟩, f_25, b_A144⟩, -⟩ := hf
      have f_23 := q_23 _ _ f_25
      exact px (or_k [(23, .tuple #[.slice A144 r143.1.length cA144, .int .i64 r143.2])] rfl rfl ⟨f_23, trivial⟩ (by kernel_rfl))
    refine sc (fun own a wx hf hsl hE => ?_) ?_
    · obtain ⟨(q_26 : ∀ (A144 : Option Addr) (cA144 : Nat), a.eval (.tmp 25) = .tuple #[.slice A144 r143.1.length cA144, .int .i64 r143.2] → a.eval (.tmp 26) = .slice A144 r143.1.length cA144), ⟨⟨A144, cA144⟩, (f_25 : a.eval (.tmp 25) = .tuple #[.slice A144 r143.1.length cA144, .int .i64 r143.2]), b_A144⟩, -⟩ := hf
      have f_26 := q_26 _ _ f_25
      exact px (or_mono (f := Fct.val 6 (.slice A144 r143.1.length cA144)) (or_assign f_26) (fun own' a' w' v' hp h => fun _ _ h0' => by cases (f_25.symm.trans ((hp.2 25 (by decide)).symm.trans h0')); exact h))
    refine sc (fun _ _ _ f _ _ => px (or_assign f.1)) ?_
    exact steps_nil
  intro own146 a146 w146 hd146 hz146 hk146 hf146 hE146
  have e146_1 := (hk146 1 rfl).trans e142_1
  have e146_2 := (hk146 2 rfl).trans e142_2
  have e146_5 := (hk146 5 rfl).trans e142_5
  obtain ⟨⟨⟨A144, cA144⟩, (f_25 : a146.eval (.tmp 25) = .tuple #[.slice A144 r143.1.length cA144, .int .i64 r143.2]), (b146_A144 : RwO own146 145 [] w146 5 R5 A144 cA144 r143.1)⟩, (q_6 : ∀ (A144 : Option Addr) (cA144 : Nat), a146.eval (.tmp 25) = .tuple #[.slice A144 r143.1.length cA144, .int .i64 r143.2] → a146.eval (.tmp 6) = .slice A144 r143.1.length cA144), (e146_7 : a146.eval (.tmp 7) = .int .i64 r143.2), -⟩ := hf146 [1, 5, 6] rfl
  have e146_6 := q_6 _ _ f_25
  have hX146 := es_ hX142 hE146
  have b146_g109 := be_ hE146 b142_g109
  have b146_A123 := re_ hE146 b142_A123
  have b146_A124 := re_ hE146 b142_A124
  have b146_A131 := RdO.evo rfl hE146 b142_A131
  refine fl_seq (fun Q147 hn147 hp147 => ?_)
  obtain ⟨r148, hr148, hs⟩ := obind hs
  obtain ⟨x149, hx149, hs⟩ := obind hs
  refine rg0_seq 92 own146 [0, 1, 0, 7, 15, 31, 31, 127, 255] [⟨[], [2], [], Fct.val 28 (.agg #[.slice A123 r122.1.length cA123, .slice A124 r122.2.length cA124])⟩, ⟨[0], [], [], Fct.val 29 (.int .i64 r148)⟩, ⟨[], [5], [], Fct.val 30 (.int .i64 r141)⟩, ⟨[1, 2], [], [], Fct.val 31 (.bool (!decide (r148 = r141)))⟩, ⟨[3], [], [], Fct.val 32 (.bool (!decide (r148 = r141)))⟩, ⟨[4], [7], [], Fct.cond (!(!decide (r148 = r141))) (some 33) (Fct.val 33 (.int .i64 r143.2))⟩, ⟨[4], [5], [], Fct.cond (!(!decide (r148 = r141))) (some 34) (Fct.val 34 (.int .i64 r141))⟩, ⟨[4, 5, 6], [], [], Fct.cond (!(!decide (r148 = r141))) (some 35) (Fct.val 35 (.bool (!decide (r143.2 = r141))))⟩, ⟨[4, 7], [], [], Fct.val 36 (.bool x149)⟩] hz146 hd146 (by kernel_rfl) ?_ ?_
  · refine sc (fun _ _ _ _ s hE => px (or_load (l := [.slice A123 r122.1.length cA123, .slice A124 r122.2.length cA124]) ta25 (s.1.trans e146_2) (Blk.cellsFrom (be_ hE b146_g109).2 0 rfl) rfl)) ?_
    refine sc (fun _ _ _ f _ hE => px (or_call cf8 (args1 f.1) (block_Check_w _ r122 A123 cA123 A124 cA124 (RdO.zero (RwO.rd (re_ hE b146_A123))) (RdO.zero (RwO.rd (re_ hE b146_A124))) r148 hr148) post_val)) ?_
    refine sc (fun _ _ _ _ s _ => px (or_move (s.1.trans e146_5))) ?_
    refine sc (fun _ _ _ f _ _ => px (or_neq f.1 f.2.1 rfl)) ?_
    refine sc (fun _ _ _ f _ _ => px (or_move f.1)) ?_
    refine sc (fun _ _ _ f s _ => sg_f rfl rfl rfl f.1 (fun hg => or_move (s.1.trans e146_7))) ?_
    refine sc (fun _ _ _ f s _ => sg_f rfl rfl rfl f.1 (fun hg => or_move (s.1.trans e146_5))) ?_
    refine sc (fun _ _ _ f _ _ => sg_f rfl rfl rfl f.1 (fun hg => or_neq (f.2.1.1 hg) (f.2.2.1.1 hg) rfl)) ?_
    refine sc (fun _ _ _ f _ _ => px (or_or f.1 rfl (fun hx => f.2.1.1 hx) (osome hx149).symm)) ?_
    exact steps_nil
  intro own150 a150 w150 hd150 hz150 hk150 hf150 hE150
  have e150_1 := (hk150 1 rfl).trans e146_1
  have e150_2 := (hk150 2 rfl).trans e146_2
  have e150_5 := (hk150 5 rfl).trans e146_5
  have e150_6 := (hk150 6 rfl).trans e146_6
  obtain ⟨(e150_36 : a150.eval (.tmp 36) = .bool x149), -⟩ := hf150 [8] rfl
  have hX150 := es_ hX146 hE150
  have b150_g109 := be_ hE150 b146_g109
  have b150_A123 := re_ hE150 b146_A123
  have b150_A124 := re_ hE150 b146_A124
  have b150_A131 := RdO.evo rfl hE150 b146_A131
  have b150_A144 := re_ hE150 b146_A144
  refine fl_cond e150_36 hs (fun c151 hs => ?_) (fun c151 hs => ?_)
  · refine rg0_seq 92 own150 (bz 1) [⟨[], [], [], Fct.val 4 (.bool false)⟩] hz150 hd150 (by kernel_rfl) ?_ ?_
    · refine sc (fun _ _ _ _ _ _ => px (or_assign rfl)) ?_
      exact steps_nil
    intro own152 a152 w152 hd152 hz152 hk152 hf152 hE152
    obtain ⟨(e152_4 : a152.eval (.tmp 4) = .bool false), -⟩ := hf152 [0] rfl
    have hX152 := es_ hX150 hE152
    refine fl_ret ?_
    refine hp147 _ _ _ rfl ?_
    obtain rfl := osome hs
    exact hret _ _ _ _ (.inl rfl) hd152 (results1_ rfl (RVal.tmp_ e152_4)) ⟨own152, rfl, hX152⟩
  refine fl_skip ?_
  refine hn147 _ _ ?_
  refine fl_seq (fun Q153 hn153 hp153 => ?_)
  refine rg0_seq 92 own150 (bz 2) [⟨[], [5], [], Fct.val 37 (.int .i64 r141)⟩, ⟨[0], [], [], Fct.val 38 (.bool (!decide (r141 = 0)))⟩] hz150 hd150 (by kernel_rfl) ?_ ?_
  · refine sc (fun _ _ _ _ s _ => px (or_move (s.1.trans e150_5))) ?_
    refine sc (fun _ _ _ f _ _ => px (or_neq f.1 rfl rfl)) ?_
    exact steps_nil
  intro own154 a154 w154 hd154 hz154 hk154 hf154 hE154
  have e154_1 := (hk154 1 rfl).trans e150_1
  have e154_2 := (hk154 2 rfl).trans e150_2
  have e154_6 := (hk154 6 rfl).trans e150_6
  obtain ⟨(e154_38 : a154.eval (.tmp 38) = .bool (!decide (r141 = 0))), -⟩ := hf154 [1] rfl
  have hX154 := es_ hX150 hE154
  have b154_g109 := be_ hE154 b150_g109
  have b154_A123 := re_ hE154 b150_A123
  have b154_A124 := re_ hE154 b150_A124
  have b154_A131 := RdO.evo rfl hE154 b150_A131
  have b154_A144 := re_ hE154 b150_A144
  refine fl_cond e154_38 hs (fun c155 hs => ?_) (fun c155 hs => ?_)
  · obtain ⟨r156, hr156, hs⟩ := obind hs
    obtain ⟨x157, hx157, hs⟩ := obind hs
    refine rg0_seq 92 own154 (bz 7) [⟨[], [], [], Fct.val 39 (.bool r156)⟩, ⟨[0], [], [], Fct.val 40 (.bool r156)⟩, ⟨[1], [6], [], Fct.cond r156 (some 41) (Fct.val 41 (.slice A144 r143.1.length cA144))⟩, ⟨[1, 2], [], [], Fct.cond r156 (some 42) (Fct.val 42 (.int .i64 (r143.1.length : Int)))⟩, ⟨[1, 3], [], [], Fct.cond r156 (some 43) (Fct.val 43 (.bool (decide ((r143.1.length : Int) = 0))))⟩, ⟨[1, 4], [], [], Fct.val 44 (.bool x157)⟩, ⟨[5], [], [], Fct.val 4 (.bool x157)⟩] hz154 hd154 (by kernel_rfl) ?_ ?_
    · refine sc (fun _ _ _ _ _ _ => px (or_call cf7 (args0) (law26_known_w _   r156 hr156) post_val)) ?_
      refine sc (fun _ _ _ f _ _ => px (or_move f.1)) ?_
      refine sc (fun _ _ _ f s _ => sg_t rfl rfl rfl f.1 (fun hg => or_move (s.1.trans e154_6))) ?_
      refine sc (fun _ _ _ f _ _ => sg_t rfl rfl rfl f.1 (fun hg => or_len tu33 (f.2.1.1 hg) rfl)) ?_
      refine sc (fun _ _ _ f _ _ => sg_t rfl rfl rfl f.1 (fun hg => or_eql (f.2.1.1 hg) rfl rfl)) ?_
      refine sc (fun _ _ _ f _ _ => px (or_and f.1 (fun hx => f.2.1.1 hx) rfl (osome hx157).symm)) ?_
      refine sc (fun _ _ _ f _ _ => px (or_assign f.1)) ?_
      exact steps_nil
    intro own158 a158 w158 hd158 hz158 hk158 hf158 hE158
    obtain ⟨(e158_4 : a158.eval (.tmp 4) = .bool x157), -⟩ := hf158 [6] rfl
    have hX158 := es_ hX154 hE158
    refine fl_ret ?_
    refine hp153 _ _ _ rfl ?_
    obtain rfl := (osome hs).symm
    exact hret _ _ _ _ (.inl rfl) hd158 (results1_ rfl (RVal.tmp_ e158_4)) ⟨own158, rfl, hX158⟩
  refine fl_skip ?_
  refine hn153 _ _ ?_
  obtain ⟨x161, hx161, hs⟩ := obind hs
  obtain ⟨x164, hx164, hs⟩ := obind hs
  obtain ⟨r167, hr167, hs⟩ := obind hs
  refine rg_plain_seq (n := 92) (rs := []) (own0 := own154) (K := [160, 162, 175]) (bs := [0, 0, 3, 0, 15, 31, 63, 127, 127, 127, 0, 1279, 3583, 8191]) (ds := [⟨[], [], [], Fct.row 160 [] 46 5 R5 ([] : List Int)⟩, ⟨[], [6], [], Fct.val 47 (.slice A144 r143.1.length cA144)⟩, ⟨[0, 1], [], [160], Fct.row 162 [] 48 5 R5 x161⟩, ⟨[], [1], [], Fct.val 49 (.slice A131 x130.length cA131)⟩, ⟨[2, 3], [], [162], Fct.row 165 [] 50 5 R5 x164⟩, ⟨[4], [], [], Fct.mems [170, 171, 172, 173] 51 (fun (x : (Option Addr × Nat) × (Option Addr × Nat)) => .tuple #[.agg #[.slice x.1.1 r167.1.1.length x.1.2, .slice x.2.1 r167.1.2.length x.2.2], .int .i64 r167.2.1, .int .i64 r167.2.2]) (fun (x : (Option Addr × Nat) × (Option Addr × Nat)) own w => RwO own 170 [171] w 59 R59 x.1.1 x.1.2 r167.1.1 ∧ RwO own 172 [173] w 27 R27 x.2.1 x.2.2 r167.1.2) (fun hk he h => ⟨RwO.evo (hits_sub hk (by decide)) he h.1, RwO.evo (hits_sub hk (by decide)) he h.2⟩)⟩, ⟨[5], [], [], Fct.rel [45, 51] (fun l => ∀ (A168 : Option Addr) (cA168 : Nat) (A169 : Option Addr) (cA169 : Nat), l.getD 1 undef = .tuple #[.agg #[.slice A168 r167.1.1.length cA168, .slice A169 r167.1.2.length cA169], .int .i64 r167.2.1, .int .i64 r167.2.2] → l.getD 0 undef = .tuple #[.agg #[.slice A168 r167.1.1.length cA168, .slice A169 r167.1.2.length cA169], .int .i64 r167.2.1, .int .i64 r167.2.2])⟩, ⟨[6, 5], [], [], Fct.rel [52, 51] (fun l => ∀ (A168 : Option Addr) (cA168 : Nat) (A169 : Option Addr) (cA169 : Nat), l.getD 1 undef = .tuple #[.agg #[.slice A168 r167.1.1.length cA168, .slice A169 r167.1.2.length cA169], .int .i64 r167.2.1, .int .i64 r167.2.2] → l.getD 0 undef = .agg #[.slice A168 r167.1.1.length cA168, .slice A169 r167.1.2.length cA169])⟩, ⟨[6, 5], [], [], Fct.val 53 (.int .i64 r167.2.1)⟩, ⟨[6, 5], [], [], Fct.val 54 (.int .i64 r167.2.2)⟩, ⟨[], [], [], Fct.blk 175 8 (fun g => .pointer (some ⟨g, 0, none⟩)) 25 #[.slice none 0 0, .slice none 0 0]⟩, ⟨[10, 7, 5], [], [175], Fct.by_ [176] [8, 51] (fun l own w => ∃ g174 : Nat, l.getD 0 undef = .pointer (some ⟨g174, 0, none⟩) ∧ (∀ (A168 : Option Addr) (cA168 : Nat) (A169 : Option Addr) (cA169 : Nat), l.getD 1 undef = .tuple #[.agg #[.slice A168 r167.1.1.length cA168, .slice A169 r167.1.2.length cA169], .int .i64 r167.2.1, .int .i64 r167.2.2] → BlkO own 176 w g174 25 #[.slice A168 r167.1.1.length cA168, .slice A169 r167.1.2.length cA169])) (fun hk he h => by obtain ⟨g, e, h⟩ := h; exact ⟨g, e, fun _ _ _ _ h0' => BlkO.evo (not_hit hk (by decide)) he (h _ _ _ _ h0')⟩)⟩, ⟨[8], [], [], Fct.val 9 (.int .i64 r167.2.1)⟩, ⟨[9], [], [], Fct.val 10 (.int .i64 r167.2.2)⟩]) (by kernel_rfl) hz154 hd154 nm_ ?_ ?_
  · refine sc (fun _ _ _ _ _ _ => px (or_lit (lab := 160) (e := 5) (cs := #[]) (F := E5) (or_new [] rfl rfl trivial (by kernel_rfl)) rfl rfl (show 0 ≤ maxLen by decide))) ?_
    refine sc (fun _ _ _ _ s _ => px (or_move (s.1.trans e154_6))) ?_
    refine sc (fun own a wx hf hsl hE => ?_) ?_
    · obtain ⟨⟨⟨A159, cA159⟩, f_46, b_A159⟩, f_47, -⟩ := hf
      exact px (or_append (R := R5) (lab := 160) (lab2 := 162) (L := []) (L3 := []) tp33 f_46 b_A159 (by decide) f_47 (RwO.rd (re_ hE b154_A144)) hx161 (by decide) (by decide) (mem_of rfl) (.inl (Rep.fl_flat _)))
    refine sc (fun _ _ _ _ s _ => px (or_move (s.1.trans e154_1))) ?_
    refine sc (fun own a wx hf hsl hE => ?_) ?_
    · obtain ⟨⟨⟨A163, cA163⟩, f_48, b_A163⟩, f_49, -⟩ := hf
      exact px (or_append (R := R5) (lab := 162) (lab2 := 165) (L := []) (L3 := []) tp33 f_48 b_A163 (by decide) f_49 (RdO.evo rfl hE b154_A131) hx164 (by decide) (by decide) (mem_of rfl) (.inl (Rep.fl_flat _)))
    refine sc (fun own a wx hf hsl hE => ?_) ?_
    · obtain ⟨⟨⟨A166, cA166⟩, f_50, b_A166⟩, -⟩ := hf
      exact px (or_call cf9 (args1 f_50) (block_Read_w _ x164 A166 cA166 (RdO.zero (RwO.rd b_A166)) r167 hr167) (post_mems (m := (fun _ => 0)) (m' := (look0 [(1, 170), (2, 171), (3, 172), (4, 173)])) (fun _ _ => .inl rfl) (fun own' w' a' x h1 h => ⟨x, h1, ⟨RwO.back_ h.1 (by decide) (.inr (by decide)), RwO.back_ h.2 (by decide) (.inr (by decide))⟩⟩)))
    refine sc (fun own a wx hf hsl hE => ?_) ?_
    · obtain ⟨⟨⟨⟨A168, cA168⟩, ⟨A169, cA169⟩⟩, (f_51 : a.eval (.tmp 51) = .tuple #[.agg #[.slice A168 r167.1.1.length cA168, .slice A169 r167.1.2.length cA169], .int .i64 r167.2.1, .int .i64 r167.2.2]), b_A168, b_A169⟩, -⟩ := hf
      exact px (or_mono (f := Fct.val 45 (.tuple #[.agg #[.slice A168 r167.1.1.length cA168, .slice A169 r167.1.2.length cA169], .int .i64 r167.2.1, .int .i64 r167.2.2])) (or_move f_51) (fun own' a' w' v' hp h => fun _ _ _ _ h0' => by cases (f_51.symm.trans ((hp.2 51 (by decide)).symm.trans h0')); exact h))
    refine sc (fun own a wx hf hsl hE => ?_) ?_
    · obtain ⟨(q_45 : ∀ (A168 : Option Addr) (cA168 : Nat) (A169 : Option Addr) (cA169 : Nat), a.eval (.tmp 51) = .tuple #[.agg #[.slice A168 r167.1.1.length cA168, .slice A169 r167.1.2.length cA169], .int .i64 r167.2.1, .int .i64 r167.2.2] → a.eval (.tmp 45) = .tuple #[.agg #[.slice A168 r167.1.1.length cA168, .slice A169 r167.1.2.length cA169], .int .i64 r167.2.1, .int .i64 r167.2.2]), ⟨⟨⟨A168, cA168⟩, ⟨A169, cA169⟩⟩, (f_51 : a.eval (.tmp 51) = .tuple #[.agg #[.slice A168 r167.1.1.length cA168, .slice A169 r167.1.2.length cA169], .int .i64 r167.2.1, .int .i64 r167.2.2]), b_A168, b_A169⟩, -⟩ := hf
      have f_45 := q_45 _ _ _ _ f_51
      exact px (or_mono (f := Fct.val 52 (.agg #[.slice A168 r167.1.1.length cA168, .slice A169 r167.1.2.length cA169])) (or_k [(45, .tuple #[.agg #[.slice A168 r167.1.1.length cA168, .slice A169 r167.1.2.length cA169], .int .i64 r167.2.1, .int .i64 r167.2.2])] rfl rfl ⟨f_45, trivial⟩ (by kernel_rfl)) (fun own' a' w' v' hp h => fun _ _ _ _ h0' => by cases (f_51.symm.trans ((hp.2 51 (by decide)).symm.trans h0')); exact h))
    refine sc (fun own a wx hf hsl hE => ?_) ?_
    · obtain ⟨(q_45 : ∀ (A168 : Option Addr) (cA168 : Nat) (A169 : Option Addr) (cA169 : Nat), a.eval (.tmp 51) = .tuple #[.agg #[.slice A168 r167.1.1.length cA168, .slice A169 r167.1.2.length cA169], .int .i64 r167.2.1, .int .i64 r167.2.2] → a.eval (.tmp 45) = .tuple #[.agg #[.slice A168 r167.1.1.length cA168, .slice A169 r167.1.2.length cA169], .int .i64 r167.2.1, .int .i64 r167.2.2]), ⟨⟨⟨A168, cA168⟩, ⟨A169, cA169⟩⟩, f_51, b_A168, b_A169⟩, -⟩ := hf
      have f_45 := q_45 _ _ _ _ f_51
      exact px (or_k [(45, .tuple #[.agg #[.slice A168 r167.1.1.length cA168, .slice A169 r167.1.2.length cA169], .int .i64 r167.2.1, .int .i64 r167.2.2])] rfl rfl ⟨f_45, trivial⟩ (by kernel_rfl))
    refine sc (fun own a wx hf hsl hE => ?_) ?_
    · obtain ⟨(q_45 : ∀ (A168 : Option Addr) (cA168 : Nat) (A169 : Option Addr) (cA169 : Nat), a.eval (.tmp 51) = .tuple #[.agg #[.slice A168 r167.1.1.length cA168, .slice A169 r167.1.2.length cA169], .int .i64 r167.2.1, .int .i64 r167.2.2] → a.eval (.tmp 45) = .tuple #[.agg #[.slice A168 r167.1.1.length cA168, .slice A169 r167.1.2.length cA169], .int .i64 r167.2.1, .int .i64 r167.2.2]), ⟨⟨⟨A168, cA168⟩, ⟨A169, cA169⟩⟩, f_51, b_A168, b_A169⟩, -⟩ := hf
      have f_45 := q_45 _ _ _ _ f_51
      exact px (or_k [(45, .tuple #[.agg #[.slice A168 r167.1.1.length cA168, .slice A169 r167.1.2.length cA169], .int .i64 r167.2.1, .int .i64 r167.2.2])] rfl rfl ⟨f_45, trivial⟩ (by kernel_rfl))
    refine sc (fun _ _ _ _ _ _ => px (or_new [] rfl rfl trivial (by kernel_rfl))) ?_
    refine sc (fun own a wx hf hsl hE => ?_) ?_
    · obtain ⟨⟨g174, f_8, b_g174⟩, (q_52 : ∀ (A168 : Option Addr) (cA168 : Nat) (A169 : Option Addr) (cA169 : Nat), a.eval (.tmp 51) = .tuple #[.agg #[.slice A168 r167.1.1.length cA168, .slice A169 r167.1.2.length cA169], .int .i64 r167.2.1, .int .i64 r167.2.2] → a.eval (.tmp 52) = .agg #[.slice A168 r167.1.1.length cA168, .slice A169 r167.1.2.length cA169]), ⟨⟨⟨A168, cA168⟩, ⟨A169, cA169⟩⟩, (f_51 : a.eval (.tmp 51) = .tuple #[.agg #[.slice A168 r167.1.1.length cA168, .slice A169 r167.1.2.length cA169], .int .i64 r167.2.1, .int .i64 r167.2.2]), b_A168, b_A169⟩, -⟩ := hf
      have f_52 := q_52 _ _ _ _ f_51
      exact px (or_store (l := #[.slice A168 r167.1.1.length cA168, .slice A169 r167.1.2.length cA169]) (lab := 175) (lab2 := 176) ts25 f_8 f_52 b_g174 (by simp) (by kernel_rfl) (mem_of rfl) (by decide) (by kernel_rfl) (fun own' a' w' ha hb => ⟨_, (ha 8).trans f_8, fun _ _ _ _ h0' => by cases (f_51.symm.trans ((ha 51).symm.trans h0')); exact hb⟩))
    refine sc (fun _ _ _ f _ _ => px (or_assign f.1)) ?_
    refine sc (fun _ _ _ f _ _ => px (or_assign f.1)) ?_
    exact steps_nil
  intro own177 a177 w177 hd177 hz177 hk177 hf177 hE177
  have e177_2 := (hk177 2 rfl).trans e154_2
  have e177_6 := (hk177 6 rfl).trans e154_6
  obtain ⟨⟨⟨⟨A168, cA168⟩, ⟨A169, cA169⟩⟩, (f_51 : a177.eval (.tmp 51) = .tuple #[.agg #[.slice A168 r167.1.1.length cA168, .slice A169 r167.1.2.length cA169], .int .i64 r167.2.1, .int .i64 r167.2.2]), (b177_A168 : RwO own177 170 [171] w177 59 R59 A168 cA168 r167.1.1), (b177_A169 : RwO own177 172 [173] w177 27 R27 A169 cA169 r167.1.2)⟩, ⟨g174, (e177_8 : a177.eval (.tmp 8) = .pointer (some ⟨g174, 0, none⟩)), (bq_g174 : ∀ (A168 : Option Addr) (cA168 : Nat) (A169 : Option Addr) (cA169 : Nat), a177.eval (.tmp 51) = .tuple #[.agg #[.slice A168 r167.1.1.length cA168, .slice A169 r167.1.2.length cA169], .int .i64 r167.2.1, .int .i64 r167.2.2] → BlkO own177 176 w177 g174 25 #[.slice A168 r167.1.1.length cA168, .slice A169 r167.1.2.length cA169])⟩, (e177_9 : a177.eval (.tmp 9) = .int .i64 r167.2.1), (e177_10 : a177.eval (.tmp 10) = .int .i64 r167.2.2), -⟩ := hf177 [5, 11, 12, 13] rfl
  have b177_g174 := bq_g174 _ _ _ _ f_51
  have hX177 := es_ hX154 hE177
  have b177_g109 := be_ hE177 b154_g109
  have b177_A123 := re_ hE177 b154_A123
  have b177_A124 := re_ hE177 b154_A124
  have b177_A144 := re_ hE177 b154_A144
  obtain ⟨r178, hr178, hs⟩ := obind hs
  refine rg_plain_seq (n := 92) (rs := []) (own0 := own177) (K := [186]) (bs := [0, 1, 3, 7, 7, 0, 47, 127]) (ds := [⟨[], [6], [], Fct.val 56 (.slice A144 r143.1.length cA144)⟩, ⟨[0], [], [], Fct.mems [181, 182, 183, 184] 57 (fun (x : (Option Addr × Nat) × (Option Addr × Nat)) => .tuple #[.agg #[.slice x.1.1 r178.1.1.length x.1.2, .slice x.2.1 r178.1.2.length x.2.2], .int .i64 r178.2]) (fun (x : (Option Addr × Nat) × (Option Addr × Nat)) own w => RwO own 181 [182] w 59 R59 x.1.1 x.1.2 r178.1.1 ∧ RwO own 183 [184] w 27 R27 x.2.1 x.2.2 r178.1.2) (fun hk he h => ⟨RwO.evo (hits_sub hk (by decide)) he h.1, RwO.evo (hits_sub hk (by decide)) he h.2⟩)⟩, ⟨[1], [], [], Fct.rel [55, 57] (fun l => ∀ (A179 : Option Addr) (cA179 : Nat) (A180 : Option Addr) (cA180 : Nat), l.getD 1 undef = .tuple #[.agg #[.slice A179 r178.1.1.length cA179, .slice A180 r178.1.2.length cA180], .int .i64 r178.2] → l.getD 0 undef = .tuple #[.agg #[.slice A179 r178.1.1.length cA179, .slice A180 r178.1.2.length cA180], .int .i64 r178.2])⟩, ⟨[2, 1], [], [], Fct.rel [58, 57] (fun l => ∀ (A179 : Option Addr) (cA179 : Nat) (A180 : Option Addr) (cA180 : Nat), l.getD 1 undef = .tuple #[.agg #[.slice A179 r178.1.1.length cA179, .slice A180 r178.1.2.length cA180], .int .i64 r178.2] → l.getD 0 undef = .agg #[.slice A179 r178.1.1.length cA179, .slice A180 r178.1.2.length cA180])⟩, ⟨[2, 1], [], [], Fct.val 59 (.int .i64 r178.2)⟩, ⟨[], [], [], Fct.blk 186 11 (fun g => .pointer (some ⟨g, 0, none⟩)) 25 #[.slice none 0 0, .slice none 0 0]⟩, ⟨[5, 3, 1], [], [186], Fct.by_ [187] [11, 57] (fun l own w => ∃ g185 : Nat, l.getD 0 undef = .pointer (some ⟨g185, 0, none⟩) ∧ (∀ (A179 : Option Addr) (cA179 : Nat) (A180 : Option Addr) (cA180 : Nat), l.getD 1 undef = .tuple #[.agg #[.slice A179 r178.1.1.length cA179, .slice A180 r178.1.2.length cA180], .int .i64 r178.2] → BlkO own 187 w g185 25 #[.slice A179 r178.1.1.length cA179, .slice A180 r178.1.2.length cA180])) (fun hk he h => by obtain ⟨g, e, h⟩ := h; exact ⟨g, e, fun _ _ _ _ h0' => BlkO.evo (not_hit hk (by decide)) he (h _ _ _ _ h0')⟩)⟩, ⟨[4], [], [], Fct.val 12 (.int .i64 r178.2)⟩]) (by kernel_rfl) hz177 hd177 nm_ ?_ ?_
  · refine sc (fun _ _ _ _ s _ => px (or_move (s.1.trans e177_6))) ?_
    refine sc (fun _ _ _ f _ hE => px (or_call cf12 (args1 f.1) (block_Parse_w _ r143.1 A144 cA144 (RdO.zero (RwO.rd (re_ hE b177_A144))) r178 hr178) (post_mems (m := (fun _ => 0)) (m' := (look0 [(1, 181), (2, 182), (3, 183), (4, 184)])) (fun _ _ => .inl rfl) (fun own' w' a' x h1 h => ⟨x, h1, ⟨RwO.back_ h.1 (by decide) (.inr (by decide)), RwO.back_ h.2 (by decide) (.inr (by decide))⟩⟩)))) ?_
    refine sc (fun own a wx hf hsl hE => ?_) ?_
    · obtain ⟨⟨⟨⟨A179, cA179⟩, ⟨A180, cA180⟩⟩, (f_57 : a.eval (.tmp 57) = .tuple #[.agg #[.slice A179 r178.1.1.length cA179, .slice A180 r178.1.2.length cA180], .int .i64 r178.2]), b_A179, b_A180⟩, -⟩ := hf
      exact px (or_mono (f := Fct.val 55 (.tuple #[.agg #[.slice A179 r178.1.1.length cA179, .slice A180 r178.1.2.length cA180], .int .i64 r178.2])) (or_move f_57) (fun own' a' w' v' hp h => fun _ _ _ _ h0' => by cases (f_57.symm.trans ((hp.2 57 (by decide)).symm.trans h0')); exact h))
    refine sc (fun own a wx hf hsl hE => ?_) ?_
    · obtain ⟨(q_55 : ∀ (A179 : Option Addr) (cA179 : Nat) (A180 : Option Addr) (cA180 : Nat), a.eval (.tmp 57) = .tuple #[.agg #[.slice A179 r178.1.1.length cA179, .slice A180 r178.1.2.length cA180], .int .i64 r178.2] → a.eval (.tmp 55) = .tuple #[.agg #[.slice A179 r178.1.1.length cA179, .slice A180 r178.1.2.length cA180], .int .i64 r178.2]), ⟨⟨⟨A179, cA179⟩, ⟨A180, cA180⟩⟩, (f_57 : a.eval (.tmp 57) = .tuple #[.agg #[.slice A179 r178.1.1.length cA179, .slice A180 r178.1.2.length cA180], .int .i64 r178.2]), b_A179, b_A180⟩, -⟩ := hf
      have f_55 := q_55 _ _ _ _ f_57
      exact px (or_mono (f := Fct.val 58 (.agg #[.slice A179 r178.1.1.length cA179, .slice A180 r178.1.2.length cA180])) (or_k [(55, .tuple #[.agg #[.slice A179 r178.1.1.length cA179, .slice A180 r178.1.2.length cA180], .int .i64 r178.2])] rfl rfl ⟨f_55, trivial⟩ (by kernel_rfl)) (fun own' a' w' v' hp h => fun _ _ _ _ h0' => by cases (f_57.symm.trans ((hp.2 57 (by decide)).symm.trans h0')); exact h))
    refine sc (fun own a wx hf hsl hE => ?_) ?_
    · obtain ⟨(q_55 : ∀ (A179 : Option Addr) (cA179 : Nat) (A180 : Option Addr) (cA180 : Nat), a.eval (.tmp 57) = .tuple #[.agg #[.slice A179 r178.1.1.length cA179, .slice A180 r178.1.2.length cA180], .int .i64 r178.2] → a.eval (.tmp 55) = .tuple #[.agg #[.slice A179 r178.1.1.length cA179, .slice A180 r178.1.2.length cA180], .int .i64 r178.2]), ⟨⟨⟨A179, cA179⟩, ⟨A180, cA180⟩⟩, f_57, b_A179, b_A180⟩, -⟩ := hf
      have f_55 := q_55 _ _ _ _ f_57
      exact px (or_k [(55, .tuple #[.agg #[.slice A179 r178.1.1.length cA179, .slice A180 r178.1.2.length cA180], .int .i64 r178.2])] rfl rfl ⟨f_55, trivial⟩ (by kernel_rfl))
    refine sc (fun _ _ _ _ _ _ => px (or_new [] rfl rfl trivial (by kernel_rfl))) ?_
    refine sc (fun own a wx hf hsl hE => ?_) ?_
    · obtain ⟨⟨g185, f_11, b_g185⟩, (q_58 : ∀ (A179 : Option Addr) (cA179 : Nat) (A180 : Option Addr) (cA180 : Nat), a.eval (.tmp 57) = .tuple #[.agg #[.slice A179 r178.1.1.length cA179, .slice A180 r178.1.2.length cA180], .int .i64 r178.2] → a.eval (.tmp 58) = .agg #[.slice A179 r178.1.1.length cA179, .slice A180 r178.1.2.length cA180]), ⟨⟨⟨A179, cA179⟩, ⟨A180, cA180⟩⟩, (f_57 : a.eval (.tmp 57) = .tuple #[.agg #[.slice A179 r178.1.1.length cA179, .slice A180 r178.1.2.length cA180], .int .i64 r178.2]), b_A179, b_A180⟩, -⟩ := hf
      have f_58 := q_58 _ _ _ _ f_57
      exact px (or_store (l := #[.slice A179 r178.1.1.length cA179, .slice A180 r178.1.2.length cA180]) (lab := 186) (lab2 := 187) ts25 f_11 f_58 b_g185 (by simp) (by kernel_rfl) (mem_of rfl) (by decide) (by kernel_rfl) (fun own' a' w' ha hb => ⟨_, (ha 11).trans f_11, fun _ _ _ _ h0' => by cases (f_57.symm.trans ((ha 57).symm.trans h0')); exact hb⟩))
    refine sc (fun _ _ _ f _ _ => px (or_assign f.1)) ?_
    exact steps_nil
  intro own188 a188 w188 hd188 hz188 hk188 hf188 hE188
  have e188_2 := (hk188 2 rfl).trans e177_2
  have e188_6 := (hk188 6 rfl).trans e177_6
  have e188_8 := (hk188 8 rfl).trans e177_8
  have e188_9 := (hk188 9 rfl).trans e177_9
  have e188_10 := (hk188 10 rfl).trans e177_10
  obtain ⟨⟨⟨⟨A179, cA179⟩, ⟨A180, cA180⟩⟩, (f_57 : a188.eval (.tmp 57) = .tuple #[.agg #[.slice A179 r178.1.1.length cA179, .slice A180 r178.1.2.length cA180], .int .i64 r178.2]), (b188_A179 : RwO own188 181 [182] w188 59 R59 A179 cA179 r178.1.1), (b188_A180 : RwO own188 183 [184] w188 27 R27 A180 cA180 r178.1.2)⟩, ⟨g185, (e188_11 : a188.eval (.tmp 11) = .pointer (some ⟨g185, 0, none⟩)), (bq_g185 : ∀ (A179 : Option Addr) (cA179 : Nat) (A180 : Option Addr) (cA180 : Nat), a188.eval (.tmp 57) = .tuple #[.agg #[.slice A179 r178.1.1.length cA179, .slice A180 r178.1.2.length cA180], .int .i64 r178.2] → BlkO own188 187 w188 g185 25 #[.slice A179 r178.1.1.length cA179, .slice A180 r178.1.2.length cA180])⟩, (e188_12 : a188.eval (.tmp 12) = .int .i64 r178.2), -⟩ := hf188 [1, 6, 7] rfl
  have b188_g185 := bq_g185 _ _ _ _ f_57
  have hX188 := es_ hX177 hE188
  have b188_g109 := be_ hE188 b177_g109
  have b188_A123 := re_ hE188 b177_A123
  have b188_A124 := re_ hE188 b177_A124
  have b188_A144 := re_ hE188 b177_A144
  have b188_A168 := re_ hE188 b177_A168
  have b188_A169 := re_ hE188 b177_A169
  have b188_g174 := be_ hE188 b177_g174
  obtain ⟨r189, hr189, hs⟩ := obind hs
  obtain ⟨r190, hr190, hs⟩ := obind hs
  obtain ⟨r197, hr197, hs⟩ := obind hs
  obtain ⟨r200, hr200, hs⟩ := obind hs
  obtain ⟨x201, hx201, hs⟩ := obind hs
  obtain ⟨x202, hx202, hs⟩ := obind hs
  obtain ⟨r203, hr203, hs⟩ := obind hs
  obtain ⟨x204, hx204, hs⟩ := obind hs
  obtain ⟨r205, hr205, hs⟩ := obind hs
  refine rg0_seq 92 own188 [0, 1, 3, 3, 11, 27, 63, 127, 255, 511, 1023, 2047, 4095, 8191, 8191, 24575, 65535, 131071, 262143, 524287, 524287, 2097151, 4194303, 8388607, 16777215, 33554431, 67108863, 134217727, 268435455, 268435455, 1073741823, 2147483647, 4294967295] [⟨[], [], [], Fct.val 60 (.bool r189)⟩, ⟨[0], [], [], Fct.val 61 (.bool r189)⟩, ⟨[1], [6], [], Fct.cond r189 (some 62) (Fct.val 62 (.slice A144 r143.1.length cA144))⟩, ⟨[1], [2], [], Fct.cond r189 (some 63) (Fct.val 63 (.agg #[.slice A123 r122.1.length cA123, .slice A124 r122.2.length cA124]))⟩, ⟨[1, 3], [], [], Fct.cond r189 (some 64) (Fct.mems [193, 194, 195, 125, 126, 127, 0, 128, 129, 196] 64 (fun (x : (Option Addr × Nat) × (Option Addr × Nat)) => .agg #[.slice x.1.1 r190.1.length x.1.2, .slice x.2.1 r190.2.length x.2.2]) (fun (x : (Option Addr × Nat) × (Option Addr × Nat)) own w => RwO own 193 [194, 195, 125, 126, 127, 0, 128, 129] w 78 R78 x.1.1 x.1.2 r190.1 ∧ RdO own [194, 196, 125, 126, 127, 0, 128, 129] w R27 x.2.1 x.2.2 r190.2) (fun hk he h => ⟨RwO.evo (hits_sub hk (by decide)) he h.1, RdO.evo (hits_sub hk (by decide)) he h.2⟩))⟩, ⟨[1, 4], [], [], Fct.cond r189 (some 65) (Fct.row 199 [] 65 5 R5 r197)⟩, ⟨[1, 2, 5], [], [], Fct.cond r189 (some 66) (Fct.val 66 (.bool r200))⟩, ⟨[1, 6], [], [], Fct.val 67 (.bool (r189 && r200))⟩, ⟨[7], [], [], Fct.val 68 (.bool (r189 && r200))⟩, ⟨[8], [10], [], Fct.cond (r189 && r200) (some 69) (Fct.val 69 (.int .i64 r167.2.2))⟩, ⟨[8, 9], [], [], Fct.cond (r189 && r200) (some 70) (Fct.val 70 (.bool (decide (r167.2.2 = 0))))⟩, ⟨[8, 10], [], [], Fct.val 71 (.bool x201)⟩, ⟨[11], [], [], Fct.val 72 (.bool x201)⟩, ⟨[12], [9], [], Fct.cond x201 (some 73) (Fct.val 73 (.int .i64 r167.2.1))⟩, ⟨[12], [6], [], Fct.cond x201 (some 74) (Fct.val 74 (.slice A144 r143.1.length cA144))⟩, ⟨[12, 14], [], [], Fct.cond x201 (some 75) (Fct.val 75 (.int .i64 (r143.1.length : Int)))⟩, ⟨[12, 13, 15], [], [], Fct.cond x201 (some 76) (Fct.val 76 (.bool (decide (r167.2.1 = (r143.1.length : Int)))))⟩, ⟨[12, 16], [], [], Fct.val 77 (.bool x202)⟩, ⟨[17], [], [], Fct.val 78 (.bool x202)⟩, ⟨[18], [8], [], Fct.cond x202 (some 79) (Fct.val 79 (.agg #[.slice A168 r167.1.1.length cA168, .slice A169 r167.1.2.length cA169]))⟩, ⟨[18], [2], [], Fct.cond x202 (some 80) (Fct.val 80 (.agg #[.slice A123 r122.1.length cA123, .slice A124 r122.2.length cA124]))⟩, ⟨[18, 19, 20], [], [], Fct.cond x202 (some 81) (Fct.val 81 (.bool r203))⟩, ⟨[18, 21], [], [], Fct.val 82 (.bool (x202 && r203))⟩, ⟨[22], [], [], Fct.val 83 (.bool (x202 && r203))⟩, ⟨[23], [12], [], Fct.cond (x202 && r203) (some 84) (Fct.val 84 (.int .i64 r178.2))⟩, ⟨[23, 24], [], [], Fct.cond (x202 && r203) (some 85) (Fct.val 85 (.bool (decide (r178.2 = 0))))⟩, ⟨[23, 25], [], [], Fct.val 86 (.bool x204)⟩, ⟨[26], [], [], Fct.val 87 (.bool x204)⟩, ⟨[27], [11], [], Fct.cond x204 (some 88) (Fct.val 88 (.agg #[.slice A179 r178.1.1.length cA179, .slice A180 r178.1.2.length cA180]))⟩, ⟨[27], [2], [], Fct.cond x204 (some 89) (Fct.val 89 (.agg #[.slice A123 r122.1.length cA123, .slice A124 r122.2.length cA124]))⟩, ⟨[27, 28, 29], [], [], Fct.cond x204 (some 90) (Fct.val 90 (.bool r205))⟩, ⟨[27, 30], [], [], Fct.val 91 (.bool (x204 && r205))⟩, ⟨[31], [], [], Fct.val 4 (.bool (x204 && r205))⟩] hz188 hd188 (by kernel_rfl) ?_ ?_
  · refine sc (fun _ _ _ _ _ _ => px (or_call cf7 (args0) (law26_known_w _   r189 hr189) post_val)) ?_
    refine sc (fun _ _ _ f _ _ => px (or_move f.1)) ?_
    refine sc (fun _ _ _ f s _ => sg_t rfl rfl rfl f.1 (fun hg => or_move (s.1.trans e188_6))) ?_
    refine sc (fun _ _ _ f s hE => sg_t rfl rfl rfl f.1 (fun hg => or_load (l := [.slice A123 r122.1.length cA123, .slice A124 r122.2.length cA124]) ta25 (s.1.trans e188_2) (Blk.cellsFrom (be_ hE b188_g109).2 0 rfl) rfl)) ?_
    refine sc (fun own _ _ f _ hE => sg_t rfl rfl rfl f.1 (fun hg => or_call cf17 (args1 (f.2.1.1 hg)) (law15_Of_w _ (forth own (inL [125, 126, 127, 0, 128, 129])) r122 A123 cA123 A124 cA124 inL_le (RdO.alias_ (La := [125, 126, 127, 0, 128, 129]) (RwO.rd (re_ hE b188_A123)) (by decide)) (RdO.alias_ (La := [125, 126, 127, 0, 128, 129]) (RwO.rd (re_ hE b188_A124)) (by decide)) r190 (gd_t hr190 hg)) (post_alias (La := [125, 126, 127, 0, 128, 129]) (m' := (look0 [(1, 194), (2, 193), (3, 195), (4, 196)])) (fun own' w' a' x ho hsz h1 h => ⟨x, h1, ⟨RwO.backM_ ho h.1 (by decide) (by decide) (by decide) (by decide), RdO.backN_ ho hsz h.2 (by decide) (by decide) (by decide)⟩⟩)))) ?_
    refine sc (fun own a wx hf hsl hE => ?_) ?_
    · obtain ⟨f_61, c_64, -⟩ := hf
      refine sg_t rfl rfl rfl f_61 (fun hg => ?_)
      obtain ⟨⟨⟨A191, cA191⟩, ⟨A192, cA192⟩⟩, f_64, b_A191, b_A192⟩ := c_64.1 hg
      exact or_call cf18 (args1 f_64) (ref26_Bytes_w _ r190 A191 cA191 A192 cA192 (RdO.zero (RwO.rd b_A191)) (RdO.zero b_A192) r197 (gd_t hr197 hg)) (post_row (m' := (look0 [(1, 199)])) (.inl (Rep.fl_flat _)) rfl rfl (fun _ => rfl))
    refine sc (fun own a wx hf hsl hE => ?_) ?_
    · obtain ⟨f_61, c_62, c_65, -⟩ := hf
      refine sg_t rfl rfl rfl f_61 (fun hg => ?_)
      have f_62 := c_62.1 hg
      obtain ⟨⟨A198, cA198⟩, f_65, b_A198⟩ := c_65.1 hg
      exact or_call cf14 (args2 f_62 f_65) (ref07_Same_w _ r143.1 A144 cA144 r197 A198 cA198 (RdO.zero (RwO.rd (re_ hE b188_A144))) (RdO.zero (RwO.rd b_A198)) r200 (gd_t hr200 hg)) post_val
    refine sc (fun _ _ _ f _ _ => px (or_and f.1 (fun hx => f.2.1.1 hx) rfl rfl)) ?_
    refine sc (fun _ _ _ f _ _ => px (or_move f.1)) ?_
    refine sc (fun _ _ _ f s _ => sg_t rfl rfl rfl f.1 (fun hg => or_move (s.1.trans e188_10))) ?_
    refine sc (fun _ _ _ f _ _ => sg_t rfl rfl rfl f.1 (fun hg => or_eql (f.2.1.1 hg) rfl rfl)) ?_
    refine sc (fun _ _ _ f _ _ => px (or_and f.1 (fun hx => f.2.1.1 hx) rfl (osome hx201).symm)) ?_
    refine sc (fun _ _ _ f _ _ => px (or_move f.1)) ?_
    refine sc (fun _ _ _ f s _ => sg_t rfl rfl rfl f.1 (fun hg => or_move (s.1.trans e188_9))) ?_
    refine sc (fun _ _ _ f s _ => sg_t rfl rfl rfl f.1 (fun hg => or_move (s.1.trans e188_6))) ?_
    refine sc (fun _ _ _ f _ _ => sg_t rfl rfl rfl f.1 (fun hg => or_len tu33 (f.2.1.1 hg) rfl)) ?_
    refine sc (fun _ _ _ f _ _ => sg_t rfl rfl rfl f.1 (fun hg => or_eql (f.2.1.1 hg) (f.2.2.1.1 hg) rfl)) ?_
    refine sc (fun _ _ _ f _ _ => px (or_and f.1 (fun hx => f.2.1.1 hx) rfl (osome hx202).symm)) ?_
    refine sc (fun _ _ _ f _ _ => px (or_move f.1)) ?_
    refine sc (fun _ _ _ f s hE => sg_t rfl rfl rfl f.1 (fun hg => or_load (l := [.slice A168 r167.1.1.length cA168, .slice A169 r167.1.2.length cA169]) ta25 (s.1.trans e188_8) (Blk.cellsFrom (be_ hE b188_g174).2 0 rfl) rfl)) ?_
    refine sc (fun _ _ _ f s hE => sg_t rfl rfl rfl f.1 (fun hg => or_load (l := [.slice A123 r122.1.length cA123, .slice A124 r122.2.length cA124]) ta25 (s.1.trans e188_2) (Blk.cellsFrom (be_ hE b188_g109).2 0 rfl) rfl)) ?_
    refine sc (fun _ _ _ f _ hE => sg_t rfl rfl rfl f.1 (fun hg => or_call cf19 (args2 (f.2.1.1 hg) (f.2.2.1.1 hg)) (net_Same_w _ r167.1 A168 cA168 A169 cA169 r122 A123 cA123 A124 cA124 (RdO.zero (RwO.rd (re_ hE b188_A168))) (RdO.zero (RwO.rd (re_ hE b188_A169))) (RdO.zero (RwO.rd (re_ hE b188_A123))) (RdO.zero (RwO.rd (re_ hE b188_A124))) r203 (gd_t hr203 hg)) post_val)) ?_
    refine sc (fun _ _ _ f _ _ => px (or_and f.1 (fun hx => f.2.1.1 hx) rfl rfl)) ?_
    refine sc (fun _ _ _ f _ _ => px (or_move f.1)) ?_
    refine sc (fun _ _ _ f s _ => sg_t rfl rfl rfl f.1 (fun hg => or_move (s.1.trans e188_12))) ?_
    refine sc (fun _ _ _ f _ _ => sg_t rfl rfl rfl f.1 (fun hg => or_eql (f.2.1.1 hg) rfl rfl)) ?_
    refine sc (fun _ _ _ f _ _ => px (or_and f.1 (fun hx => f.2.1.1 hx) rfl (osome hx204).symm)) ?_
    refine sc (fun _ _ _ f _ _ => px (or_move f.1)) ?_
    refine sc (fun _ _ _ f s hE => sg_t rfl rfl rfl f.1 (fun hg => or_load (l := [.slice A179 r178.1.1.length cA179, .slice A180 r178.1.2.length cA180]) ta25 (s.1.trans e188_11) (Blk.cellsFrom (be_ hE b188_g185).2 0 rfl) rfl)) ?_
    refine sc (fun _ _ _ f s hE => sg_t rfl rfl rfl f.1 (fun hg => or_load (l := [.slice A123 r122.1.length cA123, .slice A124 r122.2.length cA124]) ta25 (s.1.trans e188_2) (Blk.cellsFrom (be_ hE b188_g109).2 0 rfl) rfl)) ?_
    refine sc (fun _ _ _ f _ hE => sg_t rfl rfl rfl f.1 (fun hg => or_call cf19 (args2 (f.2.1.1 hg) (f.2.2.1.1 hg)) (net_Same_w _ r178.1 A179 cA179 A180 cA180 r122 A123 cA123 A124 cA124 (RdO.zero (RwO.rd (re_ hE b188_A179))) (RdO.zero (RwO.rd (re_ hE b188_A180))) (RdO.zero (RwO.rd (re_ hE b188_A123))) (RdO.zero (RwO.rd (re_ hE b188_A124))) r205 (gd_t hr205 hg)) post_val)) ?_
    refine sc (fun _ _ _ f _ _ => px (or_and f.1 (fun hx => f.2.1.1 hx) rfl rfl)) ?_
    refine sc (fun _ _ _ f _ _ => px (or_assign f.1)) ?_
    exact steps_nil
  intro own206 a206 w206 hd206 hz206 hk206 hf206 hE206
  obtain ⟨(e206_4 : a206.eval (.tmp 4) = .bool (x204 && r205)), -⟩ := hf206 [32] rfl
  have hX206 := es_ hX188 hE206
  refine fl_ret ?_
  obtain rfl := osome hs
  exact hret _ _ _ _ (.inl rfl) hd206 (results1_ rfl (RVal.tmp_ e206_4)) ⟨own206, rfl, hX206⟩
end Go.Proofs.Ytaobbaohelpdgaa
