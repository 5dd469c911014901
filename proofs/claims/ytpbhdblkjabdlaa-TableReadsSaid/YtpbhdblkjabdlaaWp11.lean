import Derived.Test.YtpbhdblkjabdlaaWp2
import Derived.Test.YtpbhdblkjabdlaaWp4
import Derived.Test.YtpbhdblkjabdlaaWp5
import Derived.Test.YtpbhdblkjabdlaaWp6
import Derived.Test.YtpbhdblkjabdlaaSp11
namespace Go.Proofs.Ytpbhdblkjabdlaa
open Go.RowKit
set_option linter.unusedVariables false
set_option maxRecDepth 10000
theorem table_Find_w (w : World) (l1 : List (ByteArray × (Int × ByteArray × Int))) (Al1 : Option Addr) (cl1 : Nat) (key2 : ByteArray) (hl1 : RdO (fun _ => 0) [0] w R64 Al1 cl1 l1) (r : (Int × ByteArray × Int) × Bool) (hs : table_Find l1 key2 = some r) :
    Calls Try.prog 22 #[.slice Al1 l1.length cl1, .string key2] w fun e w' => ∃ own' : Own, e = .returned (.tuple #[.agg #[.int .i64 r.1.1, .string r.1.2.1, .int .i64 r.1.2.2], .bool r.2]) ∧ Evo [] (fun _ => 0) own' w w' := by
  refine fl_enter (n := 22) rfl rfl rfl (Nat.le_of_ble_eq_true rfl) ?_
  intro a0 Q hd0 hz0 harg hret
  have ha0 := harg 0 _ rfl
  have ha1 := harg 1 _ rfl
  clear harg
  have hE0 : Evo [] (fun _ => 0) (fun _ => 0) w w := Evo.refl _ _ _
  refine rg0_seq 22 (fun _ => 0) [0, 0] [⟨[], [], [], Fct.blk 70 4 (fun g => .pointer (some ⟨g, 0, none⟩)) 60 #[.int .i64 0, .string ByteArray.empty, .int .i64 0]⟩, ⟨[], [], [], Fct.val 5 (.bool false)⟩] hz0 hd0 (by kernel_rfl) ?_ ?_
  · refine sc (fun _ _ _ _ _ _ => px (or_new [] rfl rfl trivial (by kernel_rfl))) ?_
    refine sc (fun _ _ _ _ _ _ => px (or_assign rfl)) ?_
    exact steps_nil
  intro own71 a71 w71 hd71 hz71 hk71 hf71 hE71
  have e71_0 := (hk71 0 rfl).trans ha0
  have e71_1 := (hk71 1 rfl).trans ha1
  obtain ⟨⟨g69, (e71_4 : a71.eval (.tmp 4) = .pointer (some ⟨g69, 0, none⟩)), (b71_g69 : BlkO own71 70 w71 g69 60 #[.int .i64 0, .string ByteArray.empty, .int .i64 0])⟩, -⟩ := hf71 [0] rfl
  have hX71 := es_ hE0 hE71
  have b71_Al1 := RdO.evo rfl hE71 hl1
  refine fl_seq (fun Q72 hn72 hp72 => ?_)
  refine rg0_seq 22 own71 [0, 1, 0] [⟨[], [0], [], Fct.val 8 (.slice Al1 l1.length cl1)⟩, ⟨[0], [], [], Fct.val 9 (.int .i64 (l1.length : Int))⟩, ⟨[], [], [], Fct.val 10 (.int .i64 0)⟩] hz71 hd71 (by kernel_rfl) ?_ ?_
  · refine sc (fun _ _ _ _ s _ => px (or_move (s.1.trans e71_0))) ?_
    refine sc (fun _ _ _ f _ _ => px (or_len tu22 f.1 rfl)) ?_
    refine sc (fun _ _ _ _ _ _ => px (or_move rfl)) ?_
    exact steps_nil
  intro own73 a73 w73 hd73 hz73 hk73 hf73 hE73
  have e73_1 := (hk73 1 rfl).trans e71_1
  have e73_4 := (hk73 4 rfl).trans e71_4
  obtain ⟨(e73_8 : a73.eval (.tmp 8) = .slice Al1 l1.length cl1), (e73_9 : a73.eval (.tmp 9) = .int .i64 (l1.length : Int)), (e73_10 : a73.eval (.tmp 10) = .int .i64 0), -⟩ := hf73 [0, 1, 2] rfl
  have hX73 := es_ hX71 hE73
  have b73_Al1 := RdO.evo rfl hE73 b71_Al1
  have b73_g69 := be_ hE73 b71_g69
  refine fl_block (fun Q74 hn74 hx74 hp74 => ?_)
  refine fl_loop (body := (fun s => table_Find_b1 l1 key2 s)) (z := r) (show loopO _ _ = _ from hs) (fun (x91 : Int) a wx => ∃ (ox : Own), a.defers = [] ∧ a.tmps.size = 22 ∧ a.eval (.tmp 1) = .string key2 ∧ a.eval (.tmp 4) = .pointer (some ⟨g69, 0, none⟩) ∧ a.eval (.tmp 8) = .slice Al1 l1.length cl1 ∧ a.eval (.tmp 9) = .int .i64 (l1.length : Int) ∧ a.eval (.tmp 10) = .int .i64 x91 ∧ Evo [] (fun _ => 0) ox w wx ∧ BlkO ox 70 wx g69 60 #[.int .i64 0, .string ByteArray.empty, .int .i64 0] ∧ RdO ox [0] wx R64 Al1 cl1 l1) ?_ ?_
  · exact ⟨own73, hd73, hz73, e73_1, e73_4, e73_8, e73_9, e73_10, hX73, b73_g69, b73_Al1⟩
  · rintro x91 zz108 a108 w108 ⟨own108, hd109, hz109, e109_1, e109_4, e109_8, e109_9, e109_10, hE109, b109_g69, b109_Al1⟩ hs Q108 hn108 hp108 hz108
    have hs : table_Find_b1 l1 key2 x91 = some zz108 := hs
    refine rg0_seq 22 own108 (bz 1) [⟨[], [10, 9], [], Fct.val 11 (.bool (decide (x91 < (l1.length : Int))))⟩] hz109 hd109 (by kernel_rfl) ?_ ?_
    · refine sc (fun _ _ _ _ s _ => px (or_lss (s.1.trans e109_10) (s.2.1.trans e109_9) rfl)) ?_
      exact steps_nil
    intro own110 a110 w110 hd110 hz110 hk110 hf110 hE110
    have e110_1 := (hk110 1 rfl).trans e109_1
    have e110_4 := (hk110 4 rfl).trans e109_4
    have e110_8 := (hk110 8 rfl).trans e109_8
    have e110_9 := (hk110 9 rfl).trans e109_9
    have e110_10 := (hk110 10 rfl).trans e109_10
    obtain ⟨(e110_11 : a110.eval (.tmp 11) = .bool (decide (x91 < (l1.length : Int)))), -⟩ := hf110 [0] rfl
    have hX110 := es_ hE109 hE110
    have b110_g69 := be_ hE110 b109_g69
    have b110_Al1 := RdO.evo rfl hE110 b109_Al1
    refine fl_seq (fun Q111 hn111 hp111 => ?_)
    refine fl_cond e110_11 hs (fun c112 hs => ?_) (fun c112 hs => ?_)
    · refine fl_skip ?_
      refine hn111 _ _ ?_
      refine fl_seq (fun Q113 hn113 hp113 => ?_)
      refine fl_block (fun Q114 hn114 hx114 hp114 => ?_)
      obtain ⟨x115, hx115, hs⟩ := obind hs
      refine rg_plain_seq (n := 22) (rs := []) (own0 := own110) (K := [117]) (bs := [0, 1, 0, 7]) (ds := [⟨[], [8, 10], [], Fct.val 12 (.pointer (some ((adr Al1).add ((x91 : Int).toNat * R64.s))))⟩, ⟨[0], [], [], Fct.val 13 (.agg #[.string x115.1, .int .i64 x115.2.1, .string x115.2.2.1, .int .i64 x115.2.2.2])⟩, ⟨[], [], [], Fct.blk 117 7 (fun g => .pointer (some ⟨g, 0, none⟩)) 64 #[.string ByteArray.empty, .int .i64 0, .string ByteArray.empty, .int .i64 0]⟩, ⟨[2, 1], [], [117], Fct.blk 118 7 (fun g => .pointer (some ⟨g, 0, none⟩)) 64 #[.string x115.1, .int .i64 x115.2.1, .string x115.2.2.1, .int .i64 x115.2.2.2]⟩]) (by kernel_rfl) hz110 hd110 nm_ ?_ ?_
      · refine sc (fun _ _ _ _ s _ => px (or_index (R := R64) (l := l1) tl22 (s.1.trans e110_8) (s.2.1.trans e110_10) (RdO.some_ b110_Al1 hx115) hx115)) ?_
        refine sc (fun _ _ _ f _ hE => px (or_load (l := E64.f x115) ta64 f.1 (RdO.cells (F := E64) (RdO.evo rfl hE b110_Al1) hx115) rfl)) ?_
        refine sc (fun _ _ _ _ _ _ => px (or_new [] rfl rfl trivial (by kernel_rfl))) ?_
        refine sc (fun own a wx hf hsl hE => ?_) ?_
        · obtain ⟨⟨g116, f_7, b_g116⟩, f_13, -⟩ := hf
          exact px (or_store (l := #[.string x115.1, .int .i64 x115.2.1, .string x115.2.2.1, .int .i64 x115.2.2.2]) (lab := 117) (lab2 := 118) ts64 f_7 f_13 b_g116 (by simp) (by kernel_rfl) (mem_of rfl) (by decide) (by kernel_rfl) (fun own' a' w' ha hb => ⟨_, (ha 7).trans f_7, hb⟩))
        exact steps_nil
      intro own119 a119 w119 hd119 hz119 hk119 hf119 hE119
      have e119_1 := (hk119 1 rfl).trans e110_1
      have e119_4 := (hk119 4 rfl).trans e110_4
      have e119_8 := (hk119 8 rfl).trans e110_8
      have e119_9 := (hk119 9 rfl).trans e110_9
      have e119_10 := (hk119 10 rfl).trans e110_10
      obtain ⟨⟨g116, (e119_7 : a119.eval (.tmp 7) = .pointer (some ⟨g116, 0, none⟩)), (b119_g116 : BlkO own119 118 w119 g116 64 #[.string x115.1, .int .i64 x115.2.1, .string x115.2.2.1, .int .i64 x115.2.2.2])⟩, -⟩ := hf119 [3] rfl
      have hX119 := es_ hX110 hE119
      have b119_g69 := be_ hE119 b110_g69
      have b119_Al1 := RdO.evo rfl hE119 b110_Al1
      refine rg0_seq 22 own119 [0, 1, 0, 7] [⟨[], [7], [], Fct.val 14 (.pointer (some ⟨g116, 0, none⟩))⟩, ⟨[0], [], [], Fct.val 15 (.string x115.1)⟩, ⟨[], [1], [], Fct.val 16 (.string key2)⟩, ⟨[1, 2], [], [], Fct.val 17 (.bool (eqS x115.1 key2))⟩] hz119 hd119 (by kernel_rfl) ?_ ?_
      · refine sc (fun _ _ _ _ s _ => px (or_field fo64_0 (s.1.trans e119_7) (by rfl))) ?_
        refine sc (fun _ _ _ f _ hE => px (or_load1 to9 f.1 (Blk.at_ (be_ hE b119_g116).2 0 rfl))) ?_
        refine sc (fun _ _ _ _ s _ => px (or_move (s.1.trans e119_1))) ?_
        refine sc (fun _ _ _ f _ _ => px (or_eqlS tS9 f.1 f.2.1 rfl)) ?_
        exact steps_nil
      intro own120 a120 w120 hd120 hz120 hk120 hf120 hE120
      have e120_1 := (hk120 1 rfl).trans e119_1
      have e120_4 := (hk120 4 rfl).trans e119_4
      have e120_7 := (hk120 7 rfl).trans e119_7
      have e120_8 := (hk120 8 rfl).trans e119_8
      have e120_9 := (hk120 9 rfl).trans e119_9
      have e120_10 := (hk120 10 rfl).trans e119_10
      obtain ⟨(e120_17 : a120.eval (.tmp 17) = .bool (eqS x115.1 key2)), -⟩ := hf120 [3] rfl
      have hX120 := es_ hX119 hE120
      have b120_g69 := be_ hE120 b119_g69
      have b120_Al1 := RdO.evo rfl hE120 b119_Al1
      have b120_g116 := be_ hE120 b119_g116
      refine fl_cond e120_17 hs (fun c121 hs => ?_) (fun c121 hs => ?_)
      · refine rg_plain_seq (n := 22) (rs := [Fct.at_ 70 g69 60 #[.int .i64 0, .string ByteArray.empty, .int .i64 0]]) (own0 := own120) (K := [70]) (bs := (bz 4)) (ds := [⟨[], [7], [], Fct.val 18 (.pointer (some ⟨g116, 1, none⟩))⟩, ⟨[0], [], [], Fct.val 19 (.agg #[.int .i64 x115.2.1, .string x115.2.2.1, .int .i64 x115.2.2.2])⟩, ⟨[1, 4], [4], [70], Fct.at_ 122 g69 60 #[.int .i64 x115.2.1, .string x115.2.2.1, .int .i64 x115.2.2.2]⟩, ⟨[], [], [], Fct.val 5 (.bool true)⟩]) (by kernel_rfl) hz120 hd120 (by simp only [List.forall_mem_cons]; exact ⟨b120_g69, fun _ h => nomatch h⟩) ?_ ?_
        · refine sc (fun _ _ _ _ s _ => px (or_field fo64_1 (s.1.trans e120_7) (by rfl))) ?_
          refine sc (fun _ _ _ f _ hE => px (or_load (l := [.int .i64 x115.2.1, .string x115.2.2.1, .int .i64 x115.2.2.2]) ta60 f.1 (Blk.cellsFrom (be_ hE b120_g116).2 1 rfl) rfl)) ?_
          refine sc (fun own a wx hf hsl hE => ?_) ?_
          · obtain ⟨f_19, b_g69, -⟩ := hf
            obtain ⟨s_4, -⟩ := hsl
            exact px (or_store (l := #[.int .i64 x115.2.1, .string x115.2.2.1, .int .i64 x115.2.2.2]) (lab := 70) (lab2 := 122) ts60 (s_4.trans e120_4) f_19 b_g69 (by simp) (by kernel_rfl) (mem_of rfl) (by decide) (by kernel_rfl) (fun own' a' w' ha hb => hb))
          refine sc (fun _ _ _ _ _ _ => px (or_assign rfl)) ?_
          exact steps_nil
        intro own123 a123 w123 hd123 hz123 hk123 hf123 hE123
        have e123_4 := (hk123 4 rfl).trans e120_4
        obtain ⟨(e123_5 : a123.eval (.tmp 5) = .bool true), (b123_g69 : BlkO own123 122 w123 g69 60 #[.int .i64 x115.2.1, .string x115.2.2.1, .int .i64 x115.2.2.2]), -⟩ := hf123 [3, 2] rfl
        have hX123 := es_ hX120 hE123
        refine fl_ret ?_
        refine hp114 _ _ _ rfl ?_
        refine hp113 _ _ _ rfl ?_
        replace hs := hz108 _ hs
        refine hp108 _ _ _ rfl ?_
        refine hp74 _ _ _ rfl ?_
        refine hp72 _ _ _ rfl ?_
        obtain rfl := osome hs
        exact hret _ _ _ _ (.inl rfl) hd123 (results2_ rfl (RVal.cell_ e123_4 (run_loadVarAgg (l := [.int .i64 x115.2.1, .string x115.2.2.1, .int .i64 x115.2.2.2]) ta60 (Blk.cellsFrom b123_g69.2 0 rfl) rfl)) (RVal.tmp_ e123_5)) ⟨own123, rfl, hX123⟩
      refine fl_skip ?_
      refine hn114 _ _ ?_
      refine hn113 _ _ ?_
      refine rg0 22 own120 (bz 2) [⟨[], [10], [], Fct.val 20 (.int .i64 (ad x91 1))⟩, ⟨[0], [], [], Fct.val 10 (.int .i64 (ad x91 1))⟩] hz120 hd120 (by kernel_rfl) ?_ ?_
      · refine sc (fun _ _ _ _ s _ => px (or_add (s.1.trans e120_10) rfl rfl)) ?_
        refine sc (fun _ _ _ f _ _ => px (or_move f.1)) ?_
        exact steps_nil
      intro own124 a124 w124 hd124 hz124 hk124 hf124 hE124
      have e124_1 := (hk124 1 rfl).trans e120_1
      have e124_4 := (hk124 4 rfl).trans e120_4
      have e124_8 := (hk124 8 rfl).trans e120_8
      have e124_9 := (hk124 9 rfl).trans e120_9
      obtain ⟨(e124_10 : a124.eval (.tmp 10) = .int .i64 (ad x91 1)), -⟩ := hf124 [1] rfl
      have hX124 := es_ hX120 hE124
      have b124_g69 := be_ hE124 b120_g69
      have b124_Al1 := RdO.evo rfl hE124 b120_Al1
      exact hn108 _ _ _ hs ⟨own124, hd124, hz124, e124_1, e124_4, e124_8, e124_9, e124_10, hX124, b124_g69, b124_Al1⟩
    refine fl_exit ?_
    refine hp111 _ _ _ rfl ?_
    replace hs := hz108 _ hs
    refine hp108 _ _ _ rfl ?_
    refine hx74 _ _ ?_
    refine hn72 _ _ ?_
    refine rg_plain_seq (n := 22) (rs := [Fct.at_ 70 g69 60 #[.int .i64 0, .string ByteArray.empty, .int .i64 0]]) (own0 := own110) (K := [70]) (bs := (bz 3)) (ds := [⟨[], [], [], Fct.val 21 (.agg #[.int .i64 0, .string ByteArray.empty, .int .i64 0])⟩, ⟨[0, 3], [4], [70], Fct.at_ 125 g69 60 #[.int .i64 0, .string ByteArray.empty, .int .i64 0]⟩, ⟨[], [], [], Fct.val 5 (.bool false)⟩]) (by kernel_rfl) hz110 hd110 (by simp only [List.forall_mem_cons]; exact ⟨b110_g69, fun _ h => nomatch h⟩) ?_ ?_
    · refine sc (fun _ _ _ _ _ _ => px (or_k [] rfl rfl trivial (by kernel_rfl))) ?_
      refine sc (fun own a wx hf hsl hE => ?_) ?_
      · obtain ⟨f_21, b_g69, -⟩ := hf
        obtain ⟨s_4, -⟩ := hsl
        exact px (or_store (l := #[.int .i64 0, .string ByteArray.empty, .int .i64 0]) (lab := 70) (lab2 := 125) ts60 (s_4.trans e110_4) f_21 b_g69 (by simp) (by kernel_rfl) (mem_of rfl) (by decide) (by kernel_rfl) (fun own' a' w' ha hb => hb))
      refine sc (fun _ _ _ _ _ _ => px (or_assign rfl)) ?_
      exact steps_nil
    intro own126 a126 w126 hd126 hz126 hk126 hf126 hE126
    have e126_4 := (hk126 4 rfl).trans e110_4
    obtain ⟨(e126_5 : a126.eval (.tmp 5) = .bool false), (b126_g69 : BlkO own126 125 w126 g69 60 #[.int .i64 0, .string ByteArray.empty, .int .i64 0]), -⟩ := hf126 [2, 1] rfl
    have hX126 := es_ hX110 hE126
    refine fl_ret ?_
    obtain rfl := osome hs
    exact hret _ _ _ _ (.inl rfl) hd126 (results2_ rfl (RVal.cell_ e126_4 (run_loadVarAgg (l := [.int .i64 0, .string ByteArray.empty, .int .i64 0]) ta60 (Blk.cellsFrom b126_g69.2 0 rfl) rfl)) (RVal.tmp_ e126_5)) ⟨own126, rfl, hX126⟩
theorem law11_Same_w (w : World) (l1 : List (ByteArray × (Int × ByteArray × Int))) (Al1 : Option Addr) (cl1 : Nat) (x2 : List (ByteArray × (Int × ByteArray × Int))) (Ax2 : Option Addr) (cx2 : Nat) (hl1 : RdO (fun _ => 0) [0] w R64 Al1 cl1 l1) (hx2 : RdO (fun _ => 0) [0] w R77 Ax2 cx2 x2) (r : Bool) (hs : law11_Same l1 x2 = some r) :
    Calls Try.prog 23 #[.slice Al1 l1.length cl1, .slice Ax2 x2.length cx2] w fun e w' => ∃ own' : Own, e = .returned (.bool r) ∧ Evo [] (fun _ => 0) own' w w' := by
  refine fl_enter (n := 41) rfl rfl rfl (Nat.le_of_ble_eq_true rfl) ?_
  intro a0 Q hd0 hz0 harg hret
  have ha0 := harg 0 _ rfl
  have ha1 := harg 1 _ rfl
  clear harg
  have hE0 : Evo [] (fun _ => 0) (fun _ => 0) w w := Evo.refl _ _ _
  refine rg0_seq 41 (fun _ => 0) (bz 1) [⟨[], [], [], Fct.val 4 (.bool false)⟩] hz0 hd0 (by kernel_rfl) ?_ ?_
  · refine sc (fun _ _ _ _ _ _ => px (or_assign rfl)) ?_
    exact steps_nil
  intro own67 a67 w67 hd67 hz67 hk67 hf67 hE67
  have e67_0 := (hk67 0 rfl).trans ha0
  have e67_1 := (hk67 1 rfl).trans ha1
  have hX67 := es_ hE0 hE67
  have b67_Al1 := RdO.evo rfl hE67 hl1
  have b67_Ax2 := RdO.evo rfl hE67 hx2
  refine fl_seq (fun Q68 hn68 hp68 => ?_)
  refine rg0_seq 41 own67 [0, 1, 0, 4, 15] [⟨[], [0], [], Fct.val 6 (.slice Al1 l1.length cl1)⟩, ⟨[0], [], [], Fct.val 7 (.int .i64 (l1.length : Int))⟩, ⟨[], [1], [], Fct.val 8 (.slice Ax2 x2.length cx2)⟩, ⟨[2], [], [], Fct.val 9 (.int .i64 (x2.length : Int))⟩, ⟨[1, 3], [], [], Fct.val 10 (.bool (!decide ((l1.length : Int) = (x2.length : Int))))⟩] hz67 hd67 (by kernel_rfl) ?_ ?_
  · refine sc (fun _ _ _ _ s _ => px (or_move (s.1.trans e67_0))) ?_
    refine sc (fun _ _ _ f _ _ => px (or_len tu22 f.1 rfl)) ?_
    refine sc (fun _ _ _ _ s _ => px (or_move (s.1.trans e67_1))) ?_
    refine sc (fun _ _ _ f _ _ => px (or_len tu31 f.1 rfl)) ?_
    refine sc (fun _ _ _ f _ _ => px (or_neq f.1 f.2.1 rfl)) ?_
    exact steps_nil
  intro own69 a69 w69 hd69 hz69 hk69 hf69 hE69
  have e69_0 := (hk69 0 rfl).trans e67_0
  have e69_1 := (hk69 1 rfl).trans e67_1
  obtain ⟨(e69_10 : a69.eval (.tmp 10) = .bool (!decide ((l1.length : Int) = (x2.length : Int)))), -⟩ := hf69 [4] rfl
  have hX69 := es_ hX67 hE69
  have b69_Al1 := RdO.evo rfl hE69 b67_Al1
  have b69_Ax2 := RdO.evo rfl hE69 b67_Ax2
  refine fl_cond e69_10 hs (fun c70 hs => ?_) (fun c70 hs => ?_)
  · refine rg0_seq 41 own69 (bz 1) [⟨[], [], [], Fct.val 4 (.bool false)⟩] hz69 hd69 (by kernel_rfl) ?_ ?_
    · refine sc (fun _ _ _ _ _ _ => px (or_assign rfl)) ?_
      exact steps_nil
    intro own71 a71 w71 hd71 hz71 hk71 hf71 hE71
    obtain ⟨(e71_4 : a71.eval (.tmp 4) = .bool false), -⟩ := hf71 [0] rfl
    have hX71 := es_ hX69 hE71
    refine fl_ret ?_
    refine hp68 _ _ _ rfl ?_
    obtain rfl := osome hs
    exact hret _ _ _ _ (.inl rfl) hd71 (results1_ rfl (RVal.tmp_ e71_4)) ⟨own71, rfl, hX71⟩
  refine fl_skip ?_
  refine hn68 _ _ ?_
  refine fl_seq (fun Q72 hn72 hp72 => ?_)
  refine rg0_seq 41 own69 (bz 1) [⟨[], [], [], Fct.val 5 (.int .i64 0)⟩] hz69 hd69 (by kernel_rfl) ?_ ?_
  · refine sc (fun _ _ _ _ _ _ => px (or_assign rfl)) ?_
    exact steps_nil
  intro own73 a73 w73 hd73 hz73 hk73 hf73 hE73
  have e73_0 := (hk73 0 rfl).trans e69_0
  have e73_1 := (hk73 1 rfl).trans e69_1
  obtain ⟨(e73_5 : a73.eval (.tmp 5) = .int .i64 0), -⟩ := hf73 [0] rfl
  have hX73 := es_ hX69 hE73
  have b73_Al1 := RdO.evo rfl hE73 b69_Al1
  have b73_Ax2 := RdO.evo rfl hE73 b69_Ax2
  refine fl_block (fun Q74 hn74 hx74 hp74 => ?_)
  refine fl_loop (body := (fun s => law11_Same_b1 l1 x2 s)) (z := r) (show loopO _ _ = _ from hs) (fun (i90 : Int) a wx => ∃ (ox : Own), a.defers = [] ∧ a.tmps.size = 41 ∧ a.eval (.tmp 0) = .slice Al1 l1.length cl1 ∧ a.eval (.tmp 1) = .slice Ax2 x2.length cx2 ∧ a.eval (.tmp 5) = .int .i64 i90 ∧ Evo [] (fun _ => 0) ox w wx ∧ RdO ox [0] wx R64 Al1 cl1 l1 ∧ RdO ox [0] wx R77 Ax2 cx2 x2) ?_ ?_
  · exact ⟨own73, hd73, hz73, e73_0, e73_1, e73_5, hX73, b73_Al1, b73_Ax2⟩
  · rintro i90 zz106 a106 w106 ⟨own106, hd107, hz107, e107_0, e107_1, e107_5, hE107, b107_Al1, b107_Ax2⟩ hs Q106 hn106 hp106 hz106
    have hs : law11_Same_b1 l1 x2 i90 = some zz106 := hs
    refine fl_seq (fun Q108 hn108 hp108 => ?_)
    refine rg0_seq 41 own106 [0, 0, 2, 7] [⟨[], [5], [], Fct.val 11 (.int .i64 i90)⟩, ⟨[], [0], [], Fct.val 12 (.slice Al1 l1.length cl1)⟩, ⟨[1], [], [], Fct.val 13 (.int .i64 (l1.length : Int))⟩, ⟨[0, 2], [], [], Fct.val 14 (.bool (decide (i90 < (l1.length : Int))))⟩] hz107 hd107 (by kernel_rfl) ?_ ?_
    · refine sc (fun _ _ _ _ s _ => px (or_move (s.1.trans e107_5))) ?_
      refine sc (fun _ _ _ _ s _ => px (or_move (s.1.trans e107_0))) ?_
      refine sc (fun _ _ _ f _ _ => px (or_len tu22 f.1 rfl)) ?_
      refine sc (fun _ _ _ f _ _ => px (or_lss f.1 f.2.1 rfl)) ?_
      exact steps_nil
    intro own109 a109 w109 hd109 hz109 hk109 hf109 hE109
    have e109_0 := (hk109 0 rfl).trans e107_0
    have e109_1 := (hk109 1 rfl).trans e107_1
    have e109_5 := (hk109 5 rfl).trans e107_5
    obtain ⟨(e109_14 : a109.eval (.tmp 14) = .bool (decide (i90 < (l1.length : Int)))), -⟩ := hf109 [3] rfl
    have hX109 := es_ hE107 hE109
    have b109_Al1 := RdO.evo rfl hE109 b107_Al1
    have b109_Ax2 := RdO.evo rfl hE109 b107_Ax2
    refine fl_cond e109_14 hs (fun c110 hs => ?_) (fun c110 hs => ?_)
    · refine fl_skip ?_
      refine hn108 _ _ ?_
      refine fl_seq (fun Q111 hn111 hp111 => ?_)
      refine fl_block (fun Q112 hn112 hx112 hp112 => ?_)
      obtain ⟨x113, hx113, hs⟩ := obind hs
      obtain ⟨x114, hx114, hs⟩ := obind hs
      obtain ⟨x115, hx115, hs⟩ := obind hs
      obtain ⟨x116, hx116, hs⟩ := obind hs
      obtain ⟨x117, hx117, hs⟩ := obind hs
      refine rg_draw_seq g_mixed (n := 41) (rs := []) (own0 := own109) (K := []) (bs := [0, 0, 3, 7, 15, 0, 0, 96, 224, 480, 1023, 2047, 4095, 4095, 16383, 32767, 65535, 4095, 4095, 397311, 921599, 1970175, 4194303, 8388607]) (ds := [⟨[], [0], [], Fct.val 17 (.slice Al1 l1.length cl1)⟩, ⟨[], [5], [], Fct.val 18 (.int .i64 i90)⟩, ⟨[0, 1], [], [], Fct.val 19 (.pointer (some ((adr Al1).add ((i90 : Int).toNat * R64.s))))⟩, ⟨[2], [], [], Fct.val 20 (.pointer (some ((adr Al1).add ((i90 : Int).toNat * R64.s))))⟩, ⟨[3], [], [], Fct.val 21 (.string x113.1)⟩, ⟨[], [1], [], Fct.val 22 (.slice Ax2 x2.length cx2)⟩, ⟨[], [5], [], Fct.val 23 (.int .i64 i90)⟩, ⟨[5, 6], [], [], Fct.val 24 (.pointer (some ((adr Ax2).add ((i90 : Int).toNat * R77.s))))⟩, ⟨[7], [], [], Fct.val 25 (.pointer (some ((adr Ax2).add ((i90 : Int).toNat * R77.s))))⟩, ⟨[8], [], [], Fct.val 26 (.string x114.1)⟩, ⟨[4, 9], [], [], Fct.val 27 (.bool (!eqS x113.1 x114.1))⟩, ⟨[10], [], [], Fct.val 28 (.bool (!eqS x113.1 x114.1))⟩, ⟨[11], [0], [], Fct.cond (!(!eqS x113.1 x114.1)) (some 29) (Fct.val 29 (.slice Al1 l1.length cl1))⟩, ⟨[11], [5], [], Fct.cond (!(!eqS x113.1 x114.1)) (some 30) (Fct.val 30 (.int .i64 i90))⟩, ⟨[11, 12, 13], [], [], Fct.cond (!(!eqS x113.1 x114.1)) (some 31) (Fct.val 31 (.pointer (some ((adr Al1).add ((i90 : Int).toNat * R64.s)))))⟩, ⟨[11, 14], [], [], Fct.cond (!(!eqS x113.1 x114.1)) (some 32) (Fct.val 32 (.pointer (some (((adr Al1).add ((i90 : Int).toNat * R64.s)).add 1))))⟩, ⟨[11, 15], [], [], Fct.cond (!(!eqS x113.1 x114.1)) (some 33) (Fct.val 33 (.agg #[.int .i64 x115.2.1, .string x115.2.2.1, .int .i64 x115.2.2.2]))⟩, ⟨[11], [1], [], Fct.cond (!(!eqS x113.1 x114.1)) (some 34) (Fct.val 34 (.slice Ax2 x2.length cx2))⟩, ⟨[11], [5], [], Fct.cond (!(!eqS x113.1 x114.1)) (some 35) (Fct.val 35 (.int .i64 i90))⟩, ⟨[11, 17, 18], [], [], Fct.cond (!(!eqS x113.1 x114.1)) (some 36) (Fct.val 36 (.pointer (some ((adr Ax2).add ((i90 : Int).toNat * R77.s)))))⟩, ⟨[11, 19], [], [], Fct.cond (!(!eqS x113.1 x114.1)) (some 37) (Fct.val 37 (.pointer (some (((adr Ax2).add ((i90 : Int).toNat * R77.s)).add 1))))⟩, ⟨[11, 20], [], [], Fct.cond (!(!eqS x113.1 x114.1)) (some 38) (Fct.val 38 (.agg #[.int .i64 x116.2.1, .string x116.2.2.1, .int .i64 x116.2.2.2]))⟩, ⟨[11, 16, 21], [], [], Fct.cond (!(!eqS x113.1 x114.1)) (some 39) (Fct.val 39 (.bool (!decide (x115.2 = x116.2))))⟩, ⟨[11, 22], [], [], Fct.val 40 (.bool x117)⟩]) (by kernel_rfl) hz109 hd109 nm_ ?_ ?_
      · refine sc (fun _ _ _ _ s _ => px (or_move (s.1.trans e109_0))) ?_
        refine sc (fun _ _ _ _ s _ => px (or_move (s.1.trans e109_5))) ?_
        refine sc (fun _ _ _ f _ _ => px (or_index (R := R64) (l := l1) tl22 f.1 f.2.1 (RdO.some_ b109_Al1 hx113) hx113)) ?_
        refine sc (fun _ _ _ f _ _ => px (or_field fo64_0 f.1 (Addr.add_zero' _))) ?_
        refine sc (fun _ _ _ f _ hE => px (or_load1 to9 f.1 (CellsAt.zero (RdO.cells (F := E64) (RdO.evo rfl hE b109_Al1) hx113) rfl))) ?_
        refine sc (fun _ _ _ _ s _ => px (or_move (s.1.trans e109_1))) ?_
        refine sc (fun _ _ _ _ s _ => px (or_move (s.1.trans e109_5))) ?_
        refine sc (fun _ _ _ f _ _ => px (or_index (R := R77) (l := x2) tl31 f.1 f.2.1 (RdO.some_ b109_Ax2 hx114) hx114)) ?_
        refine sc (fun _ _ _ f _ _ => px (or_field fo77_0 f.1 (Addr.add_zero' _))) ?_
        refine sc (fun _ _ _ f _ hE => px (or_load1 to9 f.1 (CellsAt.zero (RdO.cells (F := E77) (RdO.evo rfl hE b109_Ax2) hx114) rfl))) ?_
        refine sc (fun _ _ _ f _ _ => px (or_neqS tS9 f.1 f.2.1 rfl)) ?_
        refine sc (fun _ _ _ f _ _ => px (or_move f.1)) ?_
        refine sc (fun _ _ _ f s _ => sg_f rfl rfl rfl f.1 (fun hg => or_move (s.1.trans e109_0))) ?_
        refine sc (fun _ _ _ f s _ => sg_f rfl rfl rfl f.1 (fun hg => or_move (s.1.trans e109_5))) ?_
        refine sc (fun _ _ _ f _ _ => sg_f rfl rfl rfl f.1 (fun hg => or_index (R := R64) (l := l1) tl22 (f.2.1.1 hg) (f.2.2.1.1 hg) (RdO.some_ b109_Al1 (gd_t hx115 hg)) (gd_t hx115 hg))) ?_
        refine sc (fun _ _ _ f _ _ => sg_f rfl rfl rfl f.1 (fun hg => or_field fo64_1 (f.2.1.1 hg) rfl)) ?_
        refine sc (fun _ _ _ f _ hE => sg_f rfl rfl rfl f.1 (fun hg => or_load (l := [.int .i64 x115.2.1, .string x115.2.2.1, .int .i64 x115.2.2.2]) ta60 (f.2.1.1 hg) (CellsAt.part (RdO.cells (F := E64) (RdO.evo rfl hE b109_Al1) (gd_t hx115 hg)) 1 rfl) rfl)) ?_
        refine sc (fun _ _ _ f s _ => sg_f rfl rfl rfl f.1 (fun hg => or_move (s.1.trans e109_1))) ?_
        refine sc (fun _ _ _ f s _ => sg_f rfl rfl rfl f.1 (fun hg => or_move (s.1.trans e109_5))) ?_
        refine sc (fun _ _ _ f _ _ => sg_f rfl rfl rfl f.1 (fun hg => or_index (R := R77) (l := x2) tl31 (f.2.1.1 hg) (f.2.2.1.1 hg) (RdO.some_ b109_Ax2 (gd_t hx116 hg)) (gd_t hx116 hg))) ?_
        refine sc (fun _ _ _ f _ _ => sg_f rfl rfl rfl f.1 (fun hg => or_field fo77_1 (f.2.1.1 hg) rfl)) ?_
        refine sc (fun _ _ _ f _ hE => sg_f rfl rfl rfl f.1 (fun hg => or_load (l := [.int .i64 x116.2.1, .string x116.2.2.1, .int .i64 x116.2.2.2]) ta75 (f.2.1.1 hg) (CellsAt.part (RdO.cells (F := E77) (RdO.evo rfl hE b109_Ax2) (gd_t hx116 hg)) 1 rfl) rfl)) ?_
        refine sc (fun _ _ _ f _ _ => sg_f rfl rfl rfl f.1 (fun hg => or_neqA sg75 (f.2.1.1 hg) (f.2.2.1.1 hg) (sn75 x115.2.1 x115.2.2.1 x115.2.2.2 x116.2.1 x116.2.2.1 x116.2.2.2 _) rfl)) ?_
        refine sc (fun _ _ _ f _ _ => px (or_or f.1 rfl (fun hx => f.2.1.1 hx) (osome hx117).symm)) ?_
        exact steps_nil
      intro own118 a118 w118 hd118 hz118 hk118 hf118 hE118
      have e118_0 := (hk118 0 rfl).trans e109_0
      have e118_1 := (hk118 1 rfl).trans e109_1
      have e118_5 := (hk118 5 rfl).trans e109_5
      obtain ⟨(e118_40 : a118.eval (.tmp 40) = .bool x117), -⟩ := hf118 [23] rfl
      have hX118 := es_ hX109 hE118
      have b118_Al1 := RdO.evo rfl hE118 b109_Al1
      have b118_Ax2 := RdO.evo rfl hE118 b109_Ax2
      refine fl_cond e118_40 hs (fun c119 hs => ?_) (fun c119 hs => ?_)
      · refine rg0_seq 41 own118 (bz 1) [⟨[], [], [], Fct.val 4 (.bool false)⟩] hz118 hd118 (by kernel_rfl) ?_ ?_
        · refine sc (fun _ _ _ _ _ _ => px (or_assign rfl)) ?_
          exact steps_nil
        intro own120 a120 w120 hd120 hz120 hk120 hf120 hE120
        obtain ⟨(e120_4 : a120.eval (.tmp 4) = .bool false), -⟩ := hf120 [0] rfl
        have hX120 := es_ hX118 hE120
        refine fl_ret ?_
        refine hp112 _ _ _ rfl ?_
        refine hp111 _ _ _ rfl ?_
        replace hs := hz106 _ hs
        refine hp106 _ _ _ rfl ?_
        refine hp74 _ _ _ rfl ?_
        refine hp72 _ _ _ rfl ?_
        obtain rfl := osome hs
        exact hret _ _ _ _ (.inl rfl) hd120 (results1_ rfl (RVal.tmp_ e120_4)) ⟨own120, rfl, hX120⟩
      refine fl_skip ?_
      refine hn112 _ _ ?_
      refine hn111 _ _ ?_
      refine rg0 41 own118 (bz 3) [⟨[], [5], [], Fct.val 15 (.int .i64 i90)⟩, ⟨[0], [], [], Fct.val 16 (.int .i64 (ad i90 1))⟩, ⟨[1], [], [], Fct.val 5 (.int .i64 (ad i90 1))⟩] hz118 hd118 (by kernel_rfl) ?_ ?_
      · refine sc (fun _ _ _ _ s _ => px (or_move (s.1.trans e118_5))) ?_
        refine sc (fun _ _ _ f _ _ => px (or_add f.1 rfl rfl)) ?_
        refine sc (fun _ _ _ f _ _ => px (or_assign f.1)) ?_
        exact steps_nil
      intro own121 a121 w121 hd121 hz121 hk121 hf121 hE121
      have e121_0 := (hk121 0 rfl).trans e118_0
      have e121_1 := (hk121 1 rfl).trans e118_1
      obtain ⟨(e121_5 : a121.eval (.tmp 5) = .int .i64 (ad i90 1)), -⟩ := hf121 [2] rfl
      have hX121 := es_ hX118 hE121
      have b121_Al1 := RdO.evo rfl hE121 b118_Al1
      have b121_Ax2 := RdO.evo rfl hE121 b118_Ax2
      exact hn106 _ _ _ hs ⟨own121, hd121, hz121, e121_0, e121_1, e121_5, hX121, b121_Al1, b121_Ax2⟩
    refine fl_exit ?_
    refine hp108 _ _ _ rfl ?_
    replace hs := hz106 _ hs
    refine hp106 _ _ _ rfl ?_
    refine hx74 _ _ ?_
    refine hn72 _ _ ?_
    refine rg0_seq 41 own109 (bz 1) [⟨[], [], [], Fct.val 4 (.bool true)⟩] hz109 hd109 (by kernel_rfl) ?_ ?_
    · refine sc (fun _ _ _ _ _ _ => px (or_assign rfl)) ?_
      exact steps_nil
    intro own122 a122 w122 hd122 hz122 hk122 hf122 hE122
    obtain ⟨(e122_4 : a122.eval (.tmp 4) = .bool true), -⟩ := hf122 [0] rfl
    have hX122 := es_ hX109 hE122
    refine fl_ret ?_
    obtain rfl := osome hs
    exact hret _ _ _ _ (.inl rfl) hd122 (results1_ rfl (RVal.tmp_ e122_4)) ⟨own122, rfl, hX122⟩
theorem slices_Clone_table_Attr_table_Attr_w (w : World) (s1 : List (ByteArray × (Int × ByteArray × Int))) (As1 : Option Addr) (cs1 : Nat) (hs1 : RdO (fun _ => 0) [0] w R64 As1 cs1 s1) (r : List (ByteArray × (Int × ByteArray × Int))) (hs : slices_Clone_table_Attr_table_Attr s1 = some r) :
    Calls Try.prog 40 #[.slice As1 s1.length cs1] w fun e w' => ∃ (own' : Own) (x : Option Addr × Nat), e = .returned (.slice x.1 r.length x.2) ∧ Evo [] (fun _ => 0) own' w w' ∧ RwO own' 1 [] w' 64 R64 x.1 x.2 r := by
  refine fl_enter (n := 8) rfl rfl rfl (Nat.le_of_ble_eq_true rfl) ?_
  intro a0 Q hd0 hz0 harg hret
  have ha0 := harg 0 _ rfl
  clear harg
  have hE0 : Evo [] (fun _ => 0) (fun _ => 0) w w := Evo.refl _ _ _
  refine rg0_seq 8 (fun _ => 0) (bz 1) [⟨[], [], [], Fct.val 2 (.slice none 0 0)⟩] hz0 hd0 (by kernel_rfl) ?_ ?_
  · refine sc (fun _ _ _ _ _ _ => px (or_assign rfl)) ?_
    exact steps_nil
  intro own22 a22 w22 hd22 hz22 hk22 hf22 hE22
  have e22_0 := (hk22 0 rfl).trans ha0
  have hX22 := es_ hE0 hE22
  have b22_As1 := RdO.evo rfl hE22 hs1
  refine fl_seq (fun Q23 hn23 hp23 => ?_)
  refine rg0_seq 8 own22 (bz 2) [⟨[], [0], [], Fct.val 3 (.slice As1 s1.length cs1)⟩, ⟨[0], [], [], Fct.val 4 (.bool As1.isNone)⟩] hz22 hd22 (by kernel_rfl) ?_ ?_
  · refine sc (fun _ _ _ _ s _ => px (or_move (s.1.trans e22_0))) ?_
    refine sc (fun _ _ _ f _ _ => px (or_eqlNil tu22 f.1 rfl)) ?_
    exact steps_nil
  intro own24 a24 w24 hd24 hz24 hk24 hf24 hE24
  have e24_0 := (hk24 0 rfl).trans e22_0
  obtain ⟨(e24_4 : a24.eval (.tmp 4) = .bool As1.isNone), -⟩ := hf24 [1] rfl
  have hX24 := es_ hX22 hE24
  have b24_As1 := RdO.evo rfl hE24 b22_As1
  refine wpIn_cond_split e24_4 (fun hA25 => ?_) (fun hA25 => ?_)
  · have hl25 : s1 = [] := RdO.nil_of b24_As1 hA25
    have hs0 : ((app ([] : List (ByteArray × (Int × ByteArray × Int))) s1).bind fun x28 => some x28) = some r := hs
    have hs : (some ([] : List (ByteArray × (Int × ByteArray × Int)))) = some r := by simpa [hl25, app, cut, capB] using hs0
    refine rg0_seq 8 own24 (bz 1) [⟨[], [], [], Fct.val 2 (.slice none 0 0)⟩] hz24 hd24 (by kernel_rfl) ?_ ?_
    · refine sc (fun _ _ _ _ _ _ => px (or_assign rfl)) ?_
      exact steps_nil
    intro own32 a32 w32 hd32 hz32 hk32 hf32 hE32
    obtain ⟨(e32_2 : a32.eval (.tmp 2) = .slice none 0 0), -⟩ := hf32 [0] rfl
    have hX32 := es_ hX24 hE32
    refine fl_ret ?_
    refine hp23 _ _ _ rfl ?_
    obtain rfl := osome hs
    exact hret _ _ _ _ (.inl rfl) hd32 (results1_ rfl (RVal.tmp_ e32_2)) ⟨own32, (none, 0), rfl, hX32, RwO.nil_⟩
  refine fl_skip ?_
  refine hn23 _ _ ?_
  obtain ⟨x28, hx28, hs⟩ := obind hs
  refine rg_plain_seq (n := 8) (rs := []) (own0 := own24) (K := [27]) (bs := [0, 0, 3, 7]) (ds := [⟨[], [], [], Fct.row 27 [] 5 64 R64 ([] : List (ByteArray × (Int × ByteArray × Int)))⟩, ⟨[], [0], [], Fct.val 6 (.slice As1 s1.length cs1)⟩, ⟨[0, 1], [], [27], Fct.row 29 [] 7 64 R64 x28⟩, ⟨[2], [], [], Fct.rel [2, 7] (fun l => ∀ (A30 : Option Addr) (cA30 : Nat), l.getD 1 undef = .slice A30 x28.length cA30 → l.getD 0 undef = .slice A30 x28.length cA30)⟩]) (by kernel_rfl) hz24 hd24 nm_ ?_ ?_
  · refine sc (fun _ _ _ _ _ _ => px (or_lit (lab := 27) (e := 64) (cs := #[]) (F := E64) (or_new [] rfl rfl trivial (by kernel_rfl)) rfl rfl (show 0 ≤ maxLen by decide))) ?_
    refine sc (fun _ _ _ _ s _ => px (or_move (s.1.trans e24_0))) ?_
    refine sc (fun own a wx hf hsl hE => ?_) ?_
    · obtain ⟨⟨⟨A26, cA26⟩, f_5, b_A26⟩, f_6, -⟩ := hf
      exact px (or_append (R := R64) (lab := 27) (lab2 := 29) (L := []) (L3 := []) tp22 f_5 b_A26 (by decide) f_6 (RdO.evo rfl hE b24_As1) hx28 (by decide) (by decide) (mem_of rfl) (.inl (Rep.fl_flat _)))
    refine sc (fun own a wx hf hsl hE => ?_) ?_
    · obtain ⟨⟨⟨A30, cA30⟩, (f_7 : a.eval (.tmp 7) = .slice A30 x28.length cA30), b_A30⟩, -⟩ := hf
      exact px (or_mono (f := Fct.val 2 (.slice A30 x28.length cA30)) (or_assign f_7) (fun own' a' w' v' hp h => fun _ _ h0' => by cases (f_7.symm.trans ((hp.2 7 (by decide)).symm.trans h0')); exact h))
    exact steps_nil
  intro own31 a31 w31 hd31 hz31 hk31 hf31 hE31
  obtain ⟨⟨⟨A30, cA30⟩, (f_7 : a31.eval (.tmp 7) = .slice A30 x28.length cA30), (b31_A30 : RwO own31 29 [] w31 64 R64 A30 cA30 x28)⟩, (q_2 : ∀ (A30 : Option Addr) (cA30 : Nat), a31.eval (.tmp 7) = .slice A30 x28.length cA30 → a31.eval (.tmp 2) = .slice A30 x28.length cA30), -⟩ := hf31 [2, 3] rfl
  have e31_2 := q_2 _ _ f_7
  have hX31 := es_ hX24 hE31
  refine fl_ret ?_
  obtain rfl := (osome hs).symm
  exact hret _ _ _ _ (.inl rfl) hd31 (results1_ rfl (RVal.tmp_ e31_2)) ⟨(rl [(29, 1)] own31), (A30, cA30), rfl, (Evo.rl_ hX31 (fun _ => Nat.le_refl 0) rfl), (RwO.rl_ (mm := [(29, 1)]) b31_A30)⟩
theorem cmp_isNaN_string_w (w : World) (x1 : ByteArray) (r : Bool) (hs : cmp_isNaN_string x1 = some r) :
    Calls Try.prog 54 #[.string x1] w fun e w' => ∃ own' : Own, e = .returned (.bool r) ∧ Evo [] (fun _ => 0) own' w w' := by
  refine fl_enter (n := 6) rfl rfl rfl (Nat.le_of_ble_eq_true rfl) ?_
  intro a0 Q hd0 hz0 harg hret
  have ha0 := harg 0 _ rfl
  clear harg
  have hE0 : Evo [] (fun _ => 0) (fun _ => 0) w w := Evo.refl _ _ _
  refine rg0_seq 6 (fun _ => 0) (bz 1) [⟨[], [], [], Fct.val 2 (.bool false)⟩] hz0 hd0 (by kernel_rfl) ?_ ?_
  · refine sc (fun _ _ _ _ _ _ => px (or_assign rfl)) ?_
    exact steps_nil
  intro own13 a13 w13 hd13 hz13 hk13 hf13 hE13
  have e13_0 := (hk13 0 rfl).trans ha0
  have hX13 := es_ hE0 hE13
  refine rg0_seq 6 own13 [0, 0, 3, 7] [⟨[], [0], [], Fct.val 3 (.string x1)⟩, ⟨[], [0], [], Fct.val 4 (.string x1)⟩, ⟨[0, 1], [], [], Fct.val 5 (.bool (!eqS x1 x1))⟩, ⟨[2], [], [], Fct.val 2 (.bool (!eqS x1 x1))⟩] hz13 hd13 (by kernel_rfl) ?_ ?_
  · refine sc (fun _ _ _ _ s _ => px (or_move (s.1.trans e13_0))) ?_
    refine sc (fun _ _ _ _ s _ => px (or_move (s.1.trans e13_0))) ?_
    refine sc (fun _ _ _ f _ _ => px (or_neqS tS9 f.1 f.2.1 rfl)) ?_
    refine sc (fun _ _ _ f _ _ => px (or_assign f.1)) ?_
    exact steps_nil
  intro own14 a14 w14 hd14 hz14 hk14 hf14 hE14
  obtain ⟨(e14_2 : a14.eval (.tmp 2) = .bool (!eqS x1 x1)), -⟩ := hf14 [3] rfl
  have hX14 := es_ hX13 hE14
  refine fl_ret ?_
  obtain rfl := osome hs
  exact hret _ _ _ _ (.inl rfl) hd14 (results1_ rfl (RVal.tmp_ e14_2)) ⟨own14, rfl, hX14⟩
theorem cmp_Compare_string_w (w : World) (x1 : ByteArray) (y2 : ByteArray) (r : Int) (hs : cmp_Compare_string x1 y2 = some r) :
    Calls Try.prog 43 #[.string x1, .string y2] w fun e w' => ∃ own' : Own, e = .returned (.int .i64 r) ∧ Evo [] (fun _ => 0) own' w w' := by
  refine fl_enter (n := 20) rfl rfl rfl (Nat.le_of_ble_eq_true rfl) ?_
  intro a0 Q hd0 hz0 harg hret
  have ha0 := harg 0 _ rfl
  have ha1 := harg 1 _ rfl
  clear harg
  have hE0 : Evo [] (fun _ => 0) (fun _ => 0) w w := Evo.refl _ _ _
  refine rg0_seq 20 (fun _ => 0) (bz 1) [⟨[], [], [], Fct.val 4 (.int .i64 0)⟩] hz0 hd0 (by kernel_rfl) ?_ ?_
  · refine sc (fun _ _ _ _ _ _ => px (or_assign rfl)) ?_
    exact steps_nil
  intro own37 a37 w37 hd37 hz37 hk37 hf37 hE37
  have e37_0 := (hk37 0 rfl).trans ha0
  have e37_1 := (hk37 1 rfl).trans ha1
  have hX37 := es_ hE0 hE37
  obtain ⟨r38, hr38, hs⟩ := obind hs
  refine rg0_seq 20 own37 (bz 3) [⟨[], [0], [], Fct.val 7 (.string x1)⟩, ⟨[0], [], [], Fct.val 8 (.bool r38)⟩, ⟨[1], [], [], Fct.val 5 (.bool r38)⟩] hz37 hd37 (by kernel_rfl) ?_ ?_
  · refine sc (fun _ _ _ _ s _ => px (or_move (s.1.trans e37_0))) ?_
    refine sc (fun _ _ _ f _ _ => px (or_call cf54 (args1 f.1) (cmp_isNaN_string_w _ x1  r38 hr38) post_val)) ?_
    refine sc (fun _ _ _ f _ _ => px (or_assign f.1)) ?_
    exact steps_nil
  intro own39 a39 w39 hd39 hz39 hk39 hf39 hE39
  have e39_0 := (hk39 0 rfl).trans e37_0
  have e39_1 := (hk39 1 rfl).trans e37_1
  obtain ⟨(e39_5 : a39.eval (.tmp 5) = .bool r38), -⟩ := hf39 [2] rfl
  have hX39 := es_ hX37 hE39
  obtain ⟨r40, hr40, hs⟩ := obind hs
  refine rg0_seq 20 own39 (bz 3) [⟨[], [1], [], Fct.val 9 (.string y2)⟩, ⟨[0], [], [], Fct.val 10 (.bool r40)⟩, ⟨[1], [], [], Fct.val 6 (.bool r40)⟩] hz39 hd39 (by kernel_rfl) ?_ ?_
  · refine sc (fun _ _ _ _ s _ => px (or_move (s.1.trans e39_1))) ?_
    refine sc (fun _ _ _ f _ _ => px (or_call cf54 (args1 f.1) (cmp_isNaN_string_w _ y2  r40 hr40) post_val)) ?_
    refine sc (fun _ _ _ f _ _ => px (or_assign f.1)) ?_
    exact steps_nil
  intro own41 a41 w41 hd41 hz41 hk41 hf41 hE41
  have e41_0 := (hk41 0 rfl).trans e39_0
  have e41_1 := (hk41 1 rfl).trans e39_1
  have e41_5 := (hk41 5 rfl).trans e39_5
  obtain ⟨(e41_6 : a41.eval (.tmp 6) = .bool r40), -⟩ := hf41 [2] rfl
  have hX41 := es_ hX39 hE41
  refine fl_seq (fun Q42 hn42 hp42 => ?_)
  refine rg0_seq 20 own41 (bz 1) [⟨[], [5], [], Fct.val 11 (.bool r38)⟩] hz41 hd41 (by kernel_rfl) ?_ ?_
  · refine sc (fun _ _ _ _ s _ => px (or_move (s.1.trans e41_5))) ?_
    exact steps_nil
  intro own43 a43 w43 hd43 hz43 hk43 hf43 hE43
  have e43_0 := (hk43 0 rfl).trans e41_0
  have e43_1 := (hk43 1 rfl).trans e41_1
  have e43_6 := (hk43 6 rfl).trans e41_6
  obtain ⟨(e43_11 : a43.eval (.tmp 11) = .bool r38), -⟩ := hf43 [0] rfl
  have hX43 := es_ hX41 hE43
  refine fl_cond e43_11 hs (fun c44 hs => ?_) (fun c44 hs => ?_)
  · refine fl_seq (fun Q45 hn45 hp45 => ?_)
    refine rg0_seq 20 own43 (bz 1) [⟨[], [6], [], Fct.val 12 (.bool r40)⟩] hz43 hd43 (by kernel_rfl) ?_ ?_
    · refine sc (fun _ _ _ _ s _ => px (or_move (s.1.trans e43_6))) ?_
      exact steps_nil
    intro own46 a46 w46 hd46 hz46 hk46 hf46 hE46
    obtain ⟨(e46_12 : a46.eval (.tmp 12) = .bool r40), -⟩ := hf46 [0] rfl
    have hX46 := es_ hX43 hE46
    refine fl_cond e46_12 hs (fun c47 hs => ?_) (fun c47 hs => ?_)
    · refine rg0_seq 20 own46 (bz 1) [⟨[], [], [], Fct.val 4 (.int .i64 0)⟩] hz46 hd46 (by kernel_rfl) ?_ ?_
      · refine sc (fun _ _ _ _ _ _ => px (or_assign rfl)) ?_
        exact steps_nil
      intro own48 a48 w48 hd48 hz48 hk48 hf48 hE48
      obtain ⟨(e48_4 : a48.eval (.tmp 4) = .int .i64 0), -⟩ := hf48 [0] rfl
      have hX48 := es_ hX46 hE48
      refine fl_ret ?_
      refine hp45 _ _ _ rfl ?_
      refine hp42 _ _ _ rfl ?_
      obtain rfl := osome hs
      exact hret _ _ _ _ (.inl rfl) hd48 (results1_ rfl (RVal.tmp_ e48_4)) ⟨own48, rfl, hX48⟩
    refine fl_skip ?_
    refine hn45 _ _ ?_
    refine rg0_seq 20 own46 (bz 1) [⟨[], [], [], Fct.val 4 (.int .i64 (-1))⟩] hz46 hd46 (by kernel_rfl) ?_ ?_
    · refine sc (fun _ _ _ _ _ _ => px (or_assign rfl)) ?_
      exact steps_nil
    intro own49 a49 w49 hd49 hz49 hk49 hf49 hE49
    obtain ⟨(e49_4 : a49.eval (.tmp 4) = .int .i64 (-1)), -⟩ := hf49 [0] rfl
    have hX49 := es_ hX46 hE49
    refine fl_ret ?_
    refine hp42 _ _ _ rfl ?_
    obtain rfl := osome hs
    exact hret _ _ _ _ (.inl rfl) hd49 (results1_ rfl (RVal.tmp_ e49_4)) ⟨own49, rfl, hX49⟩
  refine fl_skip ?_
  refine hn42 _ _ ?_
  refine fl_seq (fun Q50 hn50 hp50 => ?_)
  refine rg0_seq 20 own43 (bz 1) [⟨[], [6], [], Fct.val 13 (.bool r40)⟩] hz43 hd43 (by kernel_rfl) ?_ ?_
  · refine sc (fun _ _ _ _ s _ => px (or_move (s.1.trans e43_6))) ?_
    exact steps_nil
  intro own51 a51 w51 hd51 hz51 hk51 hf51 hE51
  have e51_0 := (hk51 0 rfl).trans e43_0
  have e51_1 := (hk51 1 rfl).trans e43_1
  obtain ⟨(e51_13 : a51.eval (.tmp 13) = .bool r40), -⟩ := hf51 [0] rfl
  have hX51 := es_ hX43 hE51
  refine fl_cond e51_13 hs (fun c52 hs => ?_) (fun c52 hs => ?_)
  · refine rg0_seq 20 own51 (bz 1) [⟨[], [], [], Fct.val 4 (.int .i64 1)⟩] hz51 hd51 (by kernel_rfl) ?_ ?_
    · refine sc (fun _ _ _ _ _ _ => px (or_assign rfl)) ?_
      exact steps_nil
    intro own53 a53 w53 hd53 hz53 hk53 hf53 hE53
    obtain ⟨(e53_4 : a53.eval (.tmp 4) = .int .i64 1), -⟩ := hf53 [0] rfl
    have hX53 := es_ hX51 hE53
    refine fl_ret ?_
    refine hp50 _ _ _ rfl ?_
    obtain rfl := osome hs
    exact hret _ _ _ _ (.inl rfl) hd53 (results1_ rfl (RVal.tmp_ e53_4)) ⟨own53, rfl, hX53⟩
  refine fl_skip ?_
  refine hn50 _ _ ?_
  refine fl_seq (fun Q54 hn54 hp54 => ?_)
  refine rg0_seq 20 own51 [0, 0, 3] [⟨[], [0], [], Fct.val 14 (.string x1)⟩, ⟨[], [1], [], Fct.val 15 (.string y2)⟩, ⟨[0, 1], [], [], Fct.val 16 (.bool (ltS x1 y2))⟩] hz51 hd51 (by kernel_rfl) ?_ ?_
  · refine sc (fun _ _ _ _ s _ => px (or_move (s.1.trans e51_0))) ?_
    refine sc (fun _ _ _ _ s _ => px (or_move (s.1.trans e51_1))) ?_
    refine sc (fun _ _ _ f _ _ => px (or_lssS f.1 f.2.1 rfl)) ?_
    exact steps_nil
  intro own55 a55 w55 hd55 hz55 hk55 hf55 hE55
  have e55_0 := (hk55 0 rfl).trans e51_0
  have e55_1 := (hk55 1 rfl).trans e51_1
  obtain ⟨(e55_16 : a55.eval (.tmp 16) = .bool (ltS x1 y2)), -⟩ := hf55 [2] rfl
  have hX55 := es_ hX51 hE55
  refine fl_cond e55_16 hs (fun c56 hs => ?_) (fun c56 hs => ?_)
  · refine rg0_seq 20 own55 (bz 1) [⟨[], [], [], Fct.val 4 (.int .i64 (-1))⟩] hz55 hd55 (by kernel_rfl) ?_ ?_
    · refine sc (fun _ _ _ _ _ _ => px (or_assign rfl)) ?_
      exact steps_nil
    intro own57 a57 w57 hd57 hz57 hk57 hf57 hE57
    obtain ⟨(e57_4 : a57.eval (.tmp 4) = .int .i64 (-1)), -⟩ := hf57 [0] rfl
    have hX57 := es_ hX55 hE57
    refine fl_ret ?_
    refine hp54 _ _ _ rfl ?_
    obtain rfl := osome hs
    exact hret _ _ _ _ (.inl rfl) hd57 (results1_ rfl (RVal.tmp_ e57_4)) ⟨own57, rfl, hX57⟩
  refine fl_skip ?_
  refine hn54 _ _ ?_
  refine fl_seq (fun Q58 hn58 hp58 => ?_)
  refine rg0_seq 20 own55 [0, 0, 3] [⟨[], [0], [], Fct.val 17 (.string x1)⟩, ⟨[], [1], [], Fct.val 18 (.string y2)⟩, ⟨[0, 1], [], [], Fct.val 19 (.bool (!ltS x1 y2 && !eqS x1 y2))⟩] hz55 hd55 (by kernel_rfl) ?_ ?_
  · refine sc (fun _ _ _ _ s _ => px (or_move (s.1.trans e55_0))) ?_
    refine sc (fun _ _ _ _ s _ => px (or_move (s.1.trans e55_1))) ?_
    refine sc (fun _ _ _ f _ _ => px (or_gtrS f.1 f.2.1 rfl)) ?_
    exact steps_nil
  intro own59 a59 w59 hd59 hz59 hk59 hf59 hE59
  obtain ⟨(e59_19 : a59.eval (.tmp 19) = .bool (!ltS x1 y2 && !eqS x1 y2)), -⟩ := hf59 [2] rfl
  have hX59 := es_ hX55 hE59
  refine fl_cond e59_19 hs (fun c60 hs => ?_) (fun c60 hs => ?_)
  · refine rg0_seq 20 own59 (bz 1) [⟨[], [], [], Fct.val 4 (.int .i64 1)⟩] hz59 hd59 (by kernel_rfl) ?_ ?_
    · refine sc (fun _ _ _ _ _ _ => px (or_assign rfl)) ?_
      exact steps_nil
    intro own61 a61 w61 hd61 hz61 hk61 hf61 hE61
    obtain ⟨(e61_4 : a61.eval (.tmp 4) = .int .i64 1), -⟩ := hf61 [0] rfl
    have hX61 := es_ hX59 hE61
    refine fl_ret ?_
    refine hp58 _ _ _ rfl ?_
    obtain rfl := osome hs
    exact hret _ _ _ _ (.inl rfl) hd61 (results1_ rfl (RVal.tmp_ e61_4)) ⟨own61, rfl, hX61⟩
  refine fl_skip ?_
  refine hn58 _ _ ?_
  refine rg0_seq 20 own59 (bz 1) [⟨[], [], [], Fct.val 4 (.int .i64 0)⟩] hz59 hd59 (by kernel_rfl) ?_ ?_
  · refine sc (fun _ _ _ _ _ _ => px (or_assign rfl)) ?_
    exact steps_nil
  intro own62 a62 w62 hd62 hz62 hk62 hf62 hE62
  obtain ⟨(e62_4 : a62.eval (.tmp 4) = .int .i64 0), -⟩ := hf62 [0] rfl
  have hX62 := es_ hX59 hE62
  refine fl_ret ?_
  obtain rfl := osome hs
  exact hret _ _ _ _ (.inl rfl) hd62 (results1_ rfl (RVal.tmp_ e62_4)) ⟨own62, rfl, hX62⟩
theorem table_Sort_1_w (w : World) (x1 : ByteArray × (Int × ByteArray × Int)) (b2 : ByteArray × (Int × ByteArray × Int)) (r : Int) (hs : table_Sort_1 x1 b2 = some r) :
    Calls Try.prog 42 #[.agg #[.string x1.1, .int .i64 x1.2.1, .string x1.2.2.1, .int .i64 x1.2.2.2], .agg #[.string b2.1, .int .i64 b2.2.1, .string b2.2.2.1, .int .i64 b2.2.2.2]] w fun e w' => ∃ own' : Own, e = .returned (.int .i64 r) ∧ Evo [] (fun _ => 0) own' w w' := by
  refine fl_enter (n := 10) rfl rfl rfl (Nat.le_of_ble_eq_true rfl) ?_
  intro a0 Q hd0 hz0 harg hret
  have ha0 := harg 0 _ rfl
  have ha1 := harg 1 _ rfl
  clear harg
  have hE0 : Evo [] (fun _ => 0) (fun _ => 0) w w := Evo.refl _ _ _
  refine rg0_seq 10 (fun _ => 0) [0, 0, 0] [⟨[], [0], [], Fct.blk 19 2 (fun g => .pointer (some ⟨g, 0, none⟩)) 64 #[.string x1.1, .int .i64 x1.2.1, .string x1.2.2.1, .int .i64 x1.2.2.2]⟩, ⟨[], [1], [], Fct.blk 21 3 (fun g => .pointer (some ⟨g, 0, none⟩)) 64 #[.string b2.1, .int .i64 b2.2.1, .string b2.2.2.1, .int .i64 b2.2.2.2]⟩, ⟨[], [], [], Fct.val 4 (.int .i64 0)⟩] hz0 hd0 (by kernel_rfl) ?_ ?_
  · refine sc (fun _ _ _ _ s _ => px (or_new [(0, .agg #[.string x1.1, .int .i64 x1.2.1, .string x1.2.2.1, .int .i64 x1.2.2.2])] rfl rfl ⟨(s.1.trans ha0), trivial⟩ (by kernel_rfl))) ?_
    refine sc (fun _ _ _ _ s _ => px (or_new [(1, .agg #[.string b2.1, .int .i64 b2.2.1, .string b2.2.2.1, .int .i64 b2.2.2.2])] rfl rfl ⟨(s.1.trans ha1), trivial⟩ (by kernel_rfl))) ?_
    refine sc (fun _ _ _ _ _ _ => px (or_assign rfl)) ?_
    exact steps_nil
  intro own22 a22 w22 hd22 hz22 hk22 hf22 hE22
  obtain ⟨⟨g18, (e22_2 : a22.eval (.tmp 2) = .pointer (some ⟨g18, 0, none⟩)), (b22_g18 : BlkO own22 19 w22 g18 64 #[.string x1.1, .int .i64 x1.2.1, .string x1.2.2.1, .int .i64 x1.2.2.2])⟩, ⟨g20, (e22_3 : a22.eval (.tmp 3) = .pointer (some ⟨g20, 0, none⟩)), (b22_g20 : BlkO own22 21 w22 g20 64 #[.string b2.1, .int .i64 b2.2.1, .string b2.2.2.1, .int .i64 b2.2.2.2])⟩, -⟩ := hf22 [0, 1] rfl
  have hX22 := es_ hE0 hE22
  obtain ⟨r23, hr23, hs⟩ := obind hs
  refine rg0_seq 10 own22 [0, 1, 0, 4, 15, 31] [⟨[], [2], [], Fct.val 5 (.pointer (some ⟨g18, 0, none⟩))⟩, ⟨[0], [], [], Fct.val 6 (.string x1.1)⟩, ⟨[], [3], [], Fct.val 7 (.pointer (some ⟨g20, 0, none⟩))⟩, ⟨[2], [], [], Fct.val 8 (.string b2.1)⟩, ⟨[1, 3], [], [], Fct.val 9 (.int .i64 r23)⟩, ⟨[4], [], [], Fct.val 4 (.int .i64 r23)⟩] hz22 hd22 (by kernel_rfl) ?_ ?_
  · refine sc (fun _ _ _ _ s _ => px (or_field fo64_0 (s.1.trans e22_2) (by rfl))) ?_
    refine sc (fun _ _ _ f _ hE => px (or_load1 to9 f.1 (Blk.at_ (be_ hE b22_g18).2 0 rfl))) ?_
    refine sc (fun _ _ _ _ s _ => px (or_field fo64_0 (s.1.trans e22_3) (by rfl))) ?_
    refine sc (fun _ _ _ f _ hE => px (or_load1 to9 f.1 (Blk.at_ (be_ hE b22_g20).2 0 rfl))) ?_
    refine sc (fun _ _ _ f _ _ => px (or_call cf43 (args2 f.1 f.2.1) (cmp_Compare_string_w _ x1.1 b2.1  r23 hr23) post_val)) ?_
    refine sc (fun _ _ _ f _ _ => px (or_assign f.1)) ?_
    exact steps_nil
  intro own24 a24 w24 hd24 hz24 hk24 hf24 hE24
  obtain ⟨(e24_4 : a24.eval (.tmp 4) = .int .i64 r23), -⟩ := hf24 [5] rfl
  have hX24 := es_ hX22 hE24
  refine fl_ret ?_
  obtain rfl := (osome hs).symm
  exact hret _ _ _ _ (.inl rfl) hd24 (results1_ rfl (RVal.tmp_ e24_4)) ⟨own24, rfl, hX24⟩
theorem slices_insertionSortCmpFunc_table_Attr_Sort_1_w (w : World) (own : Own) (data1 : List (ByteArray × (Int × ByteArray × Int))) (Adata1 : Option Addr) (cdata1 : Nat) (x2 : Int) (b3 : Int) (hown : ∀ b, own b ≤ 1) (hdata1 : RwO own 1 [] w 64 R64 Adata1 cdata1 data1) (r : List (ByteArray × (Int × ByteArray × Int))) (hs : slices_insertionSortCmpFunc_table_Attr_Sort_1 data1 x2 b3 = some r) :
    Calls Try.prog 57 #[.slice Adata1 data1.length cdata1, .int .i64 x2, .int .i64 b3, .func (.func 42) #[] #[]] w fun e w' => ∃ (own' : Own), e = .returned (.tuple #[]) ∧ Evo [1] own own' w w' ∧ RwO own' 1 [] w' 64 R64 Adata1 cdata1 r ∧ r.length = data1.length := by
  refine fl_enter (n := 53) rfl rfl rfl (Nat.le_of_ble_eq_true rfl) ?_
  intro a0 Q hd0 hz0 harg hret
  have ha0 := harg 0 _ rfl
  have ha1 := harg 1 _ rfl
  have ha2 := harg 2 _ rfl
  have ha3 := harg 3 _ rfl
  clear harg
  have hE0 : Evo [1] own own w w := Evo.refl _ _ _
  refine rg0_seq 53 own (bz 3) [⟨[], [1], [], Fct.val 10 (.int .i64 x2)⟩, ⟨[0], [], [], Fct.val 11 (.int .i64 (ad x2 1))⟩, ⟨[1], [], [], Fct.val 8 (.int .i64 (ad x2 1))⟩] hz0 hd0 (by kernel_rfl) ?_ ?_
  · refine sc (fun _ _ _ _ s _ => px (or_move (s.1.trans ha1))) ?_
    refine sc (fun _ _ _ f _ _ => px (or_add f.1 rfl rfl)) ?_
    refine sc (fun _ _ _ f _ _ => px (or_assign f.1)) ?_
    exact steps_nil
  intro own282 a282 w282 hd282 hz282 hk282 hf282 hE282
  have e282_0 := (hk282 0 rfl).trans ha0
  have e282_1 := (hk282 1 rfl).trans ha1
  have e282_2 := (hk282 2 rfl).trans ha2
  have e282_3 := (hk282 3 rfl).trans ha3
  obtain ⟨(e282_8 : a282.eval (.tmp 8) = .int .i64 (ad x2 1)), -⟩ := hf282 [2] rfl
  have hX282 := Evo.step hE0 hown hE282 rfl
  have b282_Adata1 := re_ hE282 hdata1
  refine fl_block (fun Q283 hn283 hx283 hp283 => ?_)
  refine fl_loop (body := (fun s => slices_insertionSortCmpFunc_table_Attr_Sort_1_b1 data1 x2 b3 s.1 s.2)) (z := r) (show loopO _ _ = _ from hs) (fun (s : (List (ByteArray × (Int × ByteArray × Int))) × Int) a wx => match s with | (data372, i374) => ∃ (ox : Own), a.defers = [] ∧ a.tmps.size = 53 ∧ a.eval (.tmp 0) = .slice Adata1 data372.length cdata1 ∧ a.eval (.tmp 1) = .int .i64 x2 ∧ a.eval (.tmp 2) = .int .i64 b3 ∧ a.eval (.tmp 3) = .func (.func 42) #[] #[] ∧ a.eval (.tmp 8) = .int .i64 i374 ∧ Evo [1] own ox w wx ∧ RwO ox 373 [] wx 64 R64 Adata1 cdata1 data372) ?_ ?_
  · exact ⟨(rl [(1, 373)] own282), hd282, hz282, e282_0, e282_1, e282_2, e282_3, e282_8, (Evo.rl_ hX282 hown rfl), (RwO.rl_ (mm := [(1, 373)]) b282_Adata1)⟩
  · rintro ⟨data372, i374⟩ zz463 a463 w463 ⟨own463, hd464, hz464, e464_0, e464_1, e464_2, e464_3, e464_8, hE464, b464_Adata1⟩ hs Q463 hn463 hp463 hz463
    have hs : slices_insertionSortCmpFunc_table_Attr_Sort_1_b1 data1 x2 b3 data372 i374 = some zz463 := hs
    refine fl_seq (fun Q465 hn465 hp465 => ?_)
    refine rg0_seq 53 own463 [0, 0, 3] [⟨[], [8], [], Fct.val 12 (.int .i64 i374)⟩, ⟨[], [2], [], Fct.val 13 (.int .i64 b3)⟩, ⟨[0, 1], [], [], Fct.val 14 (.bool (decide (i374 < b3)))⟩] hz464 hd464 (by kernel_rfl) ?_ ?_
    · refine sc (fun _ _ _ _ s _ => px (or_move (s.1.trans e464_8))) ?_
      refine sc (fun _ _ _ _ s _ => px (or_move (s.1.trans e464_2))) ?_
      refine sc (fun _ _ _ f _ _ => px (or_lss f.1 f.2.1 rfl)) ?_
      exact steps_nil
    intro own466 a466 w466 hd466 hz466 hk466 hf466 hE466
    have e466_0 := (hk466 0 rfl).trans e464_0
    have e466_1 := (hk466 1 rfl).trans e464_1
    have e466_2 := (hk466 2 rfl).trans e464_2
    have e466_3 := (hk466 3 rfl).trans e464_3
    have e466_8 := (hk466 8 rfl).trans e464_8
    obtain ⟨(e466_14 : a466.eval (.tmp 14) = .bool (decide (i374 < b3))), -⟩ := hf466 [2] rfl
    have hX466 := Evo.step hE464 hown hE466 rfl
    have b466_Adata1 := re_ hE466 b464_Adata1
    refine fl_cond e466_14 hs (fun c467 hs => ?_) (fun c467 hs => ?_)
    · refine fl_skip ?_
      refine hn465 _ _ ?_
      refine fl_seq (fun Q468 hn468 hp468 => ?_)
      refine fl_block (fun Q469 hn469 hx469 hp469 => ?_)
      refine rg0_seq 53 own466 (bz 2) [⟨[], [8], [], Fct.val 17 (.int .i64 i374)⟩, ⟨[0], [], [], Fct.val 9 (.int .i64 i374)⟩] hz466 hd466 (by kernel_rfl) ?_ ?_
      · refine sc (fun _ _ _ _ s _ => px (or_move (s.1.trans e466_8))) ?_
        refine sc (fun _ _ _ f _ _ => px (or_assign f.1)) ?_
        exact steps_nil
      intro own470 a470 w470 hd470 hz470 hk470 hf470 hE470
      have e470_0 := (hk470 0 rfl).trans e466_0
      have e470_1 := (hk470 1 rfl).trans e466_1
      have e470_2 := (hk470 2 rfl).trans e466_2
      have e470_3 := (hk470 3 rfl).trans e466_3
      have e470_8 := (hk470 8 rfl).trans e466_8
      obtain ⟨(e470_9 : a470.eval (.tmp 9) = .int .i64 i374), -⟩ := hf470 [1] rfl
      have hX470 := Evo.step hX466 hown hE470 rfl
      have b470_Adata1 := re_ hE470 b466_Adata1
      refine fl_block (fun Q471 hn471 hx471 hp471 => ?_)
      refine fl_loop (body := (fun s => slices_insertionSortCmpFunc_table_Attr_Sort_1_b2 x2 i374 s.1 s.2)) (z := zz463) (show loopO _ _ = _ from hs) (fun (s : (List (ByteArray × (Int × ByteArray × Int))) × Int) a wx => match s with | (data497, j499) => ∃ (ox : Own), a.defers = [] ∧ a.tmps.size = 53 ∧ a.eval (.tmp 0) = .slice Adata1 data497.length cdata1 ∧ a.eval (.tmp 1) = .int .i64 x2 ∧ a.eval (.tmp 2) = .int .i64 b3 ∧ a.eval (.tmp 3) = .func (.func 42) #[] #[] ∧ a.eval (.tmp 8) = .int .i64 i374 ∧ a.eval (.tmp 9) = .int .i64 j499 ∧ Evo [1] own ox w wx ∧ RwO ox 498 [] wx 64 R64 Adata1 cdata1 data497) ?_ ?_
      · exact ⟨(rl [(373, 498)] own470), hd470, hz470, e470_0, e470_1, e470_2, e470_3, e470_8, e470_9, (Evo.rl_ hX470 hown rfl), (RwO.rl_ (mm := [(373, 498)]) b470_Adata1)⟩
      · rintro ⟨data497, j499⟩ zz525 a525 w525 ⟨own525, hd526, hz526, e526_0, e526_1, e526_2, e526_3, e526_8, e526_9, hE526, b526_Adata1⟩ hs Q525 hn525 hp525 hz525
        have hs : slices_insertionSortCmpFunc_table_Attr_Sort_1_b2 x2 i374 data497 j499 = some zz525 := hs
        refine fl_seq (fun Q527 hn527 hp527 => ?_)
        obtain ⟨x528, hx528, hs⟩ := obind hs
        obtain ⟨x529, hx529, hs⟩ := obind hs
        obtain ⟨r530, hr530, hs⟩ := obind hs
        obtain ⟨x531, hx531, hs⟩ := obind hs
        refine rg_draw_seq g_mixed (n := 53) (rs := []) (own0 := own525) (K := []) (bs := [0, 0, 3, 7, 15, 15, 15, 111, 239, 15, 15, 1039, 3599, 7695, 16383, 32767, 65535]) (ds := [⟨[], [9], [], Fct.val 18 (.int .i64 j499)⟩, ⟨[], [1], [], Fct.val 19 (.int .i64 x2)⟩, ⟨[0, 1], [], [], Fct.val 20 (.bool (decide (x2 < j499)))⟩, ⟨[2], [], [], Fct.val 21 (.bool (decide (x2 < j499)))⟩, ⟨[3], [3], [], Fct.cond (decide (x2 < j499)) (some 22) (Fct.val 22 (.func (.func 42) #[] #[]))⟩, ⟨[3], [0], [], Fct.cond (decide (x2 < j499)) (some 23) (Fct.val 23 (.slice Adata1 data497.length cdata1))⟩, ⟨[3], [9], [], Fct.cond (decide (x2 < j499)) (some 24) (Fct.val 24 (.int .i64 j499))⟩, ⟨[3, 5, 6], [], [], Fct.cond (decide (x2 < j499)) (some 25) (Fct.val 25 (.pointer (some ((adr Adata1).add ((j499 : Int).toNat * R64.s)))))⟩, ⟨[3, 7], [], [], Fct.cond (decide (x2 < j499)) (some 26) (Fct.val 26 (.agg #[.string x528.1, .int .i64 x528.2.1, .string x528.2.2.1, .int .i64 x528.2.2.2]))⟩, ⟨[3], [0], [], Fct.cond (decide (x2 < j499)) (some 27) (Fct.val 27 (.slice Adata1 data497.length cdata1))⟩, ⟨[3], [9], [], Fct.cond (decide (x2 < j499)) (some 28) (Fct.val 28 (.int .i64 j499))⟩, ⟨[3, 10], [], [], Fct.cond (decide (x2 < j499)) (some 29) (Fct.val 29 (.int .i64 (sb j499 1)))⟩, ⟨[3, 9, 11], [], [], Fct.cond (decide (x2 < j499)) (some 30) (Fct.val 30 (.pointer (some ((adr Adata1).add ((sb j499 1 : Int).toNat * R64.s)))))⟩, ⟨[3, 12], [], [], Fct.cond (decide (x2 < j499)) (some 31) (Fct.val 31 (.agg #[.string x529.1, .int .i64 x529.2.1, .string x529.2.2.1, .int .i64 x529.2.2.2]))⟩, ⟨[3, 4, 8, 13], [], [], Fct.cond (decide (x2 < j499)) (some 32) (Fct.val 32 (.int .i64 r530))⟩, ⟨[3, 14], [], [], Fct.cond (decide (x2 < j499)) (some 33) (Fct.val 33 (.bool (decide (r530 < 0))))⟩, ⟨[3, 15], [], [], Fct.val 34 (.bool x531)⟩]) (by kernel_rfl) hz526 hd526 nm_ ?_ ?_
        · refine sc (fun _ _ _ _ s _ => px (or_move (s.1.trans e526_9))) ?_
          refine sc (fun _ _ _ _ s _ => px (or_move (s.1.trans e526_1))) ?_
          refine sc (fun _ _ _ f _ _ => px (or_gtr f.1 f.2.1 rfl)) ?_
          refine sc (fun _ _ _ f _ _ => px (or_move f.1)) ?_
          refine sc (fun _ _ _ f s _ => sg_t rfl rfl rfl f.1 (fun hg => or_move (s.1.trans e526_3))) ?_
          refine sc (fun _ _ _ f s _ => sg_t rfl rfl rfl f.1 (fun hg => or_move (s.1.trans e526_0))) ?_
          refine sc (fun _ _ _ f s _ => sg_t rfl rfl rfl f.1 (fun hg => or_move (s.1.trans e526_9))) ?_
          refine sc (fun _ _ _ f _ _ => sg_t rfl rfl rfl f.1 (fun hg => or_index (R := R64) (l := data497) tl22 (f.2.1.1 hg) (f.2.2.1.1 hg) (RdO.some_ (RwO.rd b526_Adata1) (gd_t hx528 hg)) (gd_t hx528 hg))) ?_
          refine sc (fun _ _ _ f _ hE => sg_t rfl rfl rfl f.1 (fun hg => or_load (l := E64.f x528) ta64 (f.2.1.1 hg) (RdO.cells (F := E64) (RwO.rd (re_ hE b526_Adata1)) (gd_t hx528 hg)) rfl)) ?_
          refine sc (fun _ _ _ f s _ => sg_t rfl rfl rfl f.1 (fun hg => or_move (s.1.trans e526_0))) ?_
          refine sc (fun _ _ _ f s _ => sg_t rfl rfl rfl f.1 (fun hg => or_move (s.1.trans e526_9))) ?_
          refine sc (fun _ _ _ f _ _ => sg_t rfl rfl rfl f.1 (fun hg => or_sub (f.2.1.1 hg) rfl rfl)) ?_
          refine sc (fun _ _ _ f _ _ => sg_t rfl rfl rfl f.1 (fun hg => or_index (R := R64) (l := data497) tl22 (f.2.1.1 hg) (f.2.2.1.1 hg) (RdO.some_ (RwO.rd b526_Adata1) (gd_t hx529 hg)) (gd_t hx529 hg))) ?_
          refine sc (fun _ _ _ f _ hE => sg_t rfl rfl rfl f.1 (fun hg => or_load (l := E64.f x529) ta64 (f.2.1.1 hg) (RdO.cells (F := E64) (RwO.rd (re_ hE b526_Adata1)) (gd_t hx529 hg)) rfl)) ?_
          refine sc (fun _ _ _ f _ _ => sg_t rfl rfl rfl f.1 (fun hg => or_callf cf42 (f.2.1.1 hg) (args2 (f.2.2.1.1 hg) (f.2.2.2.1.1 hg)) rfl (table_Sort_1_w _ x528 x529  r530 (gd_t hr530 hg)) post_val)) ?_
          refine sc (fun _ _ _ f _ _ => sg_t rfl rfl rfl f.1 (fun hg => or_lss (f.2.1.1 hg) rfl rfl)) ?_
          refine sc (fun _ _ _ f _ _ => px (or_and f.1 (fun hx => f.2.1.1 hx) rfl (osome hx531).symm)) ?_
          exact steps_nil
        intro own532 a532 w532 hd532 hz532 hk532 hf532 hE532
        have e532_0 := (hk532 0 rfl).trans e526_0
        have e532_1 := (hk532 1 rfl).trans e526_1
        have e532_2 := (hk532 2 rfl).trans e526_2
        have e532_3 := (hk532 3 rfl).trans e526_3
        have e532_8 := (hk532 8 rfl).trans e526_8
        have e532_9 := (hk532 9 rfl).trans e526_9
        obtain ⟨(e532_34 : a532.eval (.tmp 34) = .bool x531), -⟩ := hf532 [16] rfl
        have hX532 := Evo.step hE526 hown hE532 rfl
        have b532_Adata1 := re_ hE532 b526_Adata1
        refine fl_cond e532_34 hs (fun c533 hs => ?_) (fun c533 hs => ?_)
        · refine fl_skip ?_
          refine hn527 _ _ ?_
          refine fl_seq (fun Q534 hn534 hp534 => ?_)
          refine fl_block (fun Q535 hn535 hx535 hp535 => ?_)
          obtain ⟨x539, hx539, hs⟩ := obind hs
          obtain ⟨x540, hx540, hs⟩ := obind hs
          obtain ⟨x541, hx541, hs⟩ := obind hs
          obtain ⟨l542, hl542, hs⟩ := obind hs
          obtain ⟨x544, hx544, hs⟩ := obind hs
          obtain ⟨l545, hl545, hs⟩ := obind hs
          refine rg_draw g_mixed (n := 53) (rs := [Fct.rowAt 498 [] 64 R64 Adata1 cdata1 data497]) (own0 := own532) (K := [498, 543]) (bs := [0, 0, 0, 0, 8, 0, 0, 64, 224, 480, 0, 0, 3072, 7168, 16355, 32739, 65535, 131071]) (ds := [⟨[], [0], [], Fct.val 37 (.slice Adata1 data497.length cdata1)⟩, ⟨[], [9], [], Fct.val 38 (.int .i64 j499)⟩, ⟨[], [0], [], Fct.val 39 (.slice Adata1 data497.length cdata1)⟩, ⟨[], [9], [], Fct.val 40 (.int .i64 j499)⟩, ⟨[3], [], [], Fct.val 41 (.int .i64 (sb j499 1))⟩, ⟨[], [0], [], Fct.val 42 (.slice Adata1 data497.length cdata1)⟩, ⟨[], [9], [], Fct.val 43 (.int .i64 j499)⟩, ⟨[6], [], [], Fct.val 44 (.int .i64 (sb j499 1))⟩, ⟨[5, 7], [], [], Fct.val 45 (.pointer (some ((adr Adata1).add ((sb j499 1 : Int).toNat * R64.s))))⟩, ⟨[8, 18], [], [], Fct.val 46 (.agg #[.string x539.1, .int .i64 x539.2.1, .string x539.2.2.1, .int .i64 x539.2.2.2])⟩, ⟨[], [0], [], Fct.val 47 (.slice Adata1 data497.length cdata1)⟩, ⟨[], [9], [], Fct.val 48 (.int .i64 j499)⟩, ⟨[10, 11], [], [], Fct.val 49 (.pointer (some ((adr Adata1).add ((j499 : Int).toNat * R64.s))))⟩, ⟨[12, 18], [], [], Fct.val 50 (.agg #[.string x540.1, .int .i64 x540.2.1, .string x540.2.2.1, .int .i64 x540.2.2.2])⟩, ⟨[0, 1], [], [], Fct.val 51 (.pointer (some ((adr Adata1).add ((j499 : Int).toNat * R64.s))))⟩, ⟨[14, 9, 18], [], [498], Fct.rowAt 543 [] 64 R64 Adata1 cdata1 l542⟩, ⟨[2, 4], [], [], Fct.val 52 (.pointer (some ((adr Adata1).add ((sb j499 1 : Int).toNat * R64.s))))⟩, ⟨[16, 13, 15], [], [543], Fct.rowAt 546 [] 64 R64 Adata1 cdata1 l545⟩]) (by kernel_rfl) hz532 hd532 (by simp only [List.forall_mem_cons]; exact ⟨b532_Adata1, fun _ h => nomatch h⟩) ?_ ?_
          · refine sc (fun _ _ _ _ s _ => px (or_move (s.1.trans e532_0))) ?_
            refine sc (fun _ _ _ _ s _ => px (or_move (s.1.trans e532_9))) ?_
            refine sc (fun _ _ _ _ s _ => px (or_move (s.1.trans e532_0))) ?_
            refine sc (fun _ _ _ _ s _ => px (or_move (s.1.trans e532_9))) ?_
            refine sc (fun _ _ _ f _ _ => px (or_sub f.1 rfl rfl)) ?_
            refine sc (fun _ _ _ _ s _ => px (or_move (s.1.trans e532_0))) ?_
            refine sc (fun _ _ _ _ s _ => px (or_move (s.1.trans e532_9))) ?_
            refine sc (fun _ _ _ f _ _ => px (or_sub f.1 rfl rfl)) ?_
            refine sc (fun _ _ _ f _ _ => px (or_index (R := R64) (l := data497) tl22 f.1 f.2.1 (RdO.some_ (RwO.rd b532_Adata1) hx539) hx539)) ?_
            refine sc (fun own a wx hf hsl hE => ?_) ?_
            · obtain ⟨f_45, b_Adata1, -⟩ := hf
              exact px (or_load (l := E64.f x539) ta64 f_45 (RdO.cells (F := E64) (RwO.rd b_Adata1) hx539) rfl)
            refine sc (fun _ _ _ _ s _ => px (or_move (s.1.trans e532_0))) ?_
            refine sc (fun _ _ _ _ s _ => px (or_move (s.1.trans e532_9))) ?_
            refine sc (fun _ _ _ f _ _ => px (or_index (R := R64) (l := data497) tl22 f.1 f.2.1 (RdO.some_ (RwO.rd b532_Adata1) hx540) hx540)) ?_
            refine sc (fun own a wx hf hsl hE => ?_) ?_
            · obtain ⟨f_49, b_Adata1, -⟩ := hf
              exact px (or_load (l := E64.f x540) ta64 f_49 (RdO.cells (F := E64) (RwO.rd b_Adata1) hx540) rfl)
            refine sc (fun _ _ _ f _ _ => px (or_index (R := R64) (l := data497) tl22 f.1 f.2.1 (RdO.some_ (RwO.rd b532_Adata1) hx541) hx541)) ?_
            refine sc (fun own a wx hf hsl hE => ?_) ?_
            · obtain ⟨f_51, f_46, b_Adata1, -⟩ := hf
              exact px (or_storeIx (R := R64) (lab := 498) (lab2 := 543) (cs := [.string x539.1, .int .i64 x539.2.1, .string x539.2.2.1, .int .i64 x539.2.2.2]) (v := x539) ts64 f_51 f_46 rfl (Rep.fl_flat _) (fun _ _ => rfl) b_Adata1 hl542 (mem_of rfl) (by decide) (fun own' a' w' ha hb => hb))
            refine sc (fun _ _ _ f _ _ => px (or_index (R := R64) (l := data497) tl22 f.1 f.2.1 (RdO.some_ (RwO.rd b532_Adata1) hx544) hx544)) ?_
            refine sc (fun own a wx hf hsl hE => ?_) ?_
            · obtain ⟨f_52, f_50, b_Adata1, -⟩ := hf
              exact px (or_storeIx (R := R64) (lab := 543) (lab2 := 546) (cs := [.string x540.1, .int .i64 x540.2.1, .string x540.2.2.1, .int .i64 x540.2.2.2]) (v := x540) ts64 f_52 f_50 rfl (Rep.fl_flat _) (fun _ _ => rfl) b_Adata1 hl545 (mem_of rfl) (by decide) (fun own' a' w' ha hb => hb))
            exact steps_nil
          intro own547 a547 w547 hd547 hz547 hk547 hf547 hE547
          have e547_0 := (hk547 0 rfl).trans e532_0
          have e547_1 := (hk547 1 rfl).trans e532_1
          have e547_2 := (hk547 2 rfl).trans e532_2
          have e547_3 := (hk547 3 rfl).trans e532_3
          have e547_8 := (hk547 8 rfl).trans e532_8
          have e547_9 := (hk547 9 rfl).trans e532_9
          obtain ⟨(b547_Adata1 : RwO own547 546 [] w547 64 R64 Adata1 cdata1 l545), -⟩ := hf547 [17] rfl
          have hX547 := Evo.step hX532 hown hE547 rfl
          have m548_0 : a547.eval (.tmp 0) = .slice Adata1 l542.length cdata1 := e547_0.trans (by rw [put_len hl542])
          have m549_0 : a547.eval (.tmp 0) = .slice Adata1 l545.length cdata1 := m548_0.trans (by rw [put_len hl545])
          refine hn535 _ _ ?_
          refine hn534 _ _ ?_
          refine rg0 53 own547 (bz 3) [⟨[], [9], [], Fct.val 35 (.int .i64 j499)⟩, ⟨[0], [], [], Fct.val 36 (.int .i64 (sb j499 1))⟩, ⟨[1], [], [], Fct.val 9 (.int .i64 (sb j499 1))⟩] hz547 hd547 (by kernel_rfl) ?_ ?_
          · refine sc (fun _ _ _ _ s _ => px (or_move (s.1.trans e547_9))) ?_
            refine sc (fun _ _ _ f _ _ => px (or_sub f.1 rfl rfl)) ?_
            refine sc (fun _ _ _ f _ _ => px (or_assign f.1)) ?_
            exact steps_nil
          intro own550 a550 w550 hd550 hz550 hk550 hf550 hE550
          have e550_0 := (hk550 0 rfl).trans m549_0
          have e550_1 := (hk550 1 rfl).trans e547_1
          have e550_2 := (hk550 2 rfl).trans e547_2
          have e550_3 := (hk550 3 rfl).trans e547_3
          have e550_8 := (hk550 8 rfl).trans e547_8
          obtain ⟨(e550_9 : a550.eval (.tmp 9) = .int .i64 (sb j499 1)), -⟩ := hf550 [2] rfl
          have hX550 := Evo.step hX547 hown hE550 rfl
          have b550_Adata1 := re_ hE550 b547_Adata1
          exact hn525 _ _ _ hs ⟨(rl [(546, 498)] own550), hd550, hz550, e550_0, e550_1, e550_2, e550_3, e550_8, e550_9, (Evo.rl_ hX550 hown rfl), (RwO.rl_ (mm := [(546, 498)]) b550_Adata1)⟩
        refine fl_exit ?_
        refine hp527 _ _ _ rfl ?_
        replace hs := hz525 _ hs
        refine hp525 _ _ _ rfl ?_
        refine hx471 _ _ ?_
        refine hn469 _ _ ?_
        refine hn468 _ _ ?_
        refine rg0 53 own532 (bz 3) [⟨[], [8], [], Fct.val 15 (.int .i64 i374)⟩, ⟨[0], [], [], Fct.val 16 (.int .i64 (ad i374 1))⟩, ⟨[1], [], [], Fct.val 8 (.int .i64 (ad i374 1))⟩] hz532 hd532 (by kernel_rfl) ?_ ?_
        · refine sc (fun _ _ _ _ s _ => px (or_move (s.1.trans e532_8))) ?_
          refine sc (fun _ _ _ f _ _ => px (or_add f.1 rfl rfl)) ?_
          refine sc (fun _ _ _ f _ _ => px (or_assign f.1)) ?_
          exact steps_nil
        intro own551 a551 w551 hd551 hz551 hk551 hf551 hE551
        have e551_0 := (hk551 0 rfl).trans e532_0
        have e551_1 := (hk551 1 rfl).trans e532_1
        have e551_2 := (hk551 2 rfl).trans e532_2
        have e551_3 := (hk551 3 rfl).trans e532_3
        obtain ⟨(e551_8 : a551.eval (.tmp 8) = .int .i64 (ad i374 1)), -⟩ := hf551 [2] rfl
        have hX551 := Evo.step hX532 hown hE551 rfl
        have b551_Adata1 := re_ hE551 b532_Adata1
        exact hn463 _ _ _ hs ⟨(rl [(498, 373)] own551), hd551, hz551, e551_0, e551_1, e551_2, e551_3, e551_8, (Evo.rl_ hX551 hown rfl), (RwO.rl_ (mm := [(498, 373)]) b551_Adata1)⟩
    refine fl_exit ?_
    refine hp465 _ _ _ rfl ?_
    replace hs := hz463 _ hs
    refine hp463 _ _ _ rfl ?_
    refine hx283 _ _ ?_
    obtain ⟨u552, hu552, hs⟩ := obind hs
    obtain rfl := (osome hs).symm
    exact hret _ _ _ _ (.inr rfl) hd466 (results0_ rfl ) ⟨(rl [(373, 1)] own466), rfl, (Evo.rl_ hX466 hown rfl), (RwO.rl_ (mm := [(373, 1)]) b466_Adata1), (ckl_len hu552)⟩
theorem slices_stableCmpFunc_table_Attr_Sort_1_w (w : World) (own : Own) (data1 : List (ByteArray × (Int × ByteArray × Int))) (Adata1 : Option Addr) (cdata1 : Nat) (n2 : Int) (hown : ∀ b, own b ≤ 1) (hdata1 : RwO own 1 [] w 64 R64 Adata1 cdata1 data1) (r : List (ByteArray × (Int × ByteArray × Int))) (hs : slices_stableCmpFunc_table_Attr_Sort_1 data1 n2 = some r) :
    Calls Try.prog 53 #[.slice Adata1 data1.length cdata1, .int .i64 n2, .func (.func 42) #[] #[]] w fun e w' => ∃ (own' : Own), e = .returned (.tuple #[]) ∧ Evo [1] own own' w w' ∧ RwO own' 1 [] w' 64 R64 Adata1 cdata1 r ∧ r.length = data1.length := by
  refine fl_enter (n := 63) rfl rfl rfl (Nat.le_of_ble_eq_true rfl) ?_
  intro a0 Q hd0 hz0 harg hret
  have ha0 := harg 0 _ rfl
  have ha1 := harg 1 _ rfl
  have ha2 := harg 2 _ rfl
  clear harg
  have hE0 : Evo [1] own own w w := Evo.refl _ _ _
  refine rg0_seq 63 own (bz 1) [⟨[], [], [], Fct.val 6 (.int .i64 20)⟩] hz0 hd0 (by kernel_rfl) ?_ ?_
  · refine sc (fun _ _ _ _ _ _ => px (or_assign rfl)) ?_
    exact steps_nil
  intro own142 a142 w142 hd142 hz142 hk142 hf142 hE142
  have e142_0 := (hk142 0 rfl).trans ha0
  have e142_1 := (hk142 1 rfl).trans ha1
  have e142_2 := (hk142 2 rfl).trans ha2
  obtain ⟨(e142_6 : a142.eval (.tmp 6) = .int .i64 20), -⟩ := hf142 [0] rfl
  have hX142 := Evo.step hE0 hown hE142 rfl
  have b142_Adata1 := re_ hE142 hdata1
  refine rg0_seq 63 own142 [0, 0, 3] [⟨[], [6], [], Fct.val 10 (.int .i64 20)⟩, ⟨[], [], [], Fct.val 7 (.int .i64 0)⟩, ⟨[0], [], [], Fct.val 8 (.int .i64 20)⟩] hz142 hd142 (by kernel_rfl) ?_ ?_
  · refine sc (fun _ _ _ _ s _ => px (or_move (s.1.trans e142_6))) ?_
    refine sc (fun _ _ _ _ _ _ => px (or_assign rfl)) ?_
    refine sc (fun _ _ _ f _ _ => px (or_assign f.1)) ?_
    exact steps_nil
  intro own143 a143 w143 hd143 hz143 hk143 hf143 hE143
  have e143_0 := (hk143 0 rfl).trans e142_0
  have e143_1 := (hk143 1 rfl).trans e142_1
  have e143_2 := (hk143 2 rfl).trans e142_2
  have e143_6 := (hk143 6 rfl).trans e142_6
  obtain ⟨(e143_7 : a143.eval (.tmp 7) = .int .i64 0), (e143_8 : a143.eval (.tmp 8) = .int .i64 20), -⟩ := hf143 [1, 2] rfl
  have hX143 := Evo.step hX142 hown hE143 rfl
  have b143_Adata1 := re_ hE143 b142_Adata1
  refine fl_seq (fun Q144 hn144 hp144 => ?_)
  refine fl_block (fun Q145 hn145 hx145 hp145 => ?_)
  refine fl_loop (body := (fun s => slices_stableCmpFunc_table_Attr_Sort_1_b1 data1 n2 s.1 s.2.1 s.2.2)) (z := r) (show loopO _ _ = _ from hs) (fun (s : (List (ByteArray × (Int × ByteArray × Int))) × Int × Int) a wx => match s with | (data157, x159, b160) => ∃ (ox : Own), a.defers = [] ∧ a.tmps.size = 63 ∧ a.eval (.tmp 0) = .slice Adata1 data157.length cdata1 ∧ a.eval (.tmp 1) = .int .i64 n2 ∧ a.eval (.tmp 2) = .func (.func 42) #[] #[] ∧ a.eval (.tmp 6) = .int .i64 20 ∧ a.eval (.tmp 7) = .int .i64 x159 ∧ a.eval (.tmp 8) = .int .i64 b160 ∧ Evo [1] own ox w wx ∧ RwO ox 158 [] wx 64 R64 Adata1 cdata1 data157) ?_ ?_
  · exact ⟨(rl [(1, 158)] own143), hd143, hz143, e143_0, e143_1, e143_2, e143_6, e143_7, e143_8, (Evo.rl_ hX143 hown rfl), (RwO.rl_ (mm := [(1, 158)]) b143_Adata1)⟩
  · rintro ⟨data157, x159, b160⟩ zz172 a172 w172 ⟨own172, hd173, hz173, e173_0, e173_1, e173_2, e173_6, e173_7, e173_8, hE173, b173_Adata1⟩ hs Q172 hn172 hp172 hz172
    have hs : slices_stableCmpFunc_table_Attr_Sort_1_b1 data1 n2 data157 x159 b160 = some zz172 := hs
    refine fl_seq (fun Q174 hn174 hp174 => ?_)
    refine rg0_seq 63 own172 [0, 0, 3] [⟨[], [8], [], Fct.val 11 (.int .i64 b160)⟩, ⟨[], [1], [], Fct.val 12 (.int .i64 n2)⟩, ⟨[0, 1], [], [], Fct.val 13 (.bool (decide (b160 ≤ n2)))⟩] hz173 hd173 (by kernel_rfl) ?_ ?_
    · refine sc (fun _ _ _ _ s _ => px (or_move (s.1.trans e173_8))) ?_
      refine sc (fun _ _ _ _ s _ => px (or_move (s.1.trans e173_1))) ?_
      refine sc (fun _ _ _ f _ _ => px (or_leq f.1 f.2.1 rfl)) ?_
      exact steps_nil
    intro own175 a175 w175 hd175 hz175 hk175 hf175 hE175
    have e175_0 := (hk175 0 rfl).trans e173_0
    have e175_1 := (hk175 1 rfl).trans e173_1
    have e175_2 := (hk175 2 rfl).trans e173_2
    have e175_6 := (hk175 6 rfl).trans e173_6
    have e175_7 := (hk175 7 rfl).trans e173_7
    have e175_8 := (hk175 8 rfl).trans e173_8
    obtain ⟨(e175_13 : a175.eval (.tmp 13) = .bool (decide (b160 ≤ n2))), -⟩ := hf175 [2] rfl
    have hX175 := Evo.step hE173 hown hE175 rfl
    have b175_Adata1 := re_ hE175 b173_Adata1
    refine fl_cond e175_13 hs (fun c176 hs => ?_) (fun c176 hs => ?_)
    · refine fl_skip ?_
      refine hn174 _ _ ?_
      refine fl_block (fun Q177 hn177 hx177 hp177 => ?_)
      obtain ⟨r178, hr178, hs⟩ := obind hs
      refine rg_plain_seq (n := 63) (rs := [Fct.rowAt 158 [] 64 R64 Adata1 cdata1 data157]) (own0 := own175) (K := [158]) (bs := [0, 0, 0, 0, 15]) (ds := [⟨[], [0], [], Fct.val 14 (.slice Adata1 data157.length cdata1)⟩, ⟨[], [7], [], Fct.val 15 (.int .i64 x159)⟩, ⟨[], [8], [], Fct.val 16 (.int .i64 b160)⟩, ⟨[], [2], [], Fct.val 17 (.func (.func 42) #[] #[])⟩, ⟨[0, 1, 2, 3, 5], [], [158], Fct.mems [179] 18 (fun (_ : Unit) => .tuple #[]) (fun (_ : Unit) own w => RwO own 179 [] w 64 R64 Adata1 cdata1 r178 ∧ r178.length = data157.length) (fun hk he h => ⟨RwO.evo (hits_sub hk (by decide)) he h.1, h.2⟩)⟩]) (by kernel_rfl) hz175 hd175 (by simp only [List.forall_mem_cons]; exact ⟨b175_Adata1, fun _ h => nomatch h⟩) ?_ ?_
      · refine sc (fun _ _ _ _ s _ => px (or_move (s.1.trans e175_0))) ?_
        refine sc (fun _ _ _ _ s _ => px (or_move (s.1.trans e175_7))) ?_
        refine sc (fun _ _ _ _ s _ => px (or_move (s.1.trans e175_8))) ?_
        refine sc (fun _ _ _ _ s _ => px (or_move (s.1.trans e175_2))) ?_
        refine sc (fun own a wx hf hsl hE => ?_) ?_
        · obtain ⟨f_14, f_15, f_16, f_17, b_Adata1, -⟩ := hf
          exact px (or_call cf57 (args4 f_14 f_15 f_16 f_17) (slices_insertionSortCmpFunc_table_Attr_Sort_1_w _ (forth own (look0 [(158, 1)])) data157 Adata1 cdata1 x159 b160 (look0_le rfl) (RwO.forth_ (m := (look0 [(158, 1)])) b_Adata1) r178 hr178) (post_mems0 (m := (look0 [(158, 1)])) (m' := (look0 [(1, 179)])) (hm_of rfl) (fun own' w' a' h1 h => ⟨(), h1, ⟨RwO.back_ h.1 (by decide) (.inl (Rep.fl_flat _)), h.2⟩⟩)))
        exact steps_nil
      intro own180 a180 w180 hd180 hz180 hk180 hf180 hE180
      have e180_0 := (hk180 0 rfl).trans e175_0
      have e180_1 := (hk180 1 rfl).trans e175_1
      have e180_2 := (hk180 2 rfl).trans e175_2
      have e180_6 := (hk180 6 rfl).trans e175_6
      have e180_8 := (hk180 8 rfl).trans e175_8
      obtain ⟨⟨_, (f_18 : a180.eval (.tmp 18) = .tuple #[]), (b180_Adata1 : RwO own180 179 [] w180 64 R64 Adata1 cdata1 r178), (b_lenAdata1 : r178.length = data157.length)⟩, -⟩ := hf180 [4] rfl
      have hX180 := Evo.step hX175 hown hE180 rfl
      have m181_0 : a180.eval (.tmp 0) = .slice Adata1 r178.length cdata1 := e180_0.trans (by rw [b_lenAdata1])
      refine rg0_seq 63 own180 (bz 2) [⟨[], [8], [], Fct.val 19 (.int .i64 b160)⟩, ⟨[0], [], [], Fct.val 7 (.int .i64 b160)⟩] hz180 hd180 (by kernel_rfl) ?_ ?_
      · refine sc (fun _ _ _ _ s _ => px (or_move (s.1.trans e180_8))) ?_
        refine sc (fun _ _ _ f _ _ => px (or_assign f.1)) ?_
        exact steps_nil
      intro own182 a182 w182 hd182 hz182 hk182 hf182 hE182
      have e182_0 := (hk182 0 rfl).trans m181_0
      have e182_1 := (hk182 1 rfl).trans e180_1
      have e182_2 := (hk182 2 rfl).trans e180_2
      have e182_6 := (hk182 6 rfl).trans e180_6
      have e182_8 := (hk182 8 rfl).trans e180_8
      obtain ⟨(e182_7 : a182.eval (.tmp 7) = .int .i64 b160), -⟩ := hf182 [1] rfl
      have hX182 := Evo.step hX180 hown hE182 rfl
      have b182_Adata1 := re_ hE182 b180_Adata1
      refine rg0 63 own182 [0, 0, 3, 7] [⟨[], [8], [], Fct.val 20 (.int .i64 b160)⟩, ⟨[], [6], [], Fct.val 21 (.int .i64 20)⟩, ⟨[0, 1], [], [], Fct.val 22 (.int .i64 (ad b160 20))⟩, ⟨[2], [], [], Fct.val 8 (.int .i64 (ad b160 20))⟩] hz182 hd182 (by kernel_rfl) ?_ ?_
      · refine sc (fun _ _ _ _ s _ => px (or_move (s.1.trans e182_8))) ?_
        refine sc (fun _ _ _ _ s _ => px (or_move (s.1.trans e182_6))) ?_
        refine sc (fun _ _ _ f _ _ => px (or_add f.1 f.2.1 rfl)) ?_
        refine sc (fun _ _ _ f _ _ => px (or_assign f.1)) ?_
        exact steps_nil
      intro own183 a183 w183 hd183 hz183 hk183 hf183 hE183
      have e183_0 := (hk183 0 rfl).trans e182_0
      have e183_1 := (hk183 1 rfl).trans e182_1
      have e183_2 := (hk183 2 rfl).trans e182_2
      have e183_6 := (hk183 6 rfl).trans e182_6
      have e183_7 := (hk183 7 rfl).trans e182_7
      obtain ⟨(e183_8 : a183.eval (.tmp 8) = .int .i64 (ad b160 20)), -⟩ := hf183 [3] rfl
      have hX183 := Evo.step hX182 hown hE183 rfl
      have b183_Adata1 := re_ hE183 b182_Adata1
      refine hn177 _ _ ?_
      exact hn172 _ _ _ hs ⟨(rl [(179, 158)] own183), hd183, hz183, e183_0, e183_1, e183_2, e183_6, e183_7, e183_8, (Evo.rl_ hX183 hown rfl), (RwO.rl_ (mm := [(179, 158)]) b183_Adata1)⟩
    refine fl_exit ?_
    refine hp174 _ _ _ rfl ?_
    replace hs := hz172 _ hs
    refine hp172 _ _ _ rfl ?_
    refine hx145 _ _ ?_
    refine hn144 _ _ ?_
    obtain ⟨r184, hr184, hs⟩ := obind hs
    refine rg_plain_seq (n := 63) (rs := [Fct.rowAt 158 [] 64 R64 Adata1 cdata1 data157]) (own0 := own175) (K := [158]) (bs := [0, 0, 0, 0, 15]) (ds := [⟨[], [0], [], Fct.val 23 (.slice Adata1 data157.length cdata1)⟩, ⟨[], [7], [], Fct.val 24 (.int .i64 x159)⟩, ⟨[], [1], [], Fct.val 25 (.int .i64 n2)⟩, ⟨[], [2], [], Fct.val 26 (.func (.func 42) #[] #[])⟩, ⟨[0, 1, 2, 3, 5], [], [158], Fct.mems [185] 27 (fun (_ : Unit) => .tuple #[]) (fun (_ : Unit) own w => RwO own 185 [] w 64 R64 Adata1 cdata1 r184 ∧ r184.length = data157.length) (fun hk he h => ⟨RwO.evo (hits_sub hk (by decide)) he h.1, h.2⟩)⟩]) (by kernel_rfl) hz175 hd175 (by simp only [List.forall_mem_cons]; exact ⟨b175_Adata1, fun _ h => nomatch h⟩) ?_ ?_
    · refine sc (fun _ _ _ _ s _ => px (or_move (s.1.trans e175_0))) ?_
      refine sc (fun _ _ _ _ s _ => px (or_move (s.1.trans e175_7))) ?_
      refine sc (fun _ _ _ _ s _ => px (or_move (s.1.trans e175_1))) ?_
      refine sc (fun _ _ _ _ s _ => px (or_move (s.1.trans e175_2))) ?_
      refine sc (fun own a wx hf hsl hE => ?_) ?_
      · obtain ⟨f_23, f_24, f_25, f_26, b_Adata1, -⟩ := hf
        exact px (or_call cf57 (args4 f_23 f_24 f_25 f_26) (slices_insertionSortCmpFunc_table_Attr_Sort_1_w _ (forth own (look0 [(158, 1)])) data157 Adata1 cdata1 x159 n2 (look0_le rfl) (RwO.forth_ (m := (look0 [(158, 1)])) b_Adata1) r184 hr184) (post_mems0 (m := (look0 [(158, 1)])) (m' := (look0 [(1, 185)])) (hm_of rfl) (fun own' w' a' h1 h => ⟨(), h1, ⟨RwO.back_ h.1 (by decide) (.inl (Rep.fl_flat _)), h.2⟩⟩)))
      exact steps_nil
    intro own186 a186 w186 hd186 hz186 hk186 hf186 hE186
    have e186_0 := (hk186 0 rfl).trans e175_0
    have e186_1 := (hk186 1 rfl).trans e175_1
    have e186_2 := (hk186 2 rfl).trans e175_2
    have e186_6 := (hk186 6 rfl).trans e175_6
    obtain ⟨⟨_, (f_27 : a186.eval (.tmp 27) = .tuple #[]), (b186_Adata1 : RwO own186 185 [] w186 64 R64 Adata1 cdata1 r184), (b_lenAdata1 : r184.length = data157.length)⟩, -⟩ := hf186 [4] rfl
    have hX186 := Evo.step hX175 hown hE186 rfl
    have m187_0 : a186.eval (.tmp 0) = .slice Adata1 r184.length cdata1 := e186_0.trans (by rw [b_lenAdata1])
    refine fl_block (fun Q188 hn188 hx188 hp188 => ?_)
    refine fl_loop (body := (fun s => slices_stableCmpFunc_table_Attr_Sort_1_b2 data1 n2 r184 s)) (z := r) (show loopO _ _ = _ from hs) (fun (blockSiz216 : Int) a wx => ∃ (ox : Own), a.defers = [] ∧ a.tmps.size = 63 ∧ a.eval (.tmp 0) = .slice Adata1 r184.length cdata1 ∧ a.eval (.tmp 1) = .int .i64 n2 ∧ a.eval (.tmp 2) = .func (.func 42) #[] #[] ∧ a.eval (.tmp 6) = .int .i64 blockSiz216 ∧ Evo [1] own ox w wx ∧ RwO ox 185 [] wx 64 R64 Adata1 cdata1 r184) ?_ ?_
    · exact ⟨own186, hd186, hz186, m187_0, e186_1, e186_2, e186_6, hX186, b186_Adata1⟩
    · rintro blockSiz216 zz244 a244 w244 ⟨own244, hd245, hz245, e245_0, e245_1, e245_2, e245_6, hE245, b245_Adata1⟩ hs Q244 hn244 hp244 hz244
      have hs : slices_stableCmpFunc_table_Attr_Sort_1_b2 data1 n2 r184 blockSiz216 = some zz244 := hs
      refine fl_seq (fun Q246 hn246 hp246 => ?_)
      refine rg0_seq 63 own244 [0, 0, 3] [⟨[], [6], [], Fct.val 28 (.int .i64 blockSiz216)⟩, ⟨[], [1], [], Fct.val 29 (.int .i64 n2)⟩, ⟨[0, 1], [], [], Fct.val 30 (.bool (decide (blockSiz216 < n2)))⟩] hz245 hd245 (by kernel_rfl) ?_ ?_
      · refine sc (fun _ _ _ _ s _ => px (or_move (s.1.trans e245_6))) ?_
        refine sc (fun _ _ _ _ s _ => px (or_move (s.1.trans e245_1))) ?_
        refine sc (fun _ _ _ f _ _ => px (or_lss f.1 f.2.1 rfl)) ?_
        exact steps_nil
      intro own247 a247 w247 hd247 hz247 hk247 hf247 hE247
      have e247_0 := (hk247 0 rfl).trans e245_0
      have e247_1 := (hk247 1 rfl).trans e245_1
      have e247_2 := (hk247 2 rfl).trans e245_2
      have e247_6 := (hk247 6 rfl).trans e245_6
      obtain ⟨(e247_30 : a247.eval (.tmp 30) = .bool (decide (blockSiz216 < n2))), -⟩ := hf247 [2] rfl
      have hX247 := Evo.step hE245 hown hE247 rfl
      have b247_Adata1 := re_ hE247 b245_Adata1
      refine fl_cond e247_30 hs (fun c248 hs => ?_) (fun c248 hs => ?_)
      · refine fl_skip ?_
        refine hn246 _ _ ?_
        refine fl_block (fun Q249 hn249 hx249 hp249 => ?_)
        refine rg0_seq 63 own247 [0, 1, 0, 7] [⟨[], [6], [], Fct.val 31 (.int .i64 blockSiz216)⟩, ⟨[0], [], [], Fct.val 32 (.int .i64 (ml 2 blockSiz216))⟩, ⟨[], [], [], Fct.val 7 (.int .i64 0)⟩, ⟨[1], [], [], Fct.val 8 (.int .i64 (ml 2 blockSiz216))⟩] hz247 hd247 (by kernel_rfl) ?_ ?_
        · refine sc (fun _ _ _ _ s _ => px (or_move (s.1.trans e247_6))) ?_
          refine sc (fun _ _ _ f _ _ => px (or_mul rfl f.1 rfl)) ?_
          refine sc (fun _ _ _ _ _ _ => px (or_assign rfl)) ?_
          refine sc (fun _ _ _ f _ _ => px (or_assign f.1)) ?_
          exact steps_nil
        intro own250 a250 w250 hd250 hz250 hk250 hf250 hE250
        have e250_0 := (hk250 0 rfl).trans e247_0
        have e250_1 := (hk250 1 rfl).trans e247_1
        have e250_2 := (hk250 2 rfl).trans e247_2
        have e250_6 := (hk250 6 rfl).trans e247_6
        obtain ⟨(e250_7 : a250.eval (.tmp 7) = .int .i64 0), (e250_8 : a250.eval (.tmp 8) = .int .i64 (ml 2 blockSiz216)), -⟩ := hf250 [2, 3] rfl
        have hX250 := Evo.step hX247 hown hE250 rfl
        have b250_Adata1 := re_ hE250 b247_Adata1
        refine fl_seq (fun Q251 hn251 hp251 => ?_)
        refine fl_block (fun Q252 hn252 hx252 hp252 => ?_)
        refine fl_loop (body := (fun _ => slices_stableCmpFunc_table_Attr_Sort_1_b3 n2 blockSiz216)) (z := zz244) (show loopO _ _ = _ from hs) (fun (_ : Unit) a wx => ∃ (ox : Own), a.defers = [] ∧ a.tmps.size = 63 ∧ a.eval (.tmp 0) = .slice Adata1 r184.length cdata1 ∧ a.eval (.tmp 1) = .int .i64 n2 ∧ a.eval (.tmp 2) = .func (.func 42) #[] #[] ∧ a.eval (.tmp 6) = .int .i64 blockSiz216 ∧ a.eval (.tmp 7) = .int .i64 0 ∧ a.eval (.tmp 8) = .int .i64 (ml 2 blockSiz216) ∧ Evo [1] own ox w wx ∧ RwO ox 185 [] wx 64 R64 Adata1 cdata1 r184) ?_ ?_
        · exact ⟨own250, hd250, hz250, e250_0, e250_1, e250_2, e250_6, e250_7, e250_8, hX250, b250_Adata1⟩
        · rintro _ zz258 a258 w258 ⟨own258, hd259, hz259, e259_0, e259_1, e259_2, e259_6, e259_7, e259_8, hE259, b259_Adata1⟩ hs Q258 hn258 hp258 hz258
          have hs : slices_stableCmpFunc_table_Attr_Sort_1_b3 n2 blockSiz216 = some zz258 := hs
          refine fl_seq (fun Q260 hn260 hp260 => ?_)
          refine rg0_seq 63 own258 [0, 0, 3] [⟨[], [8], [], Fct.val 33 (.int .i64 (ml 2 blockSiz216))⟩, ⟨[], [1], [], Fct.val 34 (.int .i64 n2)⟩, ⟨[0, 1], [], [], Fct.val 35 (.bool (decide ((ml 2 blockSiz216) ≤ n2)))⟩] hz259 hd259 (by kernel_rfl) ?_ ?_
          · refine sc (fun _ _ _ _ s _ => px (or_move (s.1.trans e259_8))) ?_
            refine sc (fun _ _ _ _ s _ => px (or_move (s.1.trans e259_1))) ?_
            refine sc (fun _ _ _ f _ _ => px (or_leq f.1 f.2.1 rfl)) ?_
            exact steps_nil
          intro own261 a261 w261 hd261 hz261 hk261 hf261 hE261
          have e261_0 := (hk261 0 rfl).trans e259_0
          have e261_1 := (hk261 1 rfl).trans e259_1
          have e261_2 := (hk261 2 rfl).trans e259_2
          have e261_6 := (hk261 6 rfl).trans e259_6
          have e261_7 := (hk261 7 rfl).trans e259_7
          have e261_8 := (hk261 8 rfl).trans e259_8
          obtain ⟨(e261_35 : a261.eval (.tmp 35) = .bool (decide ((ml 2 blockSiz216) ≤ n2))), -⟩ := hf261 [2] rfl
          have hX261 := Evo.step hE259 hown hE261 rfl
          have b261_Adata1 := re_ hE261 b259_Adata1
          refine fl_cond e261_35 hs (fun c262 hs => ?_) (fun c262 hs => ?_)
          · refine fl_skip ?_
            refine hn260 _ _ ?_
            refine fl_block (fun Q263 hn263 hx263 hp263 => ?_)
            exact nomatch hs
          refine fl_exit ?_
          refine hp260 _ _ _ rfl ?_
          replace hs := hz258 _ hs
          refine hp258 _ _ _ rfl ?_
          refine hx252 _ _ ?_
          refine hn251 _ _ ?_
          refine fl_seq (fun Q264 hn264 hp264 => ?_)
          refine rg0_seq 63 own261 [0, 0, 3, 7] [⟨[], [7], [], Fct.val 49 (.int .i64 0)⟩, ⟨[], [6], [], Fct.val 50 (.int .i64 blockSiz216)⟩, ⟨[0, 1], [], [], Fct.val 51 (.int .i64 (ad 0 blockSiz216))⟩, ⟨[2], [], [], Fct.val 9 (.int .i64 (ad 0 blockSiz216))⟩] hz261 hd261 (by kernel_rfl) ?_ ?_
          · refine sc (fun _ _ _ _ s _ => px (or_move (s.1.trans e261_7))) ?_
            refine sc (fun _ _ _ _ s _ => px (or_move (s.1.trans e261_6))) ?_
            refine sc (fun _ _ _ f _ _ => px (or_add f.1 f.2.1 rfl)) ?_
            refine sc (fun _ _ _ f _ _ => px (or_assign f.1)) ?_
            exact steps_nil
          intro own268 a268 w268 hd268 hz268 hk268 hf268 hE268
          have e268_0 := (hk268 0 rfl).trans e261_0
          have e268_1 := (hk268 1 rfl).trans e261_1
          have e268_2 := (hk268 2 rfl).trans e261_2
          have e268_6 := (hk268 6 rfl).trans e261_6
          have e268_7 := (hk268 7 rfl).trans e261_7
          obtain ⟨(e268_9 : a268.eval (.tmp 9) = .int .i64 (ad 0 blockSiz216)), -⟩ := hf268 [3] rfl
          have hX268 := Evo.step hX261 hown hE268 rfl
          have b268_Adata1 := re_ hE268 b261_Adata1
          refine rg0_seq 63 own268 [0, 0, 3] [⟨[], [9], [], Fct.val 52 (.int .i64 (ad 0 blockSiz216))⟩, ⟨[], [1], [], Fct.val 53 (.int .i64 n2)⟩, ⟨[0, 1], [], [], Fct.val 54 (.bool (decide ((ad 0 blockSiz216) < n2)))⟩] hz268 hd268 (by kernel_rfl) ?_ ?_
          · refine sc (fun _ _ _ _ s _ => px (or_move (s.1.trans e268_9))) ?_
            refine sc (fun _ _ _ _ s _ => px (or_move (s.1.trans e268_1))) ?_
            refine sc (fun _ _ _ f _ _ => px (or_lss f.1 f.2.1 rfl)) ?_
            exact steps_nil
          intro own269 a269 w269 hd269 hz269 hk269 hf269 hE269
          have e269_0 := (hk269 0 rfl).trans e268_0
          have e269_1 := (hk269 1 rfl).trans e268_1
          have e269_2 := (hk269 2 rfl).trans e268_2
          have e269_6 := (hk269 6 rfl).trans e268_6
          have e269_7 := (hk269 7 rfl).trans e268_7
          have e269_9 := (hk269 9 rfl).trans e268_9
          obtain ⟨(e269_54 : a269.eval (.tmp 54) = .bool (decide ((ad 0 blockSiz216) < n2))), -⟩ := hf269 [2] rfl
          have hX269 := Evo.step hX268 hown hE269 rfl
          have b269_Adata1 := re_ hE269 b268_Adata1
          refine fl_cond e269_54 hs (fun c270 hs => ?_) (fun c270 hs => ?_)
          · exact nomatch hs
          refine fl_skip ?_
          refine hn264 _ _ ?_
          refine rg0 63 own269 (bz 3) [⟨[], [6], [], Fct.val 61 (.int .i64 blockSiz216)⟩, ⟨[0], [], [], Fct.val 62 (.int .i64 (ml blockSiz216 2))⟩, ⟨[1], [], [], Fct.val 6 (.int .i64 (ml blockSiz216 2))⟩] hz269 hd269 (by kernel_rfl) ?_ ?_
          · refine sc (fun _ _ _ _ s _ => px (or_move (s.1.trans e269_6))) ?_
            refine sc (fun _ _ _ f _ _ => px (or_mul f.1 rfl rfl)) ?_
            refine sc (fun _ _ _ f _ _ => px (or_assign f.1)) ?_
            exact steps_nil
          intro own271 a271 w271 hd271 hz271 hk271 hf271 hE271
          have e271_0 := (hk271 0 rfl).trans e269_0
          have e271_1 := (hk271 1 rfl).trans e269_1
          have e271_2 := (hk271 2 rfl).trans e269_2
          obtain ⟨(e271_6 : a271.eval (.tmp 6) = .int .i64 (ml blockSiz216 2)), -⟩ := hf271 [2] rfl
          have hX271 := Evo.step hX269 hown hE271 rfl
          have b271_Adata1 := re_ hE271 b269_Adata1
          refine hn249 _ _ ?_
          exact hn244 _ _ _ hs ⟨own271, hd271, hz271, e271_0, e271_1, e271_2, e271_6, hX271, b271_Adata1⟩
      refine fl_exit ?_
      refine hp246 _ _ _ rfl ?_
      replace hs := hz244 _ hs
      refine hp244 _ _ _ rfl ?_
      refine hx188 _ _ ?_
      obtain ⟨u272, hu272, hs⟩ := obind hs
      obtain rfl := (osome hs).symm
      exact hret _ _ _ _ (.inr rfl) hd247 (results0_ rfl ) ⟨(rl [(185, 1)] own247), rfl, (Evo.rl_ hX247 hown rfl), (RwO.rl_ (mm := [(185, 1)]) b247_Adata1), (ckl_len hu272)⟩
theorem slices_SortStableFunc_table_Attr_table_Attr_Sort_1_w (w : World) (own : Own) (x1 : List (ByteArray × (Int × ByteArray × Int))) (Ax1 : Option Addr) (cx1 : Nat) (hown : ∀ b, own b ≤ 1) (hx1 : RwO own 1 [] w 64 R64 Ax1 cx1 x1) (r : List (ByteArray × (Int × ByteArray × Int))) (hs : slices_SortStableFunc_table_Attr_table_Attr_Sort_1 x1 = some r) :
    Calls Try.prog 41 #[.slice Ax1 x1.length cx1, .func (.func 42) #[] #[]] w fun e w' => ∃ (own' : Own), e = .returned (.tuple #[]) ∧ Evo [1] own own' w w' ∧ RwO own' 1 [] w' 64 R64 Ax1 cx1 r ∧ r.length = x1.length := by
  refine fl_enter (n := 9) rfl rfl rfl (Nat.le_of_ble_eq_true rfl) ?_
  intro a0 Q hd0 hz0 harg hret
  have ha0 := harg 0 _ rfl
  have ha1 := harg 1 _ rfl
  clear harg
  have hE0 : Evo [1] own own w w := Evo.refl _ _ _
  obtain ⟨r15, hr15, hs⟩ := obind hs
  refine rg_plain (n := 9) (rs := [Fct.rowAt 1 [] 64 R64 Ax1 cx1 x1]) (own0 := own) (K := [1]) (bs := [0, 0, 2, 0, 15]) (ds := [⟨[], [0], [], Fct.val 4 (.slice Ax1 x1.length cx1)⟩, ⟨[], [0], [], Fct.val 5 (.slice Ax1 x1.length cx1)⟩, ⟨[1], [], [], Fct.val 6 (.int .i64 (x1.length : Int))⟩, ⟨[], [1], [], Fct.val 7 (.func (.func 42) #[] #[])⟩, ⟨[0, 2, 3, 5], [], [1], Fct.mems [16] 8 (fun (_ : Unit) => .tuple #[]) (fun (_ : Unit) own w => RwO own 16 [] w 64 R64 Ax1 cx1 r15 ∧ r15.length = x1.length) (fun hk he h => ⟨RwO.evo (hits_sub hk (by decide)) he h.1, h.2⟩)⟩]) (by kernel_rfl) hz0 hd0 (by simp only [List.forall_mem_cons]; exact ⟨hx1, fun _ h => nomatch h⟩) ?_ ?_
  · refine sc (fun _ _ _ _ s _ => px (or_move (s.1.trans ha0))) ?_
    refine sc (fun _ _ _ _ s _ => px (or_move (s.1.trans ha0))) ?_
    refine sc (fun _ _ _ f _ _ => px (or_len tu22 f.1 rfl)) ?_
    refine sc (fun _ _ _ _ s _ => px (or_move (s.1.trans ha1))) ?_
    refine sc (fun own a wx hf hsl hE => ?_) ?_
    · obtain ⟨f_4, f_6, f_7, b_Ax1, -⟩ := hf
      exact px (or_call cf53 (args3 f_4 f_6 f_7) (slices_stableCmpFunc_table_Attr_Sort_1_w _ (forth own (look0 [(1, 1)])) x1 Ax1 cx1 (x1.length : Int) (look0_le rfl) (RwO.forth_ (m := (look0 [(1, 1)])) b_Ax1) r15 hr15) (post_mems0 (m := (look0 [(1, 1)])) (m' := (look0 [(1, 16)])) (hm_of rfl) (fun own' w' a' h1 h => ⟨(), h1, ⟨RwO.back_ h.1 (by decide) (.inl (Rep.fl_flat _)), h.2⟩⟩)))
    exact steps_nil
  intro own17 a17 w17 hd17 hz17 hk17 hf17 hE17
  obtain ⟨⟨_, (f_8 : a17.eval (.tmp 8) = .tuple #[]), (b17_Ax1 : RwO own17 16 [] w17 64 R64 Ax1 cx1 r15), (b_lenAdata1 : r15.length = x1.length)⟩, -⟩ := hf17 [4] rfl
  have hX17 := Evo.step hE0 hown hE17 rfl
  obtain ⟨u18, hu18, hs⟩ := obind hs
  obtain rfl := (osome hs).symm
  exact hret _ _ _ _ (.inr rfl) hd17 (results0_ rfl ) ⟨(rl [(16, 1)] own17), rfl, (Evo.rl_ hX17 hown rfl), (RwO.rl_ (mm := [(16, 1)]) b17_Ax1), (ckl_len hu18)⟩
theorem table_Sort_w (w : World) (l1 : List (ByteArray × (Int × ByteArray × Int))) (Al1 : Option Addr) (cl1 : Nat) (hl1 : RdO (fun _ => 0) [0] w R64 Al1 cl1 l1) (r : List (ByteArray × (Int × ByteArray × Int))) (hs : table_Sort l1 = some r) :
    Calls Try.prog 24 #[.slice Al1 l1.length cl1] w fun e w' => ∃ (own' : Own) (x : Option Addr × Nat), e = .returned (.slice x.1 r.length x.2) ∧ Evo [] (fun _ => 0) own' w w' ∧ RwO own' 1 [] w' 64 R64 x.1 x.2 r := by
  refine fl_enter (n := 9) rfl rfl rfl (Nat.le_of_ble_eq_true rfl) ?_
  intro a0 Q hd0 hz0 harg hret
  have ha0 := harg 0 _ rfl
  clear harg
  have hE0 : Evo [] (fun _ => 0) (fun _ => 0) w w := Evo.refl _ _ _
  refine rg0_seq 9 (fun _ => 0) (bz 1) [⟨[], [], [], Fct.val 2 (.slice none 0 0)⟩] hz0 hd0 (by kernel_rfl) ?_ ?_
  · refine sc (fun _ _ _ _ _ _ => px (or_assign rfl)) ?_
    exact steps_nil
  intro own21 a21 w21 hd21 hz21 hk21 hf21 hE21
  have e21_0 := (hk21 0 rfl).trans ha0
  have hX21 := es_ hE0 hE21
  have b21_Al1 := RdO.evo rfl hE21 hl1
  obtain ⟨r22, hr22, hs⟩ := obind hs
  refine rg0_seq 9 own21 (bz 3) [⟨[], [0], [], Fct.val 4 (.slice Al1 l1.length cl1)⟩, ⟨[0], [], [], Fct.row 24 [] 5 64 R64 r22⟩, ⟨[1], [], [], Fct.rel [3, 5] (fun l => ∀ (A23 : Option Addr) (cA23 : Nat), l.getD 1 undef = .slice A23 r22.length cA23 → l.getD 0 undef = .slice A23 r22.length cA23)⟩] hz21 hd21 (by kernel_rfl) ?_ ?_
  · refine sc (fun _ _ _ _ s _ => px (or_move (s.1.trans e21_0))) ?_
    refine sc (fun _ _ _ f _ hE => px (or_call cf40 (args1 f.1) (slices_Clone_table_Attr_table_Attr_w _ l1 Al1 cl1 (RdO.zero (RdO.evo rfl hE b21_Al1)) r22 hr22) (post_row (m' := (look0 [(1, 24)])) (.inl (Rep.fl_flat _)) rfl rfl (fun _ => rfl)))) ?_
    refine sc (fun own a wx hf hsl hE => ?_) ?_
    · obtain ⟨⟨⟨A23, cA23⟩, (f_5 : a.eval (.tmp 5) = .slice A23 r22.length cA23), b_A23⟩, -⟩ := hf
      exact px (or_mono (f := Fct.val 3 (.slice A23 r22.length cA23)) (or_assign f_5) (fun own' a' w' v' hp h => fun _ _ h0' => by cases (f_5.symm.trans ((hp.2 5 (by decide)).symm.trans h0')); exact h))
    exact steps_nil
  intro own25 a25 w25 hd25 hz25 hk25 hf25 hE25
  obtain ⟨⟨⟨A23, cA23⟩, (f_5 : a25.eval (.tmp 5) = .slice A23 r22.length cA23), (b25_A23 : RwO own25 24 [] w25 64 R64 A23 cA23 r22)⟩, (q_3 : ∀ (A23 : Option Addr) (cA23 : Nat), a25.eval (.tmp 5) = .slice A23 r22.length cA23 → a25.eval (.tmp 3) = .slice A23 r22.length cA23), -⟩ := hf25 [1, 2] rfl
  have e25_3 := q_3 _ _ f_5
  have hX25 := es_ hX21 hE25
  obtain ⟨r26, hr26, hs⟩ := obind hs
  refine rg_plain_seq (n := 9) (rs := [Fct.rowAt 24 [] 64 R64 A23 cA23 r22]) (own0 := own25) (K := [24]) (bs := (bz 2)) (ds := [⟨[], [3], [], Fct.val 6 (.slice A23 r22.length cA23)⟩, ⟨[0, 2], [], [24], Fct.mems [27] 7 (fun (_ : Unit) => .tuple #[]) (fun (_ : Unit) own w => RwO own 27 [] w 64 R64 A23 cA23 r26 ∧ r26.length = r22.length) (fun hk he h => ⟨RwO.evo (hits_sub hk (by decide)) he h.1, h.2⟩)⟩]) (by kernel_rfl) hz25 hd25 (by simp only [List.forall_mem_cons]; exact ⟨b25_A23, fun _ h => nomatch h⟩) ?_ ?_
  · refine sc (fun _ _ _ _ s _ => px (or_move (s.1.trans e25_3))) ?_
    refine sc (fun own a wx hf hsl hE => ?_) ?_
    · obtain ⟨f_6, b_A23, -⟩ := hf
      exact px (or_call cf41 (args2 f_6 rfl) (slices_SortStableFunc_table_Attr_table_Attr_Sort_1_w _ (forth own (look0 [(24, 1)])) r22 A23 cA23 (look0_le rfl) (RwO.forth_ (m := (look0 [(24, 1)])) b_A23) r26 hr26) (post_mems0 (m := (look0 [(24, 1)])) (m' := (look0 [(1, 27)])) (hm_of rfl) (fun own' w' a' h1 h => ⟨(), h1, ⟨RwO.back_ h.1 (by decide) (.inl (Rep.fl_flat _)), h.2⟩⟩)))
    exact steps_nil
  intro own28 a28 w28 hd28 hz28 hk28 hf28 hE28
  have e28_3 := (hk28 3 rfl).trans e25_3
  obtain ⟨⟨_, (f_7 : a28.eval (.tmp 7) = .tuple #[]), (b28_A23 : RwO own28 27 [] w28 64 R64 A23 cA23 r26), (b_lenAx1 : r26.length = r22.length)⟩, -⟩ := hf28 [1] rfl
  have hX28 := es_ hX25 hE28
  have m29_3 : a28.eval (.tmp 3) = .slice A23 r26.length cA23 := e28_3.trans (by rw [b_lenAx1])
  refine rg0_seq 9 own28 (bz 2) [⟨[], [3], [], Fct.val 8 (.slice A23 r26.length cA23)⟩, ⟨[0], [], [], Fct.val 2 (.slice A23 r26.length cA23)⟩] hz28 hd28 (by kernel_rfl) ?_ ?_
  · refine sc (fun _ _ _ _ s _ => px (or_move (s.1.trans m29_3))) ?_
    refine sc (fun _ _ _ f _ _ => px (or_assign f.1)) ?_
    exact steps_nil
  intro own30 a30 w30 hd30 hz30 hk30 hf30 hE30
  obtain ⟨(e30_2 : a30.eval (.tmp 2) = .slice A23 r26.length cA23), -⟩ := hf30 [1] rfl
  have hX30 := es_ hX28 hE30
  have b30_A23 := re_ hE30 b28_A23
  refine fl_ret ?_
  obtain rfl := (osome hs).symm
  exact hret _ _ _ _ (.inl rfl) hd30 (results1_ rfl (RVal.tmp_ e30_2)) ⟨(rl [(27, 1)] own30), (A23, cA23), rfl, (Evo.rl_ hX30 (fun _ => Nat.le_refl 0) rfl), (RwO.rl_ (mm := [(27, 1)]) b30_A23)⟩
theorem ref11_Sort_w (w : World) (l1 : List (ByteArray × (Int × ByteArray × Int))) (Al1 : Option Addr) (cl1 : Nat) (hl1 : RdO (fun _ => 0) [0] w R77 Al1 cl1 l1) (r : List (ByteArray × (Int × ByteArray × Int))) (hs : ref11_Sort l1 = some r) :
    Calls Try.prog 25 #[.slice Al1 l1.length cl1] w fun e w' => ∃ (own' : Own) (x : Option Addr × Nat), e = .returned (.slice x.1 r.length x.2) ∧ Evo [] (fun _ => 0) own' w w' ∧ RwO own' 1 [] w' 77 R77 x.1 x.2 r := by
  refine fl_enter (n := 50) rfl rfl rfl (Nat.le_of_ble_eq_true rfl) ?_
  intro a0 Q hd0 hz0 harg hret
  have ha0 := harg 0 _ rfl
  clear harg
  have hE0 : Evo [] (fun _ => 0) (fun _ => 0) w w := Evo.refl _ _ _
  refine rg0_seq 50 (fun _ => 0) (bz 1) [⟨[], [], [], Fct.val 2 (.slice none 0 0)⟩] hz0 hd0 (by kernel_rfl) ?_ ?_
  · refine sc (fun _ _ _ _ _ _ => px (or_assign rfl)) ?_
    exact steps_nil
  intro own203 a203 w203 hd203 hz203 hk203 hf203 hE203
  have e203_0 := (hk203 0 rfl).trans ha0
  have hX203 := es_ hE0 hE203
  have b203_Al1 := RdO.evo rfl hE203 hl1
  refine rg0_seq 50 own203 (bz 1) [⟨[], [], [], Fct.val 3 (.slice none 0 0)⟩] hz203 hd203 (by kernel_rfl) ?_ ?_
  · refine sc (fun _ _ _ _ _ _ => px (or_assign rfl)) ?_
    exact steps_nil
  intro own204 a204 w204 hd204 hz204 hk204 hf204 hE204
  have e204_0 := (hk204 0 rfl).trans e203_0
  obtain ⟨(e204_3 : a204.eval (.tmp 3) = .slice none 0 0), -⟩ := hf204 [0] rfl
  have hX204 := es_ hX203 hE204
  have b204_Al1 := RdO.evo rfl hE204 b203_Al1
  refine fl_seq (fun Q205 hn205 hp205 => ?_)
  refine rg0_seq 50 own204 (bz 1) [⟨[], [], [], Fct.val 4 (.int .i64 0)⟩] hz204 hd204 (by kernel_rfl) ?_ ?_
  · refine sc (fun _ _ _ _ _ _ => px (or_assign rfl)) ?_
    exact steps_nil
  intro own206 a206 w206 hd206 hz206 hk206 hf206 hE206
  have e206_0 := (hk206 0 rfl).trans e204_0
  have e206_3 := (hk206 3 rfl).trans e204_3
  obtain ⟨(e206_4 : a206.eval (.tmp 4) = .int .i64 0), -⟩ := hf206 [0] rfl
  have hX206 := es_ hX204 hE206
  have b206_Al1 := RdO.evo rfl hE206 b204_Al1
  refine fl_block (fun Q207 hn207 hx207 hp207 => ?_)
  refine fl_loop (body := (fun s => ref11_Sort_b1 l1 s.1 s.2)) (z := r) (show loopO _ _ = _ from hs) (fun (s : (List (ByteArray × (Int × ByteArray × Int))) × Int) a wx => match s with | (out268, i270) => ∃ (ox : Own) (A266 : Option Addr) (c267 : Nat), a.defers = [] ∧ a.tmps.size = 50 ∧ a.eval (.tmp 0) = .slice Al1 l1.length cl1 ∧ a.eval (.tmp 3) = .slice A266 out268.length c267 ∧ a.eval (.tmp 4) = .int .i64 i270 ∧ Evo [] (fun _ => 0) ox w wx ∧ RdO ox [0] wx R77 Al1 cl1 l1 ∧ RwO ox 269 [] wx 77 R77 A266 c267 out268) ?_ ?_
  · exact ⟨own206, none, 0, hd206, hz206, e206_0, e206_3, e206_4, hX206, b206_Al1, RwO.nil_⟩
  · rintro ⟨out268, i270⟩ zz332 a332 w332 ⟨own332, A266, c267, hd333, hz333, e333_0, e333_3, e333_4, hE333, b333_Al1, b333_A266⟩ hs Q332 hn332 hp332 hz332
    have hs : ref11_Sort_b1 l1 out268 i270 = some zz332 := hs
    refine fl_seq (fun Q334 hn334 hp334 => ?_)
    refine rg0_seq 50 own332 [0, 0, 2, 7] [⟨[], [4], [], Fct.val 7 (.int .i64 i270)⟩, ⟨[], [0], [], Fct.val 8 (.slice Al1 l1.length cl1)⟩, ⟨[1], [], [], Fct.val 9 (.int .i64 (l1.length : Int))⟩, ⟨[0, 2], [], [], Fct.val 10 (.bool (decide (i270 < (l1.length : Int))))⟩] hz333 hd333 (by kernel_rfl) ?_ ?_
    · refine sc (fun _ _ _ _ s _ => px (or_move (s.1.trans e333_4))) ?_
      refine sc (fun _ _ _ _ s _ => px (or_move (s.1.trans e333_0))) ?_
      refine sc (fun _ _ _ f _ _ => px (or_len tu31 f.1 rfl)) ?_
      refine sc (fun _ _ _ f _ _ => px (or_lss f.1 f.2.1 rfl)) ?_
      exact steps_nil
    intro own335 a335 w335 hd335 hz335 hk335 hf335 hE335
    have e335_0 := (hk335 0 rfl).trans e333_0
    have e335_3 := (hk335 3 rfl).trans e333_3
    have e335_4 := (hk335 4 rfl).trans e333_4
    obtain ⟨(e335_10 : a335.eval (.tmp 10) = .bool (decide (i270 < (l1.length : Int)))), -⟩ := hf335 [3] rfl
    have hX335 := es_ hE333 hE335
    have b335_Al1 := RdO.evo rfl hE335 b333_Al1
    have b335_A266 := re_ hE335 b333_A266
    refine fl_cond e335_10 hs (fun c336 hs => ?_) (fun c336 hs => ?_)
    · refine fl_skip ?_
      refine hn334 _ _ ?_
      refine fl_seq (fun Q337 hn337 hp337 => ?_)
      refine fl_block (fun Q338 hn338 hx338 hp338 => ?_)
      refine rg0_seq 50 own335 (bz 3) [⟨[], [3], [], Fct.val 13 (.slice A266 out268.length c267)⟩, ⟨[0], [], [], Fct.val 14 (.int .i64 (out268.length : Int))⟩, ⟨[1], [], [], Fct.val 5 (.int .i64 (out268.length : Int))⟩] hz335 hd335 (by kernel_rfl) ?_ ?_
      · refine sc (fun _ _ _ _ s _ => px (or_move (s.1.trans e335_3))) ?_
        refine sc (fun _ _ _ f _ _ => px (or_len tu31 f.1 rfl)) ?_
        refine sc (fun _ _ _ f _ _ => px (or_assign f.1)) ?_
        exact steps_nil
      intro own339 a339 w339 hd339 hz339 hk339 hf339 hE339
      have e339_0 := (hk339 0 rfl).trans e335_0
      have e339_3 := (hk339 3 rfl).trans e335_3
      have e339_4 := (hk339 4 rfl).trans e335_4
      obtain ⟨(e339_5 : a339.eval (.tmp 5) = .int .i64 (out268.length : Int)), -⟩ := hf339 [2] rfl
      have hX339 := es_ hX335 hE339
      have b339_Al1 := RdO.evo rfl hE339 b335_Al1
      have b339_A266 := re_ hE339 b335_A266
      refine fl_seq (fun Q340 hn340 hp340 => ?_)
      refine fl_block (fun Q341 hn341 hx341 hp341 => ?_)
      refine fl_loop (body := (fun s => ref11_Sort_b2 l1 out268 i270 s)) (z := zz332) (show loopO _ _ = _ from hs) (fun (x351 : Int) a wx => ∃ (ox : Own), a.defers = [] ∧ a.tmps.size = 50 ∧ a.eval (.tmp 0) = .slice Al1 l1.length cl1 ∧ a.eval (.tmp 3) = .slice A266 out268.length c267 ∧ a.eval (.tmp 4) = .int .i64 i270 ∧ a.eval (.tmp 5) = .int .i64 x351 ∧ Evo [] (fun _ => 0) ox w wx ∧ RdO ox [0] wx R77 Al1 cl1 l1 ∧ RwO ox 269 [] wx 77 R77 A266 c267 out268) ?_ ?_
      · exact ⟨own339, hd339, hz339, e339_0, e339_3, e339_4, e339_5, hX339, b339_Al1, b339_A266⟩
      · rintro x351 zz361 a361 w361 ⟨own361, hd362, hz362, e362_0, e362_3, e362_4, e362_5, hE362, b362_Al1, b362_A266⟩ hs Q361 hn361 hp361 hz361
        have hs : ref11_Sort_b2 l1 out268 i270 x351 = some zz361 := hs
        refine fl_seq (fun Q363 hn363 hp363 => ?_)
        obtain ⟨x364, hx364, hs⟩ := obind hs
        obtain ⟨x365, hx365, hs⟩ := obind hs
        obtain ⟨x366, hx366, hs⟩ := obind hs
        refine rg_draw_seq g_mixed (n := 50) (rs := []) (own0 := own361) (K := []) (bs := [0, 1, 3, 7, 7, 31, 63, 127, 7, 7, 519, 1799, 3847, 7943, 16383, 32767]) (ds := [⟨[], [5], [], Fct.val 15 (.int .i64 x351)⟩, ⟨[0], [], [], Fct.val 16 (.bool (decide (0 < x351)))⟩, ⟨[1], [], [], Fct.val 17 (.bool (decide (0 < x351)))⟩, ⟨[2], [0], [], Fct.cond (decide (0 < x351)) (some 18) (Fct.val 18 (.slice Al1 l1.length cl1))⟩, ⟨[2], [4], [], Fct.cond (decide (0 < x351)) (some 19) (Fct.val 19 (.int .i64 i270))⟩, ⟨[2, 3, 4], [], [], Fct.cond (decide (0 < x351)) (some 20) (Fct.val 20 (.pointer (some ((adr Al1).add ((i270 : Int).toNat * R77.s)))))⟩, ⟨[2, 5], [], [], Fct.cond (decide (0 < x351)) (some 21) (Fct.val 21 (.pointer (some ((adr Al1).add ((i270 : Int).toNat * R77.s)))))⟩, ⟨[2, 6], [], [], Fct.cond (decide (0 < x351)) (some 22) (Fct.val 22 (.string x364.1))⟩, ⟨[2], [3], [], Fct.cond (decide (0 < x351)) (some 23) (Fct.val 23 (.slice A266 out268.length c267))⟩, ⟨[2], [5], [], Fct.cond (decide (0 < x351)) (some 24) (Fct.val 24 (.int .i64 x351))⟩, ⟨[2, 9], [], [], Fct.cond (decide (0 < x351)) (some 25) (Fct.val 25 (.int .i64 (sb x351 1)))⟩, ⟨[2, 8, 10], [], [], Fct.cond (decide (0 < x351)) (some 26) (Fct.val 26 (.pointer (some ((adr A266).add ((sb x351 1 : Int).toNat * R77.s)))))⟩, ⟨[2, 11], [], [], Fct.cond (decide (0 < x351)) (some 27) (Fct.val 27 (.pointer (some ((adr A266).add ((sb x351 1 : Int).toNat * R77.s)))))⟩, ⟨[2, 12], [], [], Fct.cond (decide (0 < x351)) (some 28) (Fct.val 28 (.string x365.1))⟩, ⟨[2, 7, 13], [], [], Fct.cond (decide (0 < x351)) (some 29) (Fct.val 29 (.bool (ltS x364.1 x365.1)))⟩, ⟨[2, 14], [], [], Fct.val 30 (.bool x366)⟩]) (by kernel_rfl) hz362 hd362 nm_ ?_ ?_
        · refine sc (fun _ _ _ _ s _ => px (or_move (s.1.trans e362_5))) ?_
          refine sc (fun _ _ _ f _ _ => px (or_gtr f.1 rfl rfl)) ?_
          refine sc (fun _ _ _ f _ _ => px (or_move f.1)) ?_
          refine sc (fun _ _ _ f s _ => sg_t rfl rfl rfl f.1 (fun hg => or_move (s.1.trans e362_0))) ?_
          refine sc (fun _ _ _ f s _ => sg_t rfl rfl rfl f.1 (fun hg => or_move (s.1.trans e362_4))) ?_
          refine sc (fun _ _ _ f _ _ => sg_t rfl rfl rfl f.1 (fun hg => or_index (R := R77) (l := l1) tl31 (f.2.1.1 hg) (f.2.2.1.1 hg) (RdO.some_ b362_Al1 (gd_t hx364 hg)) (gd_t hx364 hg))) ?_
          refine sc (fun _ _ _ f _ _ => sg_t rfl rfl rfl f.1 (fun hg => or_field fo77_0 (f.2.1.1 hg) (Addr.add_zero' _))) ?_
          refine sc (fun _ _ _ f _ hE => sg_t rfl rfl rfl f.1 (fun hg => or_load1 to9 (f.2.1.1 hg) (CellsAt.zero (RdO.cells (F := E77) (RdO.evo rfl hE b362_Al1) (gd_t hx364 hg)) rfl))) ?_
          refine sc (fun _ _ _ f s _ => sg_t rfl rfl rfl f.1 (fun hg => or_move (s.1.trans e362_3))) ?_
          refine sc (fun _ _ _ f s _ => sg_t rfl rfl rfl f.1 (fun hg => or_move (s.1.trans e362_5))) ?_
          refine sc (fun _ _ _ f _ _ => sg_t rfl rfl rfl f.1 (fun hg => or_sub (f.2.1.1 hg) rfl rfl)) ?_
          refine sc (fun _ _ _ f _ _ => sg_t rfl rfl rfl f.1 (fun hg => or_index (R := R77) (l := out268) tl31 (f.2.1.1 hg) (f.2.2.1.1 hg) (RdO.some_ (RwO.rd b362_A266) (gd_t hx365 hg)) (gd_t hx365 hg))) ?_
          refine sc (fun _ _ _ f _ _ => sg_t rfl rfl rfl f.1 (fun hg => or_field fo77_0 (f.2.1.1 hg) (Addr.add_zero' _))) ?_
          refine sc (fun _ _ _ f _ hE => sg_t rfl rfl rfl f.1 (fun hg => or_load1 to9 (f.2.1.1 hg) (CellsAt.zero (RdO.cells (F := E77) (RwO.rd (re_ hE b362_A266)) (gd_t hx365 hg)) rfl))) ?_
          refine sc (fun _ _ _ f _ _ => sg_t rfl rfl rfl f.1 (fun hg => or_lssS (f.2.1.1 hg) (f.2.2.1.1 hg) rfl)) ?_
          refine sc (fun _ _ _ f _ _ => px (or_and f.1 (fun hx => f.2.1.1 hx) rfl (osome hx366).symm)) ?_
          exact steps_nil
        intro own367 a367 w367 hd367 hz367 hk367 hf367 hE367
        have e367_0 := (hk367 0 rfl).trans e362_0
        have e367_3 := (hk367 3 rfl).trans e362_3
        have e367_4 := (hk367 4 rfl).trans e362_4
        have e367_5 := (hk367 5 rfl).trans e362_5
        obtain ⟨(e367_30 : a367.eval (.tmp 30) = .bool x366), -⟩ := hf367 [15] rfl
        have hX367 := es_ hE362 hE367
        have b367_Al1 := RdO.evo rfl hE367 b362_Al1
        have b367_A266 := re_ hE367 b362_A266
        refine fl_cond e367_30 hs (fun c368 hs => ?_) (fun c368 hs => ?_)
        · refine fl_skip ?_
          refine hn363 _ _ ?_
          refine fl_block (fun Q369 hn369 hx369 hp369 => ?_)
          refine rg0 50 own367 (bz 3) [⟨[], [5], [], Fct.val 31 (.int .i64 x351)⟩, ⟨[0], [], [], Fct.val 32 (.int .i64 (sb x351 1))⟩, ⟨[1], [], [], Fct.val 5 (.int .i64 (sb x351 1))⟩] hz367 hd367 (by kernel_rfl) ?_ ?_
          · refine sc (fun _ _ _ _ s _ => px (or_move (s.1.trans e367_5))) ?_
            refine sc (fun _ _ _ f _ _ => px (or_sub f.1 rfl rfl)) ?_
            refine sc (fun _ _ _ f _ _ => px (or_assign f.1)) ?_
            exact steps_nil
          intro own370 a370 w370 hd370 hz370 hk370 hf370 hE370
          have e370_0 := (hk370 0 rfl).trans e367_0
          have e370_3 := (hk370 3 rfl).trans e367_3
          have e370_4 := (hk370 4 rfl).trans e367_4
          obtain ⟨(e370_5 : a370.eval (.tmp 5) = .int .i64 (sb x351 1)), -⟩ := hf370 [2] rfl
          have hX370 := es_ hX367 hE370
          have b370_Al1 := RdO.evo rfl hE370 b367_Al1
          have b370_A266 := re_ hE370 b367_A266
          refine hn369 _ _ ?_
          exact hn361 _ _ _ hs ⟨own370, hd370, hz370, e370_0, e370_3, e370_4, e370_5, hX370, b370_Al1, b370_A266⟩
        refine fl_exit ?_
        refine hp363 _ _ _ rfl ?_
        replace hs := hz361 _ hs
        refine hp361 _ _ _ rfl ?_
        refine hx341 _ _ ?_
        refine hn340 _ _ ?_
        obtain ⟨x373, hx373, hs⟩ := obind hs
        obtain ⟨x375, hx375, hs⟩ := obind hs
        obtain ⟨x378, hx378, hs⟩ := obind hs
        obtain ⟨x381, hx381, hs⟩ := obind hs
        refine rg_draw_seq g_mixed (n := 50) (rs := []) (own0 := own367) (K := [372, 376]) (bs := [0, 0, 0, 6, 15, 0, 0, 96, 224, 480, 1023, 2047]) (ds := [⟨[], [], [], Fct.row 372 [] 33 77 R77 ([] : List (ByteArray × (Int × ByteArray × Int)))⟩, ⟨[], [3], [], Fct.val 34 (.slice A266 out268.length c267)⟩, ⟨[], [5], [], Fct.val 35 (.int .i64 x351)⟩, ⟨[1, 2], [], [], Fct.view [269] 36 R77 x373⟩, ⟨[0, 3], [], [372], Fct.row 376 [] 37 77 R77 x375⟩, ⟨[], [0], [], Fct.val 38 (.slice Al1 l1.length cl1)⟩, ⟨[], [4], [], Fct.val 39 (.int .i64 i270)⟩, ⟨[5, 6], [], [], Fct.val 40 (.pointer (some ((adr Al1).add ((i270 : Int).toNat * R77.s))))⟩, ⟨[7], [], [], Fct.val 41 (.agg #[.string x378.1, .int .i64 x378.2.1, .string x378.2.2.1, .int .i64 x378.2.2.2])⟩, ⟨[8], [], [], Fct.row 380 [] 42 77 R77 [x378]⟩, ⟨[4, 9], [], [376], Fct.row 382 [] 43 77 R77 x381⟩, ⟨[10], [], [], Fct.rel [6, 43] (fun l => ∀ (A383 : Option Addr) (cA383 : Nat), l.getD 1 undef = .slice A383 x381.length cA383 → l.getD 0 undef = .slice A383 x381.length cA383)⟩]) (by kernel_rfl) hz367 hd367 nm_ ?_ ?_
        · refine sc (fun _ _ _ _ _ _ => px (or_lit (lab := 372) (e := 77) (cs := #[]) (F := E77) (or_new [] rfl rfl trivial (by kernel_rfl)) rfl rfl (show 0 ≤ maxLen by decide))) ?_
          refine sc (fun _ _ _ _ s _ => px (or_move (s.1.trans e367_3))) ?_
          refine sc (fun _ _ _ _ s _ => px (or_move (s.1.trans e367_5))) ?_
          refine sc (fun _ _ _ f _ hE => px (or_view (R := R77) (l := out268) (L := [269]) tu31 ts77 f.1 Bnd.none_ (Bnd.some_ f.2.1) Bnd.none_ (RwO.rd (re_ hE b367_A266)) hx373 (.inl rfl) (by simp))) ?_
          refine sc (fun own a wx hf hsl hE => ?_) ?_
          · obtain ⟨⟨⟨A371, cA371⟩, f_33, b_A371⟩, ⟨⟨A374, cA374⟩, f_36, b_A374⟩, -⟩ := hf
            exact px (or_append (R := R77) (lab := 372) (lab2 := 376) (L := []) (L3 := []) tp31 f_33 b_A371 (by decide) f_36 b_A374 hx375 (by decide) (by decide) (mem_of rfl) (.inl (Rep.fl_flat _)))
          refine sc (fun _ _ _ _ s _ => px (or_move (s.1.trans e367_0))) ?_
          refine sc (fun _ _ _ _ s _ => px (or_move (s.1.trans e367_4))) ?_
          refine sc (fun _ _ _ f _ _ => px (or_index (R := R77) (l := l1) tl31 f.1 f.2.1 (RdO.some_ b367_Al1 hx378) hx378)) ?_
          refine sc (fun _ _ _ f _ hE => px (or_load (l := E77.f x378) ta77 f.1 (RdO.cells (F := E77) (RdO.evo rfl hE b367_Al1) hx378) rfl)) ?_
          refine sc (fun _ _ _ f _ _ => px (or_lit (lab := 380) (e := 77) (cs := #[.string x378.1, .int .i64 x378.2.1, .string x378.2.2.1, .int .i64 x378.2.2.2]) (F := E77) (or_new [(41, .agg #[.string x378.1, .int .i64 x378.2.1, .string x378.2.2.1, .int .i64 x378.2.2.2])] rfl rfl ⟨f.1, trivial⟩ (by kernel_rfl)) rfl rfl (show 1 ≤ maxLen by decide))) ?_
          refine sc (fun own a wx hf hsl hE => ?_) ?_
          · obtain ⟨⟨⟨A377, cA377⟩, f_37, b_A377⟩, ⟨⟨A379, cA379⟩, f_42, b_A379⟩, -⟩ := hf
            exact px (or_append (R := R77) (lab := 376) (lab2 := 382) (L := []) (L3 := []) tp31 f_37 b_A377 (by decide) f_42 (RwO.rd b_A379) hx381 (by decide) (by decide) (mem_of rfl) (.inl (Rep.fl_flat _)))
          refine sc (fun own a wx hf hsl hE => ?_) ?_
          · obtain ⟨⟨⟨A383, cA383⟩, (f_43 : a.eval (.tmp 43) = .slice A383 x381.length cA383), b_A383⟩, -⟩ := hf
            exact px (or_mono (f := Fct.val 6 (.slice A383 x381.length cA383)) (or_assign f_43) (fun own' a' w' v' hp h => fun _ _ h0' => by cases (f_43.symm.trans ((hp.2 43 (by decide)).symm.trans h0')); exact h))
          exact steps_nil
        intro own384 a384 w384 hd384 hz384 hk384 hf384 hE384
        have e384_0 := (hk384 0 rfl).trans e367_0
        have e384_3 := (hk384 3 rfl).trans e367_3
        have e384_4 := (hk384 4 rfl).trans e367_4
        have e384_5 := (hk384 5 rfl).trans e367_5
        obtain ⟨⟨⟨A383, cA383⟩, (f_43 : a384.eval (.tmp 43) = .slice A383 x381.length cA383), (b384_A383 : RwO own384 382 [] w384 77 R77 A383 cA383 x381)⟩, (q_6 : ∀ (A383 : Option Addr) (cA383 : Nat), a384.eval (.tmp 43) = .slice A383 x381.length cA383 → a384.eval (.tmp 6) = .slice A383 x381.length cA383), -⟩ := hf384 [10, 11] rfl
        have e384_6 := q_6 _ _ f_43
        have hX384 := es_ hX367 hE384
        have b384_Al1 := RdO.evo rfl hE384 b367_Al1
        have b384_A266 := re_ hE384 b367_A266
        obtain ⟨x387, hx387, hs⟩ := obind hs
        obtain ⟨x389, hx389, hs⟩ := obind hs
        refine rg_plain (n := 50) (rs := [Fct.rowAt 382 [] 77 R77 A383 cA383 x381]) (own0 := own384) (K := [382]) (bs := [0, 0, 0, 6, 15, 31]) (ds := [⟨[], [6], [], Fct.val 44 (.slice A383 x381.length cA383)⟩, ⟨[], [3], [], Fct.val 45 (.slice A266 out268.length c267)⟩, ⟨[], [5], [], Fct.val 46 (.int .i64 x351)⟩, ⟨[1, 2], [], [], Fct.view [269] 47 R77 x387⟩, ⟨[0, 3, 6], [], [382], Fct.row 390 [] 48 77 R77 x389⟩, ⟨[4], [], [], Fct.rel [3, 48] (fun l => ∀ (A391 : Option Addr) (cA391 : Nat), l.getD 1 undef = .slice A391 x389.length cA391 → l.getD 0 undef = .slice A391 x389.length cA391)⟩]) (by kernel_rfl) hz384 hd384 (by simp only [List.forall_mem_cons]; exact ⟨b384_A383, fun _ h => nomatch h⟩) ?_ ?_
        · refine sc (fun _ _ _ _ s _ => px (or_move (s.1.trans e384_6))) ?_
          refine sc (fun _ _ _ _ s _ => px (or_move (s.1.trans e384_3))) ?_
          refine sc (fun _ _ _ _ s _ => px (or_move (s.1.trans e384_5))) ?_
          refine sc (fun _ _ _ f _ hE => px (or_view (R := R77) (l := out268) (L := [269]) tu31 ts77 f.1 (Bnd.some_ f.2.1) Bnd.none_ Bnd.none_ (RwO.rd (re_ hE b384_A266)) hx387 (.inl rfl) (by simp))) ?_
          refine sc (fun own a wx hf hsl hE => ?_) ?_
          · obtain ⟨f_44, ⟨⟨A388, cA388⟩, f_47, b_A388⟩, b_A383, -⟩ := hf
            exact px (or_append (R := R77) (lab := 382) (lab2 := 390) (L := []) (L3 := []) tp31 f_44 b_A383 (by decide) f_47 b_A388 hx389 (by decide) (by decide) (mem_of rfl) (.inl (Rep.fl_flat _)))
          refine sc (fun own a wx hf hsl hE => ?_) ?_
          · obtain ⟨⟨⟨A391, cA391⟩, (f_48 : a.eval (.tmp 48) = .slice A391 x389.length cA391), b_A391⟩, -⟩ := hf
            exact px (or_mono (f := Fct.val 3 (.slice A391 x389.length cA391)) (or_assign f_48) (fun own' a' w' v' hp h => fun _ _ h0' => by cases (f_48.symm.trans ((hp.2 48 (by decide)).symm.trans h0')); exact h))
          exact steps_nil
        intro own392 a392 w392 hd392 hz392 hk392 hf392 hE392
        have e392_0 := (hk392 0 rfl).trans e384_0
        have e392_4 := (hk392 4 rfl).trans e384_4
        obtain ⟨⟨⟨A391, cA391⟩, (f_48 : a392.eval (.tmp 48) = .slice A391 x389.length cA391), (b392_A391 : RwO own392 390 [] w392 77 R77 A391 cA391 x389)⟩, (q_3 : ∀ (A391 : Option Addr) (cA391 : Nat), a392.eval (.tmp 48) = .slice A391 x389.length cA391 → a392.eval (.tmp 3) = .slice A391 x389.length cA391), -⟩ := hf392 [4, 5] rfl
        have e392_3 := q_3 _ _ f_48
        have hX392 := es_ hX384 hE392
        have b392_Al1 := RdO.evo rfl hE392 b384_Al1
        refine hn338 _ _ ?_
        refine hn337 _ _ ?_
        refine rg0 50 own392 (bz 3) [⟨[], [4], [], Fct.val 11 (.int .i64 i270)⟩, ⟨[0], [], [], Fct.val 12 (.int .i64 (ad i270 1))⟩, ⟨[1], [], [], Fct.val 4 (.int .i64 (ad i270 1))⟩] hz392 hd392 (by kernel_rfl) ?_ ?_
        · refine sc (fun _ _ _ _ s _ => px (or_move (s.1.trans e392_4))) ?_
          refine sc (fun _ _ _ f _ _ => px (or_add f.1 rfl rfl)) ?_
          refine sc (fun _ _ _ f _ _ => px (or_assign f.1)) ?_
          exact steps_nil
        intro own393 a393 w393 hd393 hz393 hk393 hf393 hE393
        have e393_0 := (hk393 0 rfl).trans e392_0
        have e393_3 := (hk393 3 rfl).trans e392_3
        obtain ⟨(e393_4 : a393.eval (.tmp 4) = .int .i64 (ad i270 1)), -⟩ := hf393 [2] rfl
        have hX393 := es_ hX392 hE393
        have b393_Al1 := RdO.evo rfl hE393 b392_Al1
        have b393_A391 := re_ hE393 b392_A391
        exact hn332 _ _ _ hs ⟨(rl [(390, 269)] own393), A391, cA391, hd393, hz393, e393_0, e393_3, e393_4, (Evo.rl_ hX393 (fun _ => Nat.le_refl 0) rfl), (RdO.rl_ (mm := [(390, 269)]) b393_Al1), (RwO.rl_ (mm := [(390, 269)]) b393_A391)⟩
    refine fl_exit ?_
    refine hp334 _ _ _ rfl ?_
    replace hs := hz332 _ hs
    refine hp332 _ _ _ rfl ?_
    refine hx207 _ _ ?_
    refine hn205 _ _ ?_
    refine rg0_seq 50 own335 (bz 2) [⟨[], [3], [], Fct.val 49 (.slice A266 out268.length c267)⟩, ⟨[0], [], [], Fct.val 2 (.slice A266 out268.length c267)⟩] hz335 hd335 (by kernel_rfl) ?_ ?_
    · refine sc (fun _ _ _ _ s _ => px (or_move (s.1.trans e335_3))) ?_
      refine sc (fun _ _ _ f _ _ => px (or_assign f.1)) ?_
      exact steps_nil
    intro own394 a394 w394 hd394 hz394 hk394 hf394 hE394
    obtain ⟨(e394_2 : a394.eval (.tmp 2) = .slice A266 out268.length c267), -⟩ := hf394 [1] rfl
    have hX394 := es_ hX335 hE394
    have b394_A266 := re_ hE394 b335_A266
    refine fl_ret ?_
    obtain rfl := (osome hs).symm
    exact hret _ _ _ _ (.inl rfl) hd394 (results1_ rfl (RVal.tmp_ e394_2)) ⟨(rl [(269, 1)] own394), (A266, c267), rfl, (Evo.rl_ hX394 (fun _ => Nat.le_refl 0) rfl), (RwO.rl_ (mm := [(269, 1)]) b394_A266)⟩
theorem law11_TableReads_w (w : World) (t1 : (List ByteArray) × (List (Int × ByteArray × Int))) (At1_0 : Option Addr) (ct1_0 : Nat) (At1_1 : Option Addr) (ct1_1 : Nat) (tags2 : List Int) (Atags2 : Option Addr) (ctags2 : Nat) (l3 : List (ByteArray × (Int × ByteArray × Int))) (Al3 : Option Addr) (cl3 : Nat) (m4 : List (ByteArray × (Int × ByteArray × Int))) (Am4 : Option Addr) (cm4 : Nat) (key5 : ByteArray) (hAt1_0 : RdO (fun _ => 0) [0] w R9 At1_0 ct1_0 t1.1) (hAt1_1 : RdO (fun _ => 0) [0] w R60 At1_1 ct1_1 t1.2) (htags2 : RdO (fun _ => 0) [0] w R3 Atags2 ctags2 tags2) (hl3 : RdO (fun _ => 0) [0] w R64 Al3 cl3 l3) (hm4 : RdO (fun _ => 0) [0] w R64 Am4 cm4 m4) (r : Bool) (hs : law11_TableReads t1 tags2 l3 m4 key5 = some r) :
    Calls Try.prog 6 #[.agg #[.slice At1_0 t1.1.length ct1_0, .slice At1_1 t1.2.length ct1_1], .slice Atags2 tags2.length ctags2, .slice Al3 l3.length cl3, .slice Am4 m4.length cm4, .string key5] w fun e w' => ∃ own' : Own, e = .returned (.bool r) ∧ Evo [] (fun _ => 0) own' w w' := by
  refine fl_enter (n := 117) rfl rfl rfl (Nat.le_of_ble_eq_true rfl) ?_
  intro a0 Q hd0 hz0 harg hret
  have ha0 := harg 0 _ rfl
  have ha1 := harg 1 _ rfl
  have ha2 := harg 2 _ rfl
  have ha3 := harg 3 _ rfl
  have ha4 := harg 4 _ rfl
  clear harg
  have hE0 : Evo [] (fun _ => 0) (fun _ => 0) w w := Evo.refl _ _ _
  refine rg0_seq 117 (fun _ => 0) [0, 0] [⟨[], [0], [], Fct.blk 226 5 (fun g => .pointer (some ⟨g, 0, none⟩)) 43 #[.slice At1_0 t1.1.length ct1_0, .slice At1_1 t1.2.length ct1_1]⟩, ⟨[], [], [], Fct.val 10 (.bool false)⟩] hz0 hd0 (by kernel_rfl) ?_ ?_
  · refine sc (fun _ _ _ _ s _ => px (or_new [(0, .agg #[.slice At1_0 t1.1.length ct1_0, .slice At1_1 t1.2.length ct1_1])] rfl rfl ⟨(s.1.trans ha0), trivial⟩ (by kernel_rfl))) ?_
    refine sc (fun _ _ _ _ _ _ => px (or_assign rfl)) ?_
    exact steps_nil
  intro own227 a227 w227 hd227 hz227 hk227 hf227 hE227
  have e227_1 := (hk227 1 rfl).trans ha1
  have e227_2 := (hk227 2 rfl).trans ha2
  have e227_3 := (hk227 3 rfl).trans ha3
  have e227_4 := (hk227 4 rfl).trans ha4
  obtain ⟨⟨g225, (e227_5 : a227.eval (.tmp 5) = .pointer (some ⟨g225, 0, none⟩)), (b227_g225 : BlkO own227 226 w227 g225 43 #[.slice At1_0 t1.1.length ct1_0, .slice At1_1 t1.2.length ct1_1])⟩, -⟩ := hf227 [0] rfl
  have hX227 := es_ hE0 hE227
  have b227_At1_0 := RdO.evo rfl hE227 hAt1_0
  have b227_At1_1 := RdO.evo rfl hE227 hAt1_1
  have b227_Atags2 := RdO.evo rfl hE227 htags2
  have b227_Al3 := RdO.evo rfl hE227 hl3
  have b227_Am4 := RdO.evo rfl hE227 hm4
  obtain ⟨r228, hr228, hs⟩ := obind hs
  refine rg_plain_seq (n := 117) (rs := []) (own0 := own227) (K := [238, 240]) (bs := [0, 1, 3, 7, 7, 0, 0, 111, 255]) (ds := [⟨[], [5], [], Fct.val 23 (.agg #[.slice At1_0 t1.1.length ct1_0, .slice At1_1 t1.2.length ct1_1])⟩, ⟨[0], [], [], Fct.mems [233, 234, 235, 236] 24 (fun (x : (Option Addr × Nat) × (Option Addr × Nat) × (Option Addr × Nat) × (Option Addr × Nat)) => .tuple #[.agg #[.slice x.1.1 r228.1.1.length x.1.2, .slice x.2.1.1 r228.1.2.length x.2.1.2], .agg #[.slice x.2.2.1.1 r228.2.1.length x.2.2.1.2, .slice x.2.2.2.1 r228.2.2.length x.2.2.2.2]]) (fun (x : (Option Addr × Nat) × (Option Addr × Nat) × (Option Addr × Nat) × (Option Addr × Nat)) own w => RwO own 233 [] w 9 R9 x.1.1 x.1.2 r228.1.1 ∧ RwO own 234 [] w 60 R60 x.2.1.1 x.2.1.2 r228.1.2 ∧ RwO own 235 [] w 9 R9 x.2.2.1.1 x.2.2.1.2 r228.2.1 ∧ RwO own 236 [] w 75 R75 x.2.2.2.1 x.2.2.2.2 r228.2.2) (fun hk he h => ⟨RwO.evo (hits_sub hk (by decide)) he h.1, RwO.evo (hits_sub hk (by decide)) he h.2.1, RwO.evo (hits_sub hk (by decide)) he h.2.2.1, RwO.evo (hits_sub hk (by decide)) he h.2.2.2⟩)⟩, ⟨[1], [], [], Fct.rel [22, 24] (fun l => ∀ (A229 : Option Addr) (cA229 : Nat) (A230 : Option Addr) (cA230 : Nat) (A231 : Option Addr) (cA231 : Nat) (A232 : Option Addr) (cA232 : Nat), l.getD 1 undef = .tuple #[.agg #[.slice A229 r228.1.1.length cA229, .slice A230 r228.1.2.length cA230], .agg #[.slice A231 r228.2.1.length cA231, .slice A232 r228.2.2.length cA232]] → l.getD 0 undef = .tuple #[.agg #[.slice A229 r228.1.1.length cA229, .slice A230 r228.1.2.length cA230], .agg #[.slice A231 r228.2.1.length cA231, .slice A232 r228.2.2.length cA232]])⟩, ⟨[2, 1], [], [], Fct.rel [25, 24] (fun l => ∀ (A229 : Option Addr) (cA229 : Nat) (A230 : Option Addr) (cA230 : Nat) (A231 : Option Addr) (cA231 : Nat) (A232 : Option Addr) (cA232 : Nat), l.getD 1 undef = .tuple #[.agg #[.slice A229 r228.1.1.length cA229, .slice A230 r228.1.2.length cA230], .agg #[.slice A231 r228.2.1.length cA231, .slice A232 r228.2.2.length cA232]] → l.getD 0 undef = .agg #[.slice A229 r228.1.1.length cA229, .slice A230 r228.1.2.length cA230])⟩, ⟨[2, 1], [], [], Fct.rel [26, 24] (fun l => ∀ (A229 : Option Addr) (cA229 : Nat) (A230 : Option Addr) (cA230 : Nat) (A231 : Option Addr) (cA231 : Nat) (A232 : Option Addr) (cA232 : Nat), l.getD 1 undef = .tuple #[.agg #[.slice A229 r228.1.1.length cA229, .slice A230 r228.1.2.length cA230], .agg #[.slice A231 r228.2.1.length cA231, .slice A232 r228.2.2.length cA232]] → l.getD 0 undef = .agg #[.slice A231 r228.2.1.length cA231, .slice A232 r228.2.2.length cA232])⟩, ⟨[], [], [], Fct.blk 238 11 (fun g => .pointer (some ⟨g, 0, none⟩)) 43 #[.slice none 0 0, .slice none 0 0]⟩, ⟨[], [], [], Fct.blk 240 12 (fun g => .pointer (some ⟨g, 0, none⟩)) 37 #[.slice none 0 0, .slice none 0 0]⟩, ⟨[5, 3, 1], [], [238], Fct.by_ [241] [11, 24] (fun l own w => ∃ g237 : Nat, l.getD 0 undef = .pointer (some ⟨g237, 0, none⟩) ∧ (∀ (A229 : Option Addr) (cA229 : Nat) (A230 : Option Addr) (cA230 : Nat) (A231 : Option Addr) (cA231 : Nat) (A232 : Option Addr) (cA232 : Nat), l.getD 1 undef = .tuple #[.agg #[.slice A229 r228.1.1.length cA229, .slice A230 r228.1.2.length cA230], .agg #[.slice A231 r228.2.1.length cA231, .slice A232 r228.2.2.length cA232]] → BlkO own 241 w g237 43 #[.slice A229 r228.1.1.length cA229, .slice A230 r228.1.2.length cA230])) (fun hk he h => by obtain ⟨g, e, h⟩ := h; exact ⟨g, e, fun _ _ _ _ _ _ _ _ h0' => BlkO.evo (not_hit hk (by decide)) he (h _ _ _ _ _ _ _ _ h0')⟩)⟩, ⟨[6, 4, 1], [], [240], Fct.by_ [242] [12, 24] (fun l own w => ∃ g239 : Nat, l.getD 0 undef = .pointer (some ⟨g239, 0, none⟩) ∧ (∀ (A229 : Option Addr) (cA229 : Nat) (A230 : Option Addr) (cA230 : Nat) (A231 : Option Addr) (cA231 : Nat) (A232 : Option Addr) (cA232 : Nat), l.getD 1 undef = .tuple #[.agg #[.slice A229 r228.1.1.length cA229, .slice A230 r228.1.2.length cA230], .agg #[.slice A231 r228.2.1.length cA231, .slice A232 r228.2.2.length cA232]] → BlkO own 242 w g239 37 #[.slice A231 r228.2.1.length cA231, .slice A232 r228.2.2.length cA232])) (fun hk he h => by obtain ⟨g, e, h⟩ := h; exact ⟨g, e, fun _ _ _ _ _ _ _ _ h0' => BlkO.evo (not_hit hk (by decide)) he (h _ _ _ _ _ _ _ _ h0')⟩)⟩]) (by kernel_rfl) hz227 hd227 nm_ ?_ ?_
  · refine sc (fun _ _ _ _ s hE => px (or_load (l := [.slice At1_0 t1.1.length ct1_0, .slice At1_1 t1.2.length ct1_1]) ta43 (s.1.trans e227_5) (Blk.cellsFrom (be_ hE b227_g225).2 0 rfl) rfl)) ?_
    refine sc (fun _ _ _ f _ hE => px (or_call cf13 (args1 f.1) (law11_Table_w _ t1 At1_0 ct1_0 At1_1 ct1_1 (RdO.zero (RdO.evo rfl hE b227_At1_0)) (RdO.zero (RdO.evo rfl hE b227_At1_1)) r228 hr228) (post_mems (m := (fun _ => 0)) (m' := (look0 [(1, 233), (2, 234), (3, 235), (4, 236)])) (fun _ _ => .inl rfl) (fun own' w' a' x h1 h => ⟨x, h1, ⟨RwO.back_ h.1 (by decide) (.inl (Rep.fl_flat _)), RwO.back_ h.2.1 (by decide) (.inl (Rep.fl_flat _)), RwO.back_ h.2.2.1 (by decide) (.inl (Rep.fl_flat _)), RwO.back_ h.2.2.2 (by decide) (.inl (Rep.fl_flat _))⟩⟩)))) ?_
    refine sc (fun own a wx hf hsl hE => ?_) ?_
    · obtain ⟨⟨⟨⟨A229, cA229⟩, ⟨A230, cA230⟩, ⟨A231, cA231⟩, ⟨A232, cA232⟩⟩, (f_24 : a.eval (.tmp 24) = .tuple #[.agg #[.slice A229 r228.1.1.length cA229, .slice A230 r228.1.2.length cA230], .agg #[.slice A231 r228.2.1.length cA231, .slice A232 r228.2.2.length cA232]]), b_A229, b_A230, b_A231, b_A232⟩, -⟩ := hf
      exact px (or_mono (f := Fct.val 22 (.tuple #[.agg #[.slice A229 r228.1.1.length cA229, .slice A230 r228.1.2.length cA230], .agg #[.slice A231 r228.2.1.length cA231, .slice A232 r228.2.2.length cA232]])) (or_move f_24) (fun own' a' w' v' hp h => fun _ _ _ _ _ _ _ _ h0' => by cases (f_24.symm.trans ((hp.2 24 (by decide)).symm.trans h0')); exact h))
    refine sc (fun own a wx hf hsl hE => ?_) ?_
    · obtain ⟨(q_22 : ∀ (A229 : Option Addr) (cA229 : Nat) (A230 : Option Addr) (cA230 : Nat) (A231 : Option Addr) (cA231 : Nat) (A232 : Option Addr) (cA232 : Nat), a.eval (.tmp 24) = .tuple #[.agg #[.slice A229 r228.1.1.length cA229, .slice A230 r228.1.2.length cA230], .agg #[.slice A231 r228.2.1.length cA231, .slice A232 r228.2.2.length cA232]] → a.eval (.tmp 22) = .tuple #[.agg #[.slice A229 r228.1.1.length cA229, .slice A230 r228.1.2.length cA230], .agg #[.slice A231 r228.2.1.length cA231, .slice A232 r228.2.2.length cA232]]), ⟨⟨⟨A229, cA229⟩, ⟨A230, cA230⟩, ⟨A231, cA231⟩, ⟨A232, cA232⟩⟩, (f_24 : a.eval (.tmp 24) = .tuple #[.agg #[.slice A229 r228.1.1.length cA229, .slice A230 r228.1.2.length cA230], .agg #[.slice A231 r228.2.1.length cA231, .slice A232 r228.2.2.length cA232]]), b_A229, b_A230, b_A231, b_A232⟩, -⟩ := hf
      have f_22 := q_22 _ _ _ _ _ _ _ _ f_24
      exact px (or_mono (f := Fct.val 25 (.agg #[.slice A229 r228.1.1.length cA229, .slice A230 r228.1.2.length cA230])) (or_k [(22, .tuple #[.agg #[.slice A229 r228.1.1.length cA229, .slice A230 r228.1.2.length cA230], .agg #[.slice A231 r228.2.1.length cA231, .slice A232 r228.2.2.length cA232]])] rfl rfl ⟨f_22, trivial⟩ (by kernel_rfl)) (fun own' a' w' v' hp h => fun _ _ _ _ _ _ _ _ h0' => by cases (f_24.symm.trans ((hp.2 24 (by decide)).symm.trans h0')); exact h))
    refine sc (fun own a wx hf hsl hE => ?_) ?_
    · obtain ⟨(q_22 : ∀ (A229 : Option Addr) (cA229 : Nat) (A230 : Option Addr) (cA230 : Nat) (A231 : Option Addr) (cA231 : Nat) (A232 : Option Addr) (cA232 : Nat), a.eval (.tmp 24) = .tuple #[.agg #[.slice A229 r228.1.1.length cA229, .slice A230 r228.1.2.length cA230], .agg #[.slice A231 r228.2.1.length cA231, .slice A232 r228.2.2.length cA232]] → a.eval (.tmp 22) = .tuple #[.agg #[.slice A229 r228.1.1.length cA229, .slice A230 r228.1.2.length cA230], .agg #[.slice A231 r228.2.1.length cA231, .slice A232 r228.2.2.length cA232]]), ⟨⟨⟨A229, cA229⟩, ⟨A230, cA230⟩, ⟨A231, cA231⟩, ⟨A232, cA232⟩⟩, (f_24 : a.eval (.tmp 24) = .tuple #[.agg #[.slice A229 r228.1.1.length cA229, .slice A230 r228.1.2.length cA230], .agg #[.slice A231 r228.2.1.length cA231, .slice A232 r228.2.2.length cA232]]), b_A229, b_A230, b_A231, b_A232⟩, -⟩ := hf
      have f_22 := q_22 _ _ _ _ _ _ _ _ f_24
      exact px (or_mono (f := Fct.val 26 (.agg #[.slice A231 r228.2.1.length cA231, .slice A232 r228.2.2.length cA232])) (or_k [(22, .tuple #[.agg #[.slice A229 r228.1.1.length cA229, .slice A230 r228.1.2.length cA230], .agg #[.slice A231 r228.2.1.length cA231, .slice A232 r228.2.2.length cA232]])] rfl rfl ⟨f_22, trivial⟩ (by kernel_rfl)) (fun own' a' w' v' hp h => fun _ _ _ _ _ _ _ _ h0' => by cases (f_24.symm.trans ((hp.2 24 (by decide)).symm.trans h0')); exact h))
    refine sc (fun _ _ _ _ _ _ => px (or_new [] rfl rfl trivial (by kernel_rfl))) ?_
    refine sc (fun _ _ _ _ _ _ => px (or_new [] rfl rfl trivial (by kernel_rfl))) ?_
    refine sc (fun own a wx hf hsl hE => ?_) ?_
    · obtain ⟨⟨g237, f_11, b_g237⟩, (q_25 : ∀ (A229 : Option Addr) (cA229 : Nat) (A230 : Option Addr) (cA230 : Nat) (A231 : Option Addr) (cA231 : Nat) (A232 : Option Addr) (cA232 : Nat), a.eval (.tmp 24) = .tuple #[.agg #[.slice A229 r228.1.1.length cA229, .slice A230 r228.1.2.length cA230], .agg #[.slice A231 r228.2.1.length cA231, .slice A232 r228.2.2.length cA232]] → a.eval (.tmp 25) = .agg #[.slice A229 r228.1.1.length cA229, .slice A230 r228.1.2.length cA230]), ⟨⟨⟨A229, cA229⟩, ⟨A230, cA230⟩, ⟨A231, cA231⟩, ⟨A232, cA232⟩⟩, (f_24 : a.eval (.tmp 24) = .tuple #[.agg #[.slice A229 r228.1.1.length cA229, .slice A230 r228.1.2.length cA230], .agg #[.slice A231 r228.2.1.length cA231, .slice A232 r228.2.2.length cA232]]), b_A229, b_A230, b_A231, b_A232⟩, -⟩ := hf
      have f_25 := q_25 _ _ _ _ _ _ _ _ f_24
      exact px (or_store (l := #[.slice A229 r228.1.1.length cA229, .slice A230 r228.1.2.length cA230]) (lab := 238) (lab2 := 241) ts43 f_11 f_25 b_g237 (by simp) (by kernel_rfl) (mem_of rfl) (by decide) (by kernel_rfl) (fun own' a' w' ha hb => ⟨_, (ha 11).trans f_11, fun _ _ _ _ _ _ _ _ h0' => by cases (f_24.symm.trans ((ha 24).symm.trans h0')); exact hb⟩))
    refine sc (fun own a wx hf hsl hE => ?_) ?_
    · obtain ⟨⟨g239, f_12, b_g239⟩, (q_26 : ∀ (A229 : Option Addr) (cA229 : Nat) (A230 : Option Addr) (cA230 : Nat) (A231 : Option Addr) (cA231 : Nat) (A232 : Option Addr) (cA232 : Nat), a.eval (.tmp 24) = .tuple #[.agg #[.slice A229 r228.1.1.length cA229, .slice A230 r228.1.2.length cA230], .agg #[.slice A231 r228.2.1.length cA231, .slice A232 r228.2.2.length cA232]] → a.eval (.tmp 26) = .agg #[.slice A231 r228.2.1.length cA231, .slice A232 r228.2.2.length cA232]), ⟨⟨⟨A229, cA229⟩, ⟨A230, cA230⟩, ⟨A231, cA231⟩, ⟨A232, cA232⟩⟩, (f_24 : a.eval (.tmp 24) = .tuple #[.agg #[.slice A229 r228.1.1.length cA229, .slice A230 r228.1.2.length cA230], .agg #[.slice A231 r228.2.1.length cA231, .slice A232 r228.2.2.length cA232]]), b_A229, b_A230, b_A231, b_A232⟩, -⟩ := hf
      have f_26 := q_26 _ _ _ _ _ _ _ _ f_24
      exact px (or_store (l := #[.slice A231 r228.2.1.length cA231, .slice A232 r228.2.2.length cA232]) (lab := 240) (lab2 := 242) ts37 f_12 f_26 b_g239 (by simp) (by kernel_rfl) (mem_of rfl) (by decide) (by kernel_rfl) (fun own' a' w' ha hb => ⟨_, (ha 12).trans f_12, fun _ _ _ _ _ _ _ _ h0' => by cases (f_24.symm.trans ((ha 24).symm.trans h0')); exact hb⟩))
    exact steps_nil
  intro own243 a243 w243 hd243 hz243 hk243 hf243 hE243
  have e243_1 := (hk243 1 rfl).trans e227_1
  have e243_2 := (hk243 2 rfl).trans e227_2
  have e243_3 := (hk243 3 rfl).trans e227_3
  have e243_4 := (hk243 4 rfl).trans e227_4
  obtain ⟨⟨⟨⟨A229, cA229⟩, ⟨A230, cA230⟩, ⟨A231, cA231⟩, ⟨A232, cA232⟩⟩, (f_24 : a243.eval (.tmp 24) = .tuple #[.agg #[.slice A229 r228.1.1.length cA229, .slice A230 r228.1.2.length cA230], .agg #[.slice A231 r228.2.1.length cA231, .slice A232 r228.2.2.length cA232]]), (b243_A229 : RwO own243 233 [] w243 9 R9 A229 cA229 r228.1.1), (b243_A230 : RwO own243 234 [] w243 60 R60 A230 cA230 r228.1.2), (b243_A231 : RwO own243 235 [] w243 9 R9 A231 cA231 r228.2.1), (b243_A232 : RwO own243 236 [] w243 75 R75 A232 cA232 r228.2.2)⟩, ⟨g237, (e243_11 : a243.eval (.tmp 11) = .pointer (some ⟨g237, 0, none⟩)), (bq_g237 : ∀ (A229 : Option Addr) (cA229 : Nat) (A230 : Option Addr) (cA230 : Nat) (A231 : Option Addr) (cA231 : Nat) (A232 : Option Addr) (cA232 : Nat), a243.eval (.tmp 24) = .tuple #[.agg #[.slice A229 r228.1.1.length cA229, .slice A230 r228.1.2.length cA230], .agg #[.slice A231 r228.2.1.length cA231, .slice A232 r228.2.2.length cA232]] → BlkO own243 241 w243 g237 43 #[.slice A229 r228.1.1.length cA229, .slice A230 r228.1.2.length cA230])⟩, ⟨g239, (e243_12 : a243.eval (.tmp 12) = .pointer (some ⟨g239, 0, none⟩)), (bq_g239 : ∀ (A229 : Option Addr) (cA229 : Nat) (A230 : Option Addr) (cA230 : Nat) (A231 : Option Addr) (cA231 : Nat) (A232 : Option Addr) (cA232 : Nat), a243.eval (.tmp 24) = .tuple #[.agg #[.slice A229 r228.1.1.length cA229, .slice A230 r228.1.2.length cA230], .agg #[.slice A231 r228.2.1.length cA231, .slice A232 r228.2.2.length cA232]] → BlkO own243 242 w243 g239 37 #[.slice A231 r228.2.1.length cA231, .slice A232 r228.2.2.length cA232])⟩, -⟩ := hf243 [1, 7, 8] rfl
  have b243_g237 := bq_g237 _ _ _ _ _ _ _ _ f_24
  have b243_g239 := bq_g239 _ _ _ _ _ _ _ _ f_24
  have hX243 := es_ hX227 hE243
  have b243_Atags2 := RdO.evo rfl hE243 b227_Atags2
  have b243_Al3 := RdO.evo rfl hE243 b227_Al3
  have b243_Am4 := RdO.evo rfl hE243 b227_Am4
  obtain ⟨x244, hx244, hs⟩ := obind hs
  refine rg0_seq 117 own243 [0, 0, 2, 6, 15, 31] [⟨[], [1], [], Fct.val 27 (.slice Atags2 tags2.length ctags2)⟩, ⟨[], [1], [], Fct.val 28 (.slice Atags2 tags2.length ctags2)⟩, ⟨[1], [], [], Fct.val 29 (.int .i64 (tags2.length : Int))⟩, ⟨[2], [], [], Fct.val 30 (.int .i64 (mn (tags2.length : Int) 20))⟩, ⟨[0, 3], [], [], Fct.view [0] 31 R3 x244⟩, ⟨[4], [], [], Fct.rel [1, 31] (fun l => ∀ (A245 : Option Addr) (cA245 : Nat), l.getD 1 undef = .slice A245 x244.length cA245 → l.getD 0 undef = .slice A245 x244.length cA245)⟩] hz243 hd243 (by kernel_rfl) ?_ ?_
  · refine sc (fun _ _ _ _ s _ => px (or_move (s.1.trans e243_1))) ?_
    refine sc (fun _ _ _ _ s _ => px (or_move (s.1.trans e243_1))) ?_
    refine sc (fun _ _ _ f _ _ => px (or_len tu23 f.1 rfl)) ?_
    refine sc (fun _ _ _ f _ _ => px (or_min f.1 rfl)) ?_
    refine sc (fun _ _ _ f _ hE => px (or_view (R := R3) (l := tags2) (L := [0]) tu23 ts3 f.1 Bnd.none_ (Bnd.some_ f.2.1) Bnd.none_ (RdO.evo rfl hE b243_Atags2) hx244 (.inl rfl) (by simp))) ?_
    refine sc (fun own a wx hf hsl hE => ?_) ?_
    · obtain ⟨⟨⟨A245, cA245⟩, (f_31 : a.eval (.tmp 31) = .slice A245 x244.length cA245), b_A245⟩, -⟩ := hf
      exact px (or_mono (f := Fct.val 1 (.slice A245 x244.length cA245)) (or_assign f_31) (fun own' a' w' v' hp h => fun _ _ h0' => by cases (f_31.symm.trans ((hp.2 31 (by decide)).symm.trans h0')); exact h))
    exact steps_nil
  intro own246 a246 w246 hd246 hz246 hk246 hf246 hE246
  have e246_2 := (hk246 2 rfl).trans e243_2
  have e246_3 := (hk246 3 rfl).trans e243_3
  have e246_4 := (hk246 4 rfl).trans e243_4
  have e246_11 := (hk246 11 rfl).trans e243_11
  have e246_12 := (hk246 12 rfl).trans e243_12
  obtain ⟨⟨⟨A245, cA245⟩, (f_31 : a246.eval (.tmp 31) = .slice A245 x244.length cA245), (b246_A245 : RdO own246 [0] w246 R3 A245 cA245 x244)⟩, (q_1 : ∀ (A245 : Option Addr) (cA245 : Nat), a246.eval (.tmp 31) = .slice A245 x244.length cA245 → a246.eval (.tmp 1) = .slice A245 x244.length cA245), -⟩ := hf246 [4, 5] rfl
  have e246_1 := q_1 _ _ f_31
  have hX246 := es_ hX243 hE246
  have b246_Al3 := RdO.evo rfl hE246 b243_Al3
  have b246_Am4 := RdO.evo rfl hE246 b243_Am4
  have b246_A229 := re_ hE246 b243_A229
  have b246_A230 := re_ hE246 b243_A230
  have b246_A231 := re_ hE246 b243_A231
  have b246_A232 := re_ hE246 b243_A232
  have b246_g237 := be_ hE246 b243_g237
  have b246_g239 := be_ hE246 b243_g239
  obtain ⟨r247, hr247, hs⟩ := obind hs
  refine rg0_seq 117 own246 [0, 1, 3, 7, 7, 15, 63] [⟨[], [1], [], Fct.val 33 (.slice A245 x244.length cA245)⟩, ⟨[0], [11], [], Fct.mems [249] 34 (fun (x : Option Addr × Nat) => .tuple #[.slice x.1 r247.1.length x.2, .int .i64 r247.2]) (fun (x : Option Addr × Nat) own w => RwO own 249 [] w 64 R64 x.1 x.2 r247.1) (fun hk he h => RwO.evo (hits_sub hk (by decide)) he h)⟩, ⟨[1], [], [], Fct.rel [32, 34] (fun l => ∀ (A248 : Option Addr) (cA248 : Nat), l.getD 1 undef = .tuple #[.slice A248 r247.1.length cA248, .int .i64 r247.2] → l.getD 0 undef = .tuple #[.slice A248 r247.1.length cA248, .int .i64 r247.2])⟩, ⟨[2, 1], [], [], Fct.rel [35, 34] (fun l => ∀ (A248 : Option Addr) (cA248 : Nat), l.getD 1 undef = .tuple #[.slice A248 r247.1.length cA248, .int .i64 r247.2] → l.getD 0 undef = .slice A248 r247.1.length cA248)⟩, ⟨[2, 1], [], [], Fct.val 36 (.int .i64 r247.2)⟩, ⟨[3, 1], [], [], Fct.rel [13, 34] (fun l => ∀ (A248 : Option Addr) (cA248 : Nat), l.getD 1 undef = .tuple #[.slice A248 r247.1.length cA248, .int .i64 r247.2] → l.getD 0 undef = .slice A248 r247.1.length cA248)⟩, ⟨[4], [], [], Fct.val 14 (.int .i64 r247.2)⟩] hz246 hd246 (by kernel_rfl) ?_ ?_
  · refine sc (fun _ _ _ _ s _ => px (or_move (s.1.trans e246_1))) ?_
    refine sc (fun _ _ _ f s hE => px (or_call cf9 (args2 (s.1.trans e246_11) f.1) (table_Table_Attrs_w _ r228.1 g237 43 A229 cA229 A230 cA230 x244 A245 cA245 (BlkO.zero_ (be_ hE b246_g237)) (RdO.zero (RwO.rd (re_ hE b246_A229))) (RdO.zero (RwO.rd (re_ hE b246_A230))) (RdO.zero (RdO.evo rfl hE b246_A245)) r247 hr247) (post_mems (m := (fun _ => 0)) (m' := (look0 [(1, 249)])) (fun _ _ => .inl rfl) (fun own' w' a' x h1 h => ⟨x, h1, RwO.back_ h (by decide) (.inl (Rep.fl_flat _))⟩)))) ?_
    refine sc (fun own a wx hf hsl hE => ?_) ?_
    · obtain ⟨⟨⟨A248, cA248⟩, (f_34 : a.eval (.tmp 34) = .tuple #[.slice A248 r247.1.length cA248, .int .i64 r247.2]), b_A248⟩, -⟩ := hf
      exact px (or_mono (f := Fct.val 32 (.tuple #[.slice A248 r247.1.length cA248, .int .i64 r247.2])) (or_move f_34) (fun own' a' w' v' hp h => fun _ _ h0' => by cases (f_34.symm.trans ((hp.2 34 (by decide)).symm.trans h0')); exact h))
    refine sc (fun own a wx hf hsl hE => ?_) ?_
    · obtain ⟨(q_32 : ∀ (A248 : Option Addr) (cA248 : Nat), a.eval (.tmp 34) = .tuple #[.slice A248 r247.1.length cA248, .int .i64 r247.2] → a.eval (.tmp 32) = .tuple #[.slice A248 r247.1.length cA248, .int .i64 r247.2]), ⟨⟨A248, cA248⟩, (f_34 : a.eval (.tmp 34) = .tuple #[.slice A248 r247.1.length cA248, .int .i64 r247.2]), b_A248⟩, -⟩ := hf
      have f_32 := q_32 _ _ f_34
      exact px (or_mono (f := Fct.val 35 (.slice A248 r247.1.length cA248)) (or_k [(32, .tuple #[.slice A248 r247.1.length cA248, .int .i64 r247.2])] rfl rfl ⟨f_32, trivial⟩ (by kernel_rfl)) (fun own' a' w' v' hp h => fun _ _ h0' => by cases (f_34.symm.trans ((hp.2 34 (by decide)).symm.trans h0')); exact h))
    refine sc (fun own a wx hf hsl hE => ?_) ?_
    · obtain ⟨(q_32 : ∀ (A248 : Option Addr) (cA248 : Nat), a.eval (.tmp 34) = .tuple #[.slice A248 r247.1.length cA248, .int .i64 r247.2] → a.eval (.tmp 32) = .tuple #[.slice A248 r247.1.length cA248, .int .i64 r247.2]), ⟨⟨A248, cA248⟩, f_34, b_A248⟩, -⟩ := hf
      have f_32 := q_32 _ _ f_34
      exact px (or_k [(32, .tuple #[.slice A248 r247.1.length cA248, .int .i64 r247.2])] rfl rfl ⟨f_32, trivial⟩ (by kernel_rfl))
    refine sc (fun own a wx hf hsl hE => ?_) ?_
    · obtain ⟨(q_35 : ∀ (A248 : Option Addr) (cA248 : Nat), a.eval (.tmp 34) = .tuple #[.slice A248 r247.1.length cA248, .int .i64 r247.2] → a.eval (.tmp 35) = .slice A248 r247.1.length cA248), ⟨⟨A248, cA248⟩, (f_34 : a.eval (.tmp 34) = .tuple #[.slice A248 r247.1.length cA248, .int .i64 r247.2]), b_A248⟩, -⟩ := hf
      have f_35 := q_35 _ _ f_34
      exact px (or_mono (f := Fct.val 13 (.slice A248 r247.1.length cA248)) (or_assign f_35) (fun own' a' w' v' hp h => fun _ _ h0' => by cases (f_34.symm.trans ((hp.2 34 (by decide)).symm.trans h0')); exact h))
    refine sc (fun _ _ _ f _ _ => px (or_assign f.1)) ?_
    exact steps_nil
  intro own250 a250 w250 hd250 hz250 hk250 hf250 hE250
  have e250_1 := (hk250 1 rfl).trans e246_1
  have e250_2 := (hk250 2 rfl).trans e246_2
  have e250_3 := (hk250 3 rfl).trans e246_3
  have e250_4 := (hk250 4 rfl).trans e246_4
  have e250_12 := (hk250 12 rfl).trans e246_12
  obtain ⟨⟨⟨A248, cA248⟩, (f_34 : a250.eval (.tmp 34) = .tuple #[.slice A248 r247.1.length cA248, .int .i64 r247.2]), (b250_A248 : RwO own250 249 [] w250 64 R64 A248 cA248 r247.1)⟩, (q_13 : ∀ (A248 : Option Addr) (cA248 : Nat), a250.eval (.tmp 34) = .tuple #[.slice A248 r247.1.length cA248, .int .i64 r247.2] → a250.eval (.tmp 13) = .slice A248 r247.1.length cA248), (e250_14 : a250.eval (.tmp 14) = .int .i64 r247.2), -⟩ := hf250 [1, 5, 6] rfl
  have e250_13 := q_13 _ _ f_34
  have hX250 := es_ hX246 hE250
  have b250_Al3 := RdO.evo rfl hE250 b246_Al3
  have b250_Am4 := RdO.evo rfl hE250 b246_Am4
  have b250_A231 := re_ hE250 b246_A231
  have b250_A232 := re_ hE250 b246_A232
  have b250_g239 := be_ hE250 b246_g239
  have b250_A245 := RdO.evo rfl hE250 b246_A245
  obtain ⟨r251, hr251, hs⟩ := obind hs
  refine rg0_seq 117 own250 [0, 0, 3, 7, 15, 15, 31, 127] [⟨[], [12], [], Fct.val 38 (.agg #[.slice A231 r228.2.1.length cA231, .slice A232 r228.2.2.length cA232])⟩, ⟨[], [1], [], Fct.val 39 (.slice A245 x244.length cA245)⟩, ⟨[0, 1], [], [], Fct.mems [253] 40 (fun (x : Option Addr × Nat) => .tuple #[.slice x.1 r251.1.length x.2, .int .i64 r251.2]) (fun (x : Option Addr × Nat) own w => RwO own 253 [] w 77 R77 x.1 x.2 r251.1) (fun hk he h => RwO.evo (hits_sub hk (by decide)) he h)⟩, ⟨[2], [], [], Fct.rel [37, 40] (fun l => ∀ (A252 : Option Addr) (cA252 : Nat), l.getD 1 undef = .tuple #[.slice A252 r251.1.length cA252, .int .i64 r251.2] → l.getD 0 undef = .tuple #[.slice A252 r251.1.length cA252, .int .i64 r251.2])⟩, ⟨[3, 2], [], [], Fct.rel [41, 40] (fun l => ∀ (A252 : Option Addr) (cA252 : Nat), l.getD 1 undef = .tuple #[.slice A252 r251.1.length cA252, .int .i64 r251.2] → l.getD 0 undef = .slice A252 r251.1.length cA252)⟩, ⟨[3, 2], [], [], Fct.val 42 (.int .i64 r251.2)⟩, ⟨[4, 2], [], [], Fct.rel [15, 40] (fun l => ∀ (A252 : Option Addr) (cA252 : Nat), l.getD 1 undef = .tuple #[.slice A252 r251.1.length cA252, .int .i64 r251.2] → l.getD 0 undef = .slice A252 r251.1.length cA252)⟩, ⟨[5], [], [], Fct.val 16 (.int .i64 r251.2)⟩] hz250 hd250 (by kernel_rfl) ?_ ?_
  · refine sc (fun _ _ _ _ s hE => px (or_load (l := [.slice A231 r228.2.1.length cA231, .slice A232 r228.2.2.length cA232]) ta37 (s.1.trans e250_12) (Blk.cellsFrom (be_ hE b250_g239).2 0 rfl) rfl)) ?_
    refine sc (fun _ _ _ _ s _ => px (or_move (s.1.trans e250_1))) ?_
    refine sc (fun _ _ _ f _ hE => px (or_call cf10 (args2 f.1 f.2.1) (ref11_Attrs_w _ r228.2 A231 cA231 A232 cA232 x244 A245 cA245 (RdO.zero (RwO.rd (re_ hE b250_A231))) (RdO.zero (RwO.rd (re_ hE b250_A232))) (RdO.zero (RdO.evo rfl hE b250_A245)) r251 hr251) (post_mems (m := (fun _ => 0)) (m' := (look0 [(1, 253)])) (fun _ _ => .inl rfl) (fun own' w' a' x h1 h => ⟨x, h1, RwO.back_ h (by decide) (.inl (Rep.fl_flat _))⟩)))) ?_
    refine sc (fun own a wx hf hsl hE => ?_) ?_
    · obtain ⟨⟨⟨A252, cA252⟩, (f_40 : a.eval (.tmp 40) = .tuple #[.slice A252 r251.1.length cA252, .int .i64 r251.2]), b_A252⟩, -⟩ := hf
      exact px (or_mono (f := Fct.val 37 (.tuple #[.slice A252 r251.1.length cA252, .int .i64 r251.2])) (or_move f_40) (fun own' a' w' v' hp h => fun _ _ h0' => by cases (f_40.symm.trans ((hp.2 40 (by decide)).symm.trans h0')); exact h))
    refine sc (fun own a wx hf hsl hE => ?_) ?_
    · obtain ⟨(q_37 : ∀ (A252 : Option Addr) (cA252 : Nat), a.eval (.tmp 40) = .tuple #[.slice A252 r251.1.length cA252, .int .i64 r251.2] → a.eval (.tmp 37) = .tuple #[.slice A252 r251.1.length cA252, .int .i64 r251.2]), ⟨⟨A252, cA252⟩, (f_40 : a.eval (.tmp 40) = .tuple #[.slice A252 r251.1.length cA252, .int .i64 r251.2]), b_A252⟩, -⟩ := hf
      have f_37 := q_37 _ _ f_40
      exact px (or_mono (f := Fct.val 41 (.slice A252 r251.1.length cA252)) (or_k [(37, .tuple #[.slice A252 r251.1.length cA252, .int .i64 r251.2])] rfl rfl ⟨f_37, trivial⟩ (by kernel_rfl)) (fun own' a' w' v' hp h => fun _ _ h0' => by cases (f_40.symm.trans ((hp.2 40 (by decide)).symm.trans h0')); exact h))
    refine sc (fun own a wx hf hsl hE => ?_) ?_
    · obtain ⟨(q_37 : ∀ (A252 : Option Addr) (cA252 : Nat), a.eval (.tmp 40) = .tuple #[.slice A252 r251.1.length cA252, .int .i64 r251.2] → a.eval (.tmp 37) = .tuple #[.slice A252 r251.1.length cA252, .int .i64 r251.2]), ⟨⟨A252, cA252⟩, f_40, b_A252⟩, -⟩ := hf
      have f_37 := q_37 _ _ f_40
      exact px (or_k [(37, .tuple #[.slice A252 r251.1.length cA252, .int .i64 r251.2])] rfl rfl ⟨f_37, trivial⟩ (by kernel_rfl))
    refine sc (fun own a wx hf hsl hE => ?_) ?_
    · obtain ⟨(q_41 : ∀ (A252 : Option Addr) (cA252 : Nat), a.eval (.tmp 40) = .tuple #[.slice A252 r251.1.length cA252, .int .i64 r251.2] → a.eval (.tmp 41) = .slice A252 r251.1.length cA252), ⟨⟨A252, cA252⟩, (f_40 : a.eval (.tmp 40) = .tuple #[.slice A252 r251.1.length cA252, .int .i64 r251.2]), b_A252⟩, -⟩ := hf
      have f_41 := q_41 _ _ f_40
      exact px (or_mono (f := Fct.val 15 (.slice A252 r251.1.length cA252)) (or_assign f_41) (fun own' a' w' v' hp h => fun _ _ h0' => by cases (f_40.symm.trans ((hp.2 40 (by decide)).symm.trans h0')); exact h))
    refine sc (fun _ _ _ f _ _ => px (or_assign f.1)) ?_
    exact steps_nil
  intro own254 a254 w254 hd254 hz254 hk254 hf254 hE254
  have e254_2 := (hk254 2 rfl).trans e250_2
  have e254_3 := (hk254 3 rfl).trans e250_3
  have e254_4 := (hk254 4 rfl).trans e250_4
  have e254_13 := (hk254 13 rfl).trans e250_13
  have e254_14 := (hk254 14 rfl).trans e250_14
  obtain ⟨⟨⟨A252, cA252⟩, (f_40 : a254.eval (.tmp 40) = .tuple #[.slice A252 r251.1.length cA252, .int .i64 r251.2]), (b254_A252 : RwO own254 253 [] w254 77 R77 A252 cA252 r251.1)⟩, (q_15 : ∀ (A252 : Option Addr) (cA252 : Nat), a254.eval (.tmp 40) = .tuple #[.slice A252 r251.1.length cA252, .int .i64 r251.2] → a254.eval (.tmp 15) = .slice A252 r251.1.length cA252), (e254_16 : a254.eval (.tmp 16) = .int .i64 r251.2), -⟩ := hf254 [2, 6, 7] rfl
  have e254_15 := q_15 _ _ f_40
  have hX254 := es_ hX250 hE254
  have b254_Al3 := RdO.evo rfl hE254 b250_Al3
  have b254_Am4 := RdO.evo rfl hE254 b250_Am4
  have b254_A248 := re_ hE254 b250_A248
  obtain ⟨r255, hr255, hs⟩ := obind hs
  obtain ⟨r258, hr258, hs⟩ := obind hs
  refine rg0_seq 117 own254 [0, 1, 0, 7, 15, 31] [⟨[], [2], [], Fct.val 43 (.slice Al3 l3.length cl3)⟩, ⟨[0], [], [], Fct.row 257 [] 44 64 R64 r255⟩, ⟨[], [3], [], Fct.val 45 (.slice Am4 m4.length cm4)⟩, ⟨[2], [], [], Fct.row 260 [] 46 64 R64 r258⟩, ⟨[1], [], [], Fct.rel [2, 44] (fun l => ∀ (A256 : Option Addr) (cA256 : Nat), l.getD 1 undef = .slice A256 r255.length cA256 → l.getD 0 undef = .slice A256 r255.length cA256)⟩, ⟨[3], [], [], Fct.rel [3, 46] (fun l => ∀ (A259 : Option Addr) (cA259 : Nat), l.getD 1 undef = .slice A259 r258.length cA259 → l.getD 0 undef = .slice A259 r258.length cA259)⟩] hz254 hd254 (by kernel_rfl) ?_ ?_
  · refine sc (fun _ _ _ _ s _ => px (or_move (s.1.trans e254_2))) ?_
    refine sc (fun _ _ _ f _ hE => px (or_call cf7 (args1 f.1) (law11_Cut_w _ l3 Al3 cl3 (RdO.zero (RdO.evo rfl hE b254_Al3)) r255 hr255) (post_row (m' := (look0 [(1, 257)])) (.inl (Rep.fl_flat _)) rfl rfl (fun _ => rfl)))) ?_
    refine sc (fun _ _ _ _ s _ => px (or_move (s.1.trans e254_3))) ?_
    refine sc (fun _ _ _ f _ hE => px (or_call cf7 (args1 f.1) (law11_Cut_w _ m4 Am4 cm4 (RdO.zero (RdO.evo rfl hE b254_Am4)) r258 hr258) (post_row (m' := (look0 [(1, 260)])) (.inl (Rep.fl_flat _)) rfl rfl (fun _ => rfl)))) ?_
    refine sc (fun own a wx hf hsl hE => ?_) ?_
    · obtain ⟨⟨⟨A256, cA256⟩, (f_44 : a.eval (.tmp 44) = .slice A256 r255.length cA256), b_A256⟩, -⟩ := hf
      exact px (or_mono (f := Fct.val 2 (.slice A256 r255.length cA256)) (or_assign f_44) (fun own' a' w' v' hp h => fun _ _ h0' => by cases (f_44.symm.trans ((hp.2 44 (by decide)).symm.trans h0')); exact h))
    refine sc (fun own a wx hf hsl hE => ?_) ?_
    · obtain ⟨⟨⟨A259, cA259⟩, (f_46 : a.eval (.tmp 46) = .slice A259 r258.length cA259), b_A259⟩, -⟩ := hf
      exact px (or_mono (f := Fct.val 3 (.slice A259 r258.length cA259)) (or_assign f_46) (fun own' a' w' v' hp h => fun _ _ h0' => by cases (f_46.symm.trans ((hp.2 46 (by decide)).symm.trans h0')); exact h))
    exact steps_nil
  intro own261 a261 w261 hd261 hz261 hk261 hf261 hE261
  have e261_4 := (hk261 4 rfl).trans e254_4
  have e261_13 := (hk261 13 rfl).trans e254_13
  have e261_14 := (hk261 14 rfl).trans e254_14
  have e261_15 := (hk261 15 rfl).trans e254_15
  have e261_16 := (hk261 16 rfl).trans e254_16
  obtain ⟨⟨⟨A256, cA256⟩, (f_44 : a261.eval (.tmp 44) = .slice A256 r255.length cA256), (b261_A256 : RwO own261 257 [] w261 64 R64 A256 cA256 r255)⟩, (q_2 : ∀ (A256 : Option Addr) (cA256 : Nat), a261.eval (.tmp 44) = .slice A256 r255.length cA256 → a261.eval (.tmp 2) = .slice A256 r255.length cA256), ⟨⟨A259, cA259⟩, (f_46 : a261.eval (.tmp 46) = .slice A259 r258.length cA259), (b261_A259 : RwO own261 260 [] w261 64 R64 A259 cA259 r258)⟩, (q_3 : ∀ (A259 : Option Addr) (cA259 : Nat), a261.eval (.tmp 46) = .slice A259 r258.length cA259 → a261.eval (.tmp 3) = .slice A259 r258.length cA259), -⟩ := hf261 [1, 4, 3, 5] rfl
  have e261_2 := q_2 _ _ f_44
  have e261_3 := q_3 _ _ f_46
  have hX261 := es_ hX254 hE261
  have b261_A248 := re_ hE261 b254_A248
  have b261_A252 := re_ hE261 b254_A252
  obtain ⟨r262, hr262, hs⟩ := obind hs
  refine rg_plain_seq (n := 117) (rs := []) (own0 := own261) (K := [264]) (bs := [0, 0, 3, 7, 15, 15, 0, 95, 255]) (ds := [⟨[], [2], [], Fct.val 48 (.slice A256 r255.length cA256)⟩, ⟨[], [4], [], Fct.val 49 (.string key5)⟩, ⟨[0, 1], [], [], Fct.val 50 (.tuple #[.agg #[.int .i64 r262.1.1, .string r262.1.2.1, .int .i64 r262.1.2.2], .bool r262.2])⟩, ⟨[2], [], [], Fct.val 47 (.tuple #[.agg #[.int .i64 r262.1.1, .string r262.1.2.1, .int .i64 r262.1.2.2], .bool r262.2])⟩, ⟨[3], [], [], Fct.val 51 (.agg #[.int .i64 r262.1.1, .string r262.1.2.1, .int .i64 r262.1.2.2])⟩, ⟨[3], [], [], Fct.val 52 (.bool r262.2)⟩, ⟨[], [], [], Fct.blk 264 17 (fun g => .pointer (some ⟨g, 0, none⟩)) 60 #[.int .i64 0, .string ByteArray.empty, .int .i64 0]⟩, ⟨[6, 4], [], [264], Fct.blk 265 17 (fun g => .pointer (some ⟨g, 0, none⟩)) 60 #[.int .i64 r262.1.1, .string r262.1.2.1, .int .i64 r262.1.2.2]⟩, ⟨[5], [], [], Fct.val 18 (.bool r262.2)⟩]) (by kernel_rfl) hz261 hd261 nm_ ?_ ?_
  · refine sc (fun _ _ _ _ s _ => px (or_move (s.1.trans e261_2))) ?_
    refine sc (fun _ _ _ _ s _ => px (or_move (s.1.trans e261_4))) ?_
    refine sc (fun _ _ _ f _ hE => px (or_call cf22 (args2 f.1 f.2.1) (table_Find_w _ r255 A256 cA256 key5 (RdO.zero (RwO.rd (re_ hE b261_A256))) r262 hr262) post_val)) ?_
    refine sc (fun _ _ _ f _ _ => px (or_move f.1)) ?_
    refine sc (fun _ _ _ f _ _ => px (or_k [(47, .tuple #[.agg #[.int .i64 r262.1.1, .string r262.1.2.1, .int .i64 r262.1.2.2], .bool r262.2])] rfl rfl ⟨f.1, trivial⟩ (by kernel_rfl))) ?_
    refine sc (fun _ _ _ f _ _ => px (or_k [(47, .tuple #[.agg #[.int .i64 r262.1.1, .string r262.1.2.1, .int .i64 r262.1.2.2], .bool r262.2])] rfl rfl ⟨f.1, trivial⟩ (by kernel_rfl))) ?_
    refine sc (fun _ _ _ _ _ _ => px (or_new [] rfl rfl trivial (by kernel_rfl))) ?_
    refine sc (fun own a wx hf hsl hE => ?_) ?_
    · obtain ⟨⟨g263, f_17, b_g263⟩, f_51, -⟩ := hf
      exact px (or_store (l := #[.int .i64 r262.1.1, .string r262.1.2.1, .int .i64 r262.1.2.2]) (lab := 264) (lab2 := 265) ts60 f_17 f_51 b_g263 (by simp) (by kernel_rfl) (mem_of rfl) (by decide) (by kernel_rfl) (fun own' a' w' ha hb => ⟨_, (ha 17).trans f_17, hb⟩))
    refine sc (fun _ _ _ f _ _ => px (or_assign f.1)) ?_
    exact steps_nil
  intro own266 a266 w266 hd266 hz266 hk266 hf266 hE266
  have e266_2 := (hk266 2 rfl).trans e261_2
  have e266_3 := (hk266 3 rfl).trans e261_3
  have e266_4 := (hk266 4 rfl).trans e261_4
  have e266_13 := (hk266 13 rfl).trans e261_13
  have e266_14 := (hk266 14 rfl).trans e261_14
  have e266_15 := (hk266 15 rfl).trans e261_15
  have e266_16 := (hk266 16 rfl).trans e261_16
  obtain ⟨⟨g263, (e266_17 : a266.eval (.tmp 17) = .pointer (some ⟨g263, 0, none⟩)), (b266_g263 : BlkO own266 265 w266 g263 60 #[.int .i64 r262.1.1, .string r262.1.2.1, .int .i64 r262.1.2.2])⟩, (e266_18 : a266.eval (.tmp 18) = .bool r262.2), -⟩ := hf266 [7, 8] rfl
  have hX266 := es_ hX261 hE266
  have b266_A248 := re_ hE266 b261_A248
  have b266_A252 := re_ hE266 b261_A252
  have b266_A256 := re_ hE266 b261_A256
  have b266_A259 := re_ hE266 b261_A259
  refine rg_plain_seq (n := 117) (rs := []) (own0 := own266) (K := [268]) (bs := [0, 0, 3, 7]) (ds := [⟨[], [], [], Fct.val 53 (.agg #[.int .i64 0, .string ByteArray.empty, .int .i64 0])⟩, ⟨[], [], [], Fct.blk 268 19 (fun g => .pointer (some ⟨g, 0, none⟩)) 60 #[.int .i64 0, .string ByteArray.empty, .int .i64 0]⟩, ⟨[1, 0], [], [268], Fct.blk 269 19 (fun g => .pointer (some ⟨g, 0, none⟩)) 60 #[.int .i64 0, .string ByteArray.empty, .int .i64 0]⟩, ⟨[], [], [], Fct.val 20 (.bool false)⟩]) (by kernel_rfl) hz266 hd266 nm_ ?_ ?_
  · refine sc (fun _ _ _ _ _ _ => px (or_k [] rfl rfl trivial (by kernel_rfl))) ?_
    refine sc (fun _ _ _ _ _ _ => px (or_new [] rfl rfl trivial (by kernel_rfl))) ?_
    refine sc (fun own a wx hf hsl hE => ?_) ?_
    · obtain ⟨⟨g267, f_19, b_g267⟩, f_53, -⟩ := hf
      exact px (or_store (l := #[.int .i64 0, .string ByteArray.empty, .int .i64 0]) (lab := 268) (lab2 := 269) ts60 f_19 f_53 b_g267 (by simp) (by kernel_rfl) (mem_of rfl) (by decide) (by kernel_rfl) (fun own' a' w' ha hb => ⟨_, (ha 19).trans f_19, hb⟩))
    refine sc (fun _ _ _ _ _ _ => px (or_assign rfl)) ?_
    exact steps_nil
  intro own270 a270 w270 hd270 hz270 hk270 hf270 hE270
  have e270_2 := (hk270 2 rfl).trans e266_2
  have e270_3 := (hk270 3 rfl).trans e266_3
  have e270_4 := (hk270 4 rfl).trans e266_4
  have e270_13 := (hk270 13 rfl).trans e266_13
  have e270_14 := (hk270 14 rfl).trans e266_14
  have e270_15 := (hk270 15 rfl).trans e266_15
  have e270_16 := (hk270 16 rfl).trans e266_16
  have e270_17 := (hk270 17 rfl).trans e266_17
  have e270_18 := (hk270 18 rfl).trans e266_18
  obtain ⟨⟨g267, (e270_19 : a270.eval (.tmp 19) = .pointer (some ⟨g267, 0, none⟩)), (b270_g267 : BlkO own270 269 w270 g267 60 #[.int .i64 0, .string ByteArray.empty, .int .i64 0])⟩, (e270_20 : a270.eval (.tmp 20) = .bool false), -⟩ := hf270 [2, 3] rfl
  have hX270 := es_ hX266 hE270
  have b270_A248 := re_ hE270 b266_A248
  have b270_A252 := re_ hE270 b266_A252
  have b270_A256 := re_ hE270 b266_A256
  have b270_A259 := re_ hE270 b266_A259
  have b270_g263 := be_ hE270 b266_g263
  refine fl_seq (fun Q271 hn271 hp271 => ?_)
  refine rg0_seq 117 own270 (bz 4) [⟨[], [2], [], Fct.val 54 (.slice A256 r255.length cA256)⟩, ⟨[0], [], [], Fct.val 55 (.int .i64 (r255.length : Int))⟩, ⟨[1], [], [], Fct.val 56 (.int .i64 (sb (r255.length : Int) 1))⟩, ⟨[2], [], [], Fct.val 21 (.int .i64 (sb (r255.length : Int) 1))⟩] hz270 hd270 (by kernel_rfl) ?_ ?_
  · refine sc (fun _ _ _ _ s _ => px (or_move (s.1.trans e270_2))) ?_
    refine sc (fun _ _ _ f _ _ => px (or_len tu22 f.1 rfl)) ?_
    refine sc (fun _ _ _ f _ _ => px (or_sub f.1 rfl rfl)) ?_
    refine sc (fun _ _ _ f _ _ => px (or_assign f.1)) ?_
    exact steps_nil
  intro own272 a272 w272 hd272 hz272 hk272 hf272 hE272
  have e272_2 := (hk272 2 rfl).trans e270_2
  have e272_3 := (hk272 3 rfl).trans e270_3
  have e272_4 := (hk272 4 rfl).trans e270_4
  have e272_13 := (hk272 13 rfl).trans e270_13
  have e272_14 := (hk272 14 rfl).trans e270_14
  have e272_15 := (hk272 15 rfl).trans e270_15
  have e272_16 := (hk272 16 rfl).trans e270_16
  have e272_17 := (hk272 17 rfl).trans e270_17
  have e272_18 := (hk272 18 rfl).trans e270_18
  have e272_19 := (hk272 19 rfl).trans e270_19
  have e272_20 := (hk272 20 rfl).trans e270_20
  obtain ⟨(e272_21 : a272.eval (.tmp 21) = .int .i64 (sb (r255.length : Int) 1)), -⟩ := hf272 [3] rfl
  have hX272 := es_ hX270 hE272
  have b272_A248 := re_ hE272 b270_A248
  have b272_A252 := re_ hE272 b270_A252
  have b272_A256 := re_ hE272 b270_A256
  have b272_A259 := re_ hE272 b270_A259
  have b272_g263 := be_ hE272 b270_g263
  have b272_g267 := be_ hE272 b270_g267
  refine fl_block (fun Q273 hn273 hx273 hp273 => ?_)
  refine fl_loop (body := (fun s => law11_TableReads_b1 key5 r247 r251 r255 r258 r262 s.1 s.2.1 s.2.2)) (z := r) (show loopO _ _ = _ from hs) (fun (s : (Int × ByteArray × Int) × Bool × Int) a wx => match s with | (u321, has322, i323) => ∃ (ox : Own), a.defers = [] ∧ a.tmps.size = 117 ∧ a.eval (.tmp 2) = .slice A256 r255.length cA256 ∧ a.eval (.tmp 3) = .slice A259 r258.length cA259 ∧ a.eval (.tmp 4) = .string key5 ∧ a.eval (.tmp 13) = .slice A248 r247.1.length cA248 ∧ a.eval (.tmp 14) = .int .i64 r247.2 ∧ a.eval (.tmp 15) = .slice A252 r251.1.length cA252 ∧ a.eval (.tmp 16) = .int .i64 r251.2 ∧ a.eval (.tmp 17) = .pointer (some ⟨g263, 0, none⟩) ∧ a.eval (.tmp 18) = .bool r262.2 ∧ a.eval (.tmp 19) = .pointer (some ⟨g267, 0, none⟩) ∧ a.eval (.tmp 20) = .bool has322 ∧ a.eval (.tmp 21) = .int .i64 i323 ∧ Evo [] (fun _ => 0) ox w wx ∧ RwO ox 257 [] wx 64 R64 A256 cA256 r255 ∧ RwO ox 260 [] wx 64 R64 A259 cA259 r258 ∧ RwO ox 249 [] wx 64 R64 A248 cA248 r247.1 ∧ RwO ox 253 [] wx 77 R77 A252 cA252 r251.1 ∧ BlkO ox 265 wx g263 60 #[.int .i64 r262.1.1, .string r262.1.2.1, .int .i64 r262.1.2.2] ∧ BlkO ox 320 wx g267 60 #[.int .i64 u321.1, .string u321.2.1, .int .i64 u321.2.2]) ?_ ?_
  · exact ⟨(rl [(269, 320)] own272), hd272, hz272, e272_2, e272_3, e272_4, e272_13, e272_14, e272_15, e272_16, e272_17, e272_18, e272_19, e272_20, e272_21, (Evo.rl_ hX272 (fun _ => Nat.le_refl 0) rfl), (RwO.rl_ (mm := [(269, 320)]) b272_A256), (RwO.rl_ (mm := [(269, 320)]) b272_A259), (RwO.rl_ (mm := [(269, 320)]) b272_A248), (RwO.rl_ (mm := [(269, 320)]) b272_A252), (BlkO.rl_ (mm := [(269, 320)]) b272_g263), (BlkO.rl_ (mm := [(269, 320)]) b272_g267)⟩
  · rintro ⟨u321, has322, i323⟩ zz370 a370 w370 ⟨own370, hd371, hz371, e371_2, e371_3, e371_4, e371_13, e371_14, e371_15, e371_16, e371_17, e371_18, e371_19, e371_20, e371_21, hE371, b371_A256, b371_A259, b371_A248, b371_A252, b371_g263, b371_g267⟩ hs Q370 hn370 hp370 hz370
    have hs : law11_TableReads_b1 key5 r247 r251 r255 r258 r262 u321 has322 i323 = some zz370 := hs
    refine fl_seq (fun Q372 hn372 hp372 => ?_)
    refine rg0_seq 117 own370 (bz 2) [⟨[], [21], [], Fct.val 57 (.int .i64 i323)⟩, ⟨[0], [], [], Fct.val 58 (.bool (decide (0 ≤ i323)))⟩] hz371 hd371 (by kernel_rfl) ?_ ?_
    · refine sc (fun _ _ _ _ s _ => px (or_move (s.1.trans e371_21))) ?_
      refine sc (fun _ _ _ f _ _ => px (or_geq f.1 rfl rfl)) ?_
      exact steps_nil
    intro own373 a373 w373 hd373 hz373 hk373 hf373 hE373
    have e373_2 := (hk373 2 rfl).trans e371_2
    have e373_3 := (hk373 3 rfl).trans e371_3
    have e373_4 := (hk373 4 rfl).trans e371_4
    have e373_13 := (hk373 13 rfl).trans e371_13
    have e373_14 := (hk373 14 rfl).trans e371_14
    have e373_15 := (hk373 15 rfl).trans e371_15
    have e373_16 := (hk373 16 rfl).trans e371_16
    have e373_17 := (hk373 17 rfl).trans e371_17
    have e373_18 := (hk373 18 rfl).trans e371_18
    have e373_19 := (hk373 19 rfl).trans e371_19
    have e373_20 := (hk373 20 rfl).trans e371_20
    have e373_21 := (hk373 21 rfl).trans e371_21
    obtain ⟨(e373_58 : a373.eval (.tmp 58) = .bool (decide (0 ≤ i323))), -⟩ := hf373 [1] rfl
    have hX373 := es_ hE371 hE373
    have b373_A256 := re_ hE373 b371_A256
    have b373_A259 := re_ hE373 b371_A259
    have b373_A248 := re_ hE373 b371_A248
    have b373_A252 := re_ hE373 b371_A252
    have b373_g263 := be_ hE373 b371_g263
    have b373_g267 := be_ hE373 b371_g267
    refine fl_cond e373_58 hs (fun c374 hs => ?_) (fun c374 hs => ?_)
    · refine fl_skip ?_
      refine hn372 _ _ ?_
      refine fl_seq (fun Q375 hn375 hp375 => ?_)
      refine fl_block (fun Q396 hn396 hx396 hp396 => ?_)
      have K407 : ∀ (a407 : Act) (w407 : World) (own407 : Own) (u405 : Int × ByteArray × Int) (has406 : Bool), a407.defers = [] → a407.tmps.size = 117 → a407.eval (.tmp 2) = .slice A256 r255.length cA256 → a407.eval (.tmp 3) = .slice A259 r258.length cA259 → a407.eval (.tmp 4) = .string key5 → a407.eval (.tmp 13) = .slice A248 r247.1.length cA248 → a407.eval (.tmp 14) = .int .i64 r247.2 → a407.eval (.tmp 15) = .slice A252 r251.1.length cA252 → a407.eval (.tmp 16) = .int .i64 r251.2 → a407.eval (.tmp 17) = .pointer (some ⟨g263, 0, none⟩) → a407.eval (.tmp 18) = .bool r262.2 → a407.eval (.tmp 19) = .pointer (some ⟨g267, 0, none⟩) → a407.eval (.tmp 20) = .bool has406 → a407.eval (.tmp 21) = .int .i64 i323 → Evo [] (fun _ => 0) own407 w w407 → RwO own407 257 [] w407 64 R64 A256 cA256 r255 → RwO own407 260 [] w407 64 R64 A259 cA259 r258 → RwO own407 249 [] w407 64 R64 A248 cA248 r247.1 → RwO own407 253 [] w407 77 R77 A252 cA252 r251.1 → BlkO own407 265 w407 g263 60 #[.int .i64 r262.1.1, .string r262.1.2.1, .int .i64 r262.1.2.2] → BlkO own407 404 w407 g267 60 #[.int .i64 u405.1, .string u405.2.1, .int .i64 u405.2.2] → law11_TableReads_k2 i323 u405 has406 = some zz370 → (Q396 .normal a407 w407 ∧ Q396 (.exit 1) a407 w407) := by
        intro a407 w407 own407 u405 has406 hd408 hz408 e408_2 e408_3 e408_4 e408_13 e408_14 e408_15 e408_16 e408_17 e408_18 e408_19 e408_20 e408_21 hE408 b408_A256 b408_A259 b408_A248 b408_A252 b408_g263 b408_g267 hs
        refine and_both (hn396 _ _) (hx396 _ _) ?_
        refine hn375 _ _ ?_
        refine rg0 117 own407 (bz 3) [⟨[], [21], [], Fct.val 59 (.int .i64 i323)⟩, ⟨[0], [], [], Fct.val 60 (.int .i64 (sb i323 1))⟩, ⟨[1], [], [], Fct.val 21 (.int .i64 (sb i323 1))⟩] hz408 hd408 (by kernel_rfl) ?_ ?_
        · refine sc (fun _ _ _ _ s _ => px (or_move (s.1.trans e408_21))) ?_
          refine sc (fun _ _ _ f _ _ => px (or_sub f.1 rfl rfl)) ?_
          refine sc (fun _ _ _ f _ _ => px (or_assign f.1)) ?_
          exact steps_nil
        intro own409 a409 w409 hd409 hz409 hk409 hf409 hE409
        have e409_2 := (hk409 2 rfl).trans e408_2
        have e409_3 := (hk409 3 rfl).trans e408_3
        have e409_4 := (hk409 4 rfl).trans e408_4
        have e409_13 := (hk409 13 rfl).trans e408_13
        have e409_14 := (hk409 14 rfl).trans e408_14
        have e409_15 := (hk409 15 rfl).trans e408_15
        have e409_16 := (hk409 16 rfl).trans e408_16
        have e409_17 := (hk409 17 rfl).trans e408_17
        have e409_18 := (hk409 18 rfl).trans e408_18
        have e409_19 := (hk409 19 rfl).trans e408_19
        have e409_20 := (hk409 20 rfl).trans e408_20
        obtain ⟨(e409_21 : a409.eval (.tmp 21) = .int .i64 (sb i323 1)), -⟩ := hf409 [2] rfl
        have hX409 := es_ hE408 hE409
        have b409_A256 := re_ hE409 b408_A256
        have b409_A259 := re_ hE409 b408_A259
        have b409_A248 := re_ hE409 b408_A248
        have b409_A252 := re_ hE409 b408_A252
        have b409_g263 := be_ hE409 b408_g263
        have b409_g267 := be_ hE409 b408_g267
        exact hn370 _ _ _ hs ⟨(rl [(404, 320)] own409), hd409, hz409, e409_2, e409_3, e409_4, e409_13, e409_14, e409_15, e409_16, e409_17, e409_18, e409_19, e409_20, e409_21, (Evo.rl_ hX409 (fun _ => Nat.le_refl 0) rfl), (RwO.rl_ (mm := [(404, 320)]) b409_A256), (RwO.rl_ (mm := [(404, 320)]) b409_A259), (RwO.rl_ (mm := [(404, 320)]) b409_A248), (RwO.rl_ (mm := [(404, 320)]) b409_A252), (BlkO.rl_ (mm := [(404, 320)]) b409_g263), (BlkO.rl_ (mm := [(404, 320)]) b409_g267)⟩
      obtain ⟨x410, hx410, hs⟩ := obind hs
      refine rg0_seq 117 own373 [0, 0, 3, 7, 15, 0, 63] [⟨[], [2], [], Fct.val 61 (.slice A256 r255.length cA256)⟩, ⟨[], [21], [], Fct.val 62 (.int .i64 i323)⟩, ⟨[0, 1], [], [], Fct.val 63 (.pointer (some ((adr A256).add ((i323 : Int).toNat * R64.s))))⟩, ⟨[2], [], [], Fct.val 64 (.pointer (some ((adr A256).add ((i323 : Int).toNat * R64.s))))⟩, ⟨[3], [], [], Fct.val 65 (.string x410.1)⟩, ⟨[], [4], [], Fct.val 66 (.string key5)⟩, ⟨[4, 5], [], [], Fct.val 67 (.bool (eqS x410.1 key5))⟩] hz373 hd373 (by kernel_rfl) ?_ ?_
      · refine sc (fun _ _ _ _ s _ => px (or_move (s.1.trans e373_2))) ?_
        refine sc (fun _ _ _ _ s _ => px (or_move (s.1.trans e373_21))) ?_
        refine sc (fun _ _ _ f _ _ => px (or_index (R := R64) (l := r255) tl22 f.1 f.2.1 (RdO.some_ (RwO.rd b373_A256) hx410) hx410)) ?_
        refine sc (fun _ _ _ f _ _ => px (or_field fo64_0 f.1 (Addr.add_zero' _))) ?_
        refine sc (fun _ _ _ f _ hE => px (or_load1 to9 f.1 (CellsAt.zero (RdO.cells (F := E64) (RwO.rd (re_ hE b373_A256)) hx410) rfl))) ?_
        refine sc (fun _ _ _ _ s _ => px (or_move (s.1.trans e373_4))) ?_
        refine sc (fun _ _ _ f _ _ => px (or_eqlS tS9 f.1 f.2.1 rfl)) ?_
        exact steps_nil
      intro own411 a411 w411 hd411 hz411 hk411 hf411 hE411
      have e411_2 := (hk411 2 rfl).trans e373_2
      have e411_3 := (hk411 3 rfl).trans e373_3
      have e411_4 := (hk411 4 rfl).trans e373_4
      have e411_13 := (hk411 13 rfl).trans e373_13
      have e411_14 := (hk411 14 rfl).trans e373_14
      have e411_15 := (hk411 15 rfl).trans e373_15
      have e411_16 := (hk411 16 rfl).trans e373_16
      have e411_17 := (hk411 17 rfl).trans e373_17
      have e411_18 := (hk411 18 rfl).trans e373_18
      have e411_19 := (hk411 19 rfl).trans e373_19
      have e411_20 := (hk411 20 rfl).trans e373_20
      have e411_21 := (hk411 21 rfl).trans e373_21
      obtain ⟨(e411_67 : a411.eval (.tmp 67) = .bool (eqS x410.1 key5)), -⟩ := hf411 [6] rfl
      have hX411 := es_ hX373 hE411
      have b411_A256 := re_ hE411 b373_A256
      have b411_A259 := re_ hE411 b373_A259
      have b411_A248 := re_ hE411 b373_A248
      have b411_A252 := re_ hE411 b373_A252
      have b411_g263 := be_ hE411 b373_g263
      have b411_g267 := be_ hE411 b373_g267
      refine fl_cond e411_67 hs (fun c412 hs => ?_) (fun c412 hs => ?_)
      · obtain ⟨x414, hx414, hs⟩ := obind hs
        refine rg_plain (n := 117) (rs := [Fct.at_ 320 g267 60 #[.int .i64 u321.1, .string u321.2.1, .int .i64 u321.2.2]]) (own0 := own411) (K := [320]) (bs := [0, 0, 3, 7, 15, 31, 63]) (ds := [⟨[], [2], [], Fct.val 68 (.slice A256 r255.length cA256)⟩, ⟨[], [21], [], Fct.val 69 (.int .i64 i323)⟩, ⟨[0, 1], [], [], Fct.val 70 (.pointer (some ((adr A256).add ((i323 : Int).toNat * R64.s))))⟩, ⟨[2], [], [], Fct.val 71 (.pointer (some (((adr A256).add ((i323 : Int).toNat * R64.s)).add 1)))⟩, ⟨[3], [], [], Fct.val 72 (.agg #[.int .i64 x414.2.1, .string x414.2.2.1, .int .i64 x414.2.2.2])⟩, ⟨[4, 7], [19], [320], Fct.at_ 415 g267 60 #[.int .i64 x414.2.1, .string x414.2.2.1, .int .i64 x414.2.2.2]⟩, ⟨[], [], [], Fct.val 20 (.bool true)⟩]) (by kernel_rfl) hz411 hd411 (by simp only [List.forall_mem_cons]; exact ⟨b411_g267, fun _ h => nomatch h⟩) ?_ ?_
        · refine sc (fun _ _ _ _ s _ => px (or_move (s.1.trans e411_2))) ?_
          refine sc (fun _ _ _ _ s _ => px (or_move (s.1.trans e411_21))) ?_
          refine sc (fun _ _ _ f _ _ => px (or_index (R := R64) (l := r255) tl22 f.1 f.2.1 (RdO.some_ (RwO.rd b411_A256) hx414) hx414)) ?_
          refine sc (fun _ _ _ f _ _ => px (or_field fo64_1 f.1 rfl)) ?_
          refine sc (fun _ _ _ f _ hE => px (or_load (l := [.int .i64 x414.2.1, .string x414.2.2.1, .int .i64 x414.2.2.2]) ta60 f.1 (CellsAt.part (RdO.cells (F := E64) (RwO.rd (re_ hE b411_A256)) hx414) 1 rfl) rfl)) ?_
          refine sc (fun own a wx hf hsl hE => ?_) ?_
          · obtain ⟨f_72, b_g267, -⟩ := hf
            obtain ⟨s_19, -⟩ := hsl
            exact px (or_store (l := #[.int .i64 x414.2.1, .string x414.2.2.1, .int .i64 x414.2.2.2]) (lab := 320) (lab2 := 415) ts60 (s_19.trans e411_19) f_72 b_g267 (by simp) (by kernel_rfl) (mem_of rfl) (by decide) (by kernel_rfl) (fun own' a' w' ha hb => hb))
          refine sc (fun _ _ _ _ _ _ => px (or_assign rfl)) ?_
          exact steps_nil
        intro own416 a416 w416 hd416 hz416 hk416 hf416 hE416
        have e416_2 := (hk416 2 rfl).trans e411_2
        have e416_3 := (hk416 3 rfl).trans e411_3
        have e416_4 := (hk416 4 rfl).trans e411_4
        have e416_13 := (hk416 13 rfl).trans e411_13
        have e416_14 := (hk416 14 rfl).trans e411_14
        have e416_15 := (hk416 15 rfl).trans e411_15
        have e416_16 := (hk416 16 rfl).trans e411_16
        have e416_17 := (hk416 17 rfl).trans e411_17
        have e416_18 := (hk416 18 rfl).trans e411_18
        have e416_19 := (hk416 19 rfl).trans e411_19
        have e416_21 := (hk416 21 rfl).trans e411_21
        obtain ⟨(e416_20 : a416.eval (.tmp 20) = .bool true), (b416_g267 : BlkO own416 415 w416 g267 60 #[.int .i64 x414.2.1, .string x414.2.2.1, .int .i64 x414.2.2.2]), -⟩ := hf416 [6, 5] rfl
        have hX416 := es_ hX411 hE416
        have b416_A256 := re_ hE416 b411_A256
        have b416_A259 := re_ hE416 b411_A259
        have b416_A248 := re_ hE416 b411_A248
        have b416_A252 := re_ hE416 b411_A252
        have b416_g263 := be_ hE416 b411_g263
        exact (K407 _ _ (rl [(415, 404)] own416) x414.2 _ hd416 hz416 e416_2 e416_3 e416_4 e416_13 e416_14 e416_15 e416_16 e416_17 e416_18 e416_19 e416_20 e416_21 (Evo.rl_ hX416 (fun _ => Nat.le_refl 0) rfl) (RwO.rl_ (mm := [(415, 404)]) b416_A256) (RwO.rl_ (mm := [(415, 404)]) b416_A259) (RwO.rl_ (mm := [(415, 404)]) b416_A248) (RwO.rl_ (mm := [(415, 404)]) b416_A252) (BlkO.rl_ (mm := [(415, 404)]) b416_g263) (BlkO.rl_ (mm := [(415, 404)]) b416_g267) hs).1
      refine fl_skip ?_
      exact (K407 _ _ (rl [(320, 404)] own411) u321 _ hd411 hz411 e411_2 e411_3 e411_4 e411_13 e411_14 e411_15 e411_16 e411_17 e411_18 e411_19 e411_20 e411_21 (Evo.rl_ hX411 (fun _ => Nat.le_refl 0) rfl) (RwO.rl_ (mm := [(320, 404)]) b411_A256) (RwO.rl_ (mm := [(320, 404)]) b411_A259) (RwO.rl_ (mm := [(320, 404)]) b411_A248) (RwO.rl_ (mm := [(320, 404)]) b411_A252) (BlkO.rl_ (mm := [(320, 404)]) b411_g263) (BlkO.rl_ (mm := [(320, 404)]) b411_g267) hs).1
    refine fl_exit ?_
    refine hp372 _ _ _ rfl ?_
    replace hs := hz370 _ hs
    refine hp370 _ _ _ rfl ?_
    refine hx273 _ _ ?_
    refine hn271 _ _ ?_
    obtain ⟨r417, hr417, hs⟩ := obind hs
    obtain ⟨r418, hr418, hs⟩ := obind hs
    obtain ⟨x419, hx419, hs⟩ := obind hs
    obtain ⟨r420, hr420, hs⟩ := obind hs
    obtain ⟨r423, hr423, hs⟩ := obind hs
    obtain ⟨r426, hr426, hs⟩ := obind hs
    obtain ⟨r429, hr429, hs⟩ := obind hs
    obtain ⟨x430, hx430, hs⟩ := obind hs
    obtain ⟨r431, hr431, hs⟩ := obind hs
    obtain ⟨r432, hr432, hs⟩ := obind hs
    obtain ⟨r435, hr435, hs⟩ := obind hs
    obtain ⟨x436, hx436, hs⟩ := obind hs
    obtain ⟨r437, hr437, hs⟩ := obind hs
    refine rg0_seq 117 own373 [0, 1, 3, 3, 15, 31, 63, 127, 127, 511, 1023, 2047, 4095, 8191, 4095, 32767, 65535, 131071, 262143, 524287, 1048575, 1048575, 4194303, 8388607, 16777215, 33554431, 33554431, 134217727, 268435455, 536870911, 1073741823, 1073741823, 4294967295, 1073741823, 1073741823, 25769803775, 68719476735, 137438953471, 274877906943, 549755813887, 1099511627775, 1099511627775, 4398046511103, 8796093022207, 17592186044415] [⟨[], [], [], Fct.val 73 (.bool r417)⟩, ⟨[0], [], [], Fct.val 74 (.bool r417)⟩, ⟨[1], [14], [], Fct.cond r417 (some 75) (Fct.val 75 (.int .i64 r247.2))⟩, ⟨[1], [16], [], Fct.cond r417 (some 76) (Fct.val 76 (.int .i64 r251.2))⟩, ⟨[1, 2, 3], [], [], Fct.cond r417 (some 77) (Fct.val 77 (.bool (decide (r247.2 = r251.2))))⟩, ⟨[1, 4], [], [], Fct.val 78 (.bool (r417 && (decide (r247.2 = r251.2))))⟩, ⟨[5], [], [], Fct.val 79 (.bool (r417 && (decide (r247.2 = r251.2))))⟩, ⟨[6], [13], [], Fct.cond (r417 && (decide (r247.2 = r251.2))) (some 80) (Fct.val 80 (.slice A248 r247.1.length cA248))⟩, ⟨[6], [15], [], Fct.cond (r417 && (decide (r247.2 = r251.2))) (some 81) (Fct.val 81 (.slice A252 r251.1.length cA252))⟩, ⟨[6, 7, 8], [], [], Fct.cond (r417 && (decide (r247.2 = r251.2))) (some 82) (Fct.val 82 (.bool r418))⟩, ⟨[6, 9], [], [], Fct.val 83 (.bool x419)⟩, ⟨[10], [], [], Fct.val 84 (.bool x419)⟩, ⟨[11], [2], [], Fct.cond x419 (some 85) (Fct.val 85 (.slice A256 r255.length cA256))⟩, ⟨[11, 12], [], [], Fct.cond x419 (some 86) (Fct.row 422 [] 86 64 R64 r420)⟩, ⟨[11], [2], [], Fct.cond x419 (some 87) (Fct.val 87 (.slice A256 r255.length cA256))⟩, ⟨[11, 14], [], [], Fct.cond x419 (some 88) (Fct.row 425 [] 88 77 R77 r423)⟩, ⟨[11, 15], [], [], Fct.cond x419 (some 89) (Fct.row 428 [] 89 77 R77 r426)⟩, ⟨[11, 13, 16], [], [], Fct.cond x419 (some 90) (Fct.val 90 (.bool r429))⟩, ⟨[11, 17], [], [], Fct.val 91 (.bool (x419 && r429))⟩, ⟨[18], [], [], Fct.val 92 (.bool (x419 && r429))⟩, ⟨[19], [17], [], Fct.cond (x419 && r429) (some 93) (Fct.val 93 (.agg #[.int .i64 r262.1.1, .string r262.1.2.1, .int .i64 r262.1.2.2]))⟩, ⟨[19], [19], [], Fct.cond (x419 && r429) (some 94) (Fct.val 94 (.agg #[.int .i64 u321.1, .string u321.2.1, .int .i64 u321.2.2]))⟩, ⟨[19, 20, 21], [], [], Fct.cond (x419 && r429) (some 95) (Fct.val 95 (.bool (decide (r262.1 = u321))))⟩, ⟨[19, 22], [], [], Fct.val 96 (.bool x430)⟩, ⟨[23], [], [], Fct.val 97 (.bool x430)⟩, ⟨[24], [18], [], Fct.cond x430 (some 98) (Fct.val 98 (.bool r262.2))⟩, ⟨[24], [20], [], Fct.cond x430 (some 99) (Fct.val 99 (.bool has322))⟩, ⟨[24, 25, 26], [], [], Fct.cond x430 (some 100) (Fct.val 100 (.bool (r262.2 == has322)))⟩, ⟨[24, 27], [], [], Fct.val 101 (.bool (x430 && (r262.2 == has322)))⟩, ⟨[28], [], [], Fct.val 102 (.bool (x430 && (r262.2 == has322)))⟩, ⟨[29], [2], [], Fct.cond (x430 && (r262.2 == has322)) (some 103) (Fct.val 103 (.slice A256 r255.length cA256))⟩, ⟨[29], [3], [], Fct.cond (x430 && (r262.2 == has322)) (some 104) (Fct.val 104 (.slice A259 r258.length cA259))⟩, ⟨[29, 30, 31], [], [], Fct.cond (x430 && (r262.2 == has322)) (some 105) (Fct.val 105 (.bool r431))⟩, ⟨[29], [2], [], Fct.cond (x430 && (r262.2 == has322)) (some 106) (Fct.val 106 (.slice A256 r255.length cA256))⟩, ⟨[29], [3], [], Fct.cond (x430 && (r262.2 == has322)) (some 107) (Fct.val 107 (.slice A259 r258.length cA259))⟩, ⟨[29, 34], [], [], Fct.cond (x430 && (r262.2 == has322)) (some 108) (Fct.row 434 [] 108 77 R77 r432)⟩, ⟨[29, 33, 35], [], [], Fct.cond (x430 && (r262.2 == has322)) (some 109) (Fct.val 109 (.bool r435))⟩, ⟨[29, 32, 36], [], [], Fct.cond (x430 && (r262.2 == has322)) (some 110) (Fct.val 110 (.bool (r431 == r435)))⟩, ⟨[29, 37], [], [], Fct.val 111 (.bool x436)⟩, ⟨[38], [], [], Fct.val 112 (.bool x436)⟩, ⟨[39], [2], [], Fct.cond x436 (some 113) (Fct.val 113 (.slice A256 r255.length cA256))⟩, ⟨[39], [2], [], Fct.cond x436 (some 114) (Fct.val 114 (.slice A256 r255.length cA256))⟩, ⟨[39, 40, 41], [], [], Fct.cond x436 (some 115) (Fct.val 115 (.bool r437))⟩, ⟨[39, 42], [], [], Fct.val 116 (.bool (x436 && r437))⟩, ⟨[43], [], [], Fct.val 10 (.bool (x436 && r437))⟩] hz373 hd373 (by kernel_rfl) ?_ ?_
    · refine sc (fun _ _ _ _ _ _ => px (or_call cf11 (args0) (law11_known_w _   r417 hr417) post_val)) ?_
      refine sc (fun _ _ _ f _ _ => px (or_move f.1)) ?_
      refine sc (fun _ _ _ f s _ => sg_t rfl rfl rfl f.1 (fun hg => or_move (s.1.trans e373_14))) ?_
      refine sc (fun _ _ _ f s _ => sg_t rfl rfl rfl f.1 (fun hg => or_move (s.1.trans e373_16))) ?_
      refine sc (fun _ _ _ f _ _ => sg_t rfl rfl rfl f.1 (fun hg => or_eql (f.2.1.1 hg) (f.2.2.1.1 hg) rfl)) ?_
      refine sc (fun _ _ _ f _ _ => px (or_and f.1 (fun hx => f.2.1.1 hx) rfl rfl)) ?_
      refine sc (fun _ _ _ f _ _ => px (or_move f.1)) ?_
      refine sc (fun _ _ _ f s _ => sg_t rfl rfl rfl f.1 (fun hg => or_move (s.1.trans e373_13))) ?_
      refine sc (fun _ _ _ f s _ => sg_t rfl rfl rfl f.1 (fun hg => or_move (s.1.trans e373_15))) ?_
      refine sc (fun _ _ _ f _ hE => sg_t rfl rfl rfl f.1 (fun hg => or_call cf23 (args2 (f.2.1.1 hg) (f.2.2.1.1 hg)) (law11_Same_w _ r247.1 A248 cA248 r251.1 A252 cA252 (RdO.zero (RwO.rd (re_ hE b373_A248))) (RdO.zero (RwO.rd (re_ hE b373_A252))) r418 (gd_t hr418 hg)) post_val)) ?_
      refine sc (fun _ _ _ f _ _ => px (or_and f.1 (fun hx => f.2.1.1 hx) rfl (osome hx419).symm)) ?_
      refine sc (fun _ _ _ f _ _ => px (or_move f.1)) ?_
      refine sc (fun _ _ _ f s _ => sg_t rfl rfl rfl f.1 (fun hg => or_move (s.1.trans e373_2))) ?_
      refine sc (fun _ _ _ f _ hE => sg_t rfl rfl rfl f.1 (fun hg => or_call cf24 (args1 (f.2.1.1 hg)) (table_Sort_w _ r255 A256 cA256 (RdO.zero (RwO.rd (re_ hE b373_A256))) r420 (gd_t hr420 hg)) (post_row (m' := (look0 [(1, 422)])) (.inl (Rep.fl_flat _)) rfl rfl (fun _ => rfl)))) ?_
      refine sc (fun _ _ _ f s _ => sg_t rfl rfl rfl f.1 (fun hg => or_move (s.1.trans e373_2))) ?_
      refine sc (fun _ _ _ f _ hE => sg_t rfl rfl rfl f.1 (fun hg => or_call cf16 (args1 (f.2.1.1 hg)) (law11_Ofs_w _ r255 A256 cA256 (RdO.zero (RwO.rd (re_ hE b373_A256))) r423 (gd_t hr423 hg)) (post_row (m' := (look0 [(1, 425)])) (.inl (Rep.fl_flat _)) rfl rfl (fun _ => rfl)))) ?_
      refine sc (fun own a wx hf hsl hE => ?_) ?_
      · obtain ⟨f_84, c_88, -⟩ := hf
        refine sg_t rfl rfl rfl f_84 (fun hg => ?_)
        obtain ⟨⟨A424, cA424⟩, f_88, b_A424⟩ := c_88.1 hg
        exact or_call cf25 (args1 f_88) (ref11_Sort_w _ r423 A424 cA424 (RdO.zero (RwO.rd b_A424)) r426 (gd_t hr426 hg)) (post_row (m' := (look0 [(1, 428)])) (.inl (Rep.fl_flat _)) rfl rfl (fun _ => rfl))
      refine sc (fun own a wx hf hsl hE => ?_) ?_
      · obtain ⟨f_84, c_86, c_89, -⟩ := hf
        refine sg_t rfl rfl rfl f_84 (fun hg => ?_)
        obtain ⟨⟨A421, cA421⟩, f_86, b_A421⟩ := c_86.1 hg
        obtain ⟨⟨A427, cA427⟩, f_89, b_A427⟩ := c_89.1 hg
        exact or_call cf23 (args2 f_86 f_89) (law11_Same_w _ r420 A421 cA421 r426 A427 cA427 (RdO.zero (RwO.rd b_A421)) (RdO.zero (RwO.rd b_A427)) r429 (gd_t hr429 hg)) post_val
      refine sc (fun _ _ _ f _ _ => px (or_and f.1 (fun hx => f.2.1.1 hx) rfl rfl)) ?_
      refine sc (fun _ _ _ f _ _ => px (or_move f.1)) ?_
      refine sc (fun _ _ _ f s hE => sg_t rfl rfl rfl f.1 (fun hg => or_load (l := [.int .i64 r262.1.1, .string r262.1.2.1, .int .i64 r262.1.2.2]) ta60 (s.1.trans e373_17) (Blk.cellsFrom (be_ hE b373_g263).2 0 rfl) rfl)) ?_
      refine sc (fun _ _ _ f s hE => sg_t rfl rfl rfl f.1 (fun hg => or_load (l := [.int .i64 u321.1, .string u321.2.1, .int .i64 u321.2.2]) ta60 (s.1.trans e373_19) (Blk.cellsFrom (be_ hE b373_g267).2 0 rfl) rfl)) ?_
      refine sc (fun _ _ _ f _ _ => sg_t rfl rfl rfl f.1 (fun hg => or_eqlA sg60 (f.2.1.1 hg) (f.2.2.1.1 hg) (se60 r262.1.1 r262.1.2.1 r262.1.2.2 u321.1 u321.2.1 u321.2.2 _) rfl)) ?_
      refine sc (fun _ _ _ f _ _ => px (or_and f.1 (fun hx => f.2.1.1 hx) rfl (osome hx430).symm)) ?_
      refine sc (fun _ _ _ f _ _ => px (or_move f.1)) ?_
      refine sc (fun _ _ _ f s _ => sg_t rfl rfl rfl f.1 (fun hg => or_move (s.1.trans e373_18))) ?_
      refine sc (fun _ _ _ f s _ => sg_t rfl rfl rfl f.1 (fun hg => or_move (s.1.trans e373_20))) ?_
      refine sc (fun _ _ _ f _ _ => sg_t rfl rfl rfl f.1 (fun hg => or_eqlb tb4 (f.2.1.1 hg) (f.2.2.1.1 hg) rfl)) ?_
      refine sc (fun _ _ _ f _ _ => px (or_and f.1 (fun hx => f.2.1.1 hx) rfl rfl)) ?_
      refine sc (fun _ _ _ f _ _ => px (or_move f.1)) ?_
      refine sc (fun _ _ _ f s _ => sg_t rfl rfl rfl f.1 (fun hg => or_move (s.1.trans e373_2))) ?_
      refine sc (fun _ _ _ f s _ => sg_t rfl rfl rfl f.1 (fun hg => or_move (s.1.trans e373_3))) ?_
      refine sc (fun _ _ _ f _ hE => sg_t rfl rfl rfl f.1 (fun hg => or_call cf21 (args2 (f.2.1.1 hg) (f.2.2.1.1 hg)) (table_Same_w _ r255 A256 cA256 r258 A259 cA259 (RdO.zero (RwO.rd (re_ hE b373_A256))) (RdO.zero (RwO.rd (re_ hE b373_A259))) r431 (gd_t hr431 hg)) post_val)) ?_
      refine sc (fun _ _ _ f s _ => sg_t rfl rfl rfl f.1 (fun hg => or_move (s.1.trans e373_2))) ?_
      refine sc (fun _ _ _ f s _ => sg_t rfl rfl rfl f.1 (fun hg => or_move (s.1.trans e373_3))) ?_
      refine sc (fun _ _ _ f _ hE => sg_t rfl rfl rfl f.1 (fun hg => or_call cf16 (args1 (f.2.1.1 hg)) (law11_Ofs_w _ r258 A259 cA259 (RdO.zero (RwO.rd (re_ hE b373_A259))) r432 (gd_t hr432 hg)) (post_row (m' := (look0 [(1, 434)])) (.inl (Rep.fl_flat _)) rfl rfl (fun _ => rfl)))) ?_
      refine sc (fun own a wx hf hsl hE => ?_) ?_
      · obtain ⟨f_102, c_106, c_108, -⟩ := hf
        refine sg_t rfl rfl rfl f_102 (fun hg => ?_)
        have f_106 := c_106.1 hg
        obtain ⟨⟨A433, cA433⟩, f_108, b_A433⟩ := c_108.1 hg
        exact or_call cf23 (args2 f_106 f_108) (law11_Same_w _ r255 A256 cA256 r432 A433 cA433 (RdO.zero (RwO.rd (re_ hE b373_A256))) (RdO.zero (RwO.rd b_A433)) r435 (gd_t hr435 hg)) post_val
      refine sc (fun _ _ _ f _ _ => sg_t rfl rfl rfl f.1 (fun hg => or_eqlb tb4 (f.2.1.1 hg) (f.2.2.1.1 hg) rfl)) ?_
      refine sc (fun _ _ _ f _ _ => px (or_and f.1 (fun hx => f.2.1.1 hx) rfl (osome hx436).symm)) ?_
      refine sc (fun _ _ _ f _ _ => px (or_move f.1)) ?_
      refine sc (fun _ _ _ f s _ => sg_t rfl rfl rfl f.1 (fun hg => or_move (s.1.trans e373_2))) ?_
      refine sc (fun _ _ _ f s _ => sg_t rfl rfl rfl f.1 (fun hg => or_move (s.1.trans e373_2))) ?_
      refine sc (fun _ _ _ f _ hE => sg_t rfl rfl rfl f.1 (fun hg => or_call cf21 (args2 (f.2.1.1 hg) (f.2.2.1.1 hg)) (table_Same_w _ r255 A256 cA256 r255 A256 cA256 (RdO.zero (RwO.rd (re_ hE b373_A256))) (RdO.zero (RwO.rd (re_ hE b373_A256))) r437 (gd_t hr437 hg)) post_val)) ?_
      refine sc (fun _ _ _ f _ _ => px (or_and f.1 (fun hx => f.2.1.1 hx) rfl rfl)) ?_
      refine sc (fun _ _ _ f _ _ => px (or_assign f.1)) ?_
      exact steps_nil
    intro own438 a438 w438 hd438 hz438 hk438 hf438 hE438
    obtain ⟨(e438_10 : a438.eval (.tmp 10) = .bool (x436 && r437)), -⟩ := hf438 [44] rfl
    have hX438 := es_ hX373 hE438
    refine fl_ret ?_
    obtain rfl := osome hs
    exact hret _ _ _ _ (.inl rfl) hd438 (results1_ rfl (RVal.tmp_ e438_10)) ⟨own438, rfl, hX438⟩
end Go.Proofs.Ytpbhdblkjabdlaa
