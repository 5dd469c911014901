import Derived.Test.YtpbhdblkjabdlaaBase
import Derived.Test.YtpbhdblkjabdlaaTy
import Derived.Test.YtpbhdblkjabdlaaSp1
namespace Go.Proofs.Ytpbhdblkjabdlaa
open Go.RowKit
set_option linter.unusedVariables false
set_option maxRecDepth 10000
theorem law10_Cut_w (w : World) (v1 : Int × ByteArray × Int) (r : Int × ByteArray × Int) (hs : law10_Cut v1 = some r) :
    Calls Try.prog 26 #[.agg #[.int .i64 v1.1, .string v1.2.1, .int .i64 v1.2.2]] w fun e w' => ∃ own' : Own, e = .returned (.agg #[.int .i64 r.1, .string r.2.1, .int .i64 r.2.2]) ∧ Evo [] (fun _ => 0) own' w w' := by
  refine fl_enter (n := 12) rfl rfl rfl (Nat.le_of_ble_eq_true rfl) ?_
  intro a0 Q hd0 hz0 harg hret
  have ha0 := harg 0 _ rfl
  clear harg
  have hE0 : Evo [] (fun _ => 0) (fun _ => 0) w w := Evo.refl _ _ _
  refine rg0_seq 12 (fun _ => 0) [0, 0] [⟨[], [0], [], Fct.blk 23 1 (fun g => .pointer (some ⟨g, 0, none⟩)) 60 #[.int .i64 v1.1, .string v1.2.1, .int .i64 v1.2.2]⟩, ⟨[], [], [], Fct.blk 25 2 (fun g => .pointer (some ⟨g, 0, none⟩)) 60 #[.int .i64 0, .string ByteArray.empty, .int .i64 0]⟩] hz0 hd0 (by kernel_rfl) ?_ ?_
  · refine sc (fun _ _ _ _ s _ => px (or_new [(0, .agg #[.int .i64 v1.1, .string v1.2.1, .int .i64 v1.2.2])] rfl rfl ⟨(s.1.trans ha0), trivial⟩ (by kernel_rfl))) ?_
    refine sc (fun _ _ _ _ _ _ => px (or_new [] rfl rfl trivial (by kernel_rfl))) ?_
    exact steps_nil
  intro own26 a26 w26 hd26 hz26 hk26 hf26 hE26
  obtain ⟨⟨g22, (e26_1 : a26.eval (.tmp 1) = .pointer (some ⟨g22, 0, none⟩)), (b26_g22 : BlkO own26 23 w26 g22 60 #[.int .i64 v1.1, .string v1.2.1, .int .i64 v1.2.2])⟩, ⟨g24, (e26_2 : a26.eval (.tmp 2) = .pointer (some ⟨g24, 0, none⟩)), (b26_g24 : BlkO own26 25 w26 g24 60 #[.int .i64 0, .string ByteArray.empty, .int .i64 0])⟩, -⟩ := hf26 [0, 1] rfl
  have hX26 := es_ hE0 hE26
  obtain ⟨x28, hx28, hs⟩ := obind hs
  refine rg_plain_seq (n := 12) (rs := [Fct.at_ 23 g22 60 #[.int .i64 v1.1, .string v1.2.1, .int .i64 v1.2.2]]) (own0 := own26) (K := [23]) (bs := [0, 1, 0, 4, 12, 28, 63, 127, 255]) (ds := [⟨[], [1], [], Fct.val 3 (.pointer (some ⟨g22, 1, none⟩))⟩, ⟨[0, 9], [], [], Fct.val 4 (.string v1.2.1)⟩, ⟨[], [1], [], Fct.val 5 (.pointer (some ⟨g22, 1, none⟩))⟩, ⟨[2, 9], [], [], Fct.val 6 (.string v1.2.1)⟩, ⟨[3], [], [], Fct.val 7 (.int .i64 (v1.2.1.size : Int))⟩, ⟨[4], [], [], Fct.val 8 (.int .i64 (mn (v1.2.1.size : Int) 100))⟩, ⟨[1, 5], [], [], Fct.val 9 (.string x28)⟩, ⟨[], [1], [], Fct.val 10 (.pointer (some ⟨g22, 1, none⟩))⟩, ⟨[7, 6, 9], [], [23], Fct.at_ 29 g22 60 #[.int .i64 v1.1, .string x28, .int .i64 v1.2.2]⟩]) (by kernel_rfl) hz26 hd26 (by simp only [List.forall_mem_cons]; exact ⟨b26_g22, fun _ h => nomatch h⟩) ?_ ?_
  · refine sc (fun _ _ _ _ s _ => px (or_field fo60_1 (s.1.trans e26_1) (by rfl))) ?_
    refine sc (fun own a wx hf hsl hE => ?_) ?_
    · obtain ⟨f_3, (b_g22 : BlkO own 23 wx g22 60 #[.int .i64 v1.1, .string v1.2.1, .int .i64 v1.2.2]), -⟩ := hf
      exact px (or_load1 to9 f_3 (Blk.at_ b_g22.2 1 rfl))
    refine sc (fun _ _ _ _ s _ => px (or_field fo60_1 (s.1.trans e26_1) (by rfl))) ?_
    refine sc (fun own a wx hf hsl hE => ?_) ?_
    · obtain ⟨f_5, (b_g22 : BlkO own 23 wx g22 60 #[.int .i64 v1.1, .string v1.2.1, .int .i64 v1.2.2]), -⟩ := hf
      exact px (or_load1 to9 f_5 (Blk.at_ b_g22.2 1 rfl))
    refine sc (fun _ _ _ f _ _ => px (or_lenS tS9 f.1 rfl)) ?_
    refine sc (fun _ _ _ f _ _ => px (or_min f.1 rfl)) ?_
    refine sc (fun _ _ _ f _ _ => px (or_sliceS tS9 f.1 Bnd.none_ (Bnd.some_ f.2.1) hx28)) ?_
    refine sc (fun _ _ _ _ s _ => px (or_field fo60_1 (s.1.trans e26_1) (by rfl))) ?_
    refine sc (fun own a wx hf hsl hE => ?_) ?_
    · obtain ⟨f_10, f_9, b_g22, -⟩ := hf
      exact px (or_store1 (lab := 23) (lab2 := 29) ts9 f_10 f_9 b_g22 (by simp) rfl (mem_of rfl) (by decide) rfl (fun own' a' w' ha hb => hb))
    exact steps_nil
  intro own30 a30 w30 hd30 hz30 hk30 hf30 hE30
  have e30_1 := (hk30 1 rfl).trans e26_1
  have e30_2 := (hk30 2 rfl).trans e26_2
  obtain ⟨(b30_g22 : BlkO own30 29 w30 g22 60 #[.int .i64 v1.1, .string x28, .int .i64 v1.2.2]), -⟩ := hf30 [8] rfl
  have hX30 := es_ hX26 hE30
  have b30_g24 := be_ hE30 b26_g24
  refine rg_plain_seq (n := 12) (rs := [Fct.at_ 25 g24 60 #[.int .i64 0, .string ByteArray.empty, .int .i64 0]]) (own0 := own30) (K := [25]) (bs := (bz 2)) (ds := [⟨[], [1], [], Fct.val 11 (.agg #[.int .i64 v1.1, .string x28, .int .i64 v1.2.2])⟩, ⟨[0, 2], [2], [25], Fct.at_ 31 g24 60 #[.int .i64 v1.1, .string x28, .int .i64 v1.2.2]⟩]) (by kernel_rfl) hz30 hd30 (by simp only [List.forall_mem_cons]; exact ⟨b30_g24, fun _ h => nomatch h⟩) ?_ ?_
  · refine sc (fun _ _ _ _ s hE => px (or_load (l := [.int .i64 v1.1, .string x28, .int .i64 v1.2.2]) ta60 (s.1.trans e30_1) (Blk.cellsFrom (be_ hE b30_g22).2 0 rfl) rfl)) ?_
    refine sc (fun own a wx hf hsl hE => ?_) ?_
    · obtain ⟨f_11, b_g24, -⟩ := hf
      obtain ⟨s_2, -⟩ := hsl
      exact px (or_store (l := #[.int .i64 v1.1, .string x28, .int .i64 v1.2.2]) (lab := 25) (lab2 := 31) ts60 (s_2.trans e30_2) f_11 b_g24 (by simp) (by kernel_rfl) (mem_of rfl) (by decide) (by kernel_rfl) (fun own' a' w' ha hb => hb))
    exact steps_nil
  intro own32 a32 w32 hd32 hz32 hk32 hf32 hE32
  have e32_2 := (hk32 2 rfl).trans e30_2
  obtain ⟨(b32_g24 : BlkO own32 31 w32 g24 60 #[.int .i64 v1.1, .string x28, .int .i64 v1.2.2]), -⟩ := hf32 [1] rfl
  have hX32 := es_ hX30 hE32
  refine fl_ret ?_
  obtain rfl := osome hs
  exact hret _ _ _ _ (.inl rfl) hd32 (results1_ rfl (RVal.cell_ e32_2 (run_loadVarAgg (l := [.int .i64 v1.1, .string x28, .int .i64 v1.2.2]) ta60 (Blk.cellsFrom b32_g24.2 0 rfl) rfl))) ⟨own32, rfl, hX32⟩
theorem law11_Cut_w (w : World) (l1 : List (ByteArray × (Int × ByteArray × Int))) (Al1 : Option Addr) (cl1 : Nat) (hl1 : RdO (fun _ => 0) [0] w R64 Al1 cl1 l1) (r : List (ByteArray × (Int × ByteArray × Int))) (hs : law11_Cut l1 = some r) :
    Calls Try.prog 7 #[.slice Al1 l1.length cl1] w fun e w' => ∃ (own' : Own) (x : Option Addr × Nat), e = .returned (.slice x.1 r.length x.2) ∧ Evo [] (fun _ => 0) own' w w' ∧ RwO own' 1 [] w' 64 R64 x.1 x.2 r := by
  refine fl_enter (n := 39) rfl rfl rfl (Nat.le_of_ble_eq_true rfl) ?_
  intro a0 Q hd0 hz0 harg hret
  have ha0 := harg 0 _ rfl
  clear harg
  have hE0 : Evo [] (fun _ => 0) (fun _ => 0) w w := Evo.refl _ _ _
  refine rg0_seq 39 (fun _ => 0) (bz 1) [⟨[], [], [], Fct.val 2 (.slice none 0 0)⟩] hz0 hd0 (by kernel_rfl) ?_ ?_
  · refine sc (fun _ _ _ _ _ _ => px (or_assign rfl)) ?_
    exact steps_nil
  intro own95 a95 w95 hd95 hz95 hk95 hf95 hE95
  have e95_0 := (hk95 0 rfl).trans ha0
  have hX95 := es_ hE0 hE95
  have b95_Al1 := RdO.evo rfl hE95 hl1
  refine rg0_seq 39 own95 (bz 1) [⟨[], [], [], Fct.val 3 (.slice none 0 0)⟩] hz95 hd95 (by kernel_rfl) ?_ ?_
  · refine sc (fun _ _ _ _ _ _ => px (or_assign rfl)) ?_
    exact steps_nil
  intro own96 a96 w96 hd96 hz96 hk96 hf96 hE96
  have e96_0 := (hk96 0 rfl).trans e95_0
  obtain ⟨(e96_3 : a96.eval (.tmp 3) = .slice none 0 0), -⟩ := hf96 [0] rfl
  have hX96 := es_ hX95 hE96
  have b96_Al1 := RdO.evo rfl hE96 b95_Al1
  refine fl_seq (fun Q97 hn97 hp97 => ?_)
  refine rg0_seq 39 own96 (bz 1) [⟨[], [], [], Fct.val 4 (.int .i64 0)⟩] hz96 hd96 (by kernel_rfl) ?_ ?_
  · refine sc (fun _ _ _ _ _ _ => px (or_assign rfl)) ?_
    exact steps_nil
  intro own98 a98 w98 hd98 hz98 hk98 hf98 hE98
  have e98_0 := (hk98 0 rfl).trans e96_0
  have e98_3 := (hk98 3 rfl).trans e96_3
  obtain ⟨(e98_4 : a98.eval (.tmp 4) = .int .i64 0), -⟩ := hf98 [0] rfl
  have hX98 := es_ hX96 hE98
  have b98_Al1 := RdO.evo rfl hE98 b96_Al1
  refine fl_block (fun Q99 hn99 hx99 hp99 => ?_)
  refine fl_loop (body := (fun s => law11_Cut_b1 l1 s.1 s.2)) (z := r) (show loopO _ _ = _ from hs) (fun (s : (List (ByteArray × (Int × ByteArray × Int))) × Int) a wx => match s with | (out122, i124) => ∃ (ox : Own) (A120 : Option Addr) (c121 : Nat), a.defers = [] ∧ a.tmps.size = 39 ∧ a.eval (.tmp 0) = .slice Al1 l1.length cl1 ∧ a.eval (.tmp 3) = .slice A120 out122.length c121 ∧ a.eval (.tmp 4) = .int .i64 i124 ∧ Evo [] (fun _ => 0) ox w wx ∧ RdO ox [0] wx R64 Al1 cl1 l1 ∧ RwO ox 123 [] wx 64 R64 A120 c121 out122) ?_ ?_
  · exact ⟨own98, none, 0, hd98, hz98, e98_0, e98_3, e98_4, hX98, b98_Al1, RwO.nil_⟩
  · rintro ⟨out122, i124⟩ zz151 a151 w151 ⟨own151, A120, c121, hd152, hz152, e152_0, e152_3, e152_4, hE152, b152_Al1, b152_A120⟩ hs Q151 hn151 hp151 hz151
    have hs : law11_Cut_b1 l1 out122 i124 = some zz151 := hs
    refine fl_seq (fun Q153 hn153 hp153 => ?_)
    obtain ⟨x154, hx154, hs⟩ := obind hs
    refine rg0_seq 39 own151 [0, 0, 2, 7, 15, 31, 63, 127] [⟨[], [4], [], Fct.val 5 (.int .i64 i124)⟩, ⟨[], [0], [], Fct.val 6 (.slice Al1 l1.length cl1)⟩, ⟨[1], [], [], Fct.val 7 (.int .i64 (l1.length : Int))⟩, ⟨[0, 2], [], [], Fct.val 8 (.bool (decide (i124 < (l1.length : Int))))⟩, ⟨[3], [], [], Fct.val 9 (.bool (decide (i124 < (l1.length : Int))))⟩, ⟨[4], [4], [], Fct.cond (decide (i124 < (l1.length : Int))) (some 10) (Fct.val 10 (.int .i64 i124))⟩, ⟨[4, 5], [], [], Fct.cond (decide (i124 < (l1.length : Int))) (some 11) (Fct.val 11 (.bool (decide (i124 < 10))))⟩, ⟨[4, 6], [], [], Fct.val 12 (.bool x154)⟩] hz152 hd152 (by kernel_rfl) ?_ ?_
    · refine sc (fun _ _ _ _ s _ => px (or_move (s.1.trans e152_4))) ?_
      refine sc (fun _ _ _ _ s _ => px (or_move (s.1.trans e152_0))) ?_
      refine sc (fun _ _ _ f _ _ => px (or_len tu22 f.1 rfl)) ?_
      refine sc (fun _ _ _ f _ _ => px (or_lss f.1 f.2.1 rfl)) ?_
      refine sc (fun _ _ _ f _ _ => px (or_move f.1)) ?_
      refine sc (fun _ _ _ f s _ => sg_t rfl rfl rfl f.1 (fun hg => or_move (s.1.trans e152_4))) ?_
      refine sc (fun _ _ _ f _ _ => sg_t rfl rfl rfl f.1 (fun hg => or_lss (f.2.1.1 hg) rfl rfl)) ?_
      refine sc (fun _ _ _ f _ _ => px (or_and f.1 (fun hx => f.2.1.1 hx) rfl (osome hx154).symm)) ?_
      exact steps_nil
    intro own155 a155 w155 hd155 hz155 hk155 hf155 hE155
    have e155_0 := (hk155 0 rfl).trans e152_0
    have e155_3 := (hk155 3 rfl).trans e152_3
    have e155_4 := (hk155 4 rfl).trans e152_4
    obtain ⟨(e155_12 : a155.eval (.tmp 12) = .bool x154), -⟩ := hf155 [7] rfl
    have hX155 := es_ hE152 hE155
    have b155_Al1 := RdO.evo rfl hE155 b152_Al1
    have b155_A120 := re_ hE155 b152_A120
    refine fl_cond e155_12 hs (fun c156 hs => ?_) (fun c156 hs => ?_)
    · refine fl_skip ?_
      refine hn153 _ _ ?_
      refine fl_seq (fun Q157 hn157 hp157 => ?_)
      refine fl_block (fun Q158 hn158 hx158 hp158 => ?_)
      obtain ⟨x166, hx166, hs⟩ := obind hs
      obtain ⟨x167, hx167, hs⟩ := obind hs
      obtain ⟨x168, hx168, hs⟩ := obind hs
      obtain ⟨x169, hx169, hs⟩ := obind hs
      obtain ⟨r170, hr170, hs⟩ := obind hs
      obtain ⟨x173, hx173, hs⟩ := obind hs
      refine rg_draw g_mixed (n := 39) (rs := [Fct.rowAt 123 [] 64 R64 A120 c121 out122]) (own0 := own155) (K := [123]) (bs := [0, 0, 0, 6, 14, 30, 0, 0, 192, 448, 960, 1984, 4032, 8190, 0, 0, 49152, 114688, 245760, 507904, 1048574, 2097150, 4194303, 8388607]) (ds := [⟨[], [3], [], Fct.val 15 (.slice A120 out122.length c121)⟩, ⟨[], [0], [], Fct.val 16 (.slice Al1 l1.length cl1)⟩, ⟨[], [4], [], Fct.val 17 (.int .i64 i124)⟩, ⟨[1, 2], [], [], Fct.val 18 (.pointer (some ((adr Al1).add ((i124 : Int).toNat * R64.s))))⟩, ⟨[3], [], [], Fct.val 19 (.pointer (some ((adr Al1).add ((i124 : Int).toNat * R64.s))))⟩, ⟨[4], [], [], Fct.val 20 (.string x166.1)⟩, ⟨[], [0], [], Fct.val 21 (.slice Al1 l1.length cl1)⟩, ⟨[], [4], [], Fct.val 22 (.int .i64 i124)⟩, ⟨[6, 7], [], [], Fct.val 23 (.pointer (some ((adr Al1).add ((i124 : Int).toNat * R64.s))))⟩, ⟨[8], [], [], Fct.val 24 (.pointer (some ((adr Al1).add ((i124 : Int).toNat * R64.s))))⟩, ⟨[9], [], [], Fct.val 25 (.string x167.1)⟩, ⟨[10], [], [], Fct.val 26 (.int .i64 (x167.1.size : Int))⟩, ⟨[11], [], [], Fct.val 27 (.int .i64 (mn (x167.1.size : Int) 100))⟩, ⟨[5, 12], [], [], Fct.val 28 (.string x168)⟩, ⟨[], [0], [], Fct.val 29 (.slice Al1 l1.length cl1)⟩, ⟨[], [4], [], Fct.val 30 (.int .i64 i124)⟩, ⟨[14, 15], [], [], Fct.val 31 (.pointer (some ((adr Al1).add ((i124 : Int).toNat * R64.s))))⟩, ⟨[16], [], [], Fct.val 32 (.pointer (some (((adr Al1).add ((i124 : Int).toNat * R64.s)).add 1)))⟩, ⟨[17], [], [], Fct.val 33 (.agg #[.int .i64 x169.2.1, .string x169.2.2.1, .int .i64 x169.2.2.2])⟩, ⟨[18], [], [], Fct.val 34 (.agg #[.int .i64 r170.1, .string r170.2.1, .int .i64 r170.2.2])⟩, ⟨[13, 19], [], [], Fct.val 35 (.agg #[.string x168, .int .i64 r170.1, .string r170.2.1, .int .i64 r170.2.2])⟩, ⟨[20], [], [], Fct.row 172 [] 36 64 R64 [(x168, r170)]⟩, ⟨[0, 21, 24], [], [123], Fct.row 174 [] 37 64 R64 x173⟩, ⟨[22], [], [], Fct.rel [3, 37] (fun l => ∀ (A175 : Option Addr) (cA175 : Nat), l.getD 1 undef = .slice A175 x173.length cA175 → l.getD 0 undef = .slice A175 x173.length cA175)⟩]) (by kernel_rfl) hz155 hd155 (by simp only [List.forall_mem_cons]; exact ⟨b155_A120, fun _ h => nomatch h⟩) ?_ ?_
      · refine sc (fun _ _ _ _ s _ => px (or_move (s.1.trans e155_3))) ?_
        refine sc (fun _ _ _ _ s _ => px (or_move (s.1.trans e155_0))) ?_
        refine sc (fun _ _ _ _ s _ => px (or_move (s.1.trans e155_4))) ?_
        refine sc (fun _ _ _ f _ _ => px (or_index (R := R64) (l := l1) tl22 f.1 f.2.1 (RdO.some_ b155_Al1 hx166) hx166)) ?_
        refine sc (fun _ _ _ f _ _ => px (or_field fo64_0 f.1 (Addr.add_zero' _))) ?_
        refine sc (fun _ _ _ f _ hE => px (or_load1 to9 f.1 (CellsAt.zero (RdO.cells (F := E64) (RdO.evo rfl hE b155_Al1) hx166) rfl))) ?_
        refine sc (fun _ _ _ _ s _ => px (or_move (s.1.trans e155_0))) ?_
        refine sc (fun _ _ _ _ s _ => px (or_move (s.1.trans e155_4))) ?_
        refine sc (fun _ _ _ f _ _ => px (or_index (R := R64) (l := l1) tl22 f.1 f.2.1 (RdO.some_ b155_Al1 hx167) hx167)) ?_
        refine sc (fun _ _ _ f _ _ => px (or_field fo64_0 f.1 (Addr.add_zero' _))) ?_
        refine sc (fun _ _ _ f _ hE => px (or_load1 to9 f.1 (CellsAt.zero (RdO.cells (F := E64) (RdO.evo rfl hE b155_Al1) hx167) rfl))) ?_
        refine sc (fun _ _ _ f _ _ => px (or_lenS tS9 f.1 rfl)) ?_
        refine sc (fun _ _ _ f _ _ => px (or_min f.1 rfl)) ?_
        refine sc (fun _ _ _ f _ _ => px (or_sliceS tS9 f.1 Bnd.none_ (Bnd.some_ f.2.1) hx168)) ?_
        refine sc (fun _ _ _ _ s _ => px (or_move (s.1.trans e155_0))) ?_
        refine sc (fun _ _ _ _ s _ => px (or_move (s.1.trans e155_4))) ?_
        refine sc (fun _ _ _ f _ _ => px (or_index (R := R64) (l := l1) tl22 f.1 f.2.1 (RdO.some_ b155_Al1 hx169) hx169)) ?_
        refine sc (fun _ _ _ f _ _ => px (or_field fo64_1 f.1 rfl)) ?_
        refine sc (fun _ _ _ f _ hE => px (or_load (l := [.int .i64 x169.2.1, .string x169.2.2.1, .int .i64 x169.2.2.2]) ta60 f.1 (CellsAt.part (RdO.cells (F := E64) (RdO.evo rfl hE b155_Al1) hx169) 1 rfl) rfl)) ?_
        refine sc (fun _ _ _ f _ _ => px (or_call cf26 (args1 f.1) (law10_Cut_w _ x169.2  r170 hr170) post_val)) ?_
        refine sc (fun _ _ _ f _ _ => px (or_k [(28, .string x168), (34, .agg #[.int .i64 r170.1, .string r170.2.1, .int .i64 r170.2.2])] rfl rfl ⟨f.1, f.2.1, trivial⟩ (by kernel_rfl))) ?_
        refine sc (fun _ _ _ f _ _ => px (or_lit (lab := 172) (e := 64) (cs := #[.string x168, .int .i64 r170.1, .string r170.2.1, .int .i64 r170.2.2]) (F := E64) (or_new [(35, .agg #[.string x168, .int .i64 r170.1, .string r170.2.1, .int .i64 r170.2.2])] rfl rfl ⟨f.1, trivial⟩ (by kernel_rfl)) rfl rfl (show 1 ≤ maxLen by decide))) ?_
        refine sc (fun own a wx hf hsl hE => ?_) ?_
        · obtain ⟨f_15, ⟨⟨A171, cA171⟩, f_36, b_A171⟩, b_A120, -⟩ := hf
          exact px (or_append (R := R64) (lab := 123) (lab2 := 174) (L := []) (L3 := []) tp22 f_15 b_A120 (by decide) f_36 (RwO.rd b_A171) hx173 (by decide) (by decide) (mem_of rfl) (.inl (Rep.fl_flat _)))
        refine sc (fun own a wx hf hsl hE => ?_) ?_
        · obtain ⟨⟨⟨A175, cA175⟩, (f_37 : a.eval (.tmp 37) = .slice A175 x173.length cA175), b_A175⟩, -⟩ := hf
          exact px (or_mono (f := Fct.val 3 (.slice A175 x173.length cA175)) (or_assign f_37) (fun own' a' w' v' hp h => fun _ _ h0' => by cases (f_37.symm.trans ((hp.2 37 (by decide)).symm.trans h0')); exact h))
        exact steps_nil
      intro own176 a176 w176 hd176 hz176 hk176 hf176 hE176
      have e176_0 := (hk176 0 rfl).trans e155_0
      have e176_4 := (hk176 4 rfl).trans e155_4
      obtain ⟨⟨⟨A175, cA175⟩, (f_37 : a176.eval (.tmp 37) = .slice A175 x173.length cA175), (b176_A175 : RwO own176 174 [] w176 64 R64 A175 cA175 x173)⟩, (q_3 : ∀ (A175 : Option Addr) (cA175 : Nat), a176.eval (.tmp 37) = .slice A175 x173.length cA175 → a176.eval (.tmp 3) = .slice A175 x173.length cA175), -⟩ := hf176 [22, 23] rfl
      have e176_3 := q_3 _ _ f_37
      have hX176 := es_ hX155 hE176
      have b176_Al1 := RdO.evo rfl hE176 b155_Al1
      refine hn158 _ _ ?_
      refine hn157 _ _ ?_
      refine rg0 39 own176 (bz 3) [⟨[], [4], [], Fct.val 13 (.int .i64 i124)⟩, ⟨[0], [], [], Fct.val 14 (.int .i64 (ad i124 1))⟩, ⟨[1], [], [], Fct.val 4 (.int .i64 (ad i124 1))⟩] hz176 hd176 (by kernel_rfl) ?_ ?_
      · refine sc (fun _ _ _ _ s _ => px (or_move (s.1.trans e176_4))) ?_
        refine sc (fun _ _ _ f _ _ => px (or_add f.1 rfl rfl)) ?_
        refine sc (fun _ _ _ f _ _ => px (or_assign f.1)) ?_
        exact steps_nil
      intro own177 a177 w177 hd177 hz177 hk177 hf177 hE177
      have e177_0 := (hk177 0 rfl).trans e176_0
      have e177_3 := (hk177 3 rfl).trans e176_3
      obtain ⟨(e177_4 : a177.eval (.tmp 4) = .int .i64 (ad i124 1)), -⟩ := hf177 [2] rfl
      have hX177 := es_ hX176 hE177
      have b177_Al1 := RdO.evo rfl hE177 b176_Al1
      have b177_A175 := re_ hE177 b176_A175
      exact hn151 _ _ _ hs ⟨(rl [(174, 123)] own177), A175, cA175, hd177, hz177, e177_0, e177_3, e177_4, (Evo.rl_ hX177 (fun _ => Nat.le_refl 0) rfl), (RdO.rl_ (mm := [(174, 123)]) b177_Al1), (RwO.rl_ (mm := [(174, 123)]) b177_A175)⟩
    refine fl_exit ?_
    refine hp153 _ _ _ rfl ?_
    replace hs := hz151 _ hs
    refine hp151 _ _ _ rfl ?_
    refine hx99 _ _ ?_
    refine hn97 _ _ ?_
    refine rg0_seq 39 own155 (bz 2) [⟨[], [3], [], Fct.val 38 (.slice A120 out122.length c121)⟩, ⟨[0], [], [], Fct.val 2 (.slice A120 out122.length c121)⟩] hz155 hd155 (by kernel_rfl) ?_ ?_
    · refine sc (fun _ _ _ _ s _ => px (or_move (s.1.trans e155_3))) ?_
      refine sc (fun _ _ _ f _ _ => px (or_assign f.1)) ?_
      exact steps_nil
    intro own178 a178 w178 hd178 hz178 hk178 hf178 hE178
    obtain ⟨(e178_2 : a178.eval (.tmp 2) = .slice A120 out122.length c121), -⟩ := hf178 [1] rfl
    have hX178 := es_ hX155 hE178
    have b178_A120 := re_ hE178 b155_A120
    refine fl_ret ?_
    obtain rfl := (osome hs).symm
    exact hret _ _ _ _ (.inl rfl) hd178 (results1_ rfl (RVal.tmp_ e178_2)) ⟨(rl [(123, 1)] own178), (A120, c121), rfl, (Evo.rl_ hX178 (fun _ => Nat.le_refl 0) rfl), (RwO.rl_ (mm := [(123, 1)]) b178_A120)⟩
theorem internal_stringslite_HasPrefix_w (w : World) (s1 : ByteArray) (prefix2 : ByteArray) (r : Bool) (hs : internal_stringslite_HasPrefix s1 prefix2 = some r) :
    Calls Try.prog 61 #[.string s1, .string prefix2] w fun e w' => ∃ own' : Own, e = .returned (.bool r) ∧ Evo [] (fun _ => 0) own' w w' := by
  refine fl_enter (n := 18) rfl rfl rfl (Nat.le_of_ble_eq_true rfl) ?_
  intro a0 Q hd0 hz0 harg hret
  have ha0 := harg 0 _ rfl
  have ha1 := harg 1 _ rfl
  clear harg
  have hE0 : Evo [] (fun _ => 0) (fun _ => 0) w w := Evo.refl _ _ _
  refine rg0_seq 18 (fun _ => 0) (bz 1) [⟨[], [], [], Fct.val 4 (.bool false)⟩] hz0 hd0 (by kernel_rfl) ?_ ?_
  · refine sc (fun _ _ _ _ _ _ => px (or_assign rfl)) ?_
    exact steps_nil
  intro own15 a15 w15 hd15 hz15 hk15 hf15 hE15
  have e15_0 := (hk15 0 rfl).trans ha0
  have e15_1 := (hk15 1 rfl).trans ha1
  have hX15 := es_ hE0 hE15
  obtain ⟨x16, hx16, hs⟩ := obind hs
  obtain ⟨x17, hx17, hs⟩ := obind hs
  refine rg0_seq 18 own15 [0, 1, 0, 4, 15, 31, 63, 63, 191, 511, 63, 2047, 4095, 8191] [⟨[], [0], [], Fct.val 5 (.string s1)⟩, ⟨[0], [], [], Fct.val 6 (.int .i64 (s1.size : Int))⟩, ⟨[], [1], [], Fct.val 7 (.string prefix2)⟩, ⟨[2], [], [], Fct.val 8 (.int .i64 (prefix2.size : Int))⟩, ⟨[1, 3], [], [], Fct.val 9 (.bool (decide ((prefix2.size : Int) ≤ (s1.size : Int))))⟩, ⟨[4], [], [], Fct.val 10 (.bool (decide ((prefix2.size : Int) ≤ (s1.size : Int))))⟩, ⟨[5], [0], [], Fct.cond (decide ((prefix2.size : Int) ≤ (s1.size : Int))) (some 11) (Fct.val 11 (.string s1))⟩, ⟨[5], [1], [], Fct.cond (decide ((prefix2.size : Int) ≤ (s1.size : Int))) (some 12) (Fct.val 12 (.string prefix2))⟩, ⟨[5, 7], [], [], Fct.cond (decide ((prefix2.size : Int) ≤ (s1.size : Int))) (some 13) (Fct.val 13 (.int .i64 (prefix2.size : Int)))⟩, ⟨[5, 6, 8], [], [], Fct.cond (decide ((prefix2.size : Int) ≤ (s1.size : Int))) (some 14) (Fct.val 14 (.string x16))⟩, ⟨[5], [1], [], Fct.cond (decide ((prefix2.size : Int) ≤ (s1.size : Int))) (some 15) (Fct.val 15 (.string prefix2))⟩, ⟨[5, 9, 10], [], [], Fct.cond (decide ((prefix2.size : Int) ≤ (s1.size : Int))) (some 16) (Fct.val 16 (.bool (eqS x16 prefix2)))⟩, ⟨[5, 11], [], [], Fct.val 17 (.bool x17)⟩, ⟨[12], [], [], Fct.val 4 (.bool x17)⟩] hz15 hd15 (by kernel_rfl) ?_ ?_
  · refine sc (fun _ _ _ _ s _ => px (or_move (s.1.trans e15_0))) ?_
    refine sc (fun _ _ _ f _ _ => px (or_lenS tS9 f.1 rfl)) ?_
    refine sc (fun _ _ _ _ s _ => px (or_move (s.1.trans e15_1))) ?_
    refine sc (fun _ _ _ f _ _ => px (or_lenS tS9 f.1 rfl)) ?_
    refine sc (fun _ _ _ f _ _ => px (or_geq f.1 f.2.1 rfl)) ?_
    refine sc (fun _ _ _ f _ _ => px (or_move f.1)) ?_
    refine sc (fun _ _ _ f s _ => sg_t rfl rfl rfl f.1 (fun hg => or_move (s.1.trans e15_0))) ?_
    refine sc (fun _ _ _ f s _ => sg_t rfl rfl rfl f.1 (fun hg => or_move (s.1.trans e15_1))) ?_
    refine sc (fun _ _ _ f _ _ => sg_t rfl rfl rfl f.1 (fun hg => or_lenS tS9 (f.2.1.1 hg) rfl)) ?_
    refine sc (fun _ _ _ f _ _ => sg_t rfl rfl rfl f.1 (fun hg => or_sliceS tS9 (f.2.1.1 hg) Bnd.none_ (Bnd.some_ (f.2.2.1.1 hg)) (gd_t hx16 hg))) ?_
    refine sc (fun _ _ _ f s _ => sg_t rfl rfl rfl f.1 (fun hg => or_move (s.1.trans e15_1))) ?_
    refine sc (fun _ _ _ f _ _ => sg_t rfl rfl rfl f.1 (fun hg => or_eqlS tS9 (f.2.1.1 hg) (f.2.2.1.1 hg) rfl)) ?_
    refine sc (fun _ _ _ f _ _ => px (or_and f.1 (fun hx => f.2.1.1 hx) rfl (osome hx17).symm)) ?_
    refine sc (fun _ _ _ f _ _ => px (or_assign f.1)) ?_
    exact steps_nil
  intro own18 a18 w18 hd18 hz18 hk18 hf18 hE18
  obtain ⟨(e18_4 : a18.eval (.tmp 4) = .bool x17), -⟩ := hf18 [13] rfl
  have hX18 := es_ hX15 hE18
  refine fl_ret ?_
  obtain rfl := (osome hs).symm
  exact hret _ _ _ _ (.inl rfl) hd18 (results1_ rfl (RVal.tmp_ e18_4)) ⟨own18, rfl, hX18⟩
theorem strings_HasPrefix_w (w : World) (s1 : ByteArray) (prefix2 : ByteArray) (r : Bool) (hs : strings_HasPrefix s1 prefix2 = some r) :
    Calls Try.prog 59 #[.string s1, .string prefix2] w fun e w' => ∃ own' : Own, e = .returned (.bool r) ∧ Evo [] (fun _ => 0) own' w w' := by
  refine fl_enter (n := 8) rfl rfl rfl (Nat.le_of_ble_eq_true rfl) ?_
  intro a0 Q hd0 hz0 harg hret
  have ha0 := harg 0 _ rfl
  have ha1 := harg 1 _ rfl
  clear harg
  have hE0 : Evo [] (fun _ => 0) (fun _ => 0) w w := Evo.refl _ _ _
  refine rg0_seq 8 (fun _ => 0) (bz 1) [⟨[], [], [], Fct.val 4 (.bool false)⟩] hz0 hd0 (by kernel_rfl) ?_ ?_
  · refine sc (fun _ _ _ _ _ _ => px (or_assign rfl)) ?_
    exact steps_nil
  intro own14 a14 w14 hd14 hz14 hk14 hf14 hE14
  have e14_0 := (hk14 0 rfl).trans ha0
  have e14_1 := (hk14 1 rfl).trans ha1
  have hX14 := es_ hE0 hE14
  obtain ⟨r15, hr15, hs⟩ := obind hs
  refine rg0_seq 8 own14 [0, 0, 3, 7] [⟨[], [0], [], Fct.val 5 (.string s1)⟩, ⟨[], [1], [], Fct.val 6 (.string prefix2)⟩, ⟨[0, 1], [], [], Fct.val 7 (.bool r15)⟩, ⟨[2], [], [], Fct.val 4 (.bool r15)⟩] hz14 hd14 (by kernel_rfl) ?_ ?_
  · refine sc (fun _ _ _ _ s _ => px (or_move (s.1.trans e14_0))) ?_
    refine sc (fun _ _ _ _ s _ => px (or_move (s.1.trans e14_1))) ?_
    refine sc (fun _ _ _ f _ _ => px (or_call cf61 (args2 f.1 f.2.1) (internal_stringslite_HasPrefix_w _ s1 prefix2  r15 hr15) post_val)) ?_
    refine sc (fun _ _ _ f _ _ => px (or_assign f.1)) ?_
    exact steps_nil
  intro own16 a16 w16 hd16 hz16 hk16 hf16 hE16
  obtain ⟨(e16_4 : a16.eval (.tmp 4) = .bool r15), -⟩ := hf16 [3] rfl
  have hX16 := es_ hX14 hE16
  refine fl_ret ?_
  obtain rfl := (osome hs).symm
  exact hret _ _ _ _ (.inl rfl) hd16 (results1_ rfl (RVal.tmp_ e16_4)) ⟨own16, rfl, hX16⟩
theorem text_bad_w (w : World) (s1 : ByteArray) (x2 : Int) (r3 : Int) (r : Bool) (hs : text_bad s1 x2 r3 = some r) :
    Calls Try.prog 55 #[.string s1, .int .i64 x2, .int .i32 r3] w fun e w' => ∃ own' : Own, e = .returned (.bool r) ∧ Evo [] (fun _ => 0) own' w w' := by
  refine fl_enter (n := 16) rfl rfl rfl (Nat.le_of_ble_eq_true rfl) ?_
  intro a0 Q hd0 hz0 harg hret
  have ha0 := harg 0 _ rfl
  have ha1 := harg 1 _ rfl
  have ha2 := harg 2 _ rfl
  clear harg
  have hE0 : Evo [] (fun _ => 0) (fun _ => 0) w w := Evo.refl _ _ _
  refine rg0_seq 16 (fun _ => 0) (bz 1) [⟨[], [], [], Fct.val 6 (.bool false)⟩] hz0 hd0 (by kernel_rfl) ?_ ?_
  · refine sc (fun _ _ _ _ _ _ => px (or_assign rfl)) ?_
    exact steps_nil
  intro own15 a15 w15 hd15 hz15 hk15 hf15 hE15
  have e15_0 := (hk15 0 rfl).trans ha0
  have e15_1 := (hk15 1 rfl).trans ha1
  have e15_2 := (hk15 2 rfl).trans ha2
  have hX15 := es_ hE0 hE15
  obtain ⟨x16, hx16, hs⟩ := obind hs
  obtain ⟨r17, hr17, hs⟩ := obind hs
  refine rg0_seq 16 own15 [0, 1, 3, 7, 7, 31, 63, 127, 255, 511] [⟨[], [2], [], Fct.val 7 (.int .i32 r3)⟩, ⟨[0], [], [], Fct.val 8 (.bool (decide (r3 = 65533)))⟩, ⟨[1], [], [], Fct.val 9 (.bool (decide (r3 = 65533)))⟩, ⟨[2], [0], [], Fct.cond (decide (r3 = 65533)) (some 10) (Fct.val 10 (.string s1))⟩, ⟨[2], [1], [], Fct.cond (decide (r3 = 65533)) (some 11) (Fct.val 11 (.int .i64 x2))⟩, ⟨[2, 3, 4], [], [], Fct.cond (decide (r3 = 65533)) (some 12) (Fct.val 12 (.string x16))⟩, ⟨[2, 5], [], [], Fct.cond (decide (r3 = 65533)) (some 13) (Fct.val 13 (.bool r17))⟩, ⟨[2, 6], [], [], Fct.cond (decide (r3 = 65533)) (some 14) (Fct.val 14 (.bool (!r17)))⟩, ⟨[2, 7], [], [], Fct.val 15 (.bool ((decide (r3 = 65533)) && (!r17)))⟩, ⟨[8], [], [], Fct.val 6 (.bool ((decide (r3 = 65533)) && (!r17)))⟩] hz15 hd15 (by kernel_rfl) ?_ ?_
  · refine sc (fun _ _ _ _ s _ => px (or_move (s.1.trans e15_2))) ?_
    refine sc (fun _ _ _ f _ _ => px (or_eql f.1 rfl rfl)) ?_
    refine sc (fun _ _ _ f _ _ => px (or_move f.1)) ?_
    refine sc (fun _ _ _ f s _ => sg_t rfl rfl rfl f.1 (fun hg => or_move (s.1.trans e15_0))) ?_
    refine sc (fun _ _ _ f s _ => sg_t rfl rfl rfl f.1 (fun hg => or_move (s.1.trans e15_1))) ?_
    refine sc (fun _ _ _ f _ _ => sg_t rfl rfl rfl f.1 (fun hg => or_sliceS tS9 (f.2.1.1 hg) (Bnd.some_ (f.2.2.1.1 hg)) Bnd.none_ (gd_t hx16 hg))) ?_
    refine sc (fun _ _ _ f _ _ => sg_t rfl rfl rfl f.1 (fun hg => or_call cf59 (args2 (f.2.1.1 hg) rfl) (strings_HasPrefix_w _ x16 (⟨#[239, 191, 189]⟩ : ByteArray)  r17 (gd_t hr17 hg)) post_val)) ?_
    refine sc (fun _ _ _ f _ _ => sg_t rfl rfl rfl f.1 (fun hg => or_not (f.2.1.1 hg) rfl)) ?_
    refine sc (fun _ _ _ f _ _ => px (or_and f.1 (fun hx => f.2.1.1 hx) rfl rfl)) ?_
    refine sc (fun _ _ _ f _ _ => px (or_assign f.1)) ?_
    exact steps_nil
  intro own18 a18 w18 hd18 hz18 hk18 hf18 hE18
  obtain ⟨(e18_6 : a18.eval (.tmp 6) = .bool ((decide (r3 = 65533)) && (!r17))), -⟩ := hf18 [9] rfl
  have hX18 := es_ hX15 hE18
  refine fl_ret ?_
  obtain rfl := osome hs
  exact hret _ _ _ _ (.inl rfl) hd18 (results1_ rfl (RVal.tmp_ e18_6)) ⟨own18, rfl, hX18⟩
theorem text_Count_w (w : World) (s1 : ByteArray) (r : Int × Bool) (hs : text_Count s1 = some r) :
    Calls Try.prog 48 #[.string s1] w fun e w' => ∃ own' : Own, e = .returned (.tuple #[.int .i64 r.1, .bool r.2]) ∧ Evo [] (fun _ => 0) own' w w' := by
  refine fl_enter (n := 20) rfl rfl rfl (Nat.le_of_ble_eq_true rfl) ?_
  intro a0 Q hd0 hz0 harg hret
  have ha0 := harg 0 _ rfl
  clear harg
  have hE0 : Evo [] (fun _ => 0) (fun _ => 0) w w := Evo.refl _ _ _
  refine rg0_seq 20 (fun _ => 0) (bz 2) [⟨[], [], [], Fct.val 2 (.int .i64 0)⟩, ⟨[], [], [], Fct.val 3 (.bool false)⟩] hz0 hd0 (by kernel_rfl) ?_ ?_
  · refine sc (fun _ _ _ _ _ _ => px (or_assign rfl)) ?_
    refine sc (fun _ _ _ _ _ _ => px (or_assign rfl)) ?_
    exact steps_nil
  intro own62 a62 w62 hd62 hz62 hk62 hf62 hE62
  have e62_0 := (hk62 0 rfl).trans ha0
  have hX62 := es_ hE0 hE62
  refine rg0_seq 20 own62 (bz 1) [⟨[], [], [], Fct.val 4 (.int .i64 0)⟩] hz62 hd62 (by kernel_rfl) ?_ ?_
  · refine sc (fun _ _ _ _ _ _ => px (or_assign rfl)) ?_
    exact steps_nil
  intro own63 a63 w63 hd63 hz63 hk63 hf63 hE63
  have e63_0 := (hk63 0 rfl).trans e62_0
  obtain ⟨(e63_4 : a63.eval (.tmp 4) = .int .i64 0), -⟩ := hf63 [0] rfl
  have hX63 := es_ hX62 hE63
  refine fl_seq (fun Q64 hn64 hp64 => ?_)
  refine rg0_seq 20 own63 (bz 2) [⟨[], [0], [], Fct.val 7 (.string s1)⟩, ⟨[0], [], [], Fct.sit 66 8 0 #[.string s1, .int .i64 0]⟩] hz63 hd63 (by kernel_rfl) ?_ ?_
  · refine sc (fun _ _ _ _ s _ => px (or_move (s.1.trans e63_0))) ?_
    refine sc (fun _ _ _ f _ _ => px (or_rangeS (lab := 66) tS9 f.1)) ?_
    exact steps_nil
  intro own67 a67 w67 hd67 hz67 hk67 hf67 hE67
  have e67_0 := (hk67 0 rfl).trans e63_0
  have e67_4 := (hk67 4 rfl).trans e63_4
  obtain ⟨⟨g65, (e67_8 : a67.eval (.tmp 8) = .pointer (some ⟨g65, 0, none⟩)), (b67_g65 : SitO own67 66 w67 g65 0 #[.string s1, .int .i64 0])⟩, -⟩ := hf67 [1] rfl
  have hX67 := es_ hX63 hE67
  refine fl_block (fun Q68 hn68 hx68 hp68 => ?_)
  refine fl_loop (body := (fun s => text_Count_b1 s1 s.1 s.2)) (z := r) (show loopO _ _ = _ from hs) (fun (s : Int × Int) a wx => match s with | (n82, x84) => ∃ (ox : Own), a.defers = [] ∧ a.tmps.size = 20 ∧ a.eval (.tmp 0) = .string s1 ∧ a.eval (.tmp 4) = .int .i64 n82 ∧ a.eval (.tmp 8) = .pointer (some ⟨g65, 0, none⟩) ∧ Evo [] (fun _ => 0) ox w wx ∧ SitO ox 83 wx g65 0 #[.string s1, .int .i64 x84]) ?_ ?_
  · exact ⟨(rl [(66, 83)] own67), hd67, hz67, e67_0, e67_4, e67_8, (Evo.rl_ hX67 (fun _ => Nat.le_refl 0) rfl), (SitO.rl_ (mm := [(66, 83)]) b67_g65)⟩
  · rintro ⟨n82, x84⟩ zz98 a98 w98 ⟨own98, hd99, hz99, e99_0, e99_4, e99_8, hE99, b99_g65⟩ hs Q98 hn98 hp98 hz98
    have hs : text_Count_b1 s1 n82 x84 = some zz98 := hs
    refine rg_plain_seq (n := 20) (rs := [Fct.sitAt 83 g65 0 #[.string s1, .int .i64 x84]]) (own0 := own98) (K := [83]) (bs := (bz 2)) (ds := [⟨[2], [8], [83], Fct.mems [100] 9 (fun _ : Unit => nxV s1 x84) (fun _ own w => SitO own 100 w g65 0 #[.string s1, .int .i64 (nxS s1 x84)]) (fun hk he h => SitO.evo (not_hit hk (by decide)) he h)⟩, ⟨[0], [], [], Fct.val 10 (.bool (decide (x84 < (s1.size : Int))))⟩]) (by kernel_rfl) hz99 hd99 (by simp only [List.forall_mem_cons]; exact ⟨b99_g65, fun _ h => nomatch h⟩) ?_ ?_
    · refine sc (fun own a wx hf hsl hE => ?_) ?_
      · obtain ⟨b_g65, -⟩ := hf
        obtain ⟨s_8, -⟩ := hsl
        exact px (or_nextS (lab := 83) (lab2 := 100) (s_8.trans e99_8) b_g65 (mem_of rfl) (by decide) (fun _ _ _ h1 h2 => ⟨(), h1, h2⟩))
      refine sc (fun own a wx hf hsl hE => ?_) ?_
      · obtain ⟨⟨_, f_9, b_g65⟩, -⟩ := hf
        exact px (or_nx0 f_9 rfl)
      exact steps_nil
    intro own101 a101 w101 hd101 hz101 hk101 hf101 hE101
    have e101_0 := (hk101 0 rfl).trans e99_0
    have e101_4 := (hk101 4 rfl).trans e99_4
    have e101_8 := (hk101 8 rfl).trans e99_8
    obtain ⟨⟨_, (e101_9 : a101.eval (.tmp 9) = nxV s1 x84), (b101_g65 : SitO own101 100 w101 g65 0 #[.string s1, .int .i64 (nxS s1 x84)])⟩, (e101_10 : a101.eval (.tmp 10) = .bool (decide (x84 < (s1.size : Int)))), -⟩ := hf101 [0, 1] rfl
    have hX101 := es_ hE99 hE101
    refine fl_seq (fun Q102 hn102 hp102 => ?_)
    refine fl_cond e101_10 hs (fun c103 hs => ?_) (fun c103 hs => ?_)
    · refine fl_skip ?_
      refine hn102 _ _ ?_
      refine fl_block (fun Q104 hn104 hx104 hp104 => ?_)
      refine rg0_seq 20 own101 [0, 0, 1, 7] [⟨[], [9], [], Fct.val 11 (.int .i64 x84)⟩, ⟨[], [9], [], Fct.val 12 (.int .i32 (rnS s1 x84))⟩, ⟨[0], [], [], Fct.val 5 (.int .i64 x84)⟩, ⟨[1], [], [], Fct.val 6 (.int .i32 (rnS s1 x84))⟩] hz101 hd101 (by kernel_rfl) ?_ ?_
      · refine sc (fun _ _ _ _ s _ => px (or_nx1 (s.1.trans e101_9) c103)) ?_
        refine sc (fun _ _ _ _ s _ => px (or_nx2 (s.1.trans e101_9) c103)) ?_
        refine sc (fun _ _ _ f _ _ => px (or_assign f.1)) ?_
        refine sc (fun _ _ _ f _ _ => px (or_assign f.1)) ?_
        exact steps_nil
      intro own105 a105 w105 hd105 hz105 hk105 hf105 hE105
      have e105_0 := (hk105 0 rfl).trans e101_0
      have e105_4 := (hk105 4 rfl).trans e101_4
      have e105_8 := (hk105 8 rfl).trans e101_8
      obtain ⟨(e105_5 : a105.eval (.tmp 5) = .int .i64 x84), (e105_6 : a105.eval (.tmp 6) = .int .i32 (rnS s1 x84)), -⟩ := hf105 [2, 3] rfl
      have hX105 := es_ hX101 hE105
      have b105_g65 := SitO.evo (by decide) hE105 b101_g65
      refine fl_seq (fun Q106 hn106 hp106 => ?_)
      obtain ⟨r107, hr107, hs⟩ := obind hs
      refine rg0_seq 20 own105 [0, 0, 0, 7] [⟨[], [0], [], Fct.val 13 (.string s1)⟩, ⟨[], [5], [], Fct.val 14 (.int .i64 x84)⟩, ⟨[], [6], [], Fct.val 15 (.int .i32 (rnS s1 x84))⟩, ⟨[0, 1, 2], [], [], Fct.val 16 (.bool r107)⟩] hz105 hd105 (by kernel_rfl) ?_ ?_
      · refine sc (fun _ _ _ _ s _ => px (or_move (s.1.trans e105_0))) ?_
        refine sc (fun _ _ _ _ s _ => px (or_move (s.1.trans e105_5))) ?_
        refine sc (fun _ _ _ _ s _ => px (or_move (s.1.trans e105_6))) ?_
        refine sc (fun _ _ _ f _ _ => px (or_call cf55 (args3 f.1 f.2.1 f.2.2.1) (text_bad_w _ s1 x84 (rnS s1 x84)  r107 hr107) post_val)) ?_
        exact steps_nil
      intro own108 a108 w108 hd108 hz108 hk108 hf108 hE108
      have e108_0 := (hk108 0 rfl).trans e105_0
      have e108_4 := (hk108 4 rfl).trans e105_4
      have e108_8 := (hk108 8 rfl).trans e105_8
      obtain ⟨(e108_16 : a108.eval (.tmp 16) = .bool r107), -⟩ := hf108 [3] rfl
      have hX108 := es_ hX105 hE108
      have b108_g65 := SitO.evo (by decide) hE108 b105_g65
      refine fl_cond e108_16 hs (fun c109 hs => ?_) (fun c109 hs => ?_)
      · refine rg0_seq 20 own108 (bz 2) [⟨[], [], [], Fct.val 2 (.int .i64 0)⟩, ⟨[], [], [], Fct.val 3 (.bool false)⟩] hz108 hd108 (by kernel_rfl) ?_ ?_
        · refine sc (fun _ _ _ _ _ _ => px (or_assign rfl)) ?_
          refine sc (fun _ _ _ _ _ _ => px (or_assign rfl)) ?_
          exact steps_nil
        intro own110 a110 w110 hd110 hz110 hk110 hf110 hE110
        obtain ⟨(e110_2 : a110.eval (.tmp 2) = .int .i64 0), (e110_3 : a110.eval (.tmp 3) = .bool false), -⟩ := hf110 [0, 1] rfl
        have hX110 := es_ hX108 hE110
        refine fl_ret ?_
        refine hp106 _ _ _ rfl ?_
        refine hp104 _ _ _ rfl ?_
        replace hs := hz98 _ hs
        refine hp98 _ _ _ rfl ?_
        refine hp68 _ _ _ rfl ?_
        refine hp64 _ _ _ rfl ?_
        obtain rfl := osome hs
        exact hret _ _ _ _ (.inl rfl) hd110 (results2_ rfl (RVal.tmp_ e110_2) (RVal.tmp_ e110_3)) ⟨own110, rfl, hX110⟩
      refine fl_skip ?_
      refine hn106 _ _ ?_
      refine rg0 20 own108 (bz 3) [⟨[], [4], [], Fct.val 17 (.int .i64 n82)⟩, ⟨[0], [], [], Fct.val 18 (.int .i64 (ad n82 1))⟩, ⟨[1], [], [], Fct.val 4 (.int .i64 (ad n82 1))⟩] hz108 hd108 (by kernel_rfl) ?_ ?_
      · refine sc (fun _ _ _ _ s _ => px (or_move (s.1.trans e108_4))) ?_
        refine sc (fun _ _ _ f _ _ => px (or_add f.1 rfl rfl)) ?_
        refine sc (fun _ _ _ f _ _ => px (or_assign f.1)) ?_
        exact steps_nil
      intro own111 a111 w111 hd111 hz111 hk111 hf111 hE111
      have e111_0 := (hk111 0 rfl).trans e108_0
      have e111_8 := (hk111 8 rfl).trans e108_8
      obtain ⟨(e111_4 : a111.eval (.tmp 4) = .int .i64 (ad n82 1)), -⟩ := hf111 [2] rfl
      have hX111 := es_ hX108 hE111
      have b111_g65 := SitO.evo (by decide) hE111 b108_g65
      refine hn104 _ _ ?_
      exact hn98 _ _ _ hs ⟨(rl [(100, 83)] own111), hd111, hz111, e111_0, e111_4, e111_8, (Evo.rl_ hX111 (fun _ => Nat.le_refl 0) rfl), (SitO.rl_ (mm := [(100, 83)]) b111_g65)⟩
    refine fl_exit ?_
    refine hp102 _ _ _ rfl ?_
    replace hs := hz98 _ hs
    refine hp98 _ _ _ rfl ?_
    refine hx68 _ _ ?_
    refine hn64 _ _ ?_
    refine rg0_seq 20 own101 (bz 3) [⟨[], [4], [], Fct.val 19 (.int .i64 n82)⟩, ⟨[0], [], [], Fct.val 2 (.int .i64 n82)⟩, ⟨[], [], [], Fct.val 3 (.bool true)⟩] hz101 hd101 (by kernel_rfl) ?_ ?_
    · refine sc (fun _ _ _ _ s _ => px (or_move (s.1.trans e101_4))) ?_
      refine sc (fun _ _ _ f _ _ => px (or_assign f.1)) ?_
      refine sc (fun _ _ _ _ _ _ => px (or_assign rfl)) ?_
      exact steps_nil
    intro own112 a112 w112 hd112 hz112 hk112 hf112 hE112
    obtain ⟨(e112_2 : a112.eval (.tmp 2) = .int .i64 n82), (e112_3 : a112.eval (.tmp 3) = .bool true), -⟩ := hf112 [1, 2] rfl
    have hX112 := es_ hX101 hE112
    refine fl_ret ?_
    obtain rfl := osome hs
    exact hret _ _ _ _ (.inl rfl) hd112 (results2_ rfl (RVal.tmp_ e112_2) (RVal.tmp_ e112_3)) ⟨own112, rfl, hX112⟩
theorem text_letter_w (w : World) (r1 : Int) (r : Bool) (hs : text_letter r1 = some r) :
    Calls Try.prog 49 #[.int .i32 r1] w fun e w' => ∃ own' : Own, e = .returned (.bool r) ∧ Evo [] (fun _ => 0) own' w w' := by
  refine fl_enter (n := 25) rfl rfl rfl (Nat.le_of_ble_eq_true rfl) ?_
  intro a0 Q hd0 hz0 harg hret
  have ha0 := harg 0 _ rfl
  clear harg
  have hE0 : Evo [] (fun _ => 0) (fun _ => 0) w w := Evo.refl _ _ _
  refine rg0_seq 25 (fun _ => 0) (bz 1) [⟨[], [], [], Fct.val 2 (.bool false)⟩] hz0 hd0 (by kernel_rfl) ?_ ?_
  · refine sc (fun _ _ _ _ _ _ => px (or_assign rfl)) ?_
    exact steps_nil
  intro own16 a16 w16 hd16 hz16 hk16 hf16 hE16
  have e16_0 := (hk16 0 rfl).trans ha0
  have hX16 := es_ hE0 hE16
  obtain ⟨x17, hx17, hs⟩ := obind hs
  obtain ⟨x18, hx18, hs⟩ := obind hs
  obtain ⟨x19, hx19, hs⟩ := obind hs
  refine rg0_seq 25 own16 (bz 23) [⟨[], [0], [], Fct.val 3 (.int .i32 r1)⟩, ⟨[0], [], [], Fct.val 4 (.bool (decide (97 ≤ r1)))⟩, ⟨[1], [], [], Fct.val 5 (.bool (decide (97 ≤ r1)))⟩, ⟨[2], [0], [], Fct.cond (decide (97 ≤ r1)) (some 6) (Fct.val 6 (.int .i32 r1))⟩, ⟨[2, 3], [], [], Fct.cond (decide (97 ≤ r1)) (some 7) (Fct.val 7 (.bool (decide (r1 ≤ 122))))⟩, ⟨[2, 4], [], [], Fct.val 8 (.bool x17)⟩, ⟨[5], [], [], Fct.val 9 (.bool x17)⟩, ⟨[6], [0], [], Fct.cond (!x17) (some 10) (Fct.val 10 (.int .i32 r1))⟩, ⟨[6, 7], [], [], Fct.cond (!x17) (some 11) (Fct.val 11 (.bool (decide (65 ≤ r1))))⟩, ⟨[6, 8], [], [], Fct.cond (!x17) (some 12) (Fct.val 12 (.bool (decide (65 ≤ r1))))⟩, ⟨[9], [0], [], Fct.cond ((!x17) && (decide (65 ≤ r1))) (some 13) (Fct.val 13 (.int .i32 r1))⟩, ⟨[9, 10], [], [], Fct.cond ((!x17) && (decide (65 ≤ r1))) (some 14) (Fct.val 14 (.bool (decide (r1 ≤ 90))))⟩, ⟨[6, 9, 11], [], [], Fct.cond (!x17) (some 15) (Fct.val 15 (.bool x18))⟩, ⟨[6, 12], [], [], Fct.val 16 (.bool (x17 || x18))⟩, ⟨[13], [], [], Fct.val 17 (.bool (x17 || x18))⟩, ⟨[14], [0], [], Fct.cond (!(x17 || x18)) (some 18) (Fct.val 18 (.int .i32 r1))⟩, ⟨[14, 15], [], [], Fct.cond (!(x17 || x18)) (some 19) (Fct.val 19 (.bool (decide (r1 = 95))))⟩, ⟨[14, 16], [], [], Fct.val 20 (.bool ((x17 || x18) || (decide (r1 = 95))))⟩, ⟨[17], [], [], Fct.val 21 (.bool ((x17 || x18) || (decide (r1 = 95))))⟩, ⟨[18], [0], [], Fct.cond (!((x17 || x18) || (decide (r1 = 95)))) (some 22) (Fct.val 22 (.int .i32 r1))⟩, ⟨[18, 19], [], [], Fct.cond (!((x17 || x18) || (decide (r1 = 95)))) (some 23) (Fct.val 23 (.bool (decide (128 ≤ r1))))⟩, ⟨[18, 20], [], [], Fct.val 24 (.bool x19)⟩, ⟨[21], [], [], Fct.val 2 (.bool x19)⟩] hz16 hd16 (by kernel_rfl) ?_ ?_
  · refine sc (fun _ _ _ _ s _ => px (or_move (s.1.trans e16_0))) ?_
    refine sc (fun _ _ _ f _ _ => px (or_geq f.1 rfl rfl)) ?_
    refine sc (fun _ _ _ f _ _ => px (or_move f.1)) ?_
    refine sc (fun _ _ _ f s _ => sg_t rfl rfl rfl f.1 (fun hg => or_move (s.1.trans e16_0))) ?_
    refine sc (fun _ _ _ f _ _ => sg_t rfl rfl rfl f.1 (fun hg => or_leq (f.2.1.1 hg) rfl rfl)) ?_
    refine sc (fun _ _ _ f _ _ => px (or_and f.1 (fun hx => f.2.1.1 hx) rfl (osome hx17).symm)) ?_
    refine sc (fun _ _ _ f _ _ => px (or_move f.1)) ?_
    refine sc (fun _ _ _ f s _ => sg_f rfl rfl rfl f.1 (fun hg => or_move (s.1.trans e16_0))) ?_
    refine sc (fun _ _ _ f _ _ => sg_f rfl rfl rfl f.1 (fun hg => or_geq (f.2.1.1 hg) rfl rfl)) ?_
    refine sc (fun _ _ _ f _ _ => sg_f rfl rfl rfl f.1 (fun hg => or_move (f.2.1.1 hg))) ?_
    refine sc (fun _ _ _ f s _ => sg_tc rfl rfl rfl f.1 (fun hg => or_move (s.1.trans e16_0))) ?_
    refine sc (fun _ _ _ f _ _ => sg_tc rfl rfl rfl f.1 (fun hg => or_leq (f.2.1.1 hg) rfl rfl)) ?_
    refine sc (fun _ _ _ f _ _ => sg_f rfl rfl rfl f.1 (fun hg => or_and (f.2.1.1 hg) (fun hx => f.2.2.1.1 (gI hg hx)) rfl (osome hx18).symm)) ?_
    refine sc (fun _ _ _ f _ _ => px (or_or f.1 rfl (fun hx => f.2.1.1 hx) rfl)) ?_
    refine sc (fun _ _ _ f _ _ => px (or_move f.1)) ?_
    refine sc (fun _ _ _ f s _ => sg_f rfl rfl rfl f.1 (fun hg => or_move (s.1.trans e16_0))) ?_
    refine sc (fun _ _ _ f _ _ => sg_f rfl rfl rfl f.1 (fun hg => or_eql (f.2.1.1 hg) rfl rfl)) ?_
    refine sc (fun _ _ _ f _ _ => px (or_or f.1 rfl (fun hx => f.2.1.1 hx) rfl)) ?_
    refine sc (fun _ _ _ f _ _ => px (or_move f.1)) ?_
    refine sc (fun _ _ _ f s _ => sg_f rfl rfl rfl f.1 (fun hg => or_move (s.1.trans e16_0))) ?_
    refine sc (fun _ _ _ f _ _ => sg_f rfl rfl rfl f.1 (fun hg => or_geq (f.2.1.1 hg) rfl rfl)) ?_
    refine sc (fun _ _ _ f _ _ => px (or_or f.1 rfl (fun hx => f.2.1.1 hx) (osome hx19).symm)) ?_
    refine sc (fun _ _ _ f _ _ => px (or_assign f.1)) ?_
    exact steps_nil
  intro own20 a20 w20 hd20 hz20 hk20 hf20 hE20
  obtain ⟨(e20_2 : a20.eval (.tmp 2) = .bool x19), -⟩ := hf20 [22] rfl
  have hX20 := es_ hX16 hE20
  refine fl_ret ?_
  obtain rfl := (osome hs).symm
  exact hret _ _ _ _ (.inl rfl) hd20 (results1_ rfl (RVal.tmp_ e20_2)) ⟨own20, rfl, hX20⟩
theorem text_Name_w (w : World) (s1 : ByteArray) (r : Bool) (hs : text_Name s1 = some r) :
    Calls Try.prog 31 #[.string s1] w fun e w' => ∃ own' : Own, e = .returned (.bool r) ∧ Evo [] (fun _ => 0) own' w w' := by
  refine fl_enter (n := 51) rfl rfl rfl (Nat.le_of_ble_eq_true rfl) ?_
  intro a0 Q hd0 hz0 harg hret
  have ha0 := harg 0 _ rfl
  clear harg
  have hE0 : Evo [] (fun _ => 0) (fun _ => 0) w w := Evo.refl _ _ _
  refine rg0_seq 51 (fun _ => 0) (bz 1) [⟨[], [], [], Fct.val 2 (.bool false)⟩] hz0 hd0 (by kernel_rfl) ?_ ?_
  · refine sc (fun _ _ _ _ _ _ => px (or_assign rfl)) ?_
    exact steps_nil
  intro own67 a67 w67 hd67 hz67 hk67 hf67 hE67
  have e67_0 := (hk67 0 rfl).trans ha0
  have hX67 := es_ hE0 hE67
  obtain ⟨r68, hr68, hs⟩ := obind hs
  refine rg0_seq 51 own67 [0, 1, 3, 7, 7, 15, 63] [⟨[], [0], [], Fct.val 8 (.string s1)⟩, ⟨[0], [], [], Fct.val 9 (.tuple #[.int .i64 r68.1, .bool r68.2])⟩, ⟨[1], [], [], Fct.val 7 (.tuple #[.int .i64 r68.1, .bool r68.2])⟩, ⟨[2], [], [], Fct.val 10 (.int .i64 r68.1)⟩, ⟨[2], [], [], Fct.val 11 (.bool r68.2)⟩, ⟨[3], [], [], Fct.val 3 (.int .i64 r68.1)⟩, ⟨[4], [], [], Fct.val 4 (.bool r68.2)⟩] hz67 hd67 (by kernel_rfl) ?_ ?_
  · refine sc (fun _ _ _ _ s _ => px (or_move (s.1.trans e67_0))) ?_
    refine sc (fun _ _ _ f _ _ => px (or_call cf48 (args1 f.1) (text_Count_w _ s1  r68 hr68) post_val)) ?_
    refine sc (fun _ _ _ f _ _ => px (or_move f.1)) ?_
    refine sc (fun _ _ _ f _ _ => px (or_k [(7, .tuple #[.int .i64 r68.1, .bool r68.2])] rfl rfl ⟨f.1, trivial⟩ (by kernel_rfl))) ?_
    refine sc (fun _ _ _ f _ _ => px (or_k [(7, .tuple #[.int .i64 r68.1, .bool r68.2])] rfl rfl ⟨f.1, trivial⟩ (by kernel_rfl))) ?_
    refine sc (fun _ _ _ f _ _ => px (or_assign f.1)) ?_
    refine sc (fun _ _ _ f _ _ => px (or_assign f.1)) ?_
    exact steps_nil
  intro own69 a69 w69 hd69 hz69 hk69 hf69 hE69
  have e69_0 := (hk69 0 rfl).trans e67_0
  obtain ⟨(e69_3 : a69.eval (.tmp 3) = .int .i64 r68.1), (e69_4 : a69.eval (.tmp 4) = .bool r68.2), -⟩ := hf69 [5, 6] rfl
  have hX69 := es_ hX67 hE69
  refine fl_seq (fun Q70 hn70 hp70 => ?_)
  obtain ⟨x71, hx71, hs⟩ := obind hs
  refine rg0_seq 51 own69 (bz 10) [⟨[], [4], [], Fct.val 12 (.bool r68.2)⟩, ⟨[0], [], [], Fct.val 13 (.bool (!r68.2))⟩, ⟨[1], [], [], Fct.val 14 (.bool (!r68.2))⟩, ⟨[2], [3], [], Fct.cond (!(!r68.2)) (some 15) (Fct.val 15 (.int .i64 r68.1))⟩, ⟨[2, 3], [], [], Fct.cond (!(!r68.2)) (some 16) (Fct.val 16 (.bool (decide (r68.1 < 1))))⟩, ⟨[2, 4], [], [], Fct.val 17 (.bool ((!r68.2) || (decide (r68.1 < 1))))⟩, ⟨[5], [], [], Fct.val 18 (.bool ((!r68.2) || (decide (r68.1 < 1))))⟩, ⟨[6], [3], [], Fct.cond (!((!r68.2) || (decide (r68.1 < 1)))) (some 19) (Fct.val 19 (.int .i64 r68.1))⟩, ⟨[6, 7], [], [], Fct.cond (!((!r68.2) || (decide (r68.1 < 1)))) (some 20) (Fct.val 20 (.bool (decide (32 < r68.1))))⟩, ⟨[6, 8], [], [], Fct.val 21 (.bool x71)⟩] hz69 hd69 (by kernel_rfl) ?_ ?_
  · refine sc (fun _ _ _ _ s _ => px (or_move (s.1.trans e69_4))) ?_
    refine sc (fun _ _ _ f _ _ => px (or_not f.1 rfl)) ?_
    refine sc (fun _ _ _ f _ _ => px (or_move f.1)) ?_
    refine sc (fun _ _ _ f s _ => sg_f rfl rfl rfl f.1 (fun hg => or_move (s.1.trans e69_3))) ?_
    refine sc (fun _ _ _ f _ _ => sg_f rfl rfl rfl f.1 (fun hg => or_lss (f.2.1.1 hg) rfl rfl)) ?_
    refine sc (fun _ _ _ f _ _ => px (or_or f.1 rfl (fun hx => f.2.1.1 hx) rfl)) ?_
    refine sc (fun _ _ _ f _ _ => px (or_move f.1)) ?_
    refine sc (fun _ _ _ f s _ => sg_f rfl rfl rfl f.1 (fun hg => or_move (s.1.trans e69_3))) ?_
    refine sc (fun _ _ _ f _ _ => sg_f rfl rfl rfl f.1 (fun hg => or_gtr (f.2.1.1 hg) rfl rfl)) ?_
    refine sc (fun _ _ _ f _ _ => px (or_or f.1 rfl (fun hx => f.2.1.1 hx) (osome hx71).symm)) ?_
    exact steps_nil
  intro own72 a72 w72 hd72 hz72 hk72 hf72 hE72
  have e72_0 := (hk72 0 rfl).trans e69_0
  obtain ⟨(e72_21 : a72.eval (.tmp 21) = .bool x71), -⟩ := hf72 [9] rfl
  have hX72 := es_ hX69 hE72
  refine fl_cond e72_21 hs (fun c73 hs => ?_) (fun c73 hs => ?_)
  · refine rg0_seq 51 own72 (bz 1) [⟨[], [], [], Fct.val 2 (.bool false)⟩] hz72 hd72 (by kernel_rfl) ?_ ?_
    · refine sc (fun _ _ _ _ _ _ => px (or_assign rfl)) ?_
      exact steps_nil
    intro own74 a74 w74 hd74 hz74 hk74 hf74 hE74
    obtain ⟨(e74_2 : a74.eval (.tmp 2) = .bool false), -⟩ := hf74 [0] rfl
    have hX74 := es_ hX72 hE74
    refine fl_ret ?_
    refine hp70 _ _ _ rfl ?_
    obtain rfl := osome hs
    exact hret _ _ _ _ (.inl rfl) hd74 (results1_ rfl (RVal.tmp_ e74_2)) ⟨own74, rfl, hX74⟩
  refine fl_skip ?_
  refine hn70 _ _ ?_
  refine fl_seq (fun Q75 hn75 hp75 => ?_)
  refine rg0_seq 51 own72 (bz 2) [⟨[], [0], [], Fct.val 22 (.string s1)⟩, ⟨[0], [], [], Fct.sit 77 23 0 #[.string s1, .int .i64 0]⟩] hz72 hd72 (by kernel_rfl) ?_ ?_
  · refine sc (fun _ _ _ _ s _ => px (or_move (s.1.trans e72_0))) ?_
    refine sc (fun _ _ _ f _ _ => px (or_rangeS (lab := 77) tS9 f.1)) ?_
    exact steps_nil
  intro own78 a78 w78 hd78 hz78 hk78 hf78 hE78
  obtain ⟨⟨g76, (e78_23 : a78.eval (.tmp 23) = .pointer (some ⟨g76, 0, none⟩)), (b78_g76 : SitO own78 77 w78 g76 0 #[.string s1, .int .i64 0])⟩, -⟩ := hf78 [1] rfl
  have hX78 := es_ hX72 hE78
  refine fl_block (fun Q79 hn79 hx79 hp79 => ?_)
  refine fl_loop (body := (fun s => text_Name_b1 s1 s)) (z := r) (show loopO _ _ = _ from hs) (fun (x92 : Int) a wx => ∃ (ox : Own), a.defers = [] ∧ a.tmps.size = 51 ∧ a.eval (.tmp 23) = .pointer (some ⟨g76, 0, none⟩) ∧ Evo [] (fun _ => 0) ox w wx ∧ SitO ox 91 wx g76 0 #[.string s1, .int .i64 x92]) ?_ ?_
  · exact ⟨(rl [(77, 91)] own78), hd78, hz78, e78_23, (Evo.rl_ hX78 (fun _ => Nat.le_refl 0) rfl), (SitO.rl_ (mm := [(77, 91)]) b78_g76)⟩
  · rintro x92 zz107 a107 w107 ⟨own107, hd108, hz108, e108_23, hE108, b108_g76⟩ hs Q107 hn107 hp107 hz107
    have hs : text_Name_b1 s1 x92 = some zz107 := hs
    refine rg_plain_seq (n := 51) (rs := [Fct.sitAt 91 g76 0 #[.string s1, .int .i64 x92]]) (own0 := own107) (K := [91]) (bs := (bz 2)) (ds := [⟨[2], [23], [91], Fct.mems [109] 24 (fun _ : Unit => nxV s1 x92) (fun _ own w => SitO own 109 w g76 0 #[.string s1, .int .i64 (nxS s1 x92)]) (fun hk he h => SitO.evo (not_hit hk (by decide)) he h)⟩, ⟨[0], [], [], Fct.val 25 (.bool (decide (x92 < (s1.size : Int))))⟩]) (by kernel_rfl) hz108 hd108 (by simp only [List.forall_mem_cons]; exact ⟨b108_g76, fun _ h => nomatch h⟩) ?_ ?_
    · refine sc (fun own a wx hf hsl hE => ?_) ?_
      · obtain ⟨b_g76, -⟩ := hf
        obtain ⟨s_23, -⟩ := hsl
        exact px (or_nextS (lab := 91) (lab2 := 109) (s_23.trans e108_23) b_g76 (mem_of rfl) (by decide) (fun _ _ _ h1 h2 => ⟨(), h1, h2⟩))
      refine sc (fun own a wx hf hsl hE => ?_) ?_
      · obtain ⟨⟨_, f_24, b_g76⟩, -⟩ := hf
        exact px (or_nx0 f_24 rfl)
      exact steps_nil
    intro own110 a110 w110 hd110 hz110 hk110 hf110 hE110
    have e110_23 := (hk110 23 rfl).trans e108_23
    obtain ⟨⟨_, (e110_24 : a110.eval (.tmp 24) = nxV s1 x92), (b110_g76 : SitO own110 109 w110 g76 0 #[.string s1, .int .i64 (nxS s1 x92)])⟩, (e110_25 : a110.eval (.tmp 25) = .bool (decide (x92 < (s1.size : Int)))), -⟩ := hf110 [0, 1] rfl
    have hX110 := es_ hE108 hE110
    refine fl_seq (fun Q111 hn111 hp111 => ?_)
    refine fl_cond e110_25 hs (fun c112 hs => ?_) (fun c112 hs => ?_)
    · refine fl_skip ?_
      refine hn111 _ _ ?_
      refine fl_block (fun Q113 hn113 hx113 hp113 => ?_)
      refine rg0_seq 51 own110 [0, 0, 1, 7] [⟨[], [24], [], Fct.val 26 (.int .i64 x92)⟩, ⟨[], [24], [], Fct.val 27 (.int .i32 (rnS s1 x92))⟩, ⟨[0], [], [], Fct.val 5 (.int .i64 x92)⟩, ⟨[1], [], [], Fct.val 6 (.int .i32 (rnS s1 x92))⟩] hz110 hd110 (by kernel_rfl) ?_ ?_
      · refine sc (fun _ _ _ _ s _ => px (or_nx1 (s.1.trans e110_24) c112)) ?_
        refine sc (fun _ _ _ _ s _ => px (or_nx2 (s.1.trans e110_24) c112)) ?_
        refine sc (fun _ _ _ f _ _ => px (or_assign f.1)) ?_
        refine sc (fun _ _ _ f _ _ => px (or_assign f.1)) ?_
        exact steps_nil
      intro own114 a114 w114 hd114 hz114 hk114 hf114 hE114
      have e114_23 := (hk114 23 rfl).trans e110_23
      obtain ⟨(e114_5 : a114.eval (.tmp 5) = .int .i64 x92), (e114_6 : a114.eval (.tmp 6) = .int .i32 (rnS s1 x92)), -⟩ := hf114 [2, 3] rfl
      have hX114 := es_ hX110 hE114
      have b114_g76 := SitO.evo (by decide) hE114 b110_g76
      obtain ⟨r115, hr115, hs⟩ := obind hs
      obtain ⟨x116, hx116, hs⟩ := obind hs
      obtain ⟨x117, hx117, hs⟩ := obind hs
      obtain ⟨x118, hx118, hs⟩ := obind hs
      refine rg0_seq 51 own114 (bz 23) [⟨[], [6], [], Fct.val 28 (.int .i32 (rnS s1 x92))⟩, ⟨[0], [], [], Fct.val 29 (.bool r115)⟩, ⟨[1], [], [], Fct.val 30 (.bool (!r115))⟩, ⟨[2], [], [], Fct.val 31 (.bool (!r115))⟩, ⟨[3], [5], [], Fct.cond (!r115) (some 32) (Fct.val 32 (.int .i64 x92))⟩, ⟨[3, 4], [], [], Fct.cond (!r115) (some 33) (Fct.val 33 (.bool (decide (x92 = 0))))⟩, ⟨[3, 5], [], [], Fct.cond (!r115) (some 34) (Fct.val 34 (.bool (decide (x92 = 0))))⟩, ⟨[6], [6], [], Fct.cond ((!r115) && (!(decide (x92 = 0)))) (some 35) (Fct.val 35 (.int .i32 (rnS s1 x92)))⟩, ⟨[6, 7], [], [], Fct.cond ((!r115) && (!(decide (x92 = 0)))) (some 36) (Fct.val 36 (.bool (!decide ((rnS s1 x92) = 45))))⟩, ⟨[6, 8], [], [], Fct.cond ((!r115) && (!(decide (x92 = 0)))) (some 37) (Fct.val 37 (.bool (!decide ((rnS s1 x92) = 45))))⟩, ⟨[9], [6], [], Fct.cond (((!r115) && (!(decide (x92 = 0)))) && (!decide ((rnS s1 x92) = 45))) (some 38) (Fct.val 38 (.int .i32 (rnS s1 x92)))⟩, ⟨[9, 10], [], [], Fct.cond (((!r115) && (!(decide (x92 = 0)))) && (!decide ((rnS s1 x92) = 45))) (some 39) (Fct.val 39 (.bool (!decide ((rnS s1 x92) = 46))))⟩, ⟨[6, 9, 11], [], [], Fct.cond ((!r115) && (!(decide (x92 = 0)))) (some 40) (Fct.val 40 (.bool x116))⟩, ⟨[6, 12], [], [], Fct.cond ((!r115) && (!(decide (x92 = 0)))) (some 41) (Fct.val 41 (.bool x116))⟩, ⟨[13], [6], [], Fct.cond (((!r115) && (!(decide (x92 = 0)))) && x116) (some 42) (Fct.val 42 (.int .i32 (rnS s1 x92)))⟩, ⟨[13, 14], [], [], Fct.cond (((!r115) && (!(decide (x92 = 0)))) && x116) (some 43) (Fct.val 43 (.bool (decide ((rnS s1 x92) < 48))))⟩, ⟨[13, 15], [], [], Fct.cond (((!r115) && (!(decide (x92 = 0)))) && x116) (some 44) (Fct.val 44 (.bool (decide ((rnS s1 x92) < 48))))⟩, ⟨[16], [6], [], Fct.cond ((((!r115) && (!(decide (x92 = 0)))) && x116) && (!(decide ((rnS s1 x92) < 48)))) (some 45) (Fct.val 45 (.int .i32 (rnS s1 x92)))⟩, ⟨[16, 17], [], [], Fct.cond ((((!r115) && (!(decide (x92 = 0)))) && x116) && (!(decide ((rnS s1 x92) < 48)))) (some 46) (Fct.val 46 (.bool (decide (57 < (rnS s1 x92)))))⟩, ⟨[13, 16, 18], [], [], Fct.cond (((!r115) && (!(decide (x92 = 0)))) && x116) (some 47) (Fct.val 47 (.bool x117))⟩, ⟨[6, 13, 19], [], [], Fct.cond ((!r115) && (!(decide (x92 = 0)))) (some 48) (Fct.val 48 (.bool (x116 && x117)))⟩, ⟨[3, 6, 20], [], [], Fct.cond (!r115) (some 49) (Fct.val 49 (.bool x118))⟩, ⟨[3, 21], [], [], Fct.val 50 (.bool ((!r115) && x118))⟩] hz114 hd114 (by kernel_rfl) ?_ ?_
      · refine sc (fun _ _ _ _ s _ => px (or_move (s.1.trans e114_6))) ?_
        refine sc (fun _ _ _ f _ _ => px (or_call cf49 (args1 f.1) (text_letter_w _ (rnS s1 x92)  r115 hr115) post_val)) ?_
        refine sc (fun _ _ _ f _ _ => px (or_not f.1 rfl)) ?_
        refine sc (fun _ _ _ f _ _ => px (or_move f.1)) ?_
        refine sc (fun _ _ _ f s _ => sg_t rfl rfl rfl f.1 (fun hg => or_move (s.1.trans e114_5))) ?_
        refine sc (fun _ _ _ f _ _ => sg_t rfl rfl rfl f.1 (fun hg => or_eql (f.2.1.1 hg) rfl rfl)) ?_
        refine sc (fun _ _ _ f _ _ => sg_t rfl rfl rfl f.1 (fun hg => or_move (f.2.1.1 hg))) ?_
        refine sc (fun _ _ _ f s _ => sg_fc rfl rfl rfl f.1 (fun hg => or_move (s.1.trans e114_6))) ?_
        refine sc (fun _ _ _ f _ _ => sg_fc rfl rfl rfl f.1 (fun hg => or_neq (f.2.1.1 hg) rfl rfl)) ?_
        refine sc (fun _ _ _ f _ _ => sg_fc rfl rfl rfl f.1 (fun hg => or_move (f.2.1.1 hg))) ?_
        refine sc (fun _ _ _ f s _ => sg_tc rfl rfl rfl f.1 (fun hg => or_move (s.1.trans e114_6))) ?_
        refine sc (fun _ _ _ f _ _ => sg_tc rfl rfl rfl f.1 (fun hg => or_neq (f.2.1.1 hg) rfl rfl)) ?_
        refine sc (fun _ _ _ f _ _ => sg_fc rfl rfl rfl f.1 (fun hg => or_and (f.2.1.1 hg) (fun hx => f.2.2.1.1 (gI hg hx)) rfl (osome hx116).symm)) ?_
        refine sc (fun _ _ _ f _ _ => sg_fc rfl rfl rfl f.1 (fun hg => or_move (f.2.1.1 hg))) ?_
        refine sc (fun _ _ _ f s _ => sg_tc rfl rfl rfl f.1 (fun hg => or_move (s.1.trans e114_6))) ?_
        refine sc (fun _ _ _ f _ _ => sg_tc rfl rfl rfl f.1 (fun hg => or_lss (f.2.1.1 hg) rfl rfl)) ?_
        refine sc (fun _ _ _ f _ _ => sg_tc rfl rfl rfl f.1 (fun hg => or_move (f.2.1.1 hg))) ?_
        refine sc (fun _ _ _ f s _ => sg_fc rfl rfl rfl f.1 (fun hg => or_move (s.1.trans e114_6))) ?_
        refine sc (fun _ _ _ f _ _ => sg_fc rfl rfl rfl f.1 (fun hg => or_gtr (f.2.1.1 hg) rfl rfl)) ?_
        refine sc (fun _ _ _ f _ _ => sg_tc rfl rfl rfl f.1 (fun hg => or_or (f.2.1.1 hg) rfl (fun hx => f.2.2.1.1 (gI hg hx)) (osome hx117).symm)) ?_
        refine sc (fun _ _ _ f _ _ => sg_fc rfl rfl rfl f.1 (fun hg => or_and (f.2.1.1 hg) (fun hx => f.2.2.1.1 (gI hg hx)) rfl rfl)) ?_
        refine sc (fun _ _ _ f _ _ => sg_t rfl rfl rfl f.1 (fun hg => or_or (f.2.1.1 hg) rfl (fun hx => f.2.2.1.1 (gI hg hx)) (osome hx118).symm)) ?_
        refine sc (fun _ _ _ f _ _ => px (or_and f.1 (fun hx => f.2.1.1 hx) rfl rfl)) ?_
        exact steps_nil
      intro own119 a119 w119 hd119 hz119 hk119 hf119 hE119
      have e119_23 := (hk119 23 rfl).trans e114_23
      obtain ⟨(e119_50 : a119.eval (.tmp 50) = .bool ((!r115) && x118)), -⟩ := hf119 [22] rfl
      have hX119 := es_ hX114 hE119
      have b119_g76 := SitO.evo (by decide) hE119 b114_g76
      refine fl_cond e119_50 hs (fun c120 hs => ?_) (fun c120 hs => ?_)
      · refine rg0_seq 51 own119 (bz 1) [⟨[], [], [], Fct.val 2 (.bool false)⟩] hz119 hd119 (by kernel_rfl) ?_ ?_
        · refine sc (fun _ _ _ _ _ _ => px (or_assign rfl)) ?_
          exact steps_nil
        intro own121 a121 w121 hd121 hz121 hk121 hf121 hE121
        obtain ⟨(e121_2 : a121.eval (.tmp 2) = .bool false), -⟩ := hf121 [0] rfl
        have hX121 := es_ hX119 hE121
        refine fl_ret ?_
        refine hp113 _ _ _ rfl ?_
        replace hs := hz107 _ hs
        refine hp107 _ _ _ rfl ?_
        refine hp79 _ _ _ rfl ?_
        refine hp75 _ _ _ rfl ?_
        obtain rfl := osome hs
        exact hret _ _ _ _ (.inl rfl) hd121 (results1_ rfl (RVal.tmp_ e121_2)) ⟨own121, rfl, hX121⟩
      refine fl_skip ?_
      refine hn113 _ _ ?_
      exact hn107 _ _ _ hs ⟨(rl [(109, 91)] own119), hd119, hz119, e119_23, (Evo.rl_ hX119 (fun _ => Nat.le_refl 0) rfl), (SitO.rl_ (mm := [(109, 91)]) b119_g76)⟩
    refine fl_exit ?_
    refine hp111 _ _ _ rfl ?_
    replace hs := hz107 _ hs
    refine hp107 _ _ _ rfl ?_
    refine hx79 _ _ ?_
    refine hn75 _ _ ?_
    refine rg0_seq 51 own110 (bz 1) [⟨[], [], [], Fct.val 2 (.bool true)⟩] hz110 hd110 (by kernel_rfl) ?_ ?_
    · refine sc (fun _ _ _ _ _ _ => px (or_assign rfl)) ?_
      exact steps_nil
    intro own122 a122 w122 hd122 hz122 hk122 hf122 hE122
    obtain ⟨(e122_2 : a122.eval (.tmp 2) = .bool true), -⟩ := hf122 [0] rfl
    have hX122 := es_ hX110 hE122
    refine fl_ret ?_
    obtain rfl := osome hs
    exact hret _ _ _ _ (.inl rfl) hd122 (results1_ rfl (RVal.tmp_ e122_2)) ⟨own122, rfl, hX122⟩
theorem text_Right_w (w : World) (s1 : ByteArray) (r : Bool) (hs : text_Right s1 = some r) :
    Calls Try.prog 50 #[.string s1] w fun e w' => ∃ own' : Own, e = .returned (.bool r) ∧ Evo [] (fun _ => 0) own' w w' := by
  refine fl_enter (n := 11) rfl rfl rfl (Nat.le_of_ble_eq_true rfl) ?_
  intro a0 Q hd0 hz0 harg hret
  have ha0 := harg 0 _ rfl
  clear harg
  have hE0 : Evo [] (fun _ => 0) (fun _ => 0) w w := Evo.refl _ _ _
  refine rg0_seq 11 (fun _ => 0) (bz 1) [⟨[], [], [], Fct.val 2 (.bool false)⟩] hz0 hd0 (by kernel_rfl) ?_ ?_
  · refine sc (fun _ _ _ _ _ _ => px (or_assign rfl)) ?_
    exact steps_nil
  intro own15 a15 w15 hd15 hz15 hk15 hf15 hE15
  have e15_0 := (hk15 0 rfl).trans ha0
  have hX15 := es_ hE0 hE15
  obtain ⟨r16, hr16, hs⟩ := obind hs
  refine rg0_seq 11 own15 [0, 1, 3, 7, 7, 15, 63] [⟨[], [0], [], Fct.val 6 (.string s1)⟩, ⟨[0], [], [], Fct.val 7 (.tuple #[.int .i64 r16.1, .bool r16.2])⟩, ⟨[1], [], [], Fct.val 5 (.tuple #[.int .i64 r16.1, .bool r16.2])⟩, ⟨[2], [], [], Fct.val 8 (.int .i64 r16.1)⟩, ⟨[2], [], [], Fct.val 9 (.bool r16.2)⟩, ⟨[3], [], [], Fct.val 3 (.int .i64 r16.1)⟩, ⟨[4], [], [], Fct.val 4 (.bool r16.2)⟩] hz15 hd15 (by kernel_rfl) ?_ ?_
  · refine sc (fun _ _ _ _ s _ => px (or_move (s.1.trans e15_0))) ?_
    refine sc (fun _ _ _ f _ _ => px (or_call cf48 (args1 f.1) (text_Count_w _ s1  r16 hr16) post_val)) ?_
    refine sc (fun _ _ _ f _ _ => px (or_move f.1)) ?_
    refine sc (fun _ _ _ f _ _ => px (or_k [(5, .tuple #[.int .i64 r16.1, .bool r16.2])] rfl rfl ⟨f.1, trivial⟩ (by kernel_rfl))) ?_
    refine sc (fun _ _ _ f _ _ => px (or_k [(5, .tuple #[.int .i64 r16.1, .bool r16.2])] rfl rfl ⟨f.1, trivial⟩ (by kernel_rfl))) ?_
    refine sc (fun _ _ _ f _ _ => px (or_assign f.1)) ?_
    refine sc (fun _ _ _ f _ _ => px (or_assign f.1)) ?_
    exact steps_nil
  intro own17 a17 w17 hd17 hz17 hk17 hf17 hE17
  obtain ⟨(e17_4 : a17.eval (.tmp 4) = .bool r16.2), -⟩ := hf17 [6] rfl
  have hX17 := es_ hX15 hE17
  refine rg0_seq 11 own17 (bz 2) [⟨[], [4], [], Fct.val 10 (.bool r16.2)⟩, ⟨[0], [], [], Fct.val 2 (.bool r16.2)⟩] hz17 hd17 (by kernel_rfl) ?_ ?_
  · refine sc (fun _ _ _ _ s _ => px (or_move (s.1.trans e17_4))) ?_
    refine sc (fun _ _ _ f _ _ => px (or_assign f.1)) ?_
    exact steps_nil
  intro own18 a18 w18 hd18 hz18 hk18 hf18 hE18
  obtain ⟨(e18_2 : a18.eval (.tmp 2) = .bool r16.2), -⟩ := hf18 [1] rfl
  have hX18 := es_ hX17 hE18
  refine fl_ret ?_
  obtain rfl := osome hs
  exact hret _ _ _ _ (.inl rfl) hd18 (results1_ rfl (RVal.tmp_ e18_2)) ⟨own18, rfl, hX18⟩
theorem value_Check_w (w : World) (v1 : Int × ByteArray × Int) (r : Int) (hs : value_Check v1 = some r) :
    Calls Try.prog 33 #[.agg #[.int .i64 v1.1, .string v1.2.1, .int .i64 v1.2.2]] w fun e w' => ∃ own' : Own, e = .returned (.int .i64 r) ∧ Evo [] (fun _ => 0) own' w w' := by
  refine fl_enter (n := 44) rfl rfl rfl (Nat.le_of_ble_eq_true rfl) ?_
  intro a0 Q hd0 hz0 harg hret
  have ha0 := harg 0 _ rfl
  clear harg
  have hE0 : Evo [] (fun _ => 0) (fun _ => 0) w w := Evo.refl _ _ _
  refine rg0_seq 44 (fun _ => 0) [0, 0] [⟨[], [0], [], Fct.blk 599 1 (fun g => .pointer (some ⟨g, 0, none⟩)) 60 #[.int .i64 v1.1, .string v1.2.1, .int .i64 v1.2.2]⟩, ⟨[], [], [], Fct.val 2 (.int .i64 0)⟩] hz0 hd0 (by kernel_rfl) ?_ ?_
  · refine sc (fun _ _ _ _ s _ => px (or_new [(0, .agg #[.int .i64 v1.1, .string v1.2.1, .int .i64 v1.2.2])] rfl rfl ⟨(s.1.trans ha0), trivial⟩ (by kernel_rfl))) ?_
    refine sc (fun _ _ _ _ _ _ => px (or_assign rfl)) ?_
    exact steps_nil
  intro own600 a600 w600 hd600 hz600 hk600 hf600 hE600
  obtain ⟨⟨g598, (e600_1 : a600.eval (.tmp 1) = .pointer (some ⟨g598, 0, none⟩)), (b600_g598 : BlkO own600 599 w600 g598 60 #[.int .i64 v1.1, .string v1.2.1, .int .i64 v1.2.2])⟩, -⟩ := hf600 [0] rfl
  have hX600 := es_ hE0 hE600
  refine rg0_seq 44 own600 (bz 2) [⟨[], [], [], Fct.val 3 (.int .i64 0)⟩, ⟨[], [], [], Fct.val 4 (.int .i64 1152921504606846976)⟩] hz600 hd600 (by kernel_rfl) ?_ ?_
  · refine sc (fun _ _ _ _ _ _ => px (or_assign rfl)) ?_
    refine sc (fun _ _ _ _ _ _ => px (or_assign rfl)) ?_
    exact steps_nil
  intro own601 a601 w601 hd601 hz601 hk601 hf601 hE601
  have e601_1 := (hk601 1 rfl).trans e600_1
  obtain ⟨(e601_3 : a601.eval (.tmp 3) = .int .i64 0), (e601_4 : a601.eval (.tmp 4) = .int .i64 1152921504606846976), -⟩ := hf601 [0, 1] rfl
  have hX601 := es_ hX600 hE601
  have b601_g598 := be_ hE601 b600_g598
  refine fl_seq (fun Q602 hn602 hp602 => ?_)
  refine rg0_seq 44 own601 (bz 2) [⟨[], [1], [], Fct.val 5 (.pointer (some ⟨g598, 0, none⟩))⟩, ⟨[0], [], [], Fct.val 6 (.int .i64 v1.1)⟩] hz601 hd601 (by kernel_rfl) ?_ ?_
  · refine sc (fun _ _ _ _ s _ => px (or_field fo60_0 (s.1.trans e601_1) (by rfl))) ?_
    refine sc (fun _ _ _ f _ hE => px (or_load1 to3 f.1 (Blk.at_ (be_ hE b601_g598).2 0 rfl))) ?_
    exact steps_nil
  intro own889 a889 w889 hd889 hz889 hk889 hf889 hE889
  have e889_1 := (hk889 1 rfl).trans e601_1
  have e889_3 := (hk889 3 rfl).trans e601_3
  have e889_4 := (hk889 4 rfl).trans e601_4
  obtain ⟨(e889_6 : a889.eval (.tmp 6) = .int .i64 v1.1), -⟩ := hf889 [1] rfl
  have hX889 := es_ hX601 hE889
  have b889_g598 := be_ hE889 b601_g598
  refine fl_block (fun Q890 hn890 hx890 hp890 => ?_)
  have K1033 : ∀ (a1033 : Act) (w1033 : World) (own1033 : Own) (least1031 : Int) (greatest1032 : Int), a1033.defers = [] → a1033.tmps.size = 44 → a1033.eval (.tmp 1) = .pointer (some ⟨g598, 0, none⟩) → a1033.eval (.tmp 3) = .int .i64 least1031 → a1033.eval (.tmp 4) = .int .i64 greatest1032 → Evo [] (fun _ => 0) own1033 w w1033 → BlkO own1033 599 w1033 g598 60 #[.int .i64 v1.1, .string v1.2.1, .int .i64 v1.2.2] → value_Check_k1 v1 least1031 greatest1032 = some r → (Q890 .normal a1033 w1033 ∧ Q890 (.exit 0) a1033 w1033) := by
    intro a1033 w1033 own1033 least1031 greatest1032 hd1034 hz1034 e1034_1 e1034_3 e1034_4 hE1034 b1034_g598 hs
    refine and_both (hn890 _ _) (hx890 _ _) ?_
    refine hn602 _ _ ?_
    refine fl_seq (fun Q1035 hn1035 hp1035 => ?_)
    refine fl_block (fun Q1036 hn1036 hx1036 hp1036 => ?_)
    refine rg0_seq 44 own1033 (bz 4) [⟨[], [1], [], Fct.val 30 (.pointer (some ⟨g598, 1, none⟩))⟩, ⟨[0], [], [], Fct.val 31 (.string v1.2.1)⟩, ⟨[1], [], [], Fct.val 32 (.bool (!eqS v1.2.1 ByteArray.empty))⟩, ⟨[2], [], [], Fct.val 29 (.bool (!eqS v1.2.1 ByteArray.empty))⟩] hz1034 hd1034 (by kernel_rfl) ?_ ?_
    · refine sc (fun _ _ _ _ s _ => px (or_field fo60_1 (s.1.trans e1034_1) (by rfl))) ?_
      refine sc (fun _ _ _ f _ hE => px (or_load1 to9 f.1 (Blk.at_ (be_ hE b1034_g598).2 1 rfl))) ?_
      refine sc (fun _ _ _ f _ _ => px (or_neqS tS9 f.1 rfl rfl)) ?_
      refine sc (fun _ _ _ f _ _ => px (or_assign f.1)) ?_
      exact steps_nil
    intro own1037 a1037 w1037 hd1037 hz1037 hk1037 hf1037 hE1037
    have e1037_1 := (hk1037 1 rfl).trans e1034_1
    have e1037_3 := (hk1037 3 rfl).trans e1034_3
    have e1037_4 := (hk1037 4 rfl).trans e1034_4
    obtain ⟨(e1037_29 : a1037.eval (.tmp 29) = .bool (!eqS v1.2.1 ByteArray.empty)), -⟩ := hf1037 [3] rfl
    have hX1037 := es_ hE1034 hE1037
    have b1037_g598 := be_ hE1037 b1034_g598
    refine fl_cond e1037_29 hs (fun c1038 hs => ?_) (fun c1038 hs => ?_)
    · refine rg0_seq 44 own1037 (bz 1) [⟨[], [], [], Fct.val 2 (.int .i64 3)⟩] hz1037 hd1037 (by kernel_rfl) ?_ ?_
      · refine sc (fun _ _ _ _ _ _ => px (or_assign rfl)) ?_
        exact steps_nil
      intro own1039 a1039 w1039 hd1039 hz1039 hk1039 hf1039 hE1039
      obtain ⟨(e1039_2 : a1039.eval (.tmp 2) = .int .i64 3), -⟩ := hf1039 [0] rfl
      have hX1039 := es_ hX1037 hE1039
      refine fl_ret ?_
      refine hp1036 _ _ _ rfl ?_
      refine hp1035 _ _ _ rfl ?_
      obtain rfl := osome hs
      exact hret _ _ _ _ (.inl rfl) hd1039 (results1_ rfl (RVal.tmp_ e1039_2)) ⟨own1039, rfl, hX1039⟩
    obtain ⟨x1040, hx1040, hs⟩ := obind hs
    refine rg0_seq 44 own1037 [0, 1, 0, 7, 15, 31, 63, 31, 255, 511, 1023] [⟨[], [1], [], Fct.val 34 (.pointer (some ⟨g598, 2, none⟩))⟩, ⟨[0], [], [], Fct.val 35 (.int .i64 v1.2.2)⟩, ⟨[], [3], [], Fct.val 36 (.int .i64 least1031)⟩, ⟨[1, 2], [], [], Fct.val 37 (.bool (decide (v1.2.2 < least1031)))⟩, ⟨[3], [], [], Fct.val 38 (.bool (decide (v1.2.2 < least1031)))⟩, ⟨[4], [1], [], Fct.cond (!(decide (v1.2.2 < least1031))) (some 39) (Fct.val 39 (.pointer (some ⟨g598, 2, none⟩)))⟩, ⟨[4, 5], [], [], Fct.cond (!(decide (v1.2.2 < least1031))) (some 40) (Fct.val 40 (.int .i64 v1.2.2))⟩, ⟨[4], [4], [], Fct.cond (!(decide (v1.2.2 < least1031))) (some 41) (Fct.val 41 (.int .i64 greatest1032))⟩, ⟨[4, 6, 7], [], [], Fct.cond (!(decide (v1.2.2 < least1031))) (some 42) (Fct.val 42 (.bool (decide (greatest1032 < v1.2.2))))⟩, ⟨[4, 8], [], [], Fct.val 43 (.bool x1040)⟩, ⟨[9], [], [], Fct.val 33 (.bool x1040)⟩] hz1037 hd1037 (by kernel_rfl) ?_ ?_
    · refine sc (fun _ _ _ _ s _ => px (or_field fo60_2 (s.1.trans e1037_1) (by rfl))) ?_
      refine sc (fun _ _ _ f _ hE => px (or_load1 to3 f.1 (Blk.at_ (be_ hE b1037_g598).2 2 rfl))) ?_
      refine sc (fun _ _ _ _ s _ => px (or_move (s.1.trans e1037_3))) ?_
      refine sc (fun _ _ _ f _ _ => px (or_lss f.1 f.2.1 rfl)) ?_
      refine sc (fun _ _ _ f _ _ => px (or_move f.1)) ?_
      refine sc (fun _ _ _ f s _ => sg_f rfl rfl rfl f.1 (fun hg => or_field fo60_2 (s.1.trans e1037_1) (by rfl))) ?_
      refine sc (fun _ _ _ f _ hE => sg_f rfl rfl rfl f.1 (fun hg => or_load1 to3 (f.2.1.1 hg) (Blk.at_ (be_ hE b1037_g598).2 2 rfl))) ?_
      refine sc (fun _ _ _ f s _ => sg_f rfl rfl rfl f.1 (fun hg => or_move (s.1.trans e1037_4))) ?_
      refine sc (fun _ _ _ f _ _ => sg_f rfl rfl rfl f.1 (fun hg => or_gtr (f.2.1.1 hg) (f.2.2.1.1 hg) rfl)) ?_
      refine sc (fun _ _ _ f _ _ => px (or_or f.1 rfl (fun hx => f.2.1.1 hx) (osome hx1040).symm)) ?_
      refine sc (fun _ _ _ f _ _ => px (or_assign f.1)) ?_
      exact steps_nil
    intro own1041 a1041 w1041 hd1041 hz1041 hk1041 hf1041 hE1041
    obtain ⟨(e1041_33 : a1041.eval (.tmp 33) = .bool x1040), -⟩ := hf1041 [10] rfl
    have hX1041 := es_ hX1037 hE1041
    refine fl_cond e1041_33 hs (fun c1042 hs => ?_) (fun c1042 hs => ?_)
    · refine rg0_seq 44 own1041 (bz 1) [⟨[], [], [], Fct.val 2 (.int .i64 5)⟩] hz1041 hd1041 (by kernel_rfl) ?_ ?_
      · refine sc (fun _ _ _ _ _ _ => px (or_assign rfl)) ?_
        exact steps_nil
      intro own1043 a1043 w1043 hd1043 hz1043 hk1043 hf1043 hE1043
      obtain ⟨(e1043_2 : a1043.eval (.tmp 2) = .int .i64 5), -⟩ := hf1043 [0] rfl
      have hX1043 := es_ hX1041 hE1043
      refine fl_ret ?_
      refine hp1036 _ _ _ rfl ?_
      refine hp1035 _ _ _ rfl ?_
      obtain rfl := osome hs
      exact hret _ _ _ _ (.inl rfl) hd1043 (results1_ rfl (RVal.tmp_ e1043_2)) ⟨own1043, rfl, hX1043⟩
    refine fl_skip ?_
    refine hn1036 _ _ ?_
    refine hn1035 _ _ ?_
    refine rg0_seq 44 own1041 (bz 1) [⟨[], [], [], Fct.val 2 (.int .i64 0)⟩] hz1041 hd1041 (by kernel_rfl) ?_ ?_
    · refine sc (fun _ _ _ _ _ _ => px (or_assign rfl)) ?_
      exact steps_nil
    intro own1044 a1044 w1044 hd1044 hz1044 hk1044 hf1044 hE1044
    obtain ⟨(e1044_2 : a1044.eval (.tmp 2) = .int .i64 0), -⟩ := hf1044 [0] rfl
    have hX1044 := es_ hX1041 hE1044
    refine fl_ret ?_
    obtain rfl := osome hs
    exact hret _ _ _ _ (.inl rfl) hd1044 (results1_ rfl (RVal.tmp_ e1044_2)) ⟨own1044, rfl, hX1044⟩
  refine fl_seq (fun Q1045 hn1045 hp1045 => ?_)
  refine fl_block (fun Q1046 hn1046 hx1046 hp1046 => ?_)
  refine fl_seq (fun Q1047 hn1047 hp1047 => ?_)
  refine fl_block (fun Q1048 hn1048 hx1048 hp1048 => ?_)
  refine fl_seq (fun Q1049 hn1049 hp1049 => ?_)
  refine fl_block (fun Q1116 hn1116 hx1116 hp1116 => ?_)
  have K1149 : ∀ (a1149 : Act) (w1149 : World) (own1149 : Own) (least1148 : Int), a1149.defers = [] → a1149.tmps.size = 44 → a1149.eval (.tmp 1) = .pointer (some ⟨g598, 0, none⟩) → a1149.eval (.tmp 3) = .int .i64 least1148 → a1149.eval (.tmp 4) = .int .i64 1152921504606846976 → Evo [] (fun _ => 0) own1149 w w1149 → BlkO own1149 599 w1149 g598 60 #[.int .i64 v1.1, .string v1.2.1, .int .i64 v1.2.2] → value_Check_k2 v1 least1148 = some r → (Q1116 .normal a1149 w1149 ∧ Q1116 (.exit 3) a1149 w1149) := by
    intro a1149 w1149 own1149 least1148 hd1150 hz1150 e1150_1 e1150_3 e1150_4 hE1150 b1150_g598 hs
    refine and_both (hn1116 _ _) (hx1116 _ _) ?_
    refine hn1049 _ _ ?_
    refine fl_exit ?_
    refine hp1048 _ _ _ rfl ?_
    refine hp1047 _ _ _ rfl ?_
    refine hp1046 _ _ _ rfl ?_
    refine hp1045 _ _ _ rfl ?_
    exact (K1033 _ _ own1149 _ _ hd1150 hz1150 e1150_1 e1150_3 e1150_4 hE1150 b1150_g598 hs).2
  refine fl_seq (fun Q1151 hn1151 hp1151 => ?_)
  refine fl_block (fun Q1152 hn1152 hx1152 hp1152 => ?_)
  refine fl_seq (fun Q1153 hn1153 hp1153 => ?_)
  refine fl_block (fun Q1154 hn1154 hx1154 hp1154 => ?_)
  refine fl_seq (fun Q1155 hn1155 hp1155 => ?_)
  refine fl_seq (fun Q1156 hn1156 hp1156 => ?_)
  refine rg0_seq 44 own889 (bz 2) [⟨[], [6], [], Fct.val 8 (.bool (decide (v1.1 = 1)))⟩, ⟨[0], [], [], Fct.val 7 (.bool (decide (v1.1 = 1)))⟩] hz889 hd889 (by kernel_rfl) ?_ ?_
  · refine sc (fun _ _ _ _ s _ => px (or_eql (s.1.trans e889_6) rfl rfl)) ?_
    refine sc (fun _ _ _ f _ _ => px (or_assign f.1)) ?_
    exact steps_nil
  intro own1157 a1157 w1157 hd1157 hz1157 hk1157 hf1157 hE1157
  have e1157_1 := (hk1157 1 rfl).trans e889_1
  have e1157_3 := (hk1157 3 rfl).trans e889_3
  have e1157_4 := (hk1157 4 rfl).trans e889_4
  have e1157_6 := (hk1157 6 rfl).trans e889_6
  obtain ⟨(e1157_7 : a1157.eval (.tmp 7) = .bool (decide (v1.1 = 1))), -⟩ := hf1157 [1] rfl
  have hX1157 := es_ hX889 hE1157
  have b1157_g598 := be_ hE1157 b889_g598
  refine fl_cond e1157_7 hs (fun c1158 hs => ?_) (fun c1158 hs => ?_)
  · refine fl_exit ?_
    refine hp1156 _ _ _ rfl ?_
    refine hp1155 _ _ _ rfl ?_
    refine hx1154 _ _ ?_
    refine hn1153 _ _ ?_
    refine fl_seq (fun Q1159 hn1159 hp1159 => ?_)
    refine fl_seq (fun Q1160 hn1160 hp1160 => ?_)
    refine fl_block (fun Q1161 hn1161 hx1161 hp1161 => ?_)
    refine rg0_seq 44 own1157 (bz 4) [⟨[], [1], [], Fct.val 16 (.pointer (some ⟨g598, 2, none⟩))⟩, ⟨[0], [], [], Fct.val 17 (.int .i64 v1.2.2)⟩, ⟨[1], [], [], Fct.val 18 (.bool (!decide (v1.2.2 = 0)))⟩, ⟨[2], [], [], Fct.val 15 (.bool (!decide (v1.2.2 = 0)))⟩] hz1157 hd1157 (by kernel_rfl) ?_ ?_
    · refine sc (fun _ _ _ _ s _ => px (or_field fo60_2 (s.1.trans e1157_1) (by rfl))) ?_
      refine sc (fun _ _ _ f _ hE => px (or_load1 to3 f.1 (Blk.at_ (be_ hE b1157_g598).2 2 rfl))) ?_
      refine sc (fun _ _ _ f _ _ => px (or_neq f.1 rfl rfl)) ?_
      refine sc (fun _ _ _ f _ _ => px (or_assign f.1)) ?_
      exact steps_nil
    intro own1162 a1162 w1162 hd1162 hz1162 hk1162 hf1162 hE1162
    have e1162_1 := (hk1162 1 rfl).trans e1157_1
    obtain ⟨(e1162_15 : a1162.eval (.tmp 15) = .bool (!decide (v1.2.2 = 0))), -⟩ := hf1162 [3] rfl
    have hX1162 := es_ hX1157 hE1162
    have b1162_g598 := be_ hE1162 b1157_g598
    refine fl_cond e1162_15 hs (fun c1163 hs => ?_) (fun c1163 hs => ?_)
    · refine rg0_seq 44 own1162 (bz 1) [⟨[], [], [], Fct.val 2 (.int .i64 3)⟩] hz1162 hd1162 (by kernel_rfl) ?_ ?_
      · refine sc (fun _ _ _ _ _ _ => px (or_assign rfl)) ?_
        exact steps_nil
      intro own1164 a1164 w1164 hd1164 hz1164 hk1164 hf1164 hE1164
      obtain ⟨(e1164_2 : a1164.eval (.tmp 2) = .int .i64 3), -⟩ := hf1164 [0] rfl
      have hX1164 := es_ hX1162 hE1164
      refine fl_ret ?_
      refine hp1161 _ _ _ rfl ?_
      refine hp1160 _ _ _ rfl ?_
      refine hp1159 _ _ _ rfl ?_
      refine hp1152 _ _ _ rfl ?_
      refine hp1151 _ _ _ rfl ?_
      refine hp1116 _ _ _ rfl ?_
      refine hp1049 _ _ _ rfl ?_
      refine hp1048 _ _ _ rfl ?_
      refine hp1047 _ _ _ rfl ?_
      refine hp1046 _ _ _ rfl ?_
      refine hp1045 _ _ _ rfl ?_
      refine hp890 _ _ _ rfl ?_
      refine hp602 _ _ _ rfl ?_
      obtain rfl := osome hs
      exact hret _ _ _ _ (.inl rfl) hd1164 (results1_ rfl (RVal.tmp_ e1164_2)) ⟨own1164, rfl, hX1164⟩
    obtain ⟨r1165, hr1165, hs⟩ := obind hs
    refine rg0_seq 44 own1162 (bz 5) [⟨[], [1], [], Fct.val 20 (.pointer (some ⟨g598, 1, none⟩))⟩, ⟨[0], [], [], Fct.val 21 (.string v1.2.1)⟩, ⟨[1], [], [], Fct.val 22 (.bool r1165)⟩, ⟨[2], [], [], Fct.val 23 (.bool (!r1165))⟩, ⟨[3], [], [], Fct.val 19 (.bool (!r1165))⟩] hz1162 hd1162 (by kernel_rfl) ?_ ?_
    · refine sc (fun _ _ _ _ s _ => px (or_field fo60_1 (s.1.trans e1162_1) (by rfl))) ?_
      refine sc (fun _ _ _ f _ hE => px (or_load1 to9 f.1 (Blk.at_ (be_ hE b1162_g598).2 1 rfl))) ?_
      refine sc (fun _ _ _ f _ _ => px (or_call cf50 (args1 f.1) (text_Right_w _ v1.2.1  r1165 hr1165) post_val)) ?_
      refine sc (fun _ _ _ f _ _ => px (or_not f.1 rfl)) ?_
      refine sc (fun _ _ _ f _ _ => px (or_assign f.1)) ?_
      exact steps_nil
    intro own1166 a1166 w1166 hd1166 hz1166 hk1166 hf1166 hE1166
    have e1166_1 := (hk1166 1 rfl).trans e1162_1
    obtain ⟨(e1166_19 : a1166.eval (.tmp 19) = .bool (!r1165)), -⟩ := hf1166 [4] rfl
    have hX1166 := es_ hX1162 hE1166
    have b1166_g598 := be_ hE1166 b1162_g598
    refine fl_cond e1166_19 hs (fun c1167 hs => ?_) (fun c1167 hs => ?_)
    · refine rg0_seq 44 own1166 (bz 1) [⟨[], [], [], Fct.val 2 (.int .i64 13)⟩] hz1166 hd1166 (by kernel_rfl) ?_ ?_
      · refine sc (fun _ _ _ _ _ _ => px (or_assign rfl)) ?_
        exact steps_nil
      intro own1168 a1168 w1168 hd1168 hz1168 hk1168 hf1168 hE1168
      obtain ⟨(e1168_2 : a1168.eval (.tmp 2) = .int .i64 13), -⟩ := hf1168 [0] rfl
      have hX1168 := es_ hX1166 hE1168
      refine fl_ret ?_
      refine hp1161 _ _ _ rfl ?_
      refine hp1160 _ _ _ rfl ?_
      refine hp1159 _ _ _ rfl ?_
      refine hp1152 _ _ _ rfl ?_
      refine hp1151 _ _ _ rfl ?_
      refine hp1116 _ _ _ rfl ?_
      refine hp1049 _ _ _ rfl ?_
      refine hp1048 _ _ _ rfl ?_
      refine hp1047 _ _ _ rfl ?_
      refine hp1046 _ _ _ rfl ?_
      refine hp1045 _ _ _ rfl ?_
      refine hp890 _ _ _ rfl ?_
      refine hp602 _ _ _ rfl ?_
      obtain rfl := osome hs
      exact hret _ _ _ _ (.inl rfl) hd1168 (results1_ rfl (RVal.tmp_ e1168_2)) ⟨own1168, rfl, hX1168⟩
    refine rg0_seq 44 own1166 (bz 5) [⟨[], [1], [], Fct.val 25 (.pointer (some ⟨g598, 1, none⟩))⟩, ⟨[0], [], [], Fct.val 26 (.string v1.2.1)⟩, ⟨[1], [], [], Fct.val 27 (.int .i64 (v1.2.1.size : Int))⟩, ⟨[2], [], [], Fct.val 28 (.bool (decide (64 < (v1.2.1.size : Int))))⟩, ⟨[3], [], [], Fct.val 24 (.bool (decide (64 < (v1.2.1.size : Int))))⟩] hz1166 hd1166 (by kernel_rfl) ?_ ?_
    · refine sc (fun _ _ _ _ s _ => px (or_field fo60_1 (s.1.trans e1166_1) (by rfl))) ?_
      refine sc (fun _ _ _ f _ hE => px (or_load1 to9 f.1 (Blk.at_ (be_ hE b1166_g598).2 1 rfl))) ?_
      refine sc (fun _ _ _ f _ _ => px (or_lenS tS9 f.1 rfl)) ?_
      refine sc (fun _ _ _ f _ _ => px (or_gtr f.1 rfl rfl)) ?_
      refine sc (fun _ _ _ f _ _ => px (or_assign f.1)) ?_
      exact steps_nil
    intro own1169 a1169 w1169 hd1169 hz1169 hk1169 hf1169 hE1169
    obtain ⟨(e1169_24 : a1169.eval (.tmp 24) = .bool (decide (64 < (v1.2.1.size : Int)))), -⟩ := hf1169 [4] rfl
    have hX1169 := es_ hX1166 hE1169
    refine fl_cond e1169_24 hs (fun c1170 hs => ?_) (fun c1170 hs => ?_)
    · refine rg0_seq 44 own1169 (bz 1) [⟨[], [], [], Fct.val 2 (.int .i64 2)⟩] hz1169 hd1169 (by kernel_rfl) ?_ ?_
      · refine sc (fun _ _ _ _ _ _ => px (or_assign rfl)) ?_
        exact steps_nil
      intro own1171 a1171 w1171 hd1171 hz1171 hk1171 hf1171 hE1171
      obtain ⟨(e1171_2 : a1171.eval (.tmp 2) = .int .i64 2), -⟩ := hf1171 [0] rfl
      have hX1171 := es_ hX1169 hE1171
      refine fl_ret ?_
      refine hp1161 _ _ _ rfl ?_
      refine hp1160 _ _ _ rfl ?_
      refine hp1159 _ _ _ rfl ?_
      refine hp1152 _ _ _ rfl ?_
      refine hp1151 _ _ _ rfl ?_
      refine hp1116 _ _ _ rfl ?_
      refine hp1049 _ _ _ rfl ?_
      refine hp1048 _ _ _ rfl ?_
      refine hp1047 _ _ _ rfl ?_
      refine hp1046 _ _ _ rfl ?_
      refine hp1045 _ _ _ rfl ?_
      refine hp890 _ _ _ rfl ?_
      refine hp602 _ _ _ rfl ?_
      obtain rfl := osome hs
      exact hret _ _ _ _ (.inl rfl) hd1171 (results1_ rfl (RVal.tmp_ e1171_2)) ⟨own1171, rfl, hX1171⟩
    refine fl_skip ?_
    refine hn1161 _ _ ?_
    refine hn1160 _ _ ?_
    refine rg0_seq 44 own1169 (bz 1) [⟨[], [], [], Fct.val 2 (.int .i64 0)⟩] hz1169 hd1169 (by kernel_rfl) ?_ ?_
    · refine sc (fun _ _ _ _ _ _ => px (or_assign rfl)) ?_
      exact steps_nil
    intro own1172 a1172 w1172 hd1172 hz1172 hk1172 hf1172 hE1172
    obtain ⟨(e1172_2 : a1172.eval (.tmp 2) = .int .i64 0), -⟩ := hf1172 [0] rfl
    have hX1172 := es_ hX1169 hE1172
    refine fl_ret ?_
    refine hp1159 _ _ _ rfl ?_
    refine hp1152 _ _ _ rfl ?_
    refine hp1151 _ _ _ rfl ?_
    refine hp1116 _ _ _ rfl ?_
    refine hp1049 _ _ _ rfl ?_
    refine hp1048 _ _ _ rfl ?_
    refine hp1047 _ _ _ rfl ?_
    refine hp1046 _ _ _ rfl ?_
    refine hp1045 _ _ _ rfl ?_
    refine hp890 _ _ _ rfl ?_
    refine hp602 _ _ _ rfl ?_
    obtain rfl := osome hs
    exact hret _ _ _ _ (.inl rfl) hd1172 (results1_ rfl (RVal.tmp_ e1172_2)) ⟨own1172, rfl, hX1172⟩
  refine fl_skip ?_
  refine hn1156 _ _ ?_
  refine fl_seq (fun Q1173 hn1173 hp1173 => ?_)
  refine rg0_seq 44 own1157 (bz 2) [⟨[], [6], [], Fct.val 10 (.bool (decide (v1.1 = 3)))⟩, ⟨[0], [], [], Fct.val 9 (.bool (decide (v1.1 = 3)))⟩] hz1157 hd1157 (by kernel_rfl) ?_ ?_
  · refine sc (fun _ _ _ _ s _ => px (or_eql (s.1.trans e1157_6) rfl rfl)) ?_
    refine sc (fun _ _ _ f _ _ => px (or_assign f.1)) ?_
    exact steps_nil
  intro own1174 a1174 w1174 hd1174 hz1174 hk1174 hf1174 hE1174
  have e1174_1 := (hk1174 1 rfl).trans e1157_1
  have e1174_3 := (hk1174 3 rfl).trans e1157_3
  have e1174_4 := (hk1174 4 rfl).trans e1157_4
  have e1174_6 := (hk1174 6 rfl).trans e1157_6
  obtain ⟨(e1174_9 : a1174.eval (.tmp 9) = .bool (decide (v1.1 = 3))), -⟩ := hf1174 [1] rfl
  have hX1174 := es_ hX1157 hE1174
  have b1174_g598 := be_ hE1174 b1157_g598
  refine fl_cond e1174_9 hs (fun c1175 hs => ?_) (fun c1175 hs => ?_)
  · refine fl_exit ?_
    refine hp1173 _ _ _ rfl ?_
    refine hp1155 _ _ _ rfl ?_
    refine hp1154 _ _ _ rfl ?_
    refine hp1153 _ _ _ rfl ?_
    refine hx1152 _ _ ?_
    refine hn1151 _ _ ?_
    refine rg0 44 own1174 (bz 1) [⟨[], [], [], Fct.val 3 (.int .i64 (-1152921504606846976))⟩] hz1174 hd1174 (by kernel_rfl) ?_ ?_
    · refine sc (fun _ _ _ _ _ _ => px (or_assign rfl)) ?_
      exact steps_nil
    intro own1176 a1176 w1176 hd1176 hz1176 hk1176 hf1176 hE1176
    have e1176_1 := (hk1176 1 rfl).trans e1174_1
    have e1176_4 := (hk1176 4 rfl).trans e1174_4
    obtain ⟨(e1176_3 : a1176.eval (.tmp 3) = .int .i64 (-1152921504606846976)), -⟩ := hf1176 [0] rfl
    have hX1176 := es_ hX1174 hE1176
    have b1176_g598 := be_ hE1176 b1174_g598
    exact (K1149 _ _ own1176 _ hd1176 hz1176 e1176_1 e1176_3 e1176_4 hX1176 b1176_g598 hs).1
  refine fl_skip ?_
  refine hn1173 _ _ ?_
  refine fl_seq (fun Q1177 hn1177 hp1177 => ?_)
  refine rg0_seq 44 own1174 (bz 2) [⟨[], [6], [], Fct.val 12 (.bool (decide (v1.1 = 2)))⟩, ⟨[0], [], [], Fct.val 11 (.bool (decide (v1.1 = 2)))⟩] hz1174 hd1174 (by kernel_rfl) ?_ ?_
  · refine sc (fun _ _ _ _ s _ => px (or_eql (s.1.trans e1174_6) rfl rfl)) ?_
    refine sc (fun _ _ _ f _ _ => px (or_assign f.1)) ?_
    exact steps_nil
  intro own1178 a1178 w1178 hd1178 hz1178 hk1178 hf1178 hE1178
  have e1178_1 := (hk1178 1 rfl).trans e1174_1
  have e1178_3 := (hk1178 3 rfl).trans e1174_3
  have e1178_4 := (hk1178 4 rfl).trans e1174_4
  have e1178_6 := (hk1178 6 rfl).trans e1174_6
  obtain ⟨(e1178_11 : a1178.eval (.tmp 11) = .bool (decide (v1.1 = 2))), -⟩ := hf1178 [1] rfl
  have hX1178 := es_ hX1174 hE1178
  have b1178_g598 := be_ hE1178 b1174_g598
  refine fl_cond e1178_11 hs (fun c1179 hs => ?_) (fun c1179 hs => ?_)
  · refine fl_exit ?_
    refine hp1177 _ _ _ rfl ?_
    refine hp1155 _ _ _ rfl ?_
    refine hp1154 _ _ _ rfl ?_
    refine hp1153 _ _ _ rfl ?_
    refine hp1152 _ _ _ rfl ?_
    refine hp1151 _ _ _ rfl ?_
    exact (K1149 _ _ own1178 _ hd1178 hz1178 e1178_1 e1178_3 e1178_4 hX1178 b1178_g598 hs).2
  refine fl_skip ?_
  refine hn1177 _ _ ?_
  refine rg0_seq 44 own1178 (bz 2) [⟨[], [6], [], Fct.val 14 (.bool (decide (v1.1 = 4)))⟩, ⟨[0], [], [], Fct.val 13 (.bool (decide (v1.1 = 4)))⟩] hz1178 hd1178 (by kernel_rfl) ?_ ?_
  · refine sc (fun _ _ _ _ s _ => px (or_eql (s.1.trans e1178_6) rfl rfl)) ?_
    refine sc (fun _ _ _ f _ _ => px (or_assign f.1)) ?_
    exact steps_nil
  intro own1180 a1180 w1180 hd1180 hz1180 hk1180 hf1180 hE1180
  have e1180_1 := (hk1180 1 rfl).trans e1178_1
  have e1180_3 := (hk1180 3 rfl).trans e1178_3
  obtain ⟨(e1180_13 : a1180.eval (.tmp 13) = .bool (decide (v1.1 = 4))), -⟩ := hf1180 [1] rfl
  have hX1180 := es_ hX1178 hE1180
  have b1180_g598 := be_ hE1180 b1178_g598
  refine fl_cond e1180_13 hs (fun c1181 hs => ?_) (fun c1181 hs => ?_)
  · refine fl_exit ?_
    refine hp1155 _ _ _ rfl ?_
    refine hp1154 _ _ _ rfl ?_
    refine hp1153 _ _ _ rfl ?_
    refine hp1152 _ _ _ rfl ?_
    refine hp1151 _ _ _ rfl ?_
    refine hp1116 _ _ _ rfl ?_
    refine hp1049 _ _ _ rfl ?_
    refine hx1048 _ _ ?_
    refine hn1047 _ _ ?_
    refine rg0_seq 44 own1180 (bz 1) [⟨[], [], [], Fct.val 4 (.int .i64 1)⟩] hz1180 hd1180 (by kernel_rfl) ?_ ?_
    · refine sc (fun _ _ _ _ _ _ => px (or_assign rfl)) ?_
      exact steps_nil
    intro own1182 a1182 w1182 hd1182 hz1182 hk1182 hf1182 hE1182
    have e1182_1 := (hk1182 1 rfl).trans e1180_1
    have e1182_3 := (hk1182 3 rfl).trans e1180_3
    obtain ⟨(e1182_4 : a1182.eval (.tmp 4) = .int .i64 1), -⟩ := hf1182 [0] rfl
    have hX1182 := es_ hX1180 hE1182
    have b1182_g598 := be_ hE1182 b1180_g598
    refine fl_exit ?_
    refine hp1046 _ _ _ rfl ?_
    refine hp1045 _ _ _ rfl ?_
    exact (K1033 _ _ own1182 _ _ hd1182 hz1182 e1182_1 e1182_3 e1182_4 hX1182 b1182_g598 hs).2
  refine fl_skip ?_
  refine hn1155 _ _ ?_
  refine fl_exit ?_
  refine hp1154 _ _ _ rfl ?_
  refine hp1153 _ _ _ rfl ?_
  refine hp1152 _ _ _ rfl ?_
  refine hp1151 _ _ _ rfl ?_
  refine hp1116 _ _ _ rfl ?_
  refine hp1049 _ _ _ rfl ?_
  refine hp1048 _ _ _ rfl ?_
  refine hp1047 _ _ _ rfl ?_
  refine hx1046 _ _ ?_
  refine hn1045 _ _ ?_
  refine fl_seq (fun Q1183 hn1183 hp1183 => ?_)
  refine rg0_seq 44 own1180 (bz 1) [⟨[], [], [], Fct.val 2 (.int .i64 14)⟩] hz1180 hd1180 (by kernel_rfl) ?_ ?_
  · refine sc (fun _ _ _ _ _ _ => px (or_assign rfl)) ?_
    exact steps_nil
  intro own1184 a1184 w1184 hd1184 hz1184 hk1184 hf1184 hE1184
  obtain ⟨(e1184_2 : a1184.eval (.tmp 2) = .int .i64 14), -⟩ := hf1184 [0] rfl
  have hX1184 := es_ hX1180 hE1184
  refine fl_ret ?_
  refine hp1183 _ _ _ rfl ?_
  refine hp890 _ _ _ rfl ?_
  refine hp602 _ _ _ rfl ?_
  obtain rfl := osome hs
  exact hret _ _ _ _ (.inl rfl) hd1184 (results1_ rfl (RVal.tmp_ e1184_2)) ⟨own1184, rfl, hX1184⟩
theorem table_Check_w (w : World) (l1 : List (ByteArray × (Int × ByteArray × Int))) (Al1 : Option Addr) (cl1 : Nat) (hl1 : RdO (fun _ => 0) [0] w R64 Al1 cl1 l1) (r : Int) (hs : table_Check l1 = some r) :
    Calls Try.prog 17 #[.slice Al1 l1.length cl1] w fun e w' => ∃ own' : Own, e = .returned (.int .i64 r) ∧ Evo [] (fun _ => 0) own' w w' := by
  refine fl_enter (n := 35) rfl rfl rfl (Nat.le_of_ble_eq_true rfl) ?_
  intro a0 Q hd0 hz0 harg hret
  have ha0 := harg 0 _ rfl
  clear harg
  have hE0 : Evo [] (fun _ => 0) (fun _ => 0) w w := Evo.refl _ _ _
  refine rg0_seq 35 (fun _ => 0) (bz 1) [⟨[], [], [], Fct.val 2 (.int .i64 0)⟩] hz0 hd0 (by kernel_rfl) ?_ ?_
  · refine sc (fun _ _ _ _ _ _ => px (or_assign rfl)) ?_
    exact steps_nil
  intro own118 a118 w118 hd118 hz118 hk118 hf118 hE118
  have e118_0 := (hk118 0 rfl).trans ha0
  have hX118 := es_ hE0 hE118
  have b118_Al1 := RdO.evo rfl hE118 hl1
  refine fl_seq (fun Q119 hn119 hp119 => ?_)
  refine rg0_seq 35 own118 (bz 3) [⟨[], [0], [], Fct.val 7 (.slice Al1 l1.length cl1)⟩, ⟨[0], [], [], Fct.val 8 (.int .i64 (l1.length : Int))⟩, ⟨[1], [], [], Fct.val 9 (.bool (decide (8 < (l1.length : Int))))⟩] hz118 hd118 (by kernel_rfl) ?_ ?_
  · refine sc (fun _ _ _ _ s _ => px (or_move (s.1.trans e118_0))) ?_
    refine sc (fun _ _ _ f _ _ => px (or_len tu22 f.1 rfl)) ?_
    refine sc (fun _ _ _ f _ _ => px (or_gtr f.1 rfl rfl)) ?_
    exact steps_nil
  intro own120 a120 w120 hd120 hz120 hk120 hf120 hE120
  have e120_0 := (hk120 0 rfl).trans e118_0
  obtain ⟨(e120_9 : a120.eval (.tmp 9) = .bool (decide (8 < (l1.length : Int)))), -⟩ := hf120 [2] rfl
  have hX120 := es_ hX118 hE120
  have b120_Al1 := RdO.evo rfl hE120 b118_Al1
  refine fl_cond e120_9 hs (fun c121 hs => ?_) (fun c121 hs => ?_)
  · refine rg0_seq 35 own120 (bz 1) [⟨[], [], [], Fct.val 2 (.int .i64 6)⟩] hz120 hd120 (by kernel_rfl) ?_ ?_
    · refine sc (fun _ _ _ _ _ _ => px (or_assign rfl)) ?_
      exact steps_nil
    intro own122 a122 w122 hd122 hz122 hk122 hf122 hE122
    obtain ⟨(e122_2 : a122.eval (.tmp 2) = .int .i64 6), -⟩ := hf122 [0] rfl
    have hX122 := es_ hX120 hE122
    refine fl_ret ?_
    refine hp119 _ _ _ rfl ?_
    obtain rfl := osome hs
    exact hret _ _ _ _ (.inl rfl) hd122 (results1_ rfl (RVal.tmp_ e122_2)) ⟨own122, rfl, hX122⟩
  refine fl_skip ?_
  refine hn119 _ _ ?_
  refine rg0_seq 35 own120 (bz 2) [⟨[], [], [], Fct.map_ 124 10 vv9 vv4 ([] : List (ByteArray × Bool))⟩, ⟨[0], [], [], Fct.rel [3, 10] (fun l => ∀ (g123 : Nat), l.getD 1 undef = .map (some g123) → l.getD 0 undef = .map (some g123))⟩] hz120 hd120 (by kernel_rfl) ?_ ?_
  · refine sc (fun _ _ _ _ _ _ => px (or_makeMap)) ?_
    refine sc (fun own a wx hf hsl hE => ?_) ?_
    · obtain ⟨⟨g123, (f_10 : a.eval (.tmp 10) = .map (some g123)), b_g123⟩, -⟩ := hf
      exact px (or_mono (f := Fct.val 3 (.map (some g123))) (or_assign f_10) (fun own' a' w' v' hp h => fun _ h0' => by cases (f_10.symm.trans ((hp.2 10 (by decide)).symm.trans h0')); exact h))
    exact steps_nil
  intro own125 a125 w125 hd125 hz125 hk125 hf125 hE125
  have e125_0 := (hk125 0 rfl).trans e120_0
  obtain ⟨⟨g123, (f_10 : a125.eval (.tmp 10) = .map (some g123)), (b125_g123 : MpO own125 124 w125 g123 vv9 vv4 ([] : List (ByteArray × Bool)))⟩, (q_3 : ∀ (g123 : Nat), a125.eval (.tmp 10) = .map (some g123) → a125.eval (.tmp 3) = .map (some g123)), -⟩ := hf125 [0, 1] rfl
  have e125_3 := q_3 _ f_10
  have hX125 := es_ hX120 hE125
  have b125_Al1 := RdO.evo rfl hE125 b120_Al1
  refine fl_seq (fun Q126 hn126 hp126 => ?_)
  refine rg0_seq 35 own125 [0, 1, 0] [⟨[], [0], [], Fct.val 11 (.slice Al1 l1.length cl1)⟩, ⟨[0], [], [], Fct.val 12 (.int .i64 (l1.length : Int))⟩, ⟨[], [], [], Fct.val 13 (.int .i64 0)⟩] hz125 hd125 (by kernel_rfl) ?_ ?_
  · refine sc (fun _ _ _ _ s _ => px (or_move (s.1.trans e125_0))) ?_
    refine sc (fun _ _ _ f _ _ => px (or_len tu22 f.1 rfl)) ?_
    refine sc (fun _ _ _ _ _ _ => px (or_move rfl)) ?_
    exact steps_nil
  intro own127 a127 w127 hd127 hz127 hk127 hf127 hE127
  have e127_3 := (hk127 3 rfl).trans e125_3
  obtain ⟨(e127_11 : a127.eval (.tmp 11) = .slice Al1 l1.length cl1), (e127_12 : a127.eval (.tmp 12) = .int .i64 (l1.length : Int)), (e127_13 : a127.eval (.tmp 13) = .int .i64 0), -⟩ := hf127 [0, 1, 2] rfl
  have hX127 := es_ hX125 hE127
  have b127_Al1 := RdO.evo rfl hE127 b125_Al1
  have b127_g123 := MpO.evo (by decide) hE127 b125_g123
  refine fl_block (fun Q128 hn128 hx128 hp128 => ?_)
  refine fl_loop (body := (fun s => table_Check_b1 l1 s.1 s.2)) (z := r) (show loopO _ _ = _ from hs) (fun (s : (List (ByteArray × Bool)) × Int) a wx => match s with | (met161, x162) => ∃ (ox : Own), a.defers = [] ∧ a.tmps.size = 35 ∧ a.eval (.tmp 3) = .map (some g123) ∧ a.eval (.tmp 11) = .slice Al1 l1.length cl1 ∧ a.eval (.tmp 12) = .int .i64 (l1.length : Int) ∧ a.eval (.tmp 13) = .int .i64 x162 ∧ Evo [] (fun _ => 0) ox w wx ∧ MpO ox 160 wx g123 vv9 vv4 met161 ∧ RdO ox [0] wx R64 Al1 cl1 l1) ?_ ?_
  · exact ⟨(rl [(124, 160)] own127), hd127, hz127, e127_3, e127_11, e127_12, e127_13, (Evo.rl_ hX127 (fun _ => Nat.le_refl 0) rfl), (MpO.rl_ (mm := [(124, 160)]) b127_g123), (RdO.rl_ (mm := [(124, 160)]) b127_Al1)⟩
  · rintro ⟨met161, x162⟩ zz193 a193 w193 ⟨own193, hd194, hz194, e194_3, e194_11, e194_12, e194_13, hE194, b194_g123, b194_Al1⟩ hs Q193 hn193 hp193 hz193
    have hs : table_Check_b1 l1 met161 x162 = some zz193 := hs
    refine rg0_seq 35 own193 (bz 1) [⟨[], [13, 12], [], Fct.val 14 (.bool (decide (x162 < (l1.length : Int))))⟩] hz194 hd194 (by kernel_rfl) ?_ ?_
    · refine sc (fun _ _ _ _ s _ => px (or_lss (s.1.trans e194_13) (s.2.1.trans e194_12) rfl)) ?_
      exact steps_nil
    intro own195 a195 w195 hd195 hz195 hk195 hf195 hE195
    have e195_3 := (hk195 3 rfl).trans e194_3
    have e195_11 := (hk195 11 rfl).trans e194_11
    have e195_12 := (hk195 12 rfl).trans e194_12
    have e195_13 := (hk195 13 rfl).trans e194_13
    obtain ⟨(e195_14 : a195.eval (.tmp 14) = .bool (decide (x162 < (l1.length : Int)))), -⟩ := hf195 [0] rfl
    have hX195 := es_ hE194 hE195
    have b195_g123 := MpO.evo (by decide) hE195 b194_g123
    have b195_Al1 := RdO.evo rfl hE195 b194_Al1
    refine fl_seq (fun Q196 hn196 hp196 => ?_)
    refine fl_cond e195_14 hs (fun c197 hs => ?_) (fun c197 hs => ?_)
    · refine fl_skip ?_
      refine hn196 _ _ ?_
      refine fl_seq (fun Q198 hn198 hp198 => ?_)
      refine fl_block (fun Q199 hn199 hx199 hp199 => ?_)
      obtain ⟨x200, hx200, hs⟩ := obind hs
      refine rg_plain_seq (n := 35) (rs := []) (own0 := own195) (K := [202]) (bs := [0, 1, 0, 7]) (ds := [⟨[], [11, 13], [], Fct.val 15 (.pointer (some ((adr Al1).add ((x162 : Int).toNat * R64.s))))⟩, ⟨[0], [], [], Fct.val 16 (.agg #[.string x200.1, .int .i64 x200.2.1, .string x200.2.2.1, .int .i64 x200.2.2.2])⟩, ⟨[], [], [], Fct.blk 202 5 (fun g => .pointer (some ⟨g, 0, none⟩)) 64 #[.string ByteArray.empty, .int .i64 0, .string ByteArray.empty, .int .i64 0]⟩, ⟨[2, 1], [], [202], Fct.blk 203 5 (fun g => .pointer (some ⟨g, 0, none⟩)) 64 #[.string x200.1, .int .i64 x200.2.1, .string x200.2.2.1, .int .i64 x200.2.2.2]⟩]) (by kernel_rfl) hz195 hd195 nm_ ?_ ?_
      · refine sc (fun _ _ _ _ s _ => px (or_index (R := R64) (l := l1) tl22 (s.1.trans e195_11) (s.2.1.trans e195_13) (RdO.some_ b195_Al1 hx200) hx200)) ?_
        refine sc (fun _ _ _ f _ hE => px (or_load (l := E64.f x200) ta64 f.1 (RdO.cells (F := E64) (RdO.evo rfl hE b195_Al1) hx200) rfl)) ?_
        refine sc (fun _ _ _ _ _ _ => px (or_new [] rfl rfl trivial (by kernel_rfl))) ?_
        refine sc (fun own a wx hf hsl hE => ?_) ?_
        · obtain ⟨⟨g201, f_5, b_g201⟩, f_16, -⟩ := hf
          exact px (or_store (l := #[.string x200.1, .int .i64 x200.2.1, .string x200.2.2.1, .int .i64 x200.2.2.2]) (lab := 202) (lab2 := 203) ts64 f_5 f_16 b_g201 (by simp) (by kernel_rfl) (mem_of rfl) (by decide) (by kernel_rfl) (fun own' a' w' ha hb => ⟨_, (ha 5).trans f_5, hb⟩))
        exact steps_nil
      intro own204 a204 w204 hd204 hz204 hk204 hf204 hE204
      have e204_3 := (hk204 3 rfl).trans e195_3
      have e204_11 := (hk204 11 rfl).trans e195_11
      have e204_12 := (hk204 12 rfl).trans e195_12
      have e204_13 := (hk204 13 rfl).trans e195_13
      obtain ⟨⟨g201, (e204_5 : a204.eval (.tmp 5) = .pointer (some ⟨g201, 0, none⟩)), (b204_g201 : BlkO own204 203 w204 g201 64 #[.string x200.1, .int .i64 x200.2.1, .string x200.2.2.1, .int .i64 x200.2.2.2])⟩, -⟩ := hf204 [3] rfl
      have hX204 := es_ hX195 hE204
      have b204_g123 := MpO.evo (by decide) hE204 b195_g123
      have b204_Al1 := RdO.evo rfl hE204 b195_Al1
      refine fl_seq (fun Q205 hn205 hp205 => ?_)
      obtain ⟨r206, hr206, hs⟩ := obind hs
      refine rg0_seq 35 own204 (bz 4) [⟨[], [5], [], Fct.val 17 (.pointer (some ⟨g201, 0, none⟩))⟩, ⟨[0], [], [], Fct.val 18 (.string x200.1)⟩, ⟨[1], [], [], Fct.val 19 (.bool r206)⟩, ⟨[2], [], [], Fct.val 20 (.bool (!r206))⟩] hz204 hd204 (by kernel_rfl) ?_ ?_
      · refine sc (fun _ _ _ _ s _ => px (or_field fo64_0 (s.1.trans e204_5) (by rfl))) ?_
        refine sc (fun _ _ _ f _ hE => px (or_load1 to9 f.1 (Blk.at_ (be_ hE b204_g201).2 0 rfl))) ?_
        refine sc (fun _ _ _ f _ _ => px (or_call cf31 (args1 f.1) (text_Name_w _ x200.1  r206 hr206) post_val)) ?_
        refine sc (fun _ _ _ f _ _ => px (or_not f.1 rfl)) ?_
        exact steps_nil
      intro own207 a207 w207 hd207 hz207 hk207 hf207 hE207
      have e207_3 := (hk207 3 rfl).trans e204_3
      have e207_5 := (hk207 5 rfl).trans e204_5
      have e207_11 := (hk207 11 rfl).trans e204_11
      have e207_12 := (hk207 12 rfl).trans e204_12
      have e207_13 := (hk207 13 rfl).trans e204_13
      obtain ⟨(e207_20 : a207.eval (.tmp 20) = .bool (!r206)), -⟩ := hf207 [3] rfl
      have hX207 := es_ hX204 hE207
      have b207_g123 := MpO.evo (by decide) hE207 b204_g123
      have b207_Al1 := RdO.evo rfl hE207 b204_Al1
      have b207_g201 := be_ hE207 b204_g201
      refine fl_cond e207_20 hs (fun c208 hs => ?_) (fun c208 hs => ?_)
      · refine rg0_seq 35 own207 (bz 1) [⟨[], [], [], Fct.val 2 (.int .i64 13)⟩] hz207 hd207 (by kernel_rfl) ?_ ?_
        · refine sc (fun _ _ _ _ _ _ => px (or_assign rfl)) ?_
          exact steps_nil
        intro own209 a209 w209 hd209 hz209 hk209 hf209 hE209
        obtain ⟨(e209_2 : a209.eval (.tmp 2) = .int .i64 13), -⟩ := hf209 [0] rfl
        have hX209 := es_ hX207 hE209
        refine fl_ret ?_
        refine hp205 _ _ _ rfl ?_
        refine hp199 _ _ _ rfl ?_
        refine hp198 _ _ _ rfl ?_
        replace hs := hz193 _ hs
        refine hp193 _ _ _ rfl ?_
        refine hp128 _ _ _ rfl ?_
        refine hp126 _ _ _ rfl ?_
        obtain rfl := osome hs
        exact hret _ _ _ _ (.inl rfl) hd209 (results1_ rfl (RVal.tmp_ e209_2)) ⟨own209, rfl, hX209⟩
      refine fl_skip ?_
      refine hn205 _ _ ?_
      refine fl_seq (fun Q210 hn210 hp210 => ?_)
      obtain ⟨r211, hr211, hs⟩ := obind hs
      refine rg0_seq 35 own207 (bz 4) [⟨[], [5], [], Fct.val 21 (.pointer (some ⟨g201, 1, none⟩))⟩, ⟨[0], [], [], Fct.val 22 (.agg #[.int .i64 x200.2.1, .string x200.2.2.1, .int .i64 x200.2.2.2])⟩, ⟨[1], [], [], Fct.val 23 (.int .i64 r211)⟩, ⟨[2], [], [], Fct.val 6 (.int .i64 r211)⟩] hz207 hd207 (by kernel_rfl) ?_ ?_
      · refine sc (fun _ _ _ _ s _ => px (or_field fo64_1 (s.1.trans e207_5) (by rfl))) ?_
        refine sc (fun _ _ _ f _ hE => px (or_load (l := [.int .i64 x200.2.1, .string x200.2.2.1, .int .i64 x200.2.2.2]) ta60 f.1 (Blk.cellsFrom (be_ hE b207_g201).2 1 rfl) rfl)) ?_
        refine sc (fun _ _ _ f _ _ => px (or_call cf33 (args1 f.1) (value_Check_w _ x200.2  r211 hr211) post_val)) ?_
        refine sc (fun _ _ _ f _ _ => px (or_assign f.1)) ?_
        exact steps_nil
      intro own212 a212 w212 hd212 hz212 hk212 hf212 hE212
      have e212_3 := (hk212 3 rfl).trans e207_3
      have e212_5 := (hk212 5 rfl).trans e207_5
      have e212_11 := (hk212 11 rfl).trans e207_11
      have e212_12 := (hk212 12 rfl).trans e207_12
      have e212_13 := (hk212 13 rfl).trans e207_13
      obtain ⟨(e212_6 : a212.eval (.tmp 6) = .int .i64 r211), -⟩ := hf212 [3] rfl
      have hX212 := es_ hX207 hE212
      have b212_g123 := MpO.evo (by decide) hE212 b207_g123
      have b212_Al1 := RdO.evo rfl hE212 b207_Al1
      have b212_g201 := be_ hE212 b207_g201
      refine rg0_seq 35 own212 (bz 2) [⟨[], [6], [], Fct.val 24 (.int .i64 r211)⟩, ⟨[0], [], [], Fct.val 25 (.bool (!decide (r211 = 0)))⟩] hz212 hd212 (by kernel_rfl) ?_ ?_
      · refine sc (fun _ _ _ _ s _ => px (or_move (s.1.trans e212_6))) ?_
        refine sc (fun _ _ _ f _ _ => px (or_neq f.1 rfl rfl)) ?_
        exact steps_nil
      intro own213 a213 w213 hd213 hz213 hk213 hf213 hE213
      have e213_3 := (hk213 3 rfl).trans e212_3
      have e213_5 := (hk213 5 rfl).trans e212_5
      have e213_6 := (hk213 6 rfl).trans e212_6
      have e213_11 := (hk213 11 rfl).trans e212_11
      have e213_12 := (hk213 12 rfl).trans e212_12
      have e213_13 := (hk213 13 rfl).trans e212_13
      obtain ⟨(e213_25 : a213.eval (.tmp 25) = .bool (!decide (r211 = 0))), -⟩ := hf213 [1] rfl
      have hX213 := es_ hX212 hE213
      have b213_g123 := MpO.evo (by decide) hE213 b212_g123
      have b213_Al1 := RdO.evo rfl hE213 b212_Al1
      have b213_g201 := be_ hE213 b212_g201
      refine fl_cond e213_25 hs (fun c214 hs => ?_) (fun c214 hs => ?_)
      · refine rg0_seq 35 own213 (bz 2) [⟨[], [6], [], Fct.val 26 (.int .i64 r211)⟩, ⟨[0], [], [], Fct.val 2 (.int .i64 r211)⟩] hz213 hd213 (by kernel_rfl) ?_ ?_
        · refine sc (fun _ _ _ _ s _ => px (or_move (s.1.trans e213_6))) ?_
          refine sc (fun _ _ _ f _ _ => px (or_assign f.1)) ?_
          exact steps_nil
        intro own215 a215 w215 hd215 hz215 hk215 hf215 hE215
        obtain ⟨(e215_2 : a215.eval (.tmp 2) = .int .i64 r211), -⟩ := hf215 [1] rfl
        have hX215 := es_ hX213 hE215
        refine fl_ret ?_
        refine hp210 _ _ _ rfl ?_
        refine hp199 _ _ _ rfl ?_
        refine hp198 _ _ _ rfl ?_
        replace hs := hz193 _ hs
        refine hp193 _ _ _ rfl ?_
        refine hp128 _ _ _ rfl ?_
        refine hp126 _ _ _ rfl ?_
        obtain rfl := (osome hs).symm
        exact hret _ _ _ _ (.inl rfl) hd215 (results1_ rfl (RVal.tmp_ e215_2)) ⟨own215, rfl, hX215⟩
      refine fl_skip ?_
      refine hn210 _ _ ?_
      refine fl_seq (fun Q216 hn216 hp216 => ?_)
      refine rg0_seq 35 own213 [0, 0, 2, 7] [⟨[], [3], [], Fct.val 27 (.map (some g123))⟩, ⟨[], [5], [], Fct.val 28 (.pointer (some ⟨g201, 0, none⟩))⟩, ⟨[1], [], [], Fct.val 29 (.string x200.1)⟩, ⟨[0, 2], [], [], Fct.val 30 (.bool ((lkM met161 x200.1).getD false))⟩] hz213 hd213 (by kernel_rfl) ?_ ?_
      · refine sc (fun _ _ _ _ s _ => px (or_move (s.1.trans e213_3))) ?_
        refine sc (fun _ _ _ _ s _ => px (or_field fo64_0 (s.1.trans e213_5) (by rfl))) ?_
        refine sc (fun _ _ _ f _ hE => px (or_load1 to9 f.1 (Blk.at_ (be_ hE b213_g201).2 0 rfl))) ?_
        refine sc (fun _ _ _ f _ hE => px (or_lookupE (kf := vv9) (vf := vv4) (k := x200.1) (dv := false) ko9 tm74 tzv74 f.1 f.2.1 (MpO.evo (by decide) hE b213_g123) rfl)) ?_
        exact steps_nil
      intro own217 a217 w217 hd217 hz217 hk217 hf217 hE217
      have e217_3 := (hk217 3 rfl).trans e213_3
      have e217_5 := (hk217 5 rfl).trans e213_5
      have e217_11 := (hk217 11 rfl).trans e213_11
      have e217_12 := (hk217 12 rfl).trans e213_12
      have e217_13 := (hk217 13 rfl).trans e213_13
      obtain ⟨(e217_30 : a217.eval (.tmp 30) = .bool ((lkM met161 x200.1).getD false)), -⟩ := hf217 [3] rfl
      have hX217 := es_ hX213 hE217
      have b217_g123 := MpO.evo (by decide) hE217 b213_g123
      have b217_Al1 := RdO.evo rfl hE217 b213_Al1
      have b217_g201 := be_ hE217 b213_g201
      refine fl_cond e217_30 hs (fun c218 hs => ?_) (fun c218 hs => ?_)
      · refine rg0_seq 35 own217 (bz 1) [⟨[], [], [], Fct.val 2 (.int .i64 8)⟩] hz217 hd217 (by kernel_rfl) ?_ ?_
        · refine sc (fun _ _ _ _ _ _ => px (or_assign rfl)) ?_
          exact steps_nil
        intro own219 a219 w219 hd219 hz219 hk219 hf219 hE219
        obtain ⟨(e219_2 : a219.eval (.tmp 2) = .int .i64 8), -⟩ := hf219 [0] rfl
        have hX219 := es_ hX217 hE219
        refine fl_ret ?_
        refine hp216 _ _ _ rfl ?_
        refine hp199 _ _ _ rfl ?_
        refine hp198 _ _ _ rfl ?_
        replace hs := hz193 _ hs
        refine hp193 _ _ _ rfl ?_
        refine hp128 _ _ _ rfl ?_
        refine hp126 _ _ _ rfl ?_
        obtain rfl := osome hs
        exact hret _ _ _ _ (.inl rfl) hd219 (results1_ rfl (RVal.tmp_ e219_2)) ⟨own219, rfl, hX219⟩
      refine fl_skip ?_
      refine hn216 _ _ ?_
      obtain ⟨D220, hD220, hs⟩ := obind hs
      refine rg_plain (n := 35) (rs := [Fct.mapAt 160 g123 vv9 vv4 met161]) (own0 := own217) (K := [160]) (bs := [0, 0, 2, 7]) (ds := [⟨[], [3], [], Fct.val 31 (.map (some g123))⟩, ⟨[], [5], [], Fct.val 32 (.pointer (some ⟨g201, 0, none⟩))⟩, ⟨[1], [], [], Fct.val 33 (.string x200.1)⟩, ⟨[0, 2, 4], [], [160], Fct.mapAt 221 g123 vv9 vv4 D220⟩]) (by kernel_rfl) hz217 hd217 (by simp only [List.forall_mem_cons]; exact ⟨b217_g123, fun _ h => nomatch h⟩) ?_ ?_
      · refine sc (fun _ _ _ _ s _ => px (or_move (s.1.trans e217_3))) ?_
        refine sc (fun _ _ _ _ s _ => px (or_field fo64_0 (s.1.trans e217_5) (by rfl))) ?_
        refine sc (fun _ _ _ f _ hE => px (or_load1 to9 f.1 (Blk.at_ (be_ hE b217_g201).2 0 rfl))) ?_
        refine sc (fun own a wx hf hsl hE => ?_) ?_
        · obtain ⟨f_31, f_33, b_g123, -⟩ := hf
          exact px (or_mapUpdate (kf := vv9) (vf := vv4) (k := x200.1) (v := true) (lab := 160) (lab2 := 221) ko9 tm74 f_31 f_33 rfl b_g123 (osome hD220).symm (mem_of rfl) (by decide) (fun own' a' w' hb => hb))
        exact steps_nil
      intro own222 a222 w222 hd222 hz222 hk222 hf222 hE222
      have e222_3 := (hk222 3 rfl).trans e217_3
      have e222_11 := (hk222 11 rfl).trans e217_11
      have e222_12 := (hk222 12 rfl).trans e217_12
      have e222_13 := (hk222 13 rfl).trans e217_13
      obtain ⟨(b222_g123 : MpO own222 221 w222 g123 vv9 vv4 D220), -⟩ := hf222 [3] rfl
      have hX222 := es_ hX217 hE222
      have b222_Al1 := RdO.evo rfl hE222 b217_Al1
      refine hn199 _ _ ?_
      refine hn198 _ _ ?_
      refine rg0 35 own222 (bz 2) [⟨[], [13], [], Fct.val 34 (.int .i64 (ad x162 1))⟩, ⟨[0], [], [], Fct.val 13 (.int .i64 (ad x162 1))⟩] hz222 hd222 (by kernel_rfl) ?_ ?_
      · refine sc (fun _ _ _ _ s _ => px (or_add (s.1.trans e222_13) rfl rfl)) ?_
        refine sc (fun _ _ _ f _ _ => px (or_move f.1)) ?_
        exact steps_nil
      intro own223 a223 w223 hd223 hz223 hk223 hf223 hE223
      have e223_3 := (hk223 3 rfl).trans e222_3
      have e223_11 := (hk223 11 rfl).trans e222_11
      have e223_12 := (hk223 12 rfl).trans e222_12
      obtain ⟨(e223_13 : a223.eval (.tmp 13) = .int .i64 (ad x162 1)), -⟩ := hf223 [1] rfl
      have hX223 := es_ hX222 hE223
      have b223_Al1 := RdO.evo rfl hE223 b222_Al1
      have b223_g123 := MpO.evo (by decide) hE223 b222_g123
      exact hn193 _ _ _ hs ⟨(rl [(221, 160)] own223), hd223, hz223, e223_3, e223_11, e223_12, e223_13, (Evo.rl_ hX223 (fun _ => Nat.le_refl 0) rfl), (MpO.rl_ (mm := [(221, 160)]) b223_g123), (RdO.rl_ (mm := [(221, 160)]) b223_Al1)⟩
    refine fl_exit ?_
    refine hp196 _ _ _ rfl ?_
    replace hs := hz193 _ hs
    refine hp193 _ _ _ rfl ?_
    refine hx128 _ _ ?_
    refine hn126 _ _ ?_
    refine rg0_seq 35 own195 (bz 1) [⟨[], [], [], Fct.val 2 (.int .i64 0)⟩] hz195 hd195 (by kernel_rfl) ?_ ?_
    · refine sc (fun _ _ _ _ _ _ => px (or_assign rfl)) ?_
      exact steps_nil
    intro own224 a224 w224 hd224 hz224 hk224 hf224 hE224
    obtain ⟨(e224_2 : a224.eval (.tmp 2) = .int .i64 0), -⟩ := hf224 [0] rfl
    have hX224 := es_ hX195 hE224
    refine fl_ret ?_
    obtain rfl := osome hs
    exact hret _ _ _ _ (.inl rfl) hd224 (results1_ rfl (RVal.tmp_ e224_2)) ⟨own224, rfl, hX224⟩
theorem slices_Index_string_string_w (w : World) (s1 : List ByteArray) (As1 : Option Addr) (cs1 : Nat) (v2 : ByteArray) (hs1 : RdO (fun _ => 0) [0] w R9 As1 cs1 s1) (r : Int) (hs : slices_Index_string_string s1 v2 = some r) :
    Calls Try.prog 44 #[.slice As1 s1.length cs1, .string v2] w fun e w' => ∃ own' : Own, e = .returned (.int .i64 r) ∧ Evo [] (fun _ => 0) own' w w' := by
  refine fl_enter (n := 19) rfl rfl rfl (Nat.le_of_ble_eq_true rfl) ?_
  intro a0 Q hd0 hz0 harg hret
  have ha0 := harg 0 _ rfl
  have ha1 := harg 1 _ rfl
  clear harg
  have hE0 : Evo [] (fun _ => 0) (fun _ => 0) w w := Evo.refl _ _ _
  refine rg0_seq 19 (fun _ => 0) (bz 1) [⟨[], [], [], Fct.val 4 (.int .i64 0)⟩] hz0 hd0 (by kernel_rfl) ?_ ?_
  · refine sc (fun _ _ _ _ _ _ => px (or_assign rfl)) ?_
    exact steps_nil
  intro own54 a54 w54 hd54 hz54 hk54 hf54 hE54
  have e54_0 := (hk54 0 rfl).trans ha0
  have e54_1 := (hk54 1 rfl).trans ha1
  have hX54 := es_ hE0 hE54
  have b54_As1 := RdO.evo rfl hE54 hs1
  refine fl_seq (fun Q55 hn55 hp55 => ?_)
  refine rg0_seq 19 own54 [0, 1, 0] [⟨[], [0], [], Fct.val 6 (.slice As1 s1.length cs1)⟩, ⟨[0], [], [], Fct.val 7 (.int .i64 (s1.length : Int))⟩, ⟨[], [], [], Fct.val 8 (.int .i64 0)⟩] hz54 hd54 (by kernel_rfl) ?_ ?_
  · refine sc (fun _ _ _ _ s _ => px (or_move (s.1.trans e54_0))) ?_
    refine sc (fun _ _ _ f _ _ => px (or_len tu34 f.1 rfl)) ?_
    refine sc (fun _ _ _ _ _ _ => px (or_move rfl)) ?_
    exact steps_nil
  intro own56 a56 w56 hd56 hz56 hk56 hf56 hE56
  have e56_0 := (hk56 0 rfl).trans e54_0
  have e56_1 := (hk56 1 rfl).trans e54_1
  obtain ⟨(e56_7 : a56.eval (.tmp 7) = .int .i64 (s1.length : Int)), (e56_8 : a56.eval (.tmp 8) = .int .i64 0), -⟩ := hf56 [1, 2] rfl
  have hX56 := es_ hX54 hE56
  have b56_As1 := RdO.evo rfl hE56 b54_As1
  refine fl_block (fun Q57 hn57 hx57 hp57 => ?_)
  refine fl_loop (body := (fun s => slices_Index_string_string_b1 s1 v2 s)) (z := r) (show loopO _ _ = _ from hs) (fun (x70 : Int) a wx => ∃ (ox : Own), a.defers = [] ∧ a.tmps.size = 19 ∧ a.eval (.tmp 0) = .slice As1 s1.length cs1 ∧ a.eval (.tmp 1) = .string v2 ∧ a.eval (.tmp 7) = .int .i64 (s1.length : Int) ∧ a.eval (.tmp 8) = .int .i64 x70 ∧ Evo [] (fun _ => 0) ox w wx ∧ RdO ox [0] wx R9 As1 cs1 s1) ?_ ?_
  · exact ⟨own56, hd56, hz56, e56_0, e56_1, e56_7, e56_8, hX56, b56_As1⟩
  · rintro x70 zz83 a83 w83 ⟨own83, hd84, hz84, e84_0, e84_1, e84_7, e84_8, hE84, b84_As1⟩ hs Q83 hn83 hp83 hz83
    have hs : slices_Index_string_string_b1 s1 v2 x70 = some zz83 := hs
    refine rg0_seq 19 own83 (bz 1) [⟨[], [8, 7], [], Fct.val 9 (.bool (decide (x70 < (s1.length : Int))))⟩] hz84 hd84 (by kernel_rfl) ?_ ?_
    · refine sc (fun _ _ _ _ s _ => px (or_lss (s.1.trans e84_8) (s.2.1.trans e84_7) rfl)) ?_
      exact steps_nil
    intro own85 a85 w85 hd85 hz85 hk85 hf85 hE85
    have e85_0 := (hk85 0 rfl).trans e84_0
    have e85_1 := (hk85 1 rfl).trans e84_1
    have e85_7 := (hk85 7 rfl).trans e84_7
    have e85_8 := (hk85 8 rfl).trans e84_8
    obtain ⟨(e85_9 : a85.eval (.tmp 9) = .bool (decide (x70 < (s1.length : Int)))), -⟩ := hf85 [0] rfl
    have hX85 := es_ hE84 hE85
    have b85_As1 := RdO.evo rfl hE85 b84_As1
    refine fl_seq (fun Q86 hn86 hp86 => ?_)
    refine fl_cond e85_9 hs (fun c87 hs => ?_) (fun c87 hs => ?_)
    · refine fl_skip ?_
      refine hn86 _ _ ?_
      refine fl_seq (fun Q88 hn88 hp88 => ?_)
      refine fl_block (fun Q89 hn89 hx89 hp89 => ?_)
      refine rg0_seq 19 own85 (bz 2) [⟨[], [8], [], Fct.val 10 (.int .i64 x70)⟩, ⟨[0], [], [], Fct.val 5 (.int .i64 x70)⟩] hz85 hd85 (by kernel_rfl) ?_ ?_
      · refine sc (fun _ _ _ _ s _ => px (or_move (s.1.trans e85_8))) ?_
        refine sc (fun _ _ _ f _ _ => px (or_assign f.1)) ?_
        exact steps_nil
      intro own90 a90 w90 hd90 hz90 hk90 hf90 hE90
      have e90_0 := (hk90 0 rfl).trans e85_0
      have e90_1 := (hk90 1 rfl).trans e85_1
      have e90_7 := (hk90 7 rfl).trans e85_7
      have e90_8 := (hk90 8 rfl).trans e85_8
      obtain ⟨(e90_5 : a90.eval (.tmp 5) = .int .i64 x70), -⟩ := hf90 [1] rfl
      have hX90 := es_ hX85 hE90
      have b90_As1 := RdO.evo rfl hE90 b85_As1
      obtain ⟨x91, hx91, hs⟩ := obind hs
      refine rg0_seq 19 own90 [0, 0, 0, 6, 14, 31] [⟨[], [1], [], Fct.val 11 (.string v2)⟩, ⟨[], [0], [], Fct.val 12 (.slice As1 s1.length cs1)⟩, ⟨[], [5], [], Fct.val 13 (.int .i64 x70)⟩, ⟨[1, 2], [], [], Fct.val 14 (.pointer (some ((adr As1).add ((x70 : Int).toNat * R9.s))))⟩, ⟨[3], [], [], Fct.val 15 (.string x91)⟩, ⟨[0, 4], [], [], Fct.val 16 (.bool (eqS v2 x91))⟩] hz90 hd90 (by kernel_rfl) ?_ ?_
      · refine sc (fun _ _ _ _ s _ => px (or_move (s.1.trans e90_1))) ?_
        refine sc (fun _ _ _ _ s _ => px (or_move (s.1.trans e90_0))) ?_
        refine sc (fun _ _ _ _ s _ => px (or_move (s.1.trans e90_5))) ?_
        refine sc (fun _ _ _ f _ _ => px (or_index (R := R9) (l := s1) tl34 f.1 f.2.1 (RdO.some_ b90_As1 hx91) hx91)) ?_
        refine sc (fun _ _ _ f _ hE => px (or_load1 to9 f.1 (CellsAt.zero (RdO.cells (F := E9) (RdO.evo rfl hE b90_As1) hx91) rfl))) ?_
        refine sc (fun _ _ _ f _ _ => px (or_eqlS tS9 f.1 f.2.1 rfl)) ?_
        exact steps_nil
      intro own92 a92 w92 hd92 hz92 hk92 hf92 hE92
      have e92_0 := (hk92 0 rfl).trans e90_0
      have e92_1 := (hk92 1 rfl).trans e90_1
      have e92_5 := (hk92 5 rfl).trans e90_5
      have e92_7 := (hk92 7 rfl).trans e90_7
      have e92_8 := (hk92 8 rfl).trans e90_8
      obtain ⟨(e92_16 : a92.eval (.tmp 16) = .bool (eqS v2 x91)), -⟩ := hf92 [5] rfl
      have hX92 := es_ hX90 hE92
      have b92_As1 := RdO.evo rfl hE92 b90_As1
      refine fl_cond e92_16 hs (fun c93 hs => ?_) (fun c93 hs => ?_)
      · refine rg0_seq 19 own92 (bz 2) [⟨[], [5], [], Fct.val 17 (.int .i64 x70)⟩, ⟨[0], [], [], Fct.val 4 (.int .i64 x70)⟩] hz92 hd92 (by kernel_rfl) ?_ ?_
        · refine sc (fun _ _ _ _ s _ => px (or_move (s.1.trans e92_5))) ?_
          refine sc (fun _ _ _ f _ _ => px (or_assign f.1)) ?_
          exact steps_nil
        intro own94 a94 w94 hd94 hz94 hk94 hf94 hE94
        obtain ⟨(e94_4 : a94.eval (.tmp 4) = .int .i64 x70), -⟩ := hf94 [1] rfl
        have hX94 := es_ hX92 hE94
        refine fl_ret ?_
        refine hp89 _ _ _ rfl ?_
        refine hp88 _ _ _ rfl ?_
        replace hs := hz83 _ hs
        refine hp83 _ _ _ rfl ?_
        refine hp57 _ _ _ rfl ?_
        refine hp55 _ _ _ rfl ?_
        obtain rfl := (osome hs).symm
        exact hret _ _ _ _ (.inl rfl) hd94 (results1_ rfl (RVal.tmp_ e94_4)) ⟨own94, rfl, hX94⟩
      refine fl_skip ?_
      refine hn89 _ _ ?_
      refine hn88 _ _ ?_
      refine rg0 19 own92 (bz 2) [⟨[], [8], [], Fct.val 18 (.int .i64 (ad x70 1))⟩, ⟨[0], [], [], Fct.val 8 (.int .i64 (ad x70 1))⟩] hz92 hd92 (by kernel_rfl) ?_ ?_
      · refine sc (fun _ _ _ _ s _ => px (or_add (s.1.trans e92_8) rfl rfl)) ?_
        refine sc (fun _ _ _ f _ _ => px (or_move f.1)) ?_
        exact steps_nil
      intro own95 a95 w95 hd95 hz95 hk95 hf95 hE95
      have e95_0 := (hk95 0 rfl).trans e92_0
      have e95_1 := (hk95 1 rfl).trans e92_1
      have e95_7 := (hk95 7 rfl).trans e92_7
      obtain ⟨(e95_8 : a95.eval (.tmp 8) = .int .i64 (ad x70 1)), -⟩ := hf95 [1] rfl
      have hX95 := es_ hX92 hE95
      have b95_As1 := RdO.evo rfl hE95 b92_As1
      exact hn83 _ _ _ hs ⟨own95, hd95, hz95, e95_0, e95_1, e95_7, e95_8, hX95, b95_As1⟩
    refine fl_exit ?_
    refine hp86 _ _ _ rfl ?_
    replace hs := hz83 _ hs
    refine hp83 _ _ _ rfl ?_
    refine hx57 _ _ ?_
    refine hn55 _ _ ?_
    refine rg0_seq 19 own85 (bz 1) [⟨[], [], [], Fct.val 4 (.int .i64 (-1))⟩] hz85 hd85 (by kernel_rfl) ?_ ?_
    · refine sc (fun _ _ _ _ _ _ => px (or_assign rfl)) ?_
      exact steps_nil
    intro own96 a96 w96 hd96 hz96 hk96 hf96 hE96
    obtain ⟨(e96_4 : a96.eval (.tmp 4) = .int .i64 (-1)), -⟩ := hf96 [0] rfl
    have hX96 := es_ hX85 hE96
    refine fl_ret ?_
    obtain rfl := osome hs
    exact hret _ _ _ _ (.inl rfl) hd96 (results1_ rfl (RVal.tmp_ e96_4)) ⟨own96, rfl, hX96⟩
theorem slices_Clip_string_string_w (w : World) (own : Own) (s1 : List ByteArray) (As1 : Option Addr) (cs1 : Nat) (hown : ∀ b, own b ≤ 1) (hs1 : RdO own [1] w R9 As1 cs1 s1) (r : List ByteArray) (hs : slices_Clip_string_string s1 = some r) :
    Calls Try.prog 45 #[.slice As1 s1.length cs1] w fun e w' => ∃ (own' : Own) (x : Option Addr × Nat), e = .returned (.slice x.1 r.length r.length) ∧ Evo [] own own' w w' ∧ RdO own' [1, 2] w' R9 x.1 r.length r := by
  refine fl_enter (n := 9) rfl rfl rfl (Nat.le_of_ble_eq_true rfl) ?_
  intro a0 Q hd0 hz0 harg hret
  have ha0 := harg 0 _ rfl
  clear harg
  have hE0 : Evo [] own own w w := Evo.refl _ _ _
  refine rg0_seq 9 own (bz 1) [⟨[], [], [], Fct.val 2 (.slice none 0 0)⟩] hz0 hd0 (by kernel_rfl) ?_ ?_
  · refine sc (fun _ _ _ _ _ _ => px (or_assign rfl)) ?_
    exact steps_nil
  intro own16 a16 w16 hd16 hz16 hk16 hf16 hE16
  have e16_0 := (hk16 0 rfl).trans ha0
  have hX16 := Evo.step hE0 hown hE16 rfl
  have b16_As1 := RdO.evo rfl hE16 hs1
  obtain ⟨x17, hx17, hs⟩ := obind hs
  refine rg0_seq 9 own16 [0, 0, 2, 0, 8, 31, 63] [⟨[], [0], [], Fct.val 3 (.slice As1 s1.length cs1)⟩, ⟨[], [0], [], Fct.val 4 (.slice As1 s1.length cs1)⟩, ⟨[1], [], [], Fct.val 5 (.int .i64 (s1.length : Int))⟩, ⟨[], [0], [], Fct.val 6 (.slice As1 s1.length cs1)⟩, ⟨[3], [], [], Fct.val 7 (.int .i64 (s1.length : Int))⟩, ⟨[0, 2, 4], [], [], Fct.viewF [1] 8 R9 x17⟩, ⟨[5], [], [], Fct.rel [2, 8] (fun l => ∀ (A18 : Option Addr), l.getD 1 undef = .slice A18 x17.length x17.length → l.getD 0 undef = .slice A18 x17.length x17.length)⟩] hz16 hd16 (by kernel_rfl) ?_ ?_
  · refine sc (fun _ _ _ _ s _ => px (or_move (s.1.trans e16_0))) ?_
    refine sc (fun _ _ _ _ s _ => px (or_move (s.1.trans e16_0))) ?_
    refine sc (fun _ _ _ f _ _ => px (or_len tu34 f.1 rfl)) ?_
    refine sc (fun _ _ _ _ s _ => px (or_move (s.1.trans e16_0))) ?_
    refine sc (fun _ _ _ f _ _ => px (or_len tu34 f.1 rfl)) ?_
    refine sc (fun _ _ _ f _ hE => px (or_viewF (R := R9) (l := s1) (L := [1]) tu34 ts9 f.1 Bnd.none_ (Bnd.some_ f.2.1) (Bnd.some_ f.2.2.1) (RdO.evo rfl hE b16_As1) hx17 rfl (fun _ B h1 h2 => ⟨B, h1, h2⟩))) ?_
    refine sc (fun own a wx hf hsl hE => ?_) ?_
    · obtain ⟨⟨A18, (f_8 : a.eval (.tmp 8) = .slice A18 x17.length x17.length), b_A18⟩, -⟩ := hf
      exact px (or_mono (f := Fct.val 2 (.slice A18 x17.length x17.length)) (or_assign f_8) (fun own' a' w' v' hp h => fun _ h0' => by cases (f_8.symm.trans ((hp.2 8 (by decide)).symm.trans h0')); exact h))
    exact steps_nil
  intro own19 a19 w19 hd19 hz19 hk19 hf19 hE19
  obtain ⟨⟨A18, (f_8 : a19.eval (.tmp 8) = .slice A18 x17.length x17.length), (b19_A18 : RdO own19 [1] w19 R9 A18 x17.length x17)⟩, (q_2 : ∀ (A18 : Option Addr), a19.eval (.tmp 8) = .slice A18 x17.length x17.length → a19.eval (.tmp 2) = .slice A18 x17.length x17.length), -⟩ := hf19 [5, 6] rfl
  have e19_2 := q_2 _ f_8
  have hX19 := Evo.step hX16 hown hE19 rfl
  refine fl_ret ?_
  obtain rfl := (osome hs).symm
  exact hret _ _ _ _ (.inl rfl) hd19 (results1_ rfl (RVal.tmp_ e19_2)) ⟨own19, (A18, x17.length), rfl, hX19, (RdO.more b19_A18 (by decide))⟩
end Go.Proofs.Ytpbhdblkjabdlaa
