/-
  The heap: its calls. The walks.
-/
import Derived.Test.YtoaplhnmmnejnaaWb
import Derived.Test.YtoaplhnmmnejnaaSc
namespace Go.Proofs.Ytoaplhnmmnejnaa
open Go.RowKit
set_option linter.unusedVariables false
theorem heap_PopNil_w (w : World) (r : (Int × Int × Int) × Bool) (hs : heap_PopNil = some r) :
    Calls Try.prog 8 #[.pointer none] w fun e w' => ∃ own' : Own, e = .returned (.tuple #[.agg #[.int .i64 r.1.1, .int .i64 r.1.2.1, .int .i64 r.1.2.2], .bool r.2]) ∧ Evo [] (fun _ => 0) own' w w' := by
  refine fl_enter (n := 12) rfl rfl rfl (Nat.le_of_ble_eq_true rfl) ?_
  intro a0 Q hd0 hz0 harg hret
  have ha0 := harg 0 _ rfl
  clear harg
  have hE0 : Evo [] (fun _ => 0) (fun _ => 0) w w := Evo.refl _ _ _
  refine rg_plain_seq (n := 12) (rs := []) (own0 := (fun _ => 0)) (K := [])
      (bs := [0, 0])
      (ds := [⟨[], [], [], Fct.blk 19 2 (fun g => .pointer (some ⟨g, 0, none⟩)) 30 #[.int .i64 0, .int .i64 0, .int .i64 0]⟩,
      ⟨[], [], [], Fct.val 3 (.bool false)⟩]) (by kernel_rfl) hz0 hd0 (fun _ h => nomatch h) ?_ ?_
  · refine steps_cons (fun own a wx hf hsl hE => ?_) ?_
    · exact sg_plain rfl rfl (or_new [] rfl rfl trivial (by kernel_rfl))
    refine steps_cons (fun own a wx hf hsl hE => ?_) ?_
    · exact sg_plain rfl rfl (or_assign rfl)
    exact steps_nil
  intro own20 a20 w20 hd20 hz20 hk20 hf20 hE20
  have e20_0 : a20.eval (.tmp 0) = .pointer none := (hk20 0 rfl).trans ha0
  obtain ⟨⟨g18, (f_2 : a20.eval (.tmp 2) = .pointer (some ⟨g18, 0, none⟩)), (b_g18 : BlkO own20 19 w20 g18 30 #[.int .i64 0, .int .i64 0, .int .i64 0])⟩, -⟩ := hf20 [0] rfl
  have e20_2 := f_2
  have hX20 := Evo.step hE0 (fun _ => Nat.le_refl 0) hE20 rfl
  have b20_g18 := b_g18
  refine fl_seq (fun Q21 hn21 hp21 => ?_)
  refine rg_plain_seq (n := 12) (rs := []) (own0 := own20) (K := [])
      (bs := [0, 1, 3])
      (ds := [⟨[], [0], [], Fct.val 4 (.pointer none)⟩,
      ⟨[0], [], [], Fct.val 5 (.int .i64 0)⟩,
      ⟨[1], [], [], Fct.val 6 (.bool true)⟩]) (by kernel_rfl) hz20 hd20 (fun _ h => nomatch h) ?_ ?_
  · refine steps_cons (fun own a wx hf hsl hE => ?_) ?_
    · obtain ⟨s_0, -⟩ := hsl
      exact sg_plain rfl rfl (or_move (s_0.trans e20_0))
    refine steps_cons (fun own a wx hf hsl hE => ?_) ?_
    · obtain ⟨(f_4 : a.eval (.tmp 4) = .pointer none), -⟩ := hf
      exact sg_plain rfl rfl (or_call cf11 (args1 f_4) (heap_LenNil_w _   0 rfl) post_val)
    refine steps_cons (fun own a wx hf hsl hE => ?_) ?_
    · obtain ⟨(f_5 : a.eval (.tmp 5) = .int .i64 0), -⟩ := hf
      exact sg_plain rfl rfl (or_eql f_5 rfl (by decide))
    exact steps_nil
  intro own22 a22 w22 hd22 hz22 hk22 hf22 hE22
  have e22_0 : a22.eval (.tmp 0) = .pointer none := (hk22 0 rfl).trans e20_0
  have e22_2 : a22.eval (.tmp 2) = .pointer (some ⟨g18, 0, none⟩) := (hk22 2 rfl).trans e20_2
  obtain ⟨(f_6 : a22.eval (.tmp 6) = .bool true), -⟩ := hf22 [2] rfl
  have e22_6 := f_6
  have hX22 := Evo.step hX20 (fun _ => Nat.le_refl 0) hE22 rfl
  have b22_g18 := BlkO.evo (by decide) hE22 b20_g18
  refine fl_t e22_6 ?_
  refine rg_plain_seq (n := 12) (rs := [Fct.at_ 19 g18 30 #[.int .i64 0, .int .i64 0, .int .i64 0]]) (own0 := own22) (K := [19])
      (bs := [0, 1, 3])
      (ds := [⟨[], [], [], Fct.val 7 (.agg #[.int .i64 0, .int .i64 0, .int .i64 0])⟩,
      ⟨[0, 3], [2], [19], Fct.at_ 23 g18 30 #[.int .i64 0, .int .i64 0, .int .i64 0]⟩,
      ⟨[], [], [], Fct.val 3 (.bool false)⟩]) (by kernel_rfl) hz22 hd22 (by simp only [List.forall_mem_cons]; exact ⟨b22_g18, fun _ h => nomatch h⟩) ?_ ?_
  · refine steps_cons (fun own a wx hf hsl hE => ?_) ?_
    · exact sg_plain rfl rfl (or_k [] rfl rfl trivial (by kernel_rfl))
    refine steps_cons (fun own a wx hf hsl hE => ?_) ?_
    · obtain ⟨(f_7 : a.eval (.tmp 7) = .agg #[.int .i64 0, .int .i64 0, .int .i64 0]), (b_g18 : BlkO own 19 wx g18 30 #[.int .i64 0, .int .i64 0, .int .i64 0]), -⟩ := hf
      obtain ⟨s_2, -⟩ := hsl
      exact sg_plain rfl rfl (or_store (l := #[.int .i64 0, .int .i64 0, .int .i64 0]) (lab := 19) (lab2 := 23) ts30 (s_2.trans e22_2) f_7 b_g18 (by simp) (by kernel_rfl) (mem_of rfl) (by decide) (by kernel_rfl) (fun own' a' w' ha hb => hb))
    refine steps_cons (fun own a wx hf hsl hE => ?_) ?_
    · exact sg_plain rfl rfl (or_assign rfl)
    exact steps_nil
  intro own24 a24 w24 hd24 hz24 hk24 hf24 hE24
  have e24_2 : a24.eval (.tmp 2) = .pointer (some ⟨g18, 0, none⟩) := (hk24 2 rfl).trans e22_2
  obtain ⟨(f_3 : a24.eval (.tmp 3) = .bool false), (b_g18 : BlkO own24 23 w24 g18 30 #[.int .i64 0, .int .i64 0, .int .i64 0]), -⟩ := hf24 [2, 1] rfl
  have e24_3 := f_3
  have hX24 := Evo.step hX22 (fun _ => Nat.le_refl 0) hE24 rfl
  have b24_g18 := b_g18
  refine fl_ret ?_
  refine hp21 _ _ _ rfl ?_
  obtain rfl := osome hs
  exact hret _ _ _ _ (.inl rfl) hd24 (results2_ rfl (RVal.cell_ e24_2 (run_loadVarAgg (l := [.int .i64 0, .int .i64 0, .int .i64 0]) ta30 (Blk.cellsFrom b24_g18.2 0 rfl) rfl)) (RVal.tmp_ e24_3)) ⟨own24, rfl, hX24⟩

theorem heap_Heap_Pop_w (w : World) (own : Own) (h1 : ((List (Int × Int × Int)))) (gh1 : Nat) (th1 : TypeId) (Ah1_0 : Option Addr) (ch1_0 : Nat) (hown : ∀ b, own b ≤ 2) (hgh1 : BlkO own 1 w gh1 th1 #[.slice Ah1_0 h1.length ch1_0]) (hAh1_0 : RwO own 2 [] w 30 R30 Ah1_0 ch1_0 h1) (r : (Int × Int × Int) × Bool × (((List (Int × Int × Int))))) (hs : heap_Heap_Pop h1 = some r) :
    Calls Try.prog 8 #[.pointer (some ⟨gh1, 0, none⟩)] w fun e w' => ∃ (own' : Own) (x : Option Addr × Nat), e = .returned (.tuple #[.agg #[.int .i64 r.1.1, .int .i64 r.1.2.1, .int .i64 r.1.2.2], .bool r.2.1]) ∧ Evo [1, 2] own own' w w' ∧ RwO own' 2 [] w' 30 R30 x.1 x.2 r.2.2 ∧ BlkO own' 1 w' gh1 th1 #[.slice x.1 r.2.2.length x.2] := by
  refine fl_enter (n := 12) rfl rfl rfl (Nat.le_of_ble_eq_true rfl) ?_
  intro a0 Q hd0 hz0 harg hret
  have ha0 := harg 0 _ rfl
  clear harg
  have hE0 : Evo [1, 2] own own w w := Evo.refl _ _ _
  refine rg_plain_seq (n := 12) (rs := []) (own0 := own) (K := [])
      (bs := [0, 0])
      (ds := [⟨[], [], [], Fct.blk 33 2 (fun g => .pointer (some ⟨g, 0, none⟩)) 30 #[.int .i64 0, .int .i64 0, .int .i64 0]⟩,
      ⟨[], [], [], Fct.val 3 (.bool false)⟩]) (by kernel_rfl) hz0 hd0 (fun _ h => nomatch h) ?_ ?_
  · refine steps_cons (fun own a wx hf hsl hE => ?_) ?_
    · exact sg_plain rfl rfl (or_new [] rfl rfl trivial (by kernel_rfl))
    refine steps_cons (fun own a wx hf hsl hE => ?_) ?_
    · exact sg_plain rfl rfl (or_assign rfl)
    exact steps_nil
  intro own34 a34 w34 hd34 hz34 hk34 hf34 hE34
  have e34_0 : a34.eval (.tmp 0) = .pointer (some ⟨gh1, 0, none⟩) := (hk34 0 rfl).trans ha0
  obtain ⟨⟨g32, (f_2 : a34.eval (.tmp 2) = .pointer (some ⟨g32, 0, none⟩)), (b_g32 : BlkO own34 33 w34 g32 30 #[.int .i64 0, .int .i64 0, .int .i64 0])⟩, -⟩ := hf34 [0] rfl
  have e34_2 := f_2
  have hX34 := Evo.step hE0 hown hE34 rfl
  have b34_Ah1_0 := RwO.evo rfl hE34 hAh1_0
  have b34_gh1 := BlkO.evo (by decide) hE34 hgh1
  have b34_g32 := b_g32
  refine fl_seq (fun Q35 hn35 hp35 => ?_)
  obtain ⟨r36, hr36, hs⟩ := obind hs
  refine rg_plain_seq (n := 12) (rs := []) (own0 := own34) (K := [])
      (bs := [0, 1, 3])
      (ds := [⟨[], [0], [], Fct.val 4 (.pointer (some ⟨gh1, 0, none⟩))⟩,
      ⟨[0], [], [], Fct.val 5 (.int .i64 r36)⟩,
      ⟨[1], [], [], Fct.val 6 (.bool (decide (r36 = 0)))⟩]) (by kernel_rfl) hz34 hd34 (fun _ h => nomatch h) ?_ ?_
  · refine steps_cons (fun own a wx hf hsl hE => ?_) ?_
    · obtain ⟨s_0, -⟩ := hsl
      exact sg_plain rfl rfl (or_move (s_0.trans e34_0))
    refine steps_cons (fun own a wx hf hsl hE => ?_) ?_
    · obtain ⟨(f_4 : a.eval (.tmp 4) = .pointer (some ⟨gh1, 0, none⟩)), -⟩ := hf
      exact sg_plain rfl rfl (or_call cf11 (args1 f_4) (heap_Heap_Len_w _ h1 gh1 th1 Ah1_0 ch1_0 (BlkO.zero_ (BlkO.evo (by decide) hE b34_gh1)) (RdO.zero (RwO.rd (RwO.evo rfl hE b34_Ah1_0))) r36 hr36) post_val)
    refine steps_cons (fun own a wx hf hsl hE => ?_) ?_
    · obtain ⟨(f_5 : a.eval (.tmp 5) = .int .i64 r36), -⟩ := hf
      exact sg_plain rfl rfl (or_eql f_5 rfl rfl)
    exact steps_nil
  intro own37 a37 w37 hd37 hz37 hk37 hf37 hE37
  have e37_0 : a37.eval (.tmp 0) = .pointer (some ⟨gh1, 0, none⟩) := (hk37 0 rfl).trans e34_0
  have e37_2 : a37.eval (.tmp 2) = .pointer (some ⟨g32, 0, none⟩) := (hk37 2 rfl).trans e34_2
  obtain ⟨(f_6 : a37.eval (.tmp 6) = .bool (decide (r36 = 0))), -⟩ := hf37 [2] rfl
  have e37_6 := f_6
  have hX37 := Evo.step hX34 hown hE37 rfl
  have b37_Ah1_0 := RwO.evo rfl hE37 b34_Ah1_0
  have b37_gh1 := BlkO.evo (by decide) hE37 b34_gh1
  have b37_g32 := BlkO.evo (by decide) hE37 b34_g32
  refine fl_cond e37_6 hs (fun c38 hs => ?_) (fun c38 hs => ?_)
  · refine rg_plain_seq (n := 12) (rs := [Fct.at_ 33 g32 30 #[.int .i64 0, .int .i64 0, .int .i64 0]]) (own0 := own37) (K := [33])
        (bs := [0, 1, 3])
        (ds := [⟨[], [], [], Fct.val 7 (.agg #[.int .i64 0, .int .i64 0, .int .i64 0])⟩,
        ⟨[0, 3], [2], [33], Fct.at_ 39 g32 30 #[.int .i64 0, .int .i64 0, .int .i64 0]⟩,
        ⟨[], [], [], Fct.val 3 (.bool false)⟩]) (by kernel_rfl) hz37 hd37 (by simp only [List.forall_mem_cons]; exact ⟨b37_g32, fun _ h => nomatch h⟩) ?_ ?_
    · refine steps_cons (fun own a wx hf hsl hE => ?_) ?_
      · exact sg_plain rfl rfl (or_k [] rfl rfl trivial (by kernel_rfl))
      refine steps_cons (fun own a wx hf hsl hE => ?_) ?_
      · obtain ⟨(f_7 : a.eval (.tmp 7) = .agg #[.int .i64 0, .int .i64 0, .int .i64 0]), (b_g32 : BlkO own 33 wx g32 30 #[.int .i64 0, .int .i64 0, .int .i64 0]), -⟩ := hf
        obtain ⟨s_2, -⟩ := hsl
        exact sg_plain rfl rfl (or_store (l := #[.int .i64 0, .int .i64 0, .int .i64 0]) (lab := 33) (lab2 := 39) ts30 (s_2.trans e37_2) f_7 b_g32 (by simp) (by kernel_rfl) (mem_of rfl) (by decide) (by kernel_rfl) (fun own' a' w' ha hb => hb))
      refine steps_cons (fun own a wx hf hsl hE => ?_) ?_
      · exact sg_plain rfl rfl (or_assign rfl)
      exact steps_nil
    intro own40 a40 w40 hd40 hz40 hk40 hf40 hE40
    have e40_0 : a40.eval (.tmp 0) = .pointer (some ⟨gh1, 0, none⟩) := (hk40 0 rfl).trans e37_0
    have e40_2 : a40.eval (.tmp 2) = .pointer (some ⟨g32, 0, none⟩) := (hk40 2 rfl).trans e37_2
    obtain ⟨(f_3 : a40.eval (.tmp 3) = .bool false), (b_g32 : BlkO own40 39 w40 g32 30 #[.int .i64 0, .int .i64 0, .int .i64 0]), -⟩ := hf40 [2, 1] rfl
    have e40_3 := f_3
    have hX40 := Evo.step hX37 hown hE40 rfl
    have b40_Ah1_0 := RwO.evo rfl hE40 b37_Ah1_0
    have b40_gh1 := BlkO.evo (by decide) hE40 b37_gh1
    have b40_g32 := b_g32
    refine fl_ret ?_
    refine hp35 _ _ _ rfl ?_
    obtain rfl := osome hs
    exact hret _ _ _ _ (.inl rfl) hd40 (results2_ rfl (RVal.cell_ e40_2 (run_loadVarAgg (l := [.int .i64 0, .int .i64 0, .int .i64 0]) ta30 (Blk.cellsFrom b40_g32.2 0 rfl) rfl)) (RVal.tmp_ e40_3)) ⟨own40, (Ah1_0, ch1_0), rfl, hX40, b40_Ah1_0, b40_gh1⟩
  refine fl_skip ?_
  refine hn35 _ _ ?_
  obtain ⟨r45, hr45, hs⟩ := obind hs
  refine rg_plain_seq (n := 12) (rs := [Fct.at_ 1 gh1 th1 #[.slice Ah1_0 h1.length ch1_0], Fct.rowAt 2 [] 30 R30 Ah1_0 ch1_0 h1, Fct.at_ 33 g32 30 #[.int .i64 0, .int .i64 0, .int .i64 0]]) (own0 := own37) (K := [1, 2, 33])
      (bs := [0, 1, 3, 7, 15, 31])
      (ds := [⟨[], [0], [], Fct.val 8 (.pointer (some ⟨gh1, 0, none⟩))⟩,
      ⟨[0], [], [], Fct.val 9 (.pointer (some ⟨gh1, 0, none⟩))⟩,
      ⟨[1], [], [], Fct.val 10 (.pointer (some ⟨gh1, 0, none⟩))⟩,
      ⟨[2, 6, 7], [], [1, 2], Fct.mems [47, 48] 11 (fun (x : Option Addr × Nat) => .agg #[.int .i64 r45.1.1, .int .i64 r45.1.2.1, .int .i64 r45.1.2.2]) (fun (x : Option Addr × Nat) own w => RwO own 47 [] w 30 R30 x.1 x.2 r45.2 ∧ BlkO own 48 w gh1 th1 #[.slice x.1 r45.2.length x.2]) (fun hk he h => ⟨RwO.evo (hits_sub hk (by decide)) he h.1, BlkO.evo (not_hit hk (by decide)) he h.2⟩)⟩,
      ⟨[3, 8], [2], [33], Fct.at_ 49 g32 30 #[.int .i64 r45.1.1, .int .i64 r45.1.2.1, .int .i64 r45.1.2.2]⟩,
      ⟨[], [], [], Fct.val 3 (.bool true)⟩]) (by kernel_rfl) hz37 hd37 (by simp only [List.forall_mem_cons]; exact ⟨b37_gh1, b37_Ah1_0, b37_g32, fun _ h => nomatch h⟩) ?_ ?_
  · refine steps_cons (fun own a wx hf hsl hE => ?_) ?_
    · obtain ⟨s_0, -⟩ := hsl
      exact sg_plain rfl rfl (or_move (s_0.trans e37_0))
    refine steps_cons (fun own a wx hf hsl hE => ?_) ?_
    · obtain ⟨(f_8 : a.eval (.tmp 8) = .pointer (some ⟨gh1, 0, none⟩)), -⟩ := hf
      exact sg_plain rfl rfl (or_k [(8, .pointer (some ⟨gh1, 0, none⟩))] rfl rfl ⟨f_8, trivial⟩ (by kernel_rfl))
    refine steps_cons (fun own a wx hf hsl hE => ?_) ?_
    · obtain ⟨(f_9 : a.eval (.tmp 9) = .pointer (some ⟨gh1, 0, none⟩)), -⟩ := hf
      exact sg_plain rfl rfl (or_field fo26_0 f_9 (by rfl))
    refine steps_cons (fun own a wx hf hsl hE => ?_) ?_
    · obtain ⟨(f_10 : a.eval (.tmp 10) = .pointer (some ⟨gh1, 0, none⟩)), (b_gh1 : BlkO own 1 wx gh1 th1 #[.slice Ah1_0 h1.length ch1_0]), (b_Ah1_0 : RwO own 2 [] wx 30 R30 Ah1_0 ch1_0 h1), -⟩ := hf
      exact sg_plain rfl rfl (or_call cf21 (args2 f_10 rfl) (heap_list_take_w _ (forth own (look0 [(1, 1), (2, 2)])) h1 gh1 th1 Ah1_0 ch1_0 0 (look0_le rfl) (BlkO.forth_ (m := (look0 [(1, 1), (2, 2)])) b_gh1) (RwO.forth_ (m := (look0 [(1, 1), (2, 2)])) b_Ah1_0) r45 hr45) (post_mems (m := (look0 [(1, 1), (2, 2)])) (m' := (look0 [(1, 48), (2, 47)])) (hm_of rfl) (fun own' w' a' x h1 h => ⟨x, h1, ⟨RwO.back_ h.1 (by decide) (.inl (Rep.fl_flat _)), BlkO.back_ h.2 (by decide)⟩⟩)))
    refine steps_cons (fun own a wx hf hsl hE => ?_) ?_
    · obtain ⟨⟨⟨A46, cA46⟩, (f_11 : a.eval (.tmp 11) = .agg #[.int .i64 r45.1.1, .int .i64 r45.1.2.1, .int .i64 r45.1.2.2]), (b_A46 : RwO own 47 [] wx 30 R30 A46 cA46 r45.2), (b_gh1 : BlkO own 48 wx gh1 th1 #[.slice A46 r45.2.length cA46])⟩, (b_g32 : BlkO own 33 wx g32 30 #[.int .i64 0, .int .i64 0, .int .i64 0]), -⟩ := hf
      obtain ⟨s_2, -⟩ := hsl
      exact sg_plain rfl rfl (or_store (l := #[.int .i64 r45.1.1, .int .i64 r45.1.2.1, .int .i64 r45.1.2.2]) (lab := 33) (lab2 := 49) ts30 (s_2.trans e37_2) f_11 b_g32 (by simp) (by kernel_rfl) (mem_of rfl) (by decide) (by kernel_rfl) (fun own' a' w' ha hb => hb))
    refine steps_cons (fun own a wx hf hsl hE => ?_) ?_
    · exact sg_plain rfl rfl (or_assign rfl)
    exact steps_nil
  intro own50 a50 w50 hd50 hz50 hk50 hf50 hE50
  have e50_0 : a50.eval (.tmp 0) = .pointer (some ⟨gh1, 0, none⟩) := (hk50 0 rfl).trans e37_0
  have e50_2 : a50.eval (.tmp 2) = .pointer (some ⟨g32, 0, none⟩) := (hk50 2 rfl).trans e37_2
  obtain ⟨(f_3 : a50.eval (.tmp 3) = .bool true), ⟨⟨A46, cA46⟩, (f_11 : a50.eval (.tmp 11) = .agg #[.int .i64 r45.1.1, .int .i64 r45.1.2.1, .int .i64 r45.1.2.2]), (b_A46 : RwO own50 47 [] w50 30 R30 A46 cA46 r45.2), (b_gh1 : BlkO own50 48 w50 gh1 th1 #[.slice A46 r45.2.length cA46])⟩, (b_g32 : BlkO own50 49 w50 g32 30 #[.int .i64 r45.1.1, .int .i64 r45.1.2.1, .int .i64 r45.1.2.2]), -⟩ := hf50 [5, 3, 4] rfl
  have e50_3 := f_3
  have hX50 := Evo.step hX37 hown hE50 rfl
  have b50_gh1 := b_gh1
  have b50_g32 := b_g32
  have b50_A46 := b_A46
  refine fl_ret ?_
  obtain rfl := osome hs
  exact hret _ _ _ _ (.inl rfl) hd50 (results2_ rfl (RVal.cell_ e50_2 (run_loadVarAgg (l := [.int .i64 r45.1.1, .int .i64 r45.1.2.1, .int .i64 r45.1.2.2]) ta30 (Blk.cellsFrom b50_g32.2 0 rfl) rfl)) (RVal.tmp_ e50_3)) ⟨(rl [(47, 2), (48, 1)] own50), (A46, cA46), rfl, (Evo.rl_ hX50 hown rfl), (RwO.rl_ (mm := [(47, 2), (48, 1)]) b50_A46), (BlkO.rl_ (mm := [(47, 2), (48, 1)]) b50_gh1)⟩

theorem heap_TopNil_w (w : World) (r : (Int × Int × Int) × Bool) (hs : heap_TopNil = some r) :
    Calls Try.prog 15 #[.pointer none] w fun e w' => ∃ own' : Own, e = .returned (.tuple #[.agg #[.int .i64 r.1.1, .int .i64 r.1.2.1, .int .i64 r.1.2.2], .bool r.2]) ∧ Evo [] (fun _ => 0) own' w w' := by
  refine fl_enter (n := 15) rfl rfl rfl (Nat.le_of_ble_eq_true rfl) ?_
  intro a0 Q hd0 hz0 harg hret
  have ha0 := harg 0 _ rfl
  clear harg
  have hE0 : Evo [] (fun _ => 0) (fun _ => 0) w w := Evo.refl _ _ _
  refine rg_plain_seq (n := 15) (rs := []) (own0 := (fun _ => 0)) (K := [])
      (bs := [0, 0])
      (ds := [⟨[], [], [], Fct.blk 19 2 (fun g => .pointer (some ⟨g, 0, none⟩)) 30 #[.int .i64 0, .int .i64 0, .int .i64 0]⟩,
      ⟨[], [], [], Fct.val 3 (.bool false)⟩]) (by kernel_rfl) hz0 hd0 (fun _ h => nomatch h) ?_ ?_
  · refine steps_cons (fun own a wx hf hsl hE => ?_) ?_
    · exact sg_plain rfl rfl (or_new [] rfl rfl trivial (by kernel_rfl))
    refine steps_cons (fun own a wx hf hsl hE => ?_) ?_
    · exact sg_plain rfl rfl (or_assign rfl)
    exact steps_nil
  intro own20 a20 w20 hd20 hz20 hk20 hf20 hE20
  have e20_0 : a20.eval (.tmp 0) = .pointer none := (hk20 0 rfl).trans ha0
  obtain ⟨⟨g18, (f_2 : a20.eval (.tmp 2) = .pointer (some ⟨g18, 0, none⟩)), (b_g18 : BlkO own20 19 w20 g18 30 #[.int .i64 0, .int .i64 0, .int .i64 0])⟩, -⟩ := hf20 [0] rfl
  have e20_2 := f_2
  have hX20 := Evo.step hE0 (fun _ => Nat.le_refl 0) hE20 rfl
  have b20_g18 := b_g18
  refine fl_seq (fun Q21 hn21 hp21 => ?_)
  refine rg_plain_seq (n := 15) (rs := []) (own0 := own20) (K := [])
      (bs := [0, 1, 3])
      (ds := [⟨[], [0], [], Fct.val 4 (.pointer none)⟩,
      ⟨[0], [], [], Fct.val 5 (.int .i64 0)⟩,
      ⟨[1], [], [], Fct.val 6 (.bool true)⟩]) (by kernel_rfl) hz20 hd20 (fun _ h => nomatch h) ?_ ?_
  · refine steps_cons (fun own a wx hf hsl hE => ?_) ?_
    · obtain ⟨s_0, -⟩ := hsl
      exact sg_plain rfl rfl (or_move (s_0.trans e20_0))
    refine steps_cons (fun own a wx hf hsl hE => ?_) ?_
    · obtain ⟨(f_4 : a.eval (.tmp 4) = .pointer none), -⟩ := hf
      exact sg_plain rfl rfl (or_call cf11 (args1 f_4) (heap_LenNil_w _   0 rfl) post_val)
    refine steps_cons (fun own a wx hf hsl hE => ?_) ?_
    · obtain ⟨(f_5 : a.eval (.tmp 5) = .int .i64 0), -⟩ := hf
      exact sg_plain rfl rfl (or_eql f_5 rfl (by decide))
    exact steps_nil
  intro own22 a22 w22 hd22 hz22 hk22 hf22 hE22
  have e22_0 : a22.eval (.tmp 0) = .pointer none := (hk22 0 rfl).trans e20_0
  have e22_2 : a22.eval (.tmp 2) = .pointer (some ⟨g18, 0, none⟩) := (hk22 2 rfl).trans e20_2
  obtain ⟨(f_6 : a22.eval (.tmp 6) = .bool true), -⟩ := hf22 [2] rfl
  have e22_6 := f_6
  have hX22 := Evo.step hX20 (fun _ => Nat.le_refl 0) hE22 rfl
  have b22_g18 := BlkO.evo (by decide) hE22 b20_g18
  refine fl_t e22_6 ?_
  refine rg_plain_seq (n := 15) (rs := [Fct.at_ 19 g18 30 #[.int .i64 0, .int .i64 0, .int .i64 0]]) (own0 := own22) (K := [19])
      (bs := [0, 1, 3])
      (ds := [⟨[], [], [], Fct.val 7 (.agg #[.int .i64 0, .int .i64 0, .int .i64 0])⟩,
      ⟨[0, 3], [2], [19], Fct.at_ 23 g18 30 #[.int .i64 0, .int .i64 0, .int .i64 0]⟩,
      ⟨[], [], [], Fct.val 3 (.bool false)⟩]) (by kernel_rfl) hz22 hd22 (by simp only [List.forall_mem_cons]; exact ⟨b22_g18, fun _ h => nomatch h⟩) ?_ ?_
  · refine steps_cons (fun own a wx hf hsl hE => ?_) ?_
    · exact sg_plain rfl rfl (or_k [] rfl rfl trivial (by kernel_rfl))
    refine steps_cons (fun own a wx hf hsl hE => ?_) ?_
    · obtain ⟨(f_7 : a.eval (.tmp 7) = .agg #[.int .i64 0, .int .i64 0, .int .i64 0]), (b_g18 : BlkO own 19 wx g18 30 #[.int .i64 0, .int .i64 0, .int .i64 0]), -⟩ := hf
      obtain ⟨s_2, -⟩ := hsl
      exact sg_plain rfl rfl (or_store (l := #[.int .i64 0, .int .i64 0, .int .i64 0]) (lab := 19) (lab2 := 23) ts30 (s_2.trans e22_2) f_7 b_g18 (by simp) (by kernel_rfl) (mem_of rfl) (by decide) (by kernel_rfl) (fun own' a' w' ha hb => hb))
    refine steps_cons (fun own a wx hf hsl hE => ?_) ?_
    · exact sg_plain rfl rfl (or_assign rfl)
    exact steps_nil
  intro own24 a24 w24 hd24 hz24 hk24 hf24 hE24
  have e24_2 : a24.eval (.tmp 2) = .pointer (some ⟨g18, 0, none⟩) := (hk24 2 rfl).trans e22_2
  obtain ⟨(f_3 : a24.eval (.tmp 3) = .bool false), (b_g18 : BlkO own24 23 w24 g18 30 #[.int .i64 0, .int .i64 0, .int .i64 0]), -⟩ := hf24 [2, 1] rfl
  have e24_3 := f_3
  have hX24 := Evo.step hX22 (fun _ => Nat.le_refl 0) hE24 rfl
  have b24_g18 := b_g18
  refine fl_ret ?_
  refine hp21 _ _ _ rfl ?_
  obtain rfl := osome hs
  exact hret _ _ _ _ (.inl rfl) hd24 (results2_ rfl (RVal.cell_ e24_2 (run_loadVarAgg (l := [.int .i64 0, .int .i64 0, .int .i64 0]) ta30 (Blk.cellsFrom b24_g18.2 0 rfl) rfl)) (RVal.tmp_ e24_3)) ⟨own24, rfl, hX24⟩

theorem heap_Heap_Top_w (w : World) (h1 : ((List (Int × Int × Int)))) (gh1 : Nat) (th1 : TypeId) (Ah1_0 : Option Addr) (ch1_0 : Nat) (hgh1 : BlkO (fun _ => 0) 0 w gh1 th1 #[.slice Ah1_0 h1.length ch1_0]) (hAh1_0 : RdO (fun _ => 0) [0] w R30 Ah1_0 ch1_0 h1) (r : (Int × Int × Int) × Bool) (hs : heap_Heap_Top h1 = some r) :
    Calls Try.prog 15 #[.pointer (some ⟨gh1, 0, none⟩)] w fun e w' => ∃ own' : Own, e = .returned (.tuple #[.agg #[.int .i64 r.1.1, .int .i64 r.1.2.1, .int .i64 r.1.2.2], .bool r.2]) ∧ Evo [] (fun _ => 0) own' w w' := by
  refine fl_enter (n := 15) rfl rfl rfl (Nat.le_of_ble_eq_true rfl) ?_
  intro a0 Q hd0 hz0 harg hret
  have ha0 := harg 0 _ rfl
  clear harg
  have hE0 : Evo [] (fun _ => 0) (fun _ => 0) w w := Evo.refl _ _ _
  refine rg_plain_seq (n := 15) (rs := []) (own0 := (fun _ => 0)) (K := [])
      (bs := [0, 0])
      (ds := [⟨[], [], [], Fct.blk 25 2 (fun g => .pointer (some ⟨g, 0, none⟩)) 30 #[.int .i64 0, .int .i64 0, .int .i64 0]⟩,
      ⟨[], [], [], Fct.val 3 (.bool false)⟩]) (by kernel_rfl) hz0 hd0 (fun _ h => nomatch h) ?_ ?_
  · refine steps_cons (fun own a wx hf hsl hE => ?_) ?_
    · exact sg_plain rfl rfl (or_new [] rfl rfl trivial (by kernel_rfl))
    refine steps_cons (fun own a wx hf hsl hE => ?_) ?_
    · exact sg_plain rfl rfl (or_assign rfl)
    exact steps_nil
  intro own26 a26 w26 hd26 hz26 hk26 hf26 hE26
  have e26_0 : a26.eval (.tmp 0) = .pointer (some ⟨gh1, 0, none⟩) := (hk26 0 rfl).trans ha0
  obtain ⟨⟨g24, (f_2 : a26.eval (.tmp 2) = .pointer (some ⟨g24, 0, none⟩)), (b_g24 : BlkO own26 25 w26 g24 30 #[.int .i64 0, .int .i64 0, .int .i64 0])⟩, -⟩ := hf26 [0] rfl
  have e26_2 := f_2
  have hX26 := Evo.step hE0 (fun _ => Nat.le_refl 0) hE26 rfl
  have b26_Ah1_0 := RdO.evo rfl hE26 hAh1_0
  have b26_gh1 := BlkO.evo (by decide) hE26 hgh1
  have b26_g24 := b_g24
  refine fl_seq (fun Q27 hn27 hp27 => ?_)
  obtain ⟨r28, hr28, hs⟩ := obind hs
  refine rg_plain_seq (n := 15) (rs := []) (own0 := own26) (K := [])
      (bs := [0, 1, 3])
      (ds := [⟨[], [0], [], Fct.val 4 (.pointer (some ⟨gh1, 0, none⟩))⟩,
      ⟨[0], [], [], Fct.val 5 (.int .i64 r28)⟩,
      ⟨[1], [], [], Fct.val 6 (.bool (decide (r28 = 0)))⟩]) (by kernel_rfl) hz26 hd26 (fun _ h => nomatch h) ?_ ?_
  · refine steps_cons (fun own a wx hf hsl hE => ?_) ?_
    · obtain ⟨s_0, -⟩ := hsl
      exact sg_plain rfl rfl (or_move (s_0.trans e26_0))
    refine steps_cons (fun own a wx hf hsl hE => ?_) ?_
    · obtain ⟨(f_4 : a.eval (.tmp 4) = .pointer (some ⟨gh1, 0, none⟩)), -⟩ := hf
      exact sg_plain rfl rfl (or_call cf11 (args1 f_4) (heap_Heap_Len_w _ h1 gh1 th1 Ah1_0 ch1_0 (BlkO.zero_ (BlkO.evo (by decide) hE b26_gh1)) (RdO.zero (RdO.evo rfl hE b26_Ah1_0)) r28 hr28) post_val)
    refine steps_cons (fun own a wx hf hsl hE => ?_) ?_
    · obtain ⟨(f_5 : a.eval (.tmp 5) = .int .i64 r28), -⟩ := hf
      exact sg_plain rfl rfl (or_eql f_5 rfl rfl)
    exact steps_nil
  intro own29 a29 w29 hd29 hz29 hk29 hf29 hE29
  have e29_0 : a29.eval (.tmp 0) = .pointer (some ⟨gh1, 0, none⟩) := (hk29 0 rfl).trans e26_0
  have e29_2 : a29.eval (.tmp 2) = .pointer (some ⟨g24, 0, none⟩) := (hk29 2 rfl).trans e26_2
  obtain ⟨(f_6 : a29.eval (.tmp 6) = .bool (decide (r28 = 0))), -⟩ := hf29 [2] rfl
  have e29_6 := f_6
  have hX29 := Evo.step hX26 (fun _ => Nat.le_refl 0) hE29 rfl
  have b29_Ah1_0 := RdO.evo rfl hE29 b26_Ah1_0
  have b29_gh1 := BlkO.evo (by decide) hE29 b26_gh1
  have b29_g24 := BlkO.evo (by decide) hE29 b26_g24
  refine fl_cond e29_6 hs (fun c30 hs => ?_) (fun c30 hs => ?_)
  · refine rg_plain_seq (n := 15) (rs := [Fct.at_ 25 g24 30 #[.int .i64 0, .int .i64 0, .int .i64 0]]) (own0 := own29) (K := [25])
        (bs := [0, 1, 3])
        (ds := [⟨[], [], [], Fct.val 7 (.agg #[.int .i64 0, .int .i64 0, .int .i64 0])⟩,
        ⟨[0, 3], [2], [25], Fct.at_ 31 g24 30 #[.int .i64 0, .int .i64 0, .int .i64 0]⟩,
        ⟨[], [], [], Fct.val 3 (.bool false)⟩]) (by kernel_rfl) hz29 hd29 (by simp only [List.forall_mem_cons]; exact ⟨b29_g24, fun _ h => nomatch h⟩) ?_ ?_
    · refine steps_cons (fun own a wx hf hsl hE => ?_) ?_
      · exact sg_plain rfl rfl (or_k [] rfl rfl trivial (by kernel_rfl))
      refine steps_cons (fun own a wx hf hsl hE => ?_) ?_
      · obtain ⟨(f_7 : a.eval (.tmp 7) = .agg #[.int .i64 0, .int .i64 0, .int .i64 0]), (b_g24 : BlkO own 25 wx g24 30 #[.int .i64 0, .int .i64 0, .int .i64 0]), -⟩ := hf
        obtain ⟨s_2, -⟩ := hsl
        exact sg_plain rfl rfl (or_store (l := #[.int .i64 0, .int .i64 0, .int .i64 0]) (lab := 25) (lab2 := 31) ts30 (s_2.trans e29_2) f_7 b_g24 (by simp) (by kernel_rfl) (mem_of rfl) (by decide) (by kernel_rfl) (fun own' a' w' ha hb => hb))
      refine steps_cons (fun own a wx hf hsl hE => ?_) ?_
      · exact sg_plain rfl rfl (or_assign rfl)
      exact steps_nil
    intro own32 a32 w32 hd32 hz32 hk32 hf32 hE32
    have e32_2 : a32.eval (.tmp 2) = .pointer (some ⟨g24, 0, none⟩) := (hk32 2 rfl).trans e29_2
    obtain ⟨(f_3 : a32.eval (.tmp 3) = .bool false), (b_g24 : BlkO own32 31 w32 g24 30 #[.int .i64 0, .int .i64 0, .int .i64 0]), -⟩ := hf32 [2, 1] rfl
    have e32_3 := f_3
    have hX32 := Evo.step hX29 (fun _ => Nat.le_refl 0) hE32 rfl
    have b32_g24 := b_g24
    refine fl_ret ?_
    refine hp27 _ _ _ rfl ?_
    obtain rfl := osome hs
    exact hret _ _ _ _ (.inl rfl) hd32 (results2_ rfl (RVal.cell_ e32_2 (run_loadVarAgg (l := [.int .i64 0, .int .i64 0, .int .i64 0]) ta30 (Blk.cellsFrom b32_g24.2 0 rfl) rfl)) (RVal.tmp_ e32_3)) ⟨own32, rfl, hX32⟩
  refine fl_skip ?_
  refine hn27 _ _ ?_
  obtain ⟨x34, hx34, hs⟩ := obind hs
  refine rg_plain_seq (n := 15) (rs := [Fct.at_ 25 g24 30 #[.int .i64 0, .int .i64 0, .int .i64 0]]) (own0 := own29) (K := [25])
      (bs := [0, 1, 3, 7, 15, 31, 63, 127, 255])
      (ds := [⟨[], [0], [], Fct.val 8 (.pointer (some ⟨gh1, 0, none⟩))⟩,
      ⟨[0], [], [], Fct.val 9 (.pointer (some ⟨gh1, 0, none⟩))⟩,
      ⟨[1], [], [], Fct.val 10 (.pointer (some ⟨gh1, 0, none⟩))⟩,
      ⟨[2], [], [], Fct.val 11 (.pointer (some ⟨gh1, 0, none⟩))⟩,
      ⟨[3], [], [], Fct.val 12 (.slice Ah1_0 h1.length ch1_0)⟩,
      ⟨[4], [], [], Fct.val 13 (.pointer (some ((adr Ah1_0).add ((0 : Int).toNat * R30.s))))⟩,
      ⟨[5], [], [], Fct.val 14 (.agg #[.int .i64 x34.1, .int .i64 x34.2.1, .int .i64 x34.2.2])⟩,
      ⟨[6, 9], [2], [25], Fct.at_ 35 g24 30 #[.int .i64 x34.1, .int .i64 x34.2.1, .int .i64 x34.2.2]⟩,
      ⟨[], [], [], Fct.val 3 (.bool true)⟩]) (by kernel_rfl) hz29 hd29 (by simp only [List.forall_mem_cons]; exact ⟨b29_g24, fun _ h => nomatch h⟩) ?_ ?_
  · refine steps_cons (fun own a wx hf hsl hE => ?_) ?_
    · obtain ⟨s_0, -⟩ := hsl
      exact sg_plain rfl rfl (or_move (s_0.trans e29_0))
    refine steps_cons (fun own a wx hf hsl hE => ?_) ?_
    · obtain ⟨(f_8 : a.eval (.tmp 8) = .pointer (some ⟨gh1, 0, none⟩)), -⟩ := hf
      exact sg_plain rfl rfl (or_k [(8, .pointer (some ⟨gh1, 0, none⟩))] rfl rfl ⟨f_8, trivial⟩ (by kernel_rfl))
    refine steps_cons (fun own a wx hf hsl hE => ?_) ?_
    · obtain ⟨(f_9 : a.eval (.tmp 9) = .pointer (some ⟨gh1, 0, none⟩)), -⟩ := hf
      exact sg_plain rfl rfl (or_field fo26_0 f_9 (by rfl))
    refine steps_cons (fun own a wx hf hsl hE => ?_) ?_
    · obtain ⟨(f_10 : a.eval (.tmp 10) = .pointer (some ⟨gh1, 0, none⟩)), -⟩ := hf
      exact sg_plain rfl rfl (or_field fo24_0 f_10 (by rfl))
    refine steps_cons (fun own a wx hf hsl hE => ?_) ?_
    · obtain ⟨(f_11 : a.eval (.tmp 11) = .pointer (some ⟨gh1, 0, none⟩)), -⟩ := hf
      exact sg_plain rfl rfl (or_load1 to22 f_11 (Blk.at_ (BlkO.evo (by decide) hE b29_gh1).2 0 rfl))
    refine steps_cons (fun own a wx hf hsl hE => ?_) ?_
    · obtain ⟨(f_12 : a.eval (.tmp 12) = .slice Ah1_0 h1.length ch1_0), -⟩ := hf
      exact sg_plain rfl rfl (or_index (R := R30) (l := h1) tl22 f_12 rfl (RdO.some_ b29_Ah1_0 hx34) hx34)
    refine steps_cons (fun own a wx hf hsl hE => ?_) ?_
    · obtain ⟨(f_13 : a.eval (.tmp 13) = .pointer (some ((adr Ah1_0).add ((0 : Int).toNat * R30.s)))), -⟩ := hf
      exact sg_plain rfl rfl (or_load (l := E30.f x34) ta30 f_13 (RdO.cells (F := E30) (RdO.evo rfl hE b29_Ah1_0) hx34) rfl)
    refine steps_cons (fun own a wx hf hsl hE => ?_) ?_
    · obtain ⟨(f_14 : a.eval (.tmp 14) = .agg #[.int .i64 x34.1, .int .i64 x34.2.1, .int .i64 x34.2.2]), (b_g24 : BlkO own 25 wx g24 30 #[.int .i64 0, .int .i64 0, .int .i64 0]), -⟩ := hf
      obtain ⟨s_2, -⟩ := hsl
      exact sg_plain rfl rfl (or_store (l := #[.int .i64 x34.1, .int .i64 x34.2.1, .int .i64 x34.2.2]) (lab := 25) (lab2 := 35) ts30 (s_2.trans e29_2) f_14 b_g24 (by simp) (by kernel_rfl) (mem_of rfl) (by decide) (by kernel_rfl) (fun own' a' w' ha hb => hb))
    refine steps_cons (fun own a wx hf hsl hE => ?_) ?_
    · exact sg_plain rfl rfl (or_assign rfl)
    exact steps_nil
  intro own36 a36 w36 hd36 hz36 hk36 hf36 hE36
  have e36_2 : a36.eval (.tmp 2) = .pointer (some ⟨g24, 0, none⟩) := (hk36 2 rfl).trans e29_2
  obtain ⟨(f_3 : a36.eval (.tmp 3) = .bool true), (b_g24 : BlkO own36 35 w36 g24 30 #[.int .i64 x34.1, .int .i64 x34.2.1, .int .i64 x34.2.2]), -⟩ := hf36 [8, 7] rfl
  have e36_3 := f_3
  have hX36 := Evo.step hX29 (fun _ => Nat.le_refl 0) hE36 rfl
  have b36_g24 := b_g24
  refine fl_ret ?_
  obtain rfl := osome hs
  exact hret _ _ _ _ (.inl rfl) hd36 (results2_ rfl (RVal.cell_ e36_2 (run_loadVarAgg (l := [.int .i64 x34.1, .int .i64 x34.2.1, .int .i64 x34.2.2]) ta30 (Blk.cellsFrom b36_g24.2 0 rfl) rfl)) (RVal.tmp_ e36_3)) ⟨own36, rfl, hX36⟩

theorem heap_DropNil_w (w : World) (l2 : List (Int × Int × Int)) (Al2 : Option Addr) (cl2 : Nat) (hl2 : RdO (fun _ => 0) [0] w R30 Al2 cl2 l2) (r : Int) (hs : heap_DropNil l2 = some r) :
    Calls Try.prog 13 #[.pointer none, .slice Al2 l2.length cl2] w fun e w' => ∃ own' : Own, e = .returned (.int .i64 r) ∧ Evo [] (fun _ => 0) own' w w' := by
  refine fl_enter (n := 40) rfl rfl rfl (Nat.le_of_ble_eq_true rfl) ?_
  intro a0 Q hd0 hz0 harg hret
  have ha0 := harg 0 _ rfl
  have ha1 := harg 1 _ rfl
  clear harg
  have hE0 : Evo [] (fun _ => 0) (fun _ => 0) w w := Evo.refl _ _ _
  refine rg_plain_seq (n := 40) (rs := []) (own0 := (fun _ => 0)) (K := [])
      (bs := [0])
      (ds := [⟨[], [], [], Fct.val 4 (.int .i64 0)⟩]) (by kernel_rfl) hz0 hd0 (fun _ h => nomatch h) ?_ ?_
  · refine steps_cons (fun own a wx hf hsl hE => ?_) ?_
    · exact sg_plain rfl rfl (or_assign rfl)
    exact steps_nil
  intro own295 a295 w295 hd295 hz295 hk295 hf295 hE295
  have e295_0 : a295.eval (.tmp 0) = .pointer none := (hk295 0 rfl).trans ha0
  have e295_1 : a295.eval (.tmp 1) = .slice Al2 l2.length cl2 := (hk295 1 rfl).trans ha1
  have hX295 := Evo.step hE0 (fun _ => Nat.le_refl 0) hE295 rfl
  have b295_Al2 := RdO.evo rfl hE295 hl2
  refine rg_plain_seq (n := 40) (rs := []) (own0 := own295) (K := [])
      (bs := [0])
      (ds := [⟨[], [], [], Fct.val 5 (.int .i64 0)⟩]) (by kernel_rfl) hz295 hd295 (fun _ h => nomatch h) ?_ ?_
  · refine steps_cons (fun own a wx hf hsl hE => ?_) ?_
    · exact sg_plain rfl rfl (or_assign rfl)
    exact steps_nil
  intro own296 a296 w296 hd296 hz296 hk296 hf296 hE296
  have e296_0 : a296.eval (.tmp 0) = .pointer none := (hk296 0 rfl).trans e295_0
  have e296_1 : a296.eval (.tmp 1) = .slice Al2 l2.length cl2 := (hk296 1 rfl).trans e295_1
  obtain ⟨(f_5 : a296.eval (.tmp 5) = .int .i64 0), -⟩ := hf296 [0] rfl
  have e296_5 := f_5
  have hX296 := Evo.step hX295 (fun _ => Nat.le_refl 0) hE296 rfl
  have b296_Al2 := RdO.evo rfl hE296 b295_Al2
  refine fl_seq (fun Q297 hn297 hp297 => ?_)
  refine rg_plain_seq (n := 40) (rs := []) (own0 := own296) (K := [])
      (bs := [0, 1, 0])
      (ds := [⟨[], [1], [], Fct.val 9 (.slice Al2 l2.length cl2)⟩,
      ⟨[0], [], [], Fct.val 10 (.int .i64 (l2.length : Int))⟩,
      ⟨[], [], [], Fct.val 11 (.int .i64 0)⟩]) (by kernel_rfl) hz296 hd296 (fun _ h => nomatch h) ?_ ?_
  · refine steps_cons (fun own a wx hf hsl hE => ?_) ?_
    · obtain ⟨s_1, -⟩ := hsl
      exact sg_plain rfl rfl (or_move (s_1.trans e296_1))
    refine steps_cons (fun own a wx hf hsl hE => ?_) ?_
    · obtain ⟨(f_9 : a.eval (.tmp 9) = .slice Al2 l2.length cl2), -⟩ := hf
      exact sg_plain rfl rfl (or_len tu22 f_9 rfl)
    refine steps_cons (fun own a wx hf hsl hE => ?_) ?_
    · exact sg_plain rfl rfl (or_move rfl)
    exact steps_nil
  intro own298 a298 w298 hd298 hz298 hk298 hf298 hE298
  have e298_0 : a298.eval (.tmp 0) = .pointer none := (hk298 0 rfl).trans e296_0
  have e298_5 : a298.eval (.tmp 5) = .int .i64 0 := (hk298 5 rfl).trans e296_5
  obtain ⟨(f_9 : a298.eval (.tmp 9) = .slice Al2 l2.length cl2), (f_10 : a298.eval (.tmp 10) = .int .i64 (l2.length : Int)), (f_11 : a298.eval (.tmp 11) = .int .i64 0), -⟩ := hf298 [0, 1, 2] rfl
  have e298_9 := f_9
  have e298_10 := f_10
  have e298_11 := f_11
  have hX298 := Evo.step hX296 (fun _ => Nat.le_refl 0) hE298 rfl
  have b298_Al2 := RdO.evo rfl hE298 b296_Al2
  refine fl_block (fun Q299 hn299 hx299 hp299 => ?_)
  refine fl_loop (body := (fun s => heap_DropNil_b1 l2 s)) (z := r) (show loopO _ _ = _ from hs) (fun (x392 : Int) a wx => ∃ (ox : Own), a.defers = [] ∧ a.tmps.size = 40 ∧ a.eval (.tmp 0) = .pointer none ∧ a.eval (.tmp 5) = .int .i64 0 ∧ a.eval (.tmp 9) = .slice Al2 l2.length cl2 ∧ a.eval (.tmp 10) = .int .i64 (l2.length : Int) ∧ a.eval (.tmp 11) = .int .i64 x392 ∧ Evo [] (fun _ => 0) ox w wx ∧ RdO ox [0] wx R30 Al2 cl2 l2) ?_ ?_
  · exact ⟨own298, hd298, hz298, e298_0, e298_5, e298_9, e298_10, e298_11, hX298, b298_Al2⟩
  · rintro x392 zz485 a485 w485 ⟨own485, hd486, hz486, e486_0, e486_5, e486_9, e486_10, e486_11, hE486, b486_Al2⟩ hs Q485 hn485 hp485 hz485
    have hs : heap_DropNil_b1 l2 x392 = some zz485 := hs
    refine rg_plain_seq (n := 40) (rs := []) (own0 := own485) (K := [])
        (bs := [0])
        (ds := [⟨[], [11, 10], [], Fct.val 12 (.bool (decide (x392 < (l2.length : Int))))⟩]) (by kernel_rfl) hz486 hd486 (fun _ h => nomatch h) ?_ ?_
    · refine steps_cons (fun own a wx hf hsl hE => ?_) ?_
      · obtain ⟨s_11, s_10, -⟩ := hsl
        exact sg_plain rfl rfl (or_lss (s_11.trans e486_11) (s_10.trans e486_10) rfl)
      exact steps_nil
    intro own487 a487 w487 hd487 hz487 hk487 hf487 hE487
    have e487_0 : a487.eval (.tmp 0) = .pointer none := (hk487 0 rfl).trans e486_0
    have e487_5 : a487.eval (.tmp 5) = .int .i64 0 := (hk487 5 rfl).trans e486_5
    have e487_9 : a487.eval (.tmp 9) = .slice Al2 l2.length cl2 := (hk487 9 rfl).trans e486_9
    have e487_10 : a487.eval (.tmp 10) = .int .i64 (l2.length : Int) := (hk487 10 rfl).trans e486_10
    have e487_11 : a487.eval (.tmp 11) = .int .i64 x392 := (hk487 11 rfl).trans e486_11
    obtain ⟨(f_12 : a487.eval (.tmp 12) = .bool (decide (x392 < (l2.length : Int)))), -⟩ := hf487 [0] rfl
    have e487_12 := f_12
    have hX487 := Evo.step hE486 (fun _ => Nat.le_refl 0) hE487 rfl
    have b487_Al2 := RdO.evo rfl hE487 b486_Al2
    refine fl_seq (fun Q488 hn488 hp488 => ?_)
    refine fl_cond e487_12 hs (fun c489 hs => ?_) (fun c489 hs => ?_)
    · refine fl_skip ?_
      refine hn488 _ _ ?_
      refine fl_seq (fun Q490 hn490 hp490 => ?_)
      refine fl_block (fun Q534 hn534 hx534 hp534 => ?_)
      obtain ⟨x556, hx556, hs⟩ := obind hs
      refine rg_plain_seq (n := 40) (rs := []) (own0 := own487) (K := [558])
          (bs := [0, 1, 0, 7])
          (ds := [⟨[], [9, 11], [], Fct.val 13 (.pointer (some ((adr Al2).add ((x392 : Int).toNat * R30.s))))⟩,
          ⟨[0], [], [], Fct.val 14 (.agg #[.int .i64 x556.1, .int .i64 x556.2.1, .int .i64 x556.2.2])⟩,
          ⟨[], [], [], Fct.blk 558 7 (fun g => .pointer (some ⟨g, 0, none⟩)) 30 #[.int .i64 0, .int .i64 0, .int .i64 0]⟩,
          ⟨[2, 1], [], [558], Fct.blk 559 7 (fun g => .pointer (some ⟨g, 0, none⟩)) 30 #[.int .i64 x556.1, .int .i64 x556.2.1, .int .i64 x556.2.2]⟩]) (by kernel_rfl) hz487 hd487 (fun _ h => nomatch h) ?_ ?_
      · refine steps_cons (fun own a wx hf hsl hE => ?_) ?_
        · obtain ⟨s_9, s_11, -⟩ := hsl
          exact sg_plain rfl rfl (or_index (R := R30) (l := l2) tl22 (s_9.trans e487_9) (s_11.trans e487_11) (RdO.some_ b487_Al2 hx556) hx556)
        refine steps_cons (fun own a wx hf hsl hE => ?_) ?_
        · obtain ⟨(f_13 : a.eval (.tmp 13) = .pointer (some ((adr Al2).add ((x392 : Int).toNat * R30.s)))), -⟩ := hf
          exact sg_plain rfl rfl (or_load (l := E30.f x556) ta30 f_13 (RdO.cells (F := E30) (RdO.evo rfl hE b487_Al2) hx556) rfl)
        refine steps_cons (fun own a wx hf hsl hE => ?_) ?_
        · exact sg_plain rfl rfl (or_new [] rfl rfl trivial (by kernel_rfl))
        refine steps_cons (fun own a wx hf hsl hE => ?_) ?_
        · obtain ⟨⟨g557, (f_7 : a.eval (.tmp 7) = .pointer (some ⟨g557, 0, none⟩)), (b_g557 : BlkO own 558 wx g557 30 #[.int .i64 0, .int .i64 0, .int .i64 0])⟩, (f_14 : a.eval (.tmp 14) = .agg #[.int .i64 x556.1, .int .i64 x556.2.1, .int .i64 x556.2.2]), -⟩ := hf
          exact sg_plain rfl rfl (or_store (l := #[.int .i64 x556.1, .int .i64 x556.2.1, .int .i64 x556.2.2]) (lab := 558) (lab2 := 559) ts30 f_7 f_14 b_g557 (by simp) (by kernel_rfl) (mem_of rfl) (by decide) (by kernel_rfl) (fun own' a' w' ha hb => ⟨_, (ha 7).trans f_7, hb⟩))
        exact steps_nil
      intro own560 a560 w560 hd560 hz560 hk560 hf560 hE560
      have e560_0 : a560.eval (.tmp 0) = .pointer none := (hk560 0 rfl).trans e487_0
      have e560_5 : a560.eval (.tmp 5) = .int .i64 0 := (hk560 5 rfl).trans e487_5
      have e560_9 : a560.eval (.tmp 9) = .slice Al2 l2.length cl2 := (hk560 9 rfl).trans e487_9
      have e560_10 : a560.eval (.tmp 10) = .int .i64 (l2.length : Int) := (hk560 10 rfl).trans e487_10
      have e560_11 : a560.eval (.tmp 11) = .int .i64 x392 := (hk560 11 rfl).trans e487_11
      obtain ⟨⟨g557, (f_7 : a560.eval (.tmp 7) = .pointer (some ⟨g557, 0, none⟩)), (b_g557 : BlkO own560 559 w560 g557 30 #[.int .i64 x556.1, .int .i64 x556.2.1, .int .i64 x556.2.2])⟩, -⟩ := hf560 [3] rfl
      have e560_7 := f_7
      have hX560 := Evo.step hX487 (fun _ => Nat.le_refl 0) hE560 rfl
      have b560_Al2 := RdO.evo rfl hE560 b487_Al2
      have b560_g557 := b_g557
      refine rg_plain_seq (n := 40) (rs := []) (own0 := own560) (K := [])
          (bs := [0, 1, 0])
          (ds := [⟨[], [0], [], Fct.val 15 (.pointer none)⟩,
          ⟨[0], [], [], Fct.val 16 (.int .i64 0)⟩,
          ⟨[], [], [], Fct.val 17 (.int .i64 0)⟩]) (by kernel_rfl) hz560 hd560 (fun _ h => nomatch h) ?_ ?_
      · refine steps_cons (fun own a wx hf hsl hE => ?_) ?_
        · obtain ⟨s_0, -⟩ := hsl
          exact sg_plain rfl rfl (or_move (s_0.trans e560_0))
        refine steps_cons (fun own a wx hf hsl hE => ?_) ?_
        · obtain ⟨(f_15 : a.eval (.tmp 15) = .pointer none), -⟩ := hf
          exact sg_plain rfl rfl (or_call cf11 (args1 f_15) (heap_LenNil_w _   0 rfl) post_val)
        refine steps_cons (fun own a wx hf hsl hE => ?_) ?_
        · exact sg_plain rfl rfl (or_move rfl)
        exact steps_nil
      intro own561 a561 w561 hd561 hz561 hk561 hf561 hE561
      have e561_0 : a561.eval (.tmp 0) = .pointer none := (hk561 0 rfl).trans e560_0
      have e561_5 : a561.eval (.tmp 5) = .int .i64 0 := (hk561 5 rfl).trans e560_5
      have e561_7 : a561.eval (.tmp 7) = .pointer (some ⟨g557, 0, none⟩) := (hk561 7 rfl).trans e560_7
      have e561_9 : a561.eval (.tmp 9) = .slice Al2 l2.length cl2 := (hk561 9 rfl).trans e560_9
      have e561_10 : a561.eval (.tmp 10) = .int .i64 (l2.length : Int) := (hk561 10 rfl).trans e560_10
      have e561_11 : a561.eval (.tmp 11) = .int .i64 x392 := (hk561 11 rfl).trans e560_11
      obtain ⟨(f_16 : a561.eval (.tmp 16) = .int .i64 0), (f_17 : a561.eval (.tmp 17) = .int .i64 0), -⟩ := hf561 [1, 2] rfl
      have e561_16 := f_16
      have e561_17 := f_17
      have hX561 := Evo.step hX560 (fun _ => Nat.le_refl 0) hE561 rfl
      have b561_Al2 := RdO.evo rfl hE561 b560_Al2
      have b561_g557 := BlkO.evo (by decide) hE561 b560_g557
      refine fl_block (fun Q562 hn562 hx562 hp562 => ?_)
      refine fl_loop (body := (fun _ => heap_DropNil_b2 x392)) (z := zz485) (show loopO _ _ = _ from hs) (fun (_ : Unit) a wx => ∃ (ox : Own), a.defers = [] ∧ a.tmps.size = 40 ∧ a.eval (.tmp 0) = .pointer none ∧ a.eval (.tmp 5) = .int .i64 0 ∧ a.eval (.tmp 7) = .pointer (some ⟨g557, 0, none⟩) ∧ a.eval (.tmp 9) = .slice Al2 l2.length cl2 ∧ a.eval (.tmp 10) = .int .i64 (l2.length : Int) ∧ a.eval (.tmp 11) = .int .i64 x392 ∧ a.eval (.tmp 16) = .int .i64 0 ∧ a.eval (.tmp 17) = .int .i64 0 ∧ Evo [] (fun _ => 0) ox w wx ∧ BlkO ox 559 wx g557 30 #[.int .i64 x556.1, .int .i64 x556.2.1, .int .i64 x556.2.2] ∧ RdO ox [0] wx R30 Al2 cl2 l2) ?_ ?_
      · exact ⟨own561, hd561, hz561, e561_0, e561_5, e561_7, e561_9, e561_10, e561_11, e561_16, e561_17, hX561, b561_g557, b561_Al2⟩
      · rintro _ zz573 a573 w573 ⟨own573, hd574, hz574, e574_0, e574_5, e574_7, e574_9, e574_10, e574_11, e574_16, e574_17, hE574, b574_g557, b574_Al2⟩ hs Q573 hn573 hp573 hz573
        have hs : heap_DropNil_b2 x392 = some zz573 := hs
        refine rg_plain_seq (n := 40) (rs := []) (own0 := own573) (K := [])
            (bs := [0])
            (ds := [⟨[], [17, 16], [], Fct.val 18 (.bool false)⟩]) (by kernel_rfl) hz574 hd574 (fun _ h => nomatch h) ?_ ?_
        · refine steps_cons (fun own a wx hf hsl hE => ?_) ?_
          · obtain ⟨s_17, s_16, -⟩ := hsl
            exact sg_plain rfl rfl (or_lss (s_17.trans e574_17) (s_16.trans e574_16) (by decide))
          exact steps_nil
        intro own575 a575 w575 hd575 hz575 hk575 hf575 hE575
        have e575_0 : a575.eval (.tmp 0) = .pointer none := (hk575 0 rfl).trans e574_0
        have e575_5 : a575.eval (.tmp 5) = .int .i64 0 := (hk575 5 rfl).trans e574_5
        have e575_7 : a575.eval (.tmp 7) = .pointer (some ⟨g557, 0, none⟩) := (hk575 7 rfl).trans e574_7
        have e575_9 : a575.eval (.tmp 9) = .slice Al2 l2.length cl2 := (hk575 9 rfl).trans e574_9
        have e575_10 : a575.eval (.tmp 10) = .int .i64 (l2.length : Int) := (hk575 10 rfl).trans e574_10
        have e575_11 : a575.eval (.tmp 11) = .int .i64 x392 := (hk575 11 rfl).trans e574_11
        have e575_16 : a575.eval (.tmp 16) = .int .i64 0 := (hk575 16 rfl).trans e574_16
        have e575_17 : a575.eval (.tmp 17) = .int .i64 0 := (hk575 17 rfl).trans e574_17
        obtain ⟨(f_18 : a575.eval (.tmp 18) = .bool false), -⟩ := hf575 [0] rfl
        have e575_18 := f_18
        have hX575 := Evo.step hE574 (fun _ => Nat.le_refl 0) hE575 rfl
        have b575_g557 := BlkO.evo (by decide) hE575 b574_g557
        have b575_Al2 := RdO.evo rfl hE575 b574_Al2
        refine fl_seq (fun Q576 hn576 hp576 => ?_)
        refine fl_f e575_18 ?_
        refine fl_exit ?_
        refine hp576 _ _ _ rfl ?_
        replace hs := hz573 _ hs
        refine hp573 _ _ _ rfl ?_
        refine hx562 _ _ ?_
        refine hn534 _ _ ?_
        refine hn490 _ _ ?_
        refine rg_plain (n := 40) (rs := []) (own0 := own575) (K := [])
            (bs := [0, 1])
            (ds := [⟨[], [11], [], Fct.val 38 (.int .i64 (ad x392 1))⟩,
            ⟨[0], [], [], Fct.val 11 (.int .i64 (ad x392 1))⟩]) (by kernel_rfl) hz575 hd575 (fun _ h => nomatch h) ?_ ?_
        · refine steps_cons (fun own a wx hf hsl hE => ?_) ?_
          · obtain ⟨s_11, -⟩ := hsl
            exact sg_plain rfl rfl (or_add (s_11.trans e575_11) rfl rfl)
          refine steps_cons (fun own a wx hf hsl hE => ?_) ?_
          · obtain ⟨(f_38 : a.eval (.tmp 38) = .int .i64 (ad x392 1)), -⟩ := hf
            exact sg_plain rfl rfl (or_move f_38)
          exact steps_nil
        intro own577 a577 w577 hd577 hz577 hk577 hf577 hE577
        have e577_0 : a577.eval (.tmp 0) = .pointer none := (hk577 0 rfl).trans e575_0
        have e577_5 : a577.eval (.tmp 5) = .int .i64 0 := (hk577 5 rfl).trans e575_5
        have e577_9 : a577.eval (.tmp 9) = .slice Al2 l2.length cl2 := (hk577 9 rfl).trans e575_9
        have e577_10 : a577.eval (.tmp 10) = .int .i64 (l2.length : Int) := (hk577 10 rfl).trans e575_10
        obtain ⟨(f_11 : a577.eval (.tmp 11) = .int .i64 (ad x392 1)), -⟩ := hf577 [1] rfl
        have e577_11 := f_11
        have hX577 := Evo.step hX575 (fun _ => Nat.le_refl 0) hE577 rfl
        have b577_Al2 := RdO.evo rfl hE577 b575_Al2
        exact hn485 _ _ _ hs ⟨own577, hd577, hz577, e577_0, e577_5, e577_9, e577_10, e577_11, hX577, b577_Al2⟩
    refine fl_exit ?_
    refine hp488 _ _ _ rfl ?_
    replace hs := hz485 _ hs
    refine hp485 _ _ _ rfl ?_
    refine hx299 _ _ ?_
    refine hn297 _ _ ?_
    refine rg_plain_seq (n := 40) (rs := []) (own0 := own487) (K := [])
        (bs := [0, 1])
        (ds := [⟨[], [5], [], Fct.val 39 (.int .i64 0)⟩,
        ⟨[0], [], [], Fct.val 4 (.int .i64 0)⟩]) (by kernel_rfl) hz487 hd487 (fun _ h => nomatch h) ?_ ?_
    · refine steps_cons (fun own a wx hf hsl hE => ?_) ?_
      · obtain ⟨s_5, -⟩ := hsl
        exact sg_plain rfl rfl (or_move (s_5.trans e487_5))
      refine steps_cons (fun own a wx hf hsl hE => ?_) ?_
      · obtain ⟨(f_39 : a.eval (.tmp 39) = .int .i64 0), -⟩ := hf
        exact sg_plain rfl rfl (or_assign f_39)
      exact steps_nil
    intro own578 a578 w578 hd578 hz578 hk578 hf578 hE578
    obtain ⟨(f_4 : a578.eval (.tmp 4) = .int .i64 0), -⟩ := hf578 [1] rfl
    have e578_4 := f_4
    have hX578 := Evo.step hX487 (fun _ => Nat.le_refl 0) hE578 rfl
    refine fl_ret ?_
    obtain rfl := osome hs
    exact hret _ _ _ _ (.inl rfl) hd578 (results1_ rfl (RVal.tmp_ e578_4)) ⟨own578, rfl, hX578⟩

theorem heap_Heap_Drop_w (w : World) (own : Own) (h1 : ((List (Int × Int × Int)))) (gh1 : Nat) (th1 : TypeId) (Ah1_0 : Option Addr) (ch1_0 : Nat) (l2 : List (Int × Int × Int)) (Al2 : Option Addr) (cl2 : Nat) (hown : ∀ b, own b ≤ 2) (hgh1 : BlkO own 1 w gh1 th1 #[.slice Ah1_0 h1.length ch1_0]) (hAh1_0 : RwO own 2 [] w 30 R30 Ah1_0 ch1_0 h1) (hl2 : RdO own [0] w R30 Al2 cl2 l2) (r : Int × (((List (Int × Int × Int))))) (hs : heap_Heap_Drop h1 l2 = some r) :
    Calls Try.prog 13 #[.pointer (some ⟨gh1, 0, none⟩), .slice Al2 l2.length cl2] w fun e w' => ∃ (own' : Own) (x : Option Addr × Nat), e = .returned (.int .i64 r.1) ∧ Evo [1, 2] own own' w w' ∧ RwO own' 2 [] w' 30 R30 x.1 x.2 r.2 ∧ BlkO own' 1 w' gh1 th1 #[.slice x.1 r.2.length x.2] := by
  refine fl_enter (n := 40) rfl rfl rfl (Nat.le_of_ble_eq_true rfl) ?_
  intro a0 Q hd0 hz0 harg hret
  have ha0 := harg 0 _ rfl
  have ha1 := harg 1 _ rfl
  clear harg
  have hE0 : Evo [1, 2] own own w w := Evo.refl _ _ _
  refine rg_plain_seq (n := 40) (rs := []) (own0 := own) (K := [])
      (bs := [0])
      (ds := [⟨[], [], [], Fct.val 4 (.int .i64 0)⟩]) (by kernel_rfl) hz0 hd0 (fun _ h => nomatch h) ?_ ?_
  · refine steps_cons (fun own a wx hf hsl hE => ?_) ?_
    · exact sg_plain rfl rfl (or_assign rfl)
    exact steps_nil
  intro own1515 a1515 w1515 hd1515 hz1515 hk1515 hf1515 hE1515
  have e1515_0 : a1515.eval (.tmp 0) = .pointer (some ⟨gh1, 0, none⟩) := (hk1515 0 rfl).trans ha0
  have e1515_1 : a1515.eval (.tmp 1) = .slice Al2 l2.length cl2 := (hk1515 1 rfl).trans ha1
  have hX1515 := Evo.step hE0 hown hE1515 rfl
  have b1515_Ah1_0 := RwO.evo rfl hE1515 hAh1_0
  have b1515_gh1 := BlkO.evo (by decide) hE1515 hgh1
  have b1515_Al2 := RdO.evo rfl hE1515 hl2
  refine rg_plain_seq (n := 40) (rs := []) (own0 := own1515) (K := [])
      (bs := [0])
      (ds := [⟨[], [], [], Fct.val 5 (.int .i64 0)⟩]) (by kernel_rfl) hz1515 hd1515 (fun _ h => nomatch h) ?_ ?_
  · refine steps_cons (fun own a wx hf hsl hE => ?_) ?_
    · exact sg_plain rfl rfl (or_assign rfl)
    exact steps_nil
  intro own1516 a1516 w1516 hd1516 hz1516 hk1516 hf1516 hE1516
  have e1516_0 : a1516.eval (.tmp 0) = .pointer (some ⟨gh1, 0, none⟩) := (hk1516 0 rfl).trans e1515_0
  have e1516_1 : a1516.eval (.tmp 1) = .slice Al2 l2.length cl2 := (hk1516 1 rfl).trans e1515_1
  obtain ⟨(f_5 : a1516.eval (.tmp 5) = .int .i64 0), -⟩ := hf1516 [0] rfl
  have e1516_5 := f_5
  have hX1516 := Evo.step hX1515 hown hE1516 rfl
  have b1516_Ah1_0 := RwO.evo rfl hE1516 b1515_Ah1_0
  have b1516_gh1 := BlkO.evo (by decide) hE1516 b1515_gh1
  have b1516_Al2 := RdO.evo rfl hE1516 b1515_Al2
  refine fl_seq (fun Q1517 hn1517 hp1517 => ?_)
  refine rg_plain_seq (n := 40) (rs := []) (own0 := own1516) (K := [])
      (bs := [0, 1, 0])
      (ds := [⟨[], [1], [], Fct.val 9 (.slice Al2 l2.length cl2)⟩,
      ⟨[0], [], [], Fct.val 10 (.int .i64 (l2.length : Int))⟩,
      ⟨[], [], [], Fct.val 11 (.int .i64 0)⟩]) (by kernel_rfl) hz1516 hd1516 (fun _ h => nomatch h) ?_ ?_
  · refine steps_cons (fun own a wx hf hsl hE => ?_) ?_
    · obtain ⟨s_1, -⟩ := hsl
      exact sg_plain rfl rfl (or_move (s_1.trans e1516_1))
    refine steps_cons (fun own a wx hf hsl hE => ?_) ?_
    · obtain ⟨(f_9 : a.eval (.tmp 9) = .slice Al2 l2.length cl2), -⟩ := hf
      exact sg_plain rfl rfl (or_len tu22 f_9 rfl)
    refine steps_cons (fun own a wx hf hsl hE => ?_) ?_
    · exact sg_plain rfl rfl (or_move rfl)
    exact steps_nil
  intro own1518 a1518 w1518 hd1518 hz1518 hk1518 hf1518 hE1518
  have e1518_0 : a1518.eval (.tmp 0) = .pointer (some ⟨gh1, 0, none⟩) := (hk1518 0 rfl).trans e1516_0
  have e1518_5 : a1518.eval (.tmp 5) = .int .i64 0 := (hk1518 5 rfl).trans e1516_5
  obtain ⟨(f_9 : a1518.eval (.tmp 9) = .slice Al2 l2.length cl2), (f_10 : a1518.eval (.tmp 10) = .int .i64 (l2.length : Int)), (f_11 : a1518.eval (.tmp 11) = .int .i64 0), -⟩ := hf1518 [0, 1, 2] rfl
  have e1518_9 := f_9
  have e1518_10 := f_10
  have e1518_11 := f_11
  have hX1518 := Evo.step hX1516 hown hE1518 rfl
  have b1518_Ah1_0 := RwO.evo rfl hE1518 b1516_Ah1_0
  have b1518_gh1 := BlkO.evo (by decide) hE1518 b1516_gh1
  have b1518_Al2 := RdO.evo rfl hE1518 b1516_Al2
  refine fl_block (fun Q1519 hn1519 hx1519 hp1519 => ?_)
  refine fl_loop (body := (fun s => heap_Heap_Drop_b1 l2 s.1 s.2.1 s.2.2)) (z := r) (show loopO _ _ = _ from hs) (fun (s : (List (Int × Int × Int)) × Int × Int) a wx => match s with | (h2019, n2021, x2022) => ∃ (ox : Own) (A2017 : Option Addr) (c2018 : Nat), a.defers = [] ∧ a.tmps.size = 40 ∧ a.eval (.tmp 0) = .pointer (some ⟨gh1, 0, none⟩) ∧ a.eval (.tmp 5) = .int .i64 n2021 ∧ a.eval (.tmp 9) = .slice Al2 l2.length cl2 ∧ a.eval (.tmp 10) = .int .i64 (l2.length : Int) ∧ a.eval (.tmp 11) = .int .i64 x2022 ∧ Evo [1, 2] own ox w wx ∧ BlkO ox 2016 wx gh1 th1 #[.slice A2017 h2019.length c2018] ∧ RwO ox 2020 [] wx 30 R30 A2017 c2018 h2019 ∧ RdO ox [0] wx R30 Al2 cl2 l2) ?_ ?_
  · exact ⟨(rl [(1, 2016), (2, 2020)] own1518), Ah1_0, ch1_0, hd1518, hz1518, e1518_0, e1518_5, e1518_9, e1518_10, e1518_11, (Evo.rl_ hX1518 hown rfl), (BlkO.rl_ (mm := [(1, 2016), (2, 2020)]) b1518_gh1), (RwO.rl_ (mm := [(1, 2016), (2, 2020)]) b1518_Ah1_0), (RdO.rl_ (mm := [(1, 2016), (2, 2020)]) b1518_Al2)⟩
  · rintro ⟨h2019, n2021, x2022⟩ zz2519 a2519 w2519 ⟨own2519, A2017, c2018, hd2520, hz2520, e2520_0, e2520_5, e2520_9, e2520_10, e2520_11, hE2520, b2520_gh1, b2520_A2017, b2520_Al2⟩ hs Q2519 hn2519 hp2519 hz2519
    have hs : heap_Heap_Drop_b1 l2 h2019 n2021 x2022 = some zz2519 := hs
    refine rg_plain_seq (n := 40) (rs := []) (own0 := own2519) (K := [])
        (bs := [0])
        (ds := [⟨[], [11, 10], [], Fct.val 12 (.bool (decide (x2022 < (l2.length : Int))))⟩]) (by kernel_rfl) hz2520 hd2520 (fun _ h => nomatch h) ?_ ?_
    · refine steps_cons (fun own a wx hf hsl hE => ?_) ?_
      · obtain ⟨s_11, s_10, -⟩ := hsl
        exact sg_plain rfl rfl (or_lss (s_11.trans e2520_11) (s_10.trans e2520_10) rfl)
      exact steps_nil
    intro own2521 a2521 w2521 hd2521 hz2521 hk2521 hf2521 hE2521
    have e2521_0 : a2521.eval (.tmp 0) = .pointer (some ⟨gh1, 0, none⟩) := (hk2521 0 rfl).trans e2520_0
    have e2521_5 : a2521.eval (.tmp 5) = .int .i64 n2021 := (hk2521 5 rfl).trans e2520_5
    have e2521_9 : a2521.eval (.tmp 9) = .slice Al2 l2.length cl2 := (hk2521 9 rfl).trans e2520_9
    have e2521_10 : a2521.eval (.tmp 10) = .int .i64 (l2.length : Int) := (hk2521 10 rfl).trans e2520_10
    have e2521_11 : a2521.eval (.tmp 11) = .int .i64 x2022 := (hk2521 11 rfl).trans e2520_11
    obtain ⟨(f_12 : a2521.eval (.tmp 12) = .bool (decide (x2022 < (l2.length : Int)))), -⟩ := hf2521 [0] rfl
    have e2521_12 := f_12
    have hX2521 := Evo.step hE2520 hown hE2521 rfl
    have b2521_gh1 := BlkO.evo (by decide) hE2521 b2520_gh1
    have b2521_A2017 := RwO.evo rfl hE2521 b2520_A2017
    have b2521_Al2 := RdO.evo rfl hE2521 b2520_Al2
    refine fl_seq (fun Q2522 hn2522 hp2522 => ?_)
    refine fl_cond e2521_12 hs (fun c2523 hs => ?_) (fun c2523 hs => ?_)
    · refine fl_skip ?_
      refine hn2522 _ _ ?_
      refine fl_seq (fun Q2524 hn2524 hp2524 => ?_)
      refine fl_block (fun Q2770 hn2770 hx2770 hp2770 => ?_)
      obtain ⟨x2893, hx2893, hs⟩ := obind hs
      refine rg_plain_seq (n := 40) (rs := []) (own0 := own2521) (K := [2895])
          (bs := [0, 1, 0, 7])
          (ds := [⟨[], [9, 11], [], Fct.val 13 (.pointer (some ((adr Al2).add ((x2022 : Int).toNat * R30.s))))⟩,
          ⟨[0], [], [], Fct.val 14 (.agg #[.int .i64 x2893.1, .int .i64 x2893.2.1, .int .i64 x2893.2.2])⟩,
          ⟨[], [], [], Fct.blk 2895 7 (fun g => .pointer (some ⟨g, 0, none⟩)) 30 #[.int .i64 0, .int .i64 0, .int .i64 0]⟩,
          ⟨[2, 1], [], [2895], Fct.blk 2896 7 (fun g => .pointer (some ⟨g, 0, none⟩)) 30 #[.int .i64 x2893.1, .int .i64 x2893.2.1, .int .i64 x2893.2.2]⟩]) (by kernel_rfl) hz2521 hd2521 (fun _ h => nomatch h) ?_ ?_
      · refine steps_cons (fun own a wx hf hsl hE => ?_) ?_
        · obtain ⟨s_9, s_11, -⟩ := hsl
          exact sg_plain rfl rfl (or_index (R := R30) (l := l2) tl22 (s_9.trans e2521_9) (s_11.trans e2521_11) (RdO.some_ b2521_Al2 hx2893) hx2893)
        refine steps_cons (fun own a wx hf hsl hE => ?_) ?_
        · obtain ⟨(f_13 : a.eval (.tmp 13) = .pointer (some ((adr Al2).add ((x2022 : Int).toNat * R30.s)))), -⟩ := hf
          exact sg_plain rfl rfl (or_load (l := E30.f x2893) ta30 f_13 (RdO.cells (F := E30) (RdO.evo rfl hE b2521_Al2) hx2893) rfl)
        refine steps_cons (fun own a wx hf hsl hE => ?_) ?_
        · exact sg_plain rfl rfl (or_new [] rfl rfl trivial (by kernel_rfl))
        refine steps_cons (fun own a wx hf hsl hE => ?_) ?_
        · obtain ⟨⟨g2894, (f_7 : a.eval (.tmp 7) = .pointer (some ⟨g2894, 0, none⟩)), (b_g2894 : BlkO own 2895 wx g2894 30 #[.int .i64 0, .int .i64 0, .int .i64 0])⟩, (f_14 : a.eval (.tmp 14) = .agg #[.int .i64 x2893.1, .int .i64 x2893.2.1, .int .i64 x2893.2.2]), -⟩ := hf
          exact sg_plain rfl rfl (or_store (l := #[.int .i64 x2893.1, .int .i64 x2893.2.1, .int .i64 x2893.2.2]) (lab := 2895) (lab2 := 2896) ts30 f_7 f_14 b_g2894 (by simp) (by kernel_rfl) (mem_of rfl) (by decide) (by kernel_rfl) (fun own' a' w' ha hb => ⟨_, (ha 7).trans f_7, hb⟩))
        exact steps_nil
      intro own2897 a2897 w2897 hd2897 hz2897 hk2897 hf2897 hE2897
      have e2897_0 : a2897.eval (.tmp 0) = .pointer (some ⟨gh1, 0, none⟩) := (hk2897 0 rfl).trans e2521_0
      have e2897_5 : a2897.eval (.tmp 5) = .int .i64 n2021 := (hk2897 5 rfl).trans e2521_5
      have e2897_9 : a2897.eval (.tmp 9) = .slice Al2 l2.length cl2 := (hk2897 9 rfl).trans e2521_9
      have e2897_10 : a2897.eval (.tmp 10) = .int .i64 (l2.length : Int) := (hk2897 10 rfl).trans e2521_10
      have e2897_11 : a2897.eval (.tmp 11) = .int .i64 x2022 := (hk2897 11 rfl).trans e2521_11
      obtain ⟨⟨g2894, (f_7 : a2897.eval (.tmp 7) = .pointer (some ⟨g2894, 0, none⟩)), (b_g2894 : BlkO own2897 2896 w2897 g2894 30 #[.int .i64 x2893.1, .int .i64 x2893.2.1, .int .i64 x2893.2.2])⟩, -⟩ := hf2897 [3] rfl
      have e2897_7 := f_7
      have hX2897 := Evo.step hX2521 hown hE2897 rfl
      have b2897_gh1 := BlkO.evo (by decide) hE2897 b2521_gh1
      have b2897_A2017 := RwO.evo rfl hE2897 b2521_A2017
      have b2897_Al2 := RdO.evo rfl hE2897 b2521_Al2
      have b2897_g2894 := b_g2894
      obtain ⟨r2898, hr2898, hs⟩ := obind hs
      refine rg_plain_seq (n := 40) (rs := []) (own0 := own2897) (K := [])
          (bs := [0, 1, 0])
          (ds := [⟨[], [0], [], Fct.val 15 (.pointer (some ⟨gh1, 0, none⟩))⟩,
          ⟨[0], [], [], Fct.val 16 (.int .i64 r2898)⟩,
          ⟨[], [], [], Fct.val 17 (.int .i64 0)⟩]) (by kernel_rfl) hz2897 hd2897 (fun _ h => nomatch h) ?_ ?_
      · refine steps_cons (fun own a wx hf hsl hE => ?_) ?_
        · obtain ⟨s_0, -⟩ := hsl
          exact sg_plain rfl rfl (or_move (s_0.trans e2897_0))
        refine steps_cons (fun own a wx hf hsl hE => ?_) ?_
        · obtain ⟨(f_15 : a.eval (.tmp 15) = .pointer (some ⟨gh1, 0, none⟩)), -⟩ := hf
          exact sg_plain rfl rfl (or_call cf11 (args1 f_15) (heap_Heap_Len_w _ h2019 gh1 th1 A2017 c2018 (BlkO.zero_ (BlkO.evo (by decide) hE b2897_gh1)) (RdO.zero (RwO.rd (RwO.evo rfl hE b2897_A2017))) r2898 hr2898) post_val)
        refine steps_cons (fun own a wx hf hsl hE => ?_) ?_
        · exact sg_plain rfl rfl (or_move rfl)
        exact steps_nil
      intro own2899 a2899 w2899 hd2899 hz2899 hk2899 hf2899 hE2899
      have e2899_0 : a2899.eval (.tmp 0) = .pointer (some ⟨gh1, 0, none⟩) := (hk2899 0 rfl).trans e2897_0
      have e2899_5 : a2899.eval (.tmp 5) = .int .i64 n2021 := (hk2899 5 rfl).trans e2897_5
      have e2899_7 : a2899.eval (.tmp 7) = .pointer (some ⟨g2894, 0, none⟩) := (hk2899 7 rfl).trans e2897_7
      have e2899_9 : a2899.eval (.tmp 9) = .slice Al2 l2.length cl2 := (hk2899 9 rfl).trans e2897_9
      have e2899_10 : a2899.eval (.tmp 10) = .int .i64 (l2.length : Int) := (hk2899 10 rfl).trans e2897_10
      have e2899_11 : a2899.eval (.tmp 11) = .int .i64 x2022 := (hk2899 11 rfl).trans e2897_11
      obtain ⟨(f_16 : a2899.eval (.tmp 16) = .int .i64 r2898), (f_17 : a2899.eval (.tmp 17) = .int .i64 0), -⟩ := hf2899 [1, 2] rfl
      have e2899_16 := f_16
      have e2899_17 := f_17
      have hX2899 := Evo.step hX2897 hown hE2899 rfl
      have b2899_gh1 := BlkO.evo (by decide) hE2899 b2897_gh1
      have b2899_A2017 := RwO.evo rfl hE2899 b2897_A2017
      have b2899_Al2 := RdO.evo rfl hE2899 b2897_Al2
      have b2899_g2894 := BlkO.evo (by decide) hE2899 b2897_g2894
      refine fl_block (fun Q2900 hn2900 hx2900 hp2900 => ?_)
      have K2960 : ∀ (a2960 : Act) (w2960 : World) (own2960 : Own) (h2957 : List (Int × Int × Int)) (n2959 : Int) (A2955 : Option Addr) (c2956 : Nat), a2960.defers = [] → a2960.tmps.size = 40 → a2960.eval (.tmp 0) = .pointer (some ⟨gh1, 0, none⟩) → a2960.eval (.tmp 5) = .int .i64 n2959 → a2960.eval (.tmp 9) = .slice Al2 l2.length cl2 → a2960.eval (.tmp 10) = .int .i64 (l2.length : Int) → a2960.eval (.tmp 11) = .int .i64 x2022 → Evo [1, 2] own own2960 w w2960 → BlkO own2960 2954 w2960 gh1 th1 #[.slice A2955 h2957.length c2956] → RwO own2960 2958 [] w2960 30 R30 A2955 c2956 h2957 → RdO own2960 [0] w2960 R30 Al2 cl2 l2 → heap_Heap_Drop_k2 x2022 h2957 n2959 = some zz2519 → (Q2900 .normal a2960 w2960 ∧ Q2900 (.exit 2) a2960 w2960) := by
        intro a2960 w2960 own2960 h2957 n2959 A2955 c2956 hd2961 hz2961 e2961_0 e2961_5 e2961_9 e2961_10 e2961_11 hE2961 b2961_gh1 b2961_A2955 b2961_Al2 hs
        refine and_both (hn2900 _ _) (hx2900 _ _) ?_
        refine hn2770 _ _ ?_
        refine hn2524 _ _ ?_
        refine rg_plain (n := 40) (rs := []) (own0 := own2960) (K := [])
            (bs := [0, 1])
            (ds := [⟨[], [11], [], Fct.val 38 (.int .i64 (ad x2022 1))⟩,
            ⟨[0], [], [], Fct.val 11 (.int .i64 (ad x2022 1))⟩]) (by kernel_rfl) hz2961 hd2961 (fun _ h => nomatch h) ?_ ?_
        · refine steps_cons (fun own a wx hf hsl hE => ?_) ?_
          · obtain ⟨s_11, -⟩ := hsl
            exact sg_plain rfl rfl (or_add (s_11.trans e2961_11) rfl rfl)
          refine steps_cons (fun own a wx hf hsl hE => ?_) ?_
          · obtain ⟨(f_38 : a.eval (.tmp 38) = .int .i64 (ad x2022 1)), -⟩ := hf
            exact sg_plain rfl rfl (or_move f_38)
          exact steps_nil
        intro own2962 a2962 w2962 hd2962 hz2962 hk2962 hf2962 hE2962
        have e2962_0 : a2962.eval (.tmp 0) = .pointer (some ⟨gh1, 0, none⟩) := (hk2962 0 rfl).trans e2961_0
        have e2962_5 : a2962.eval (.tmp 5) = .int .i64 n2959 := (hk2962 5 rfl).trans e2961_5
        have e2962_9 : a2962.eval (.tmp 9) = .slice Al2 l2.length cl2 := (hk2962 9 rfl).trans e2961_9
        have e2962_10 : a2962.eval (.tmp 10) = .int .i64 (l2.length : Int) := (hk2962 10 rfl).trans e2961_10
        obtain ⟨(f_11 : a2962.eval (.tmp 11) = .int .i64 (ad x2022 1)), -⟩ := hf2962 [1] rfl
        have e2962_11 := f_11
        have hX2962 := Evo.step hE2961 hown hE2962 rfl
        have b2962_gh1 := BlkO.evo (by decide) hE2962 b2961_gh1
        have b2962_A2955 := RwO.evo rfl hE2962 b2961_A2955
        have b2962_Al2 := RdO.evo rfl hE2962 b2961_Al2
        exact hn2519 _ _ _ hs ⟨(rl [(2954, 2016), (2958, 2020)] own2962), A2955, c2956, hd2962, hz2962, e2962_0, e2962_5, e2962_9, e2962_10, e2962_11, (Evo.rl_ hX2962 hown rfl), (BlkO.rl_ (mm := [(2954, 2016), (2958, 2020)]) b2962_gh1), (RwO.rl_ (mm := [(2954, 2016), (2958, 2020)]) b2962_A2955), (RdO.rl_ (mm := [(2954, 2016), (2958, 2020)]) b2962_Al2)⟩
      refine fl_loop (body := (fun s => heap_Heap_Drop_b3 h2019 n2021 x2022 x2893 r2898 s)) (z := zz2519) (show loopO _ _ = _ from hs) (fun (x2980 : Int) a wx => ∃ (ox : Own), a.defers = [] ∧ a.tmps.size = 40 ∧ a.eval (.tmp 0) = .pointer (some ⟨gh1, 0, none⟩) ∧ a.eval (.tmp 5) = .int .i64 n2021 ∧ a.eval (.tmp 7) = .pointer (some ⟨g2894, 0, none⟩) ∧ a.eval (.tmp 9) = .slice Al2 l2.length cl2 ∧ a.eval (.tmp 10) = .int .i64 (l2.length : Int) ∧ a.eval (.tmp 11) = .int .i64 x2022 ∧ a.eval (.tmp 16) = .int .i64 r2898 ∧ a.eval (.tmp 17) = .int .i64 x2980 ∧ Evo [1, 2] own ox w wx ∧ BlkO ox 2016 wx gh1 th1 #[.slice A2017 h2019.length c2018] ∧ RwO ox 2020 [] wx 30 R30 A2017 c2018 h2019 ∧ BlkO ox 2896 wx g2894 30 #[.int .i64 x2893.1, .int .i64 x2893.2.1, .int .i64 x2893.2.2] ∧ RdO ox [0] wx R30 Al2 cl2 l2) ?_ ?_
      · exact ⟨own2899, hd2899, hz2899, e2899_0, e2899_5, e2899_7, e2899_9, e2899_10, e2899_11, e2899_16, e2899_17, hX2899, b2899_gh1, b2899_A2017, b2899_g2894, b2899_Al2⟩
      · rintro x2980 zz2998 a2998 w2998 ⟨own2998, hd2999, hz2999, e2999_0, e2999_5, e2999_7, e2999_9, e2999_10, e2999_11, e2999_16, e2999_17, hE2999, b2999_gh1, b2999_A2017, b2999_g2894, b2999_Al2⟩ hs Q2998 hn2998 hp2998 hz2998
        have hs : heap_Heap_Drop_b3 h2019 n2021 x2022 x2893 r2898 x2980 = some zz2998 := hs
        refine rg_plain_seq (n := 40) (rs := []) (own0 := own2998) (K := [])
            (bs := [0])
            (ds := [⟨[], [17, 16], [], Fct.val 18 (.bool (decide (x2980 < r2898)))⟩]) (by kernel_rfl) hz2999 hd2999 (fun _ h => nomatch h) ?_ ?_
        · refine steps_cons (fun own a wx hf hsl hE => ?_) ?_
          · obtain ⟨s_17, s_16, -⟩ := hsl
            exact sg_plain rfl rfl (or_lss (s_17.trans e2999_17) (s_16.trans e2999_16) rfl)
          exact steps_nil
        intro own3000 a3000 w3000 hd3000 hz3000 hk3000 hf3000 hE3000
        have e3000_0 : a3000.eval (.tmp 0) = .pointer (some ⟨gh1, 0, none⟩) := (hk3000 0 rfl).trans e2999_0
        have e3000_5 : a3000.eval (.tmp 5) = .int .i64 n2021 := (hk3000 5 rfl).trans e2999_5
        have e3000_7 : a3000.eval (.tmp 7) = .pointer (some ⟨g2894, 0, none⟩) := (hk3000 7 rfl).trans e2999_7
        have e3000_9 : a3000.eval (.tmp 9) = .slice Al2 l2.length cl2 := (hk3000 9 rfl).trans e2999_9
        have e3000_10 : a3000.eval (.tmp 10) = .int .i64 (l2.length : Int) := (hk3000 10 rfl).trans e2999_10
        have e3000_11 : a3000.eval (.tmp 11) = .int .i64 x2022 := (hk3000 11 rfl).trans e2999_11
        have e3000_16 : a3000.eval (.tmp 16) = .int .i64 r2898 := (hk3000 16 rfl).trans e2999_16
        have e3000_17 : a3000.eval (.tmp 17) = .int .i64 x2980 := (hk3000 17 rfl).trans e2999_17
        obtain ⟨(f_18 : a3000.eval (.tmp 18) = .bool (decide (x2980 < r2898))), -⟩ := hf3000 [0] rfl
        have e3000_18 := f_18
        have hX3000 := Evo.step hE2999 hown hE3000 rfl
        have b3000_gh1 := BlkO.evo (by decide) hE3000 b2999_gh1
        have b3000_A2017 := RwO.evo rfl hE3000 b2999_A2017
        have b3000_g2894 := BlkO.evo (by decide) hE3000 b2999_g2894
        have b3000_Al2 := RdO.evo rfl hE3000 b2999_Al2
        refine fl_seq (fun Q3001 hn3001 hp3001 => ?_)
        refine fl_cond e3000_18 hs (fun c3002 hs => ?_) (fun c3002 hs => ?_)
        · refine fl_skip ?_
          refine hn3001 _ _ ?_
          refine fl_seq (fun Q3003 hn3003 hp3003 => ?_)
          refine fl_block (fun Q3004 hn3004 hx3004 hp3004 => ?_)
          refine rg_plain_seq (n := 40) (rs := []) (own0 := own3000) (K := [])
              (bs := [0, 1])
              (ds := [⟨[], [17], [], Fct.val 19 (.int .i64 x2980)⟩,
              ⟨[0], [], [], Fct.val 8 (.int .i64 x2980)⟩]) (by kernel_rfl) hz3000 hd3000 (fun _ h => nomatch h) ?_ ?_
          · refine steps_cons (fun own a wx hf hsl hE => ?_) ?_
            · obtain ⟨s_17, -⟩ := hsl
              exact sg_plain rfl rfl (or_move (s_17.trans e3000_17))
            refine steps_cons (fun own a wx hf hsl hE => ?_) ?_
            · obtain ⟨(f_19 : a.eval (.tmp 19) = .int .i64 x2980), -⟩ := hf
              exact sg_plain rfl rfl (or_assign f_19)
            exact steps_nil
          intro own3005 a3005 w3005 hd3005 hz3005 hk3005 hf3005 hE3005
          have e3005_0 : a3005.eval (.tmp 0) = .pointer (some ⟨gh1, 0, none⟩) := (hk3005 0 rfl).trans e3000_0
          have e3005_5 : a3005.eval (.tmp 5) = .int .i64 n2021 := (hk3005 5 rfl).trans e3000_5
          have e3005_7 : a3005.eval (.tmp 7) = .pointer (some ⟨g2894, 0, none⟩) := (hk3005 7 rfl).trans e3000_7
          have e3005_9 : a3005.eval (.tmp 9) = .slice Al2 l2.length cl2 := (hk3005 9 rfl).trans e3000_9
          have e3005_10 : a3005.eval (.tmp 10) = .int .i64 (l2.length : Int) := (hk3005 10 rfl).trans e3000_10
          have e3005_11 : a3005.eval (.tmp 11) = .int .i64 x2022 := (hk3005 11 rfl).trans e3000_11
          have e3005_16 : a3005.eval (.tmp 16) = .int .i64 r2898 := (hk3005 16 rfl).trans e3000_16
          have e3005_17 : a3005.eval (.tmp 17) = .int .i64 x2980 := (hk3005 17 rfl).trans e3000_17
          obtain ⟨(f_8 : a3005.eval (.tmp 8) = .int .i64 x2980), -⟩ := hf3005 [1] rfl
          have e3005_8 := f_8
          have hX3005 := Evo.step hX3000 hown hE3005 rfl
          have b3005_gh1 := BlkO.evo (by decide) hE3005 b3000_gh1
          have b3005_A2017 := RwO.evo rfl hE3005 b3000_A2017
          have b3005_g2894 := BlkO.evo (by decide) hE3005 b3000_g2894
          have b3005_Al2 := RdO.evo rfl hE3005 b3000_Al2
          obtain ⟨x3006, hx3006, hs⟩ := obind hs
          refine rg_draw_seq g_mixed (n := 40) (rs := []) (own0 := own3005) (K := [])
              (bs := [0, 1, 3, 7, 15, 0, 63, 127, 0, 511])
              (ds := [⟨[], [0], [], Fct.val 20 (.pointer (some ⟨gh1, 0, none⟩))⟩,
              ⟨[0], [], [], Fct.val 21 (.pointer (some ⟨gh1, 0, none⟩))⟩,
              ⟨[1], [], [], Fct.val 22 (.pointer (some ⟨gh1, 0, none⟩))⟩,
              ⟨[2], [], [], Fct.val 23 (.pointer (some ⟨gh1, 0, none⟩))⟩,
              ⟨[3], [], [], Fct.val 24 (.slice A2017 h2019.length c2018)⟩,
              ⟨[], [8], [], Fct.val 25 (.int .i64 x2980)⟩,
              ⟨[4, 5], [], [], Fct.val 26 (.pointer (some ((adr A2017).add ((x2980 : Int).toNat * R30.s))))⟩,
              ⟨[6], [], [], Fct.val 27 (.agg #[.int .i64 x3006.1, .int .i64 x3006.2.1, .int .i64 x3006.2.2])⟩,
              ⟨[], [7], [], Fct.val 28 (.agg #[.int .i64 x2893.1, .int .i64 x2893.2.1, .int .i64 x2893.2.2])⟩,
              ⟨[7, 8], [], [], Fct.val 29 (.bool (decide (x3006 = x2893)))⟩]) (by kernel_rfl) hz3005 hd3005 (fun _ h => nomatch h) ?_ ?_
          · refine steps_cons (fun own a wx hf hsl hE => ?_) ?_
            · obtain ⟨s_0, -⟩ := hsl
              exact sg_plain rfl rfl (or_move (s_0.trans e3005_0))
            refine steps_cons (fun own a wx hf hsl hE => ?_) ?_
            · obtain ⟨(f_20 : a.eval (.tmp 20) = .pointer (some ⟨gh1, 0, none⟩)), -⟩ := hf
              exact sg_plain rfl rfl (or_k [(20, .pointer (some ⟨gh1, 0, none⟩))] rfl rfl ⟨f_20, trivial⟩ (by kernel_rfl))
            refine steps_cons (fun own a wx hf hsl hE => ?_) ?_
            · obtain ⟨(f_21 : a.eval (.tmp 21) = .pointer (some ⟨gh1, 0, none⟩)), -⟩ := hf
              exact sg_plain rfl rfl (or_field fo26_0 f_21 (by rfl))
            refine steps_cons (fun own a wx hf hsl hE => ?_) ?_
            · obtain ⟨(f_22 : a.eval (.tmp 22) = .pointer (some ⟨gh1, 0, none⟩)), -⟩ := hf
              exact sg_plain rfl rfl (or_field fo24_0 f_22 (by rfl))
            refine steps_cons (fun own a wx hf hsl hE => ?_) ?_
            · obtain ⟨(f_23 : a.eval (.tmp 23) = .pointer (some ⟨gh1, 0, none⟩)), -⟩ := hf
              exact sg_plain rfl rfl (or_load1 to22 f_23 (Blk.at_ (BlkO.evo (by decide) hE b3005_gh1).2 0 rfl))
            refine steps_cons (fun own a wx hf hsl hE => ?_) ?_
            · obtain ⟨s_8, -⟩ := hsl
              exact sg_plain rfl rfl (or_move (s_8.trans e3005_8))
            refine steps_cons (fun own a wx hf hsl hE => ?_) ?_
            · obtain ⟨(f_24 : a.eval (.tmp 24) = .slice A2017 h2019.length c2018), (f_25 : a.eval (.tmp 25) = .int .i64 x2980), -⟩ := hf
              exact sg_plain rfl rfl (or_index (R := R30) (l := h2019) tl22 f_24 f_25 (RdO.some_ (RwO.rd b3005_A2017) hx3006) hx3006)
            refine steps_cons (fun own a wx hf hsl hE => ?_) ?_
            · obtain ⟨(f_26 : a.eval (.tmp 26) = .pointer (some ((adr A2017).add ((x2980 : Int).toNat * R30.s)))), -⟩ := hf
              exact sg_plain rfl rfl (or_load (l := E30.f x3006) ta30 f_26 (RdO.cells (F := E30) (RwO.rd (RwO.evo rfl hE b3005_A2017)) hx3006) rfl)
            refine steps_cons (fun own a wx hf hsl hE => ?_) ?_
            · obtain ⟨s_7, -⟩ := hsl
              exact sg_plain rfl rfl (or_load (l := [.int .i64 x2893.1, .int .i64 x2893.2.1, .int .i64 x2893.2.2]) ta30 (s_7.trans e3005_7) (Blk.cellsFrom (BlkO.evo (by decide) hE b3005_g2894).2 0 rfl) rfl)
            refine steps_cons (fun own a wx hf hsl hE => ?_) ?_
            · obtain ⟨(f_27 : a.eval (.tmp 27) = .agg #[.int .i64 x3006.1, .int .i64 x3006.2.1, .int .i64 x3006.2.2]), (f_28 : a.eval (.tmp 28) = .agg #[.int .i64 x2893.1, .int .i64 x2893.2.1, .int .i64 x2893.2.2]), -⟩ := hf
              exact sg_plain rfl rfl (or_eqlA sg30 f_27 f_28 (se30 x3006.1 x3006.2.1 x3006.2.2 x2893.1 x2893.2.1 x2893.2.2 _) rfl)
            exact steps_nil
          intro own3007 a3007 w3007 hd3007 hz3007 hk3007 hf3007 hE3007
          have e3007_0 : a3007.eval (.tmp 0) = .pointer (some ⟨gh1, 0, none⟩) := (hk3007 0 rfl).trans e3005_0
          have e3007_5 : a3007.eval (.tmp 5) = .int .i64 n2021 := (hk3007 5 rfl).trans e3005_5
          have e3007_7 : a3007.eval (.tmp 7) = .pointer (some ⟨g2894, 0, none⟩) := (hk3007 7 rfl).trans e3005_7
          have e3007_8 : a3007.eval (.tmp 8) = .int .i64 x2980 := (hk3007 8 rfl).trans e3005_8
          have e3007_9 : a3007.eval (.tmp 9) = .slice Al2 l2.length cl2 := (hk3007 9 rfl).trans e3005_9
          have e3007_10 : a3007.eval (.tmp 10) = .int .i64 (l2.length : Int) := (hk3007 10 rfl).trans e3005_10
          have e3007_11 : a3007.eval (.tmp 11) = .int .i64 x2022 := (hk3007 11 rfl).trans e3005_11
          have e3007_16 : a3007.eval (.tmp 16) = .int .i64 r2898 := (hk3007 16 rfl).trans e3005_16
          have e3007_17 : a3007.eval (.tmp 17) = .int .i64 x2980 := (hk3007 17 rfl).trans e3005_17
          obtain ⟨(f_29 : a3007.eval (.tmp 29) = .bool (decide (x3006 = x2893))), -⟩ := hf3007 [9] rfl
          have e3007_29 := f_29
          have hX3007 := Evo.step hX3005 hown hE3007 rfl
          have b3007_gh1 := BlkO.evo (by decide) hE3007 b3005_gh1
          have b3007_A2017 := RwO.evo rfl hE3007 b3005_A2017
          have b3007_g2894 := BlkO.evo (by decide) hE3007 b3005_g2894
          have b3007_Al2 := RdO.evo rfl hE3007 b3005_Al2
          refine fl_cond e3007_29 hs (fun c3008 hs => ?_) (fun c3008 hs => ?_)
          · obtain ⟨r3009, hr3009, hs⟩ := obind hs
            refine rg_plain_seq (n := 40) (rs := [Fct.at_ 2016 gh1 th1 #[.slice A2017 h2019.length c2018], Fct.rowAt 2020 [] 30 R30 A2017 c2018 h2019]) (own0 := own3007) (K := [2016, 2020])
                (bs := [0, 1, 3, 0, 15])
                (ds := [⟨[], [0], [], Fct.val 30 (.pointer (some ⟨gh1, 0, none⟩))⟩,
                ⟨[0], [], [], Fct.val 31 (.pointer (some ⟨gh1, 0, none⟩))⟩,
                ⟨[1], [], [], Fct.val 32 (.pointer (some ⟨gh1, 0, none⟩))⟩,
                ⟨[], [8], [], Fct.val 33 (.int .i64 x2980)⟩,
                ⟨[2, 3, 5, 6], [], [2016, 2020], Fct.mems [3011, 3012] 34 (fun (x : Option Addr × Nat) => .agg #[.int .i64 r3009.1.1, .int .i64 r3009.1.2.1, .int .i64 r3009.1.2.2]) (fun (x : Option Addr × Nat) own w => RwO own 3011 [] w 30 R30 x.1 x.2 r3009.2 ∧ BlkO own 3012 w gh1 th1 #[.slice x.1 r3009.2.length x.2]) (fun hk he h => ⟨RwO.evo (hits_sub hk (by decide)) he h.1, BlkO.evo (not_hit hk (by decide)) he h.2⟩)⟩]) (by kernel_rfl) hz3007 hd3007 (by simp only [List.forall_mem_cons]; exact ⟨b3007_gh1, b3007_A2017, fun _ h => nomatch h⟩) ?_ ?_
            · refine steps_cons (fun own a wx hf hsl hE => ?_) ?_
              · obtain ⟨s_0, -⟩ := hsl
                exact sg_plain rfl rfl (or_move (s_0.trans e3007_0))
              refine steps_cons (fun own a wx hf hsl hE => ?_) ?_
              · obtain ⟨(f_30 : a.eval (.tmp 30) = .pointer (some ⟨gh1, 0, none⟩)), -⟩ := hf
                exact sg_plain rfl rfl (or_k [(30, .pointer (some ⟨gh1, 0, none⟩))] rfl rfl ⟨f_30, trivial⟩ (by kernel_rfl))
              refine steps_cons (fun own a wx hf hsl hE => ?_) ?_
              · obtain ⟨(f_31 : a.eval (.tmp 31) = .pointer (some ⟨gh1, 0, none⟩)), -⟩ := hf
                exact sg_plain rfl rfl (or_field fo26_0 f_31 (by rfl))
              refine steps_cons (fun own a wx hf hsl hE => ?_) ?_
              · obtain ⟨s_8, -⟩ := hsl
                exact sg_plain rfl rfl (or_move (s_8.trans e3007_8))
              refine steps_cons (fun own a wx hf hsl hE => ?_) ?_
              · obtain ⟨(f_32 : a.eval (.tmp 32) = .pointer (some ⟨gh1, 0, none⟩)), (f_33 : a.eval (.tmp 33) = .int .i64 x2980), (b_gh1 : BlkO own 2016 wx gh1 th1 #[.slice A2017 h2019.length c2018]), (b_A2017 : RwO own 2020 [] wx 30 R30 A2017 c2018 h2019), -⟩ := hf
                exact sg_plain rfl rfl (or_call cf21 (args2 f_32 f_33) (heap_list_take_w _ (forth own (look0 [(2016, 1), (2020, 2)])) h2019 gh1 th1 A2017 c2018 x2980 (look0_le rfl) (BlkO.forth_ (m := (look0 [(2016, 1), (2020, 2)])) b_gh1) (RwO.forth_ (m := (look0 [(2016, 1), (2020, 2)])) b_A2017) r3009 hr3009) (post_mems (m := (look0 [(2016, 1), (2020, 2)])) (m' := (look0 [(1, 3012), (2, 3011)])) (hm_of rfl) (fun own' w' a' x h1 h => ⟨x, h1, ⟨RwO.back_ h.1 (by decide) (.inl (Rep.fl_flat _)), BlkO.back_ h.2 (by decide)⟩⟩)))
              exact steps_nil
            intro own3013 a3013 w3013 hd3013 hz3013 hk3013 hf3013 hE3013
            have e3013_0 : a3013.eval (.tmp 0) = .pointer (some ⟨gh1, 0, none⟩) := (hk3013 0 rfl).trans e3007_0
            have e3013_5 : a3013.eval (.tmp 5) = .int .i64 n2021 := (hk3013 5 rfl).trans e3007_5
            have e3013_9 : a3013.eval (.tmp 9) = .slice Al2 l2.length cl2 := (hk3013 9 rfl).trans e3007_9
            have e3013_10 : a3013.eval (.tmp 10) = .int .i64 (l2.length : Int) := (hk3013 10 rfl).trans e3007_10
            have e3013_11 : a3013.eval (.tmp 11) = .int .i64 x2022 := (hk3013 11 rfl).trans e3007_11
            obtain ⟨⟨⟨A3010, cA3010⟩, (f_34 : a3013.eval (.tmp 34) = .agg #[.int .i64 r3009.1.1, .int .i64 r3009.1.2.1, .int .i64 r3009.1.2.2]), (b_A3010 : RwO own3013 3011 [] w3013 30 R30 A3010 cA3010 r3009.2), (b_gh1 : BlkO own3013 3012 w3013 gh1 th1 #[.slice A3010 r3009.2.length cA3010])⟩, -⟩ := hf3013 [4] rfl
            have hX3013 := Evo.step hX3007 hown hE3013 rfl
            have b3013_Al2 := RdO.evo rfl hE3013 b3007_Al2
            have b3013_gh1 := b_gh1
            have b3013_A3010 := b_A3010
            refine rg_plain_seq (n := 40) (rs := []) (own0 := own3013) (K := [])
                (bs := [0, 1, 3])
                (ds := [⟨[], [5], [], Fct.val 35 (.int .i64 n2021)⟩,
                ⟨[0], [], [], Fct.val 36 (.int .i64 (ad n2021 1))⟩,
                ⟨[1], [], [], Fct.val 5 (.int .i64 (ad n2021 1))⟩]) (by kernel_rfl) hz3013 hd3013 (fun _ h => nomatch h) ?_ ?_
            · refine steps_cons (fun own a wx hf hsl hE => ?_) ?_
              · obtain ⟨s_5, -⟩ := hsl
                exact sg_plain rfl rfl (or_move (s_5.trans e3013_5))
              refine steps_cons (fun own a wx hf hsl hE => ?_) ?_
              · obtain ⟨(f_35 : a.eval (.tmp 35) = .int .i64 n2021), -⟩ := hf
                exact sg_plain rfl rfl (or_add f_35 rfl rfl)
              refine steps_cons (fun own a wx hf hsl hE => ?_) ?_
              · obtain ⟨(f_36 : a.eval (.tmp 36) = .int .i64 (ad n2021 1)), -⟩ := hf
                exact sg_plain rfl rfl (or_assign f_36)
              exact steps_nil
            intro own3014 a3014 w3014 hd3014 hz3014 hk3014 hf3014 hE3014
            have e3014_0 : a3014.eval (.tmp 0) = .pointer (some ⟨gh1, 0, none⟩) := (hk3014 0 rfl).trans e3013_0
            have e3014_9 : a3014.eval (.tmp 9) = .slice Al2 l2.length cl2 := (hk3014 9 rfl).trans e3013_9
            have e3014_10 : a3014.eval (.tmp 10) = .int .i64 (l2.length : Int) := (hk3014 10 rfl).trans e3013_10
            have e3014_11 : a3014.eval (.tmp 11) = .int .i64 x2022 := (hk3014 11 rfl).trans e3013_11
            obtain ⟨(f_5 : a3014.eval (.tmp 5) = .int .i64 (ad n2021 1)), -⟩ := hf3014 [2] rfl
            have e3014_5 := f_5
            have hX3014 := Evo.step hX3013 hown hE3014 rfl
            have b3014_Al2 := RdO.evo rfl hE3014 b3013_Al2
            have b3014_gh1 := BlkO.evo (by decide) hE3014 b3013_gh1
            have b3014_A3010 := RwO.evo rfl hE3014 b3013_A3010
            refine fl_exit ?_
            refine hp3004 _ _ _ rfl ?_
            refine hp3003 _ _ _ rfl ?_
            replace hs := hz2998 _ hs
            refine hp2998 _ _ _ rfl ?_
            exact (K2960 _ _ (rl [(3011, 2958), (3012, 2954)] own3014) _ _ A3010 cA3010 hd3014 hz3014 e3014_0 e3014_5 e3014_9 e3014_10 e3014_11 (Evo.rl_ hX3014 hown rfl) (BlkO.rl_ (mm := [(3011, 2958), (3012, 2954)]) b3014_gh1) (RwO.rl_ (mm := [(3011, 2958), (3012, 2954)]) b3014_A3010) (RdO.rl_ (mm := [(3011, 2958), (3012, 2954)]) b3014_Al2) hs).2
          refine fl_skip ?_
          refine hn3004 _ _ ?_
          refine hn3003 _ _ ?_
          refine rg_plain (n := 40) (rs := []) (own0 := own3007) (K := [])
              (bs := [0, 1])
              (ds := [⟨[], [17], [], Fct.val 37 (.int .i64 (ad x2980 1))⟩,
              ⟨[0], [], [], Fct.val 17 (.int .i64 (ad x2980 1))⟩]) (by kernel_rfl) hz3007 hd3007 (fun _ h => nomatch h) ?_ ?_
          · refine steps_cons (fun own a wx hf hsl hE => ?_) ?_
            · obtain ⟨s_17, -⟩ := hsl
              exact sg_plain rfl rfl (or_add (s_17.trans e3007_17) rfl rfl)
            refine steps_cons (fun own a wx hf hsl hE => ?_) ?_
            · obtain ⟨(f_37 : a.eval (.tmp 37) = .int .i64 (ad x2980 1)), -⟩ := hf
              exact sg_plain rfl rfl (or_move f_37)
            exact steps_nil
          intro own3015 a3015 w3015 hd3015 hz3015 hk3015 hf3015 hE3015
          have e3015_0 : a3015.eval (.tmp 0) = .pointer (some ⟨gh1, 0, none⟩) := (hk3015 0 rfl).trans e3007_0
          have e3015_5 : a3015.eval (.tmp 5) = .int .i64 n2021 := (hk3015 5 rfl).trans e3007_5
          have e3015_7 : a3015.eval (.tmp 7) = .pointer (some ⟨g2894, 0, none⟩) := (hk3015 7 rfl).trans e3007_7
          have e3015_9 : a3015.eval (.tmp 9) = .slice Al2 l2.length cl2 := (hk3015 9 rfl).trans e3007_9
          have e3015_10 : a3015.eval (.tmp 10) = .int .i64 (l2.length : Int) := (hk3015 10 rfl).trans e3007_10
          have e3015_11 : a3015.eval (.tmp 11) = .int .i64 x2022 := (hk3015 11 rfl).trans e3007_11
          have e3015_16 : a3015.eval (.tmp 16) = .int .i64 r2898 := (hk3015 16 rfl).trans e3007_16
          obtain ⟨(f_17 : a3015.eval (.tmp 17) = .int .i64 (ad x2980 1)), -⟩ := hf3015 [1] rfl
          have e3015_17 := f_17
          have hX3015 := Evo.step hX3007 hown hE3015 rfl
          have b3015_gh1 := BlkO.evo (by decide) hE3015 b3007_gh1
          have b3015_A2017 := RwO.evo rfl hE3015 b3007_A2017
          have b3015_g2894 := BlkO.evo (by decide) hE3015 b3007_g2894
          have b3015_Al2 := RdO.evo rfl hE3015 b3007_Al2
          exact hn2998 _ _ _ hs ⟨own3015, hd3015, hz3015, e3015_0, e3015_5, e3015_7, e3015_9, e3015_10, e3015_11, e3015_16, e3015_17, hX3015, b3015_gh1, b3015_A2017, b3015_g2894, b3015_Al2⟩
        refine fl_exit ?_
        refine hp3001 _ _ _ rfl ?_
        replace hs := hz2998 _ hs
        refine hp2998 _ _ _ rfl ?_
        exact (K2960 _ _ (rl [(2016, 2954), (2020, 2958)] own3000) _ _ A2017 c2018 hd3000 hz3000 e3000_0 e3000_5 e3000_9 e3000_10 e3000_11 (Evo.rl_ hX3000 hown rfl) (BlkO.rl_ (mm := [(2016, 2954), (2020, 2958)]) b3000_gh1) (RwO.rl_ (mm := [(2016, 2954), (2020, 2958)]) b3000_A2017) (RdO.rl_ (mm := [(2016, 2954), (2020, 2958)]) b3000_Al2) hs).2
    refine fl_exit ?_
    refine hp2522 _ _ _ rfl ?_
    replace hs := hz2519 _ hs
    refine hp2519 _ _ _ rfl ?_
    refine hx1519 _ _ ?_
    refine hn1517 _ _ ?_
    refine rg_plain_seq (n := 40) (rs := []) (own0 := own2521) (K := [])
        (bs := [0, 1])
        (ds := [⟨[], [5], [], Fct.val 39 (.int .i64 n2021)⟩,
        ⟨[0], [], [], Fct.val 4 (.int .i64 n2021)⟩]) (by kernel_rfl) hz2521 hd2521 (fun _ h => nomatch h) ?_ ?_
    · refine steps_cons (fun own a wx hf hsl hE => ?_) ?_
      · obtain ⟨s_5, -⟩ := hsl
        exact sg_plain rfl rfl (or_move (s_5.trans e2521_5))
      refine steps_cons (fun own a wx hf hsl hE => ?_) ?_
      · obtain ⟨(f_39 : a.eval (.tmp 39) = .int .i64 n2021), -⟩ := hf
        exact sg_plain rfl rfl (or_assign f_39)
      exact steps_nil
    intro own3016 a3016 w3016 hd3016 hz3016 hk3016 hf3016 hE3016
    have e3016_0 : a3016.eval (.tmp 0) = .pointer (some ⟨gh1, 0, none⟩) := (hk3016 0 rfl).trans e2521_0
    obtain ⟨(f_4 : a3016.eval (.tmp 4) = .int .i64 n2021), -⟩ := hf3016 [1] rfl
    have e3016_4 := f_4
    have hX3016 := Evo.step hX2521 hown hE3016 rfl
    have b3016_gh1 := BlkO.evo (by decide) hE3016 b2521_gh1
    have b3016_A2017 := RwO.evo rfl hE3016 b2521_A2017
    refine fl_ret ?_
    obtain rfl := osome hs
    exact hret _ _ _ _ (.inl rfl) hd3016 (results1_ rfl (RVal.tmp_ e3016_4)) ⟨(rl [(2016, 1), (2020, 2)] own3016), (A2017, c2018), rfl, (Evo.rl_ hX3016 hown rfl), (RwO.rl_ (mm := [(2016, 1), (2020, 2)]) b3016_A2017), (BlkO.rl_ (mm := [(2016, 1), (2020, 2)]) b3016_gh1)⟩

theorem heap_Sort_w (w : World) (l1 : List (Int × Int × Int)) (Al1 : Option Addr) (cl1 : Nat) (hl1 : RdO (fun _ => 0) [0] w R30 Al1 cl1 l1) (r : List (Int × Int × Int)) (hs : heap_Sort l1 = some r) :
    Calls Try.prog 7 #[.slice Al1 l1.length cl1] w fun e w' => ∃ (own' : Own) (x : Option Addr × Nat), e = .returned (.slice x.1 r.length x.2) ∧ Evo [] (fun _ => 0) own' w w' ∧ RwO own' 1 [] w' 30 R30 x.1 x.2 r := by
  refine fl_enter (n := 24) rfl rfl rfl (Nat.le_of_ble_eq_true rfl) ?_
  intro a0 Q hd0 hz0 harg hret
  have ha0 := harg 0 _ rfl
  clear harg
  have hE0 : Evo [] (fun _ => 0) (fun _ => 0) w w := Evo.refl _ _ _
  refine rg_plain_seq (n := 24) (rs := []) (own0 := (fun _ => 0)) (K := [])
      (bs := [0])
      (ds := [⟨[], [], [], Fct.val 2 (.slice none 0 0)⟩]) (by kernel_rfl) hz0 hd0 (fun _ h => nomatch h) ?_ ?_
  · refine steps_cons (fun own a wx hf hsl hE => ?_) ?_
    · exact sg_plain rfl rfl (or_assign rfl)
    exact steps_nil
  intro own135 a135 w135 hd135 hz135 hk135 hf135 hE135
  have e135_0 : a135.eval (.tmp 0) = .slice Al1 l1.length cl1 := (hk135 0 rfl).trans ha0
  have hX135 := Evo.step hE0 (fun _ => Nat.le_refl 0) hE135 rfl
  have b135_Al1 := RdO.evo rfl hE135 hl1
  refine rg_plain_seq (n := 24) (rs := []) (own0 := own135) (K := [])
      (bs := [0])
      (ds := [⟨[], [], [], Fct.blk 137 3 (fun g => .pointer (some ⟨g, 0, none⟩)) 26 #[.slice none 0 0]⟩]) (by kernel_rfl) hz135 hd135 (fun _ h => nomatch h) ?_ ?_
  · refine steps_cons (fun own a wx hf hsl hE => ?_) ?_
    · exact sg_plain rfl rfl (or_new [] rfl rfl trivial (by kernel_rfl))
    exact steps_nil
  intro own138 a138 w138 hd138 hz138 hk138 hf138 hE138
  have e138_0 : a138.eval (.tmp 0) = .slice Al1 l1.length cl1 := (hk138 0 rfl).trans e135_0
  obtain ⟨⟨g136, (f_3 : a138.eval (.tmp 3) = .pointer (some ⟨g136, 0, none⟩)), (b_g136 : BlkO own138 137 w138 g136 26 #[.slice none 0 0])⟩, -⟩ := hf138 [0] rfl
  have e138_3 := f_3
  have hX138 := Evo.step hX135 (fun _ => Nat.le_refl 0) hE138 rfl
  have b138_Al1 := RdO.evo rfl hE138 b135_Al1
  have b138_g136 := b_g136
  obtain ⟨r139, hr139, hs⟩ := obind hs
  refine rg_plain_seq (n := 24) (rs := [Fct.at_ 137 g136 26 #[.slice none 0 0]]) (own0 := own138) (K := [137])
      (bs := [0, 1])
      (ds := [⟨[], [0], [], Fct.val 7 (.slice Al1 l1.length cl1)⟩,
      ⟨[0, 2], [3], [137], Fct.mems [141, 142] 8 (fun (x : Option Addr × Nat) => .int .i64 r139.1) (fun (x : Option Addr × Nat) own w => RwO own 141 [] w 30 R30 x.1 x.2 r139.2 ∧ BlkO own 142 w g136 26 #[.slice x.1 r139.2.length x.2]) (fun hk he h => ⟨RwO.evo (hits_sub hk (by decide)) he h.1, BlkO.evo (not_hit hk (by decide)) he h.2⟩)⟩]) (by kernel_rfl) hz138 hd138 (by simp only [List.forall_mem_cons]; exact ⟨b138_g136, fun _ h => nomatch h⟩) ?_ ?_
  · refine steps_cons (fun own a wx hf hsl hE => ?_) ?_
    · obtain ⟨s_0, -⟩ := hsl
      exact sg_plain rfl rfl (or_move (s_0.trans e138_0))
    refine steps_cons (fun own a wx hf hsl hE => ?_) ?_
    · obtain ⟨(f_7 : a.eval (.tmp 7) = .slice Al1 l1.length cl1), (b_g136 : BlkO own 137 wx g136 26 #[.slice none 0 0]), -⟩ := hf
      obtain ⟨s_3, -⟩ := hsl
      exact sg_plain rfl rfl (or_call cf6 (args2 (s_3.trans e138_3) f_7) (heap_Heap_Push_w _ (forth own (look0 [(137, 1)])) [] g136 26 none 0 l1 Al1 cl1 (look0_le rfl) (BlkO.forth_ (m := (look0 [(137, 1)])) b_g136) RwO.nil_ (RdO.forth_ (m := (look0 [(137, 1)])) (RdO.evo rfl hE b138_Al1)) r139 hr139) (post_mems (m := (look0 [(137, 1)])) (m' := (look0 [(1, 142), (2, 141)])) (hm_of rfl) (fun own' w' a' x h1 h => ⟨x, h1, ⟨RwO.back_ h.1 (by decide) (.inl (Rep.fl_flat _)), BlkO.back_ h.2 (by decide)⟩⟩)))
    exact steps_nil
  intro own143 a143 w143 hd143 hz143 hk143 hf143 hE143
  have e143_3 : a143.eval (.tmp 3) = .pointer (some ⟨g136, 0, none⟩) := (hk143 3 rfl).trans e138_3
  obtain ⟨⟨⟨A140, cA140⟩, (f_8 : a143.eval (.tmp 8) = .int .i64 r139.1), (b_A140 : RwO own143 141 [] w143 30 R30 A140 cA140 r139.2), (b_g136 : BlkO own143 142 w143 g136 26 #[.slice A140 r139.2.length cA140])⟩, -⟩ := hf143 [1] rfl
  have hX143 := Evo.step hX138 (fun _ => Nat.le_refl 0) hE143 rfl
  have b143_g136 := b_g136
  have b143_A140 := b_A140
  refine rg_plain_seq (n := 24) (rs := []) (own0 := own143) (K := [])
      (bs := [0])
      (ds := [⟨[], [], [], Fct.val 4 (.slice none 0 0)⟩]) (by kernel_rfl) hz143 hd143 (fun _ h => nomatch h) ?_ ?_
  · refine steps_cons (fun own a wx hf hsl hE => ?_) ?_
    · exact sg_plain rfl rfl (or_assign rfl)
    exact steps_nil
  intro own144 a144 w144 hd144 hz144 hk144 hf144 hE144
  have e144_3 : a144.eval (.tmp 3) = .pointer (some ⟨g136, 0, none⟩) := (hk144 3 rfl).trans e143_3
  obtain ⟨(f_4 : a144.eval (.tmp 4) = .slice none 0 0), -⟩ := hf144 [0] rfl
  have e144_4 := f_4
  have hX144 := Evo.step hX143 (fun _ => Nat.le_refl 0) hE144 rfl
  have b144_g136 := BlkO.evo (by decide) hE144 b143_g136
  have b144_A140 := RwO.evo rfl hE144 b143_A140
  refine fl_seq (fun Q145 hn145 hp145 => ?_)
  obtain ⟨r146, hr146, hs⟩ := obind hs
  refine rg_plain_seq (n := 24) (rs := [Fct.at_ 142 g136 26 #[.slice A140 r139.2.length cA140], Fct.rowAt 141 [] 30 R30 A140 cA140 r139.2]) (own0 := own144) (K := [142, 141, 151])
      (bs := [0, 1, 3, 3, 0, 23, 63])
      (ds := [⟨[7, 8], [3], [142, 141], Fct.mems [148, 149] 10 (fun (x : Option Addr × Nat) => .tuple #[.agg #[.int .i64 r146.1.1, .int .i64 r146.1.2.1, .int .i64 r146.1.2.2], .bool r146.2.1]) (fun (x : Option Addr × Nat) own w => RwO own 148 [] w 30 R30 x.1 x.2 r146.2.2 ∧ BlkO own 149 w g136 26 #[.slice x.1 r146.2.2.length x.2]) (fun hk he h => ⟨RwO.evo (hits_sub hk (by decide)) he h.1, BlkO.evo (not_hit hk (by decide)) he h.2⟩)⟩,
      ⟨[0], [], [], Fct.val 9 (.tuple #[.agg #[.int .i64 r146.1.1, .int .i64 r146.1.2.1, .int .i64 r146.1.2.2], .bool r146.2.1])⟩,
      ⟨[1], [], [], Fct.val 11 (.agg #[.int .i64 r146.1.1, .int .i64 r146.1.2.1, .int .i64 r146.1.2.2])⟩,
      ⟨[1], [], [], Fct.val 12 (.bool r146.2.1)⟩,
      ⟨[], [], [], Fct.blk 151 5 (fun g => .pointer (some ⟨g, 0, none⟩)) 30 #[.int .i64 0, .int .i64 0, .int .i64 0]⟩,
      ⟨[4, 2], [], [151], Fct.blk 152 5 (fun g => .pointer (some ⟨g, 0, none⟩)) 30 #[.int .i64 r146.1.1, .int .i64 r146.1.2.1, .int .i64 r146.1.2.2]⟩,
      ⟨[3], [], [], Fct.val 6 (.bool r146.2.1)⟩]) (by kernel_rfl) hz144 hd144 (by simp only [List.forall_mem_cons]; exact ⟨b144_g136, b144_A140, fun _ h => nomatch h⟩) ?_ ?_
  · refine steps_cons (fun own a wx hf hsl hE => ?_) ?_
    · obtain ⟨(b_g136 : BlkO own 142 wx g136 26 #[.slice A140 r139.2.length cA140]), (b_A140 : RwO own 141 [] wx 30 R30 A140 cA140 r139.2), -⟩ := hf
      obtain ⟨s_3, -⟩ := hsl
      exact sg_plain rfl rfl (or_call cf8 (args1 (s_3.trans e144_3)) (heap_Heap_Pop_w _ (forth own (look0 [(141, 2), (142, 1)])) r139.2 g136 26 A140 cA140 (look0_le rfl) (BlkO.forth_ (m := (look0 [(141, 2), (142, 1)])) b_g136) (RwO.forth_ (m := (look0 [(141, 2), (142, 1)])) b_A140) r146 hr146) (post_mems (m := (look0 [(141, 2), (142, 1)])) (m' := (look0 [(1, 149), (2, 148)])) (hm_of rfl) (fun own' w' a' x h1 h => ⟨x, h1, ⟨RwO.back_ h.1 (by decide) (.inl (Rep.fl_flat _)), BlkO.back_ h.2 (by decide)⟩⟩)))
    refine steps_cons (fun own a wx hf hsl hE => ?_) ?_
    · obtain ⟨⟨⟨A147, cA147⟩, (f_10 : a.eval (.tmp 10) = .tuple #[.agg #[.int .i64 r146.1.1, .int .i64 r146.1.2.1, .int .i64 r146.1.2.2], .bool r146.2.1]), (b_A147 : RwO own 148 [] wx 30 R30 A147 cA147 r146.2.2), (b_g136 : BlkO own 149 wx g136 26 #[.slice A147 r146.2.2.length cA147])⟩, -⟩ := hf
      exact sg_plain rfl rfl (or_move f_10)
    refine steps_cons (fun own a wx hf hsl hE => ?_) ?_
    · obtain ⟨(f_9 : a.eval (.tmp 9) = .tuple #[.agg #[.int .i64 r146.1.1, .int .i64 r146.1.2.1, .int .i64 r146.1.2.2], .bool r146.2.1]), -⟩ := hf
      exact sg_plain rfl rfl (or_k [(9, .tuple #[.agg #[.int .i64 r146.1.1, .int .i64 r146.1.2.1, .int .i64 r146.1.2.2], .bool r146.2.1])] rfl rfl ⟨f_9, trivial⟩ (by kernel_rfl))
    refine steps_cons (fun own a wx hf hsl hE => ?_) ?_
    · obtain ⟨(f_9 : a.eval (.tmp 9) = .tuple #[.agg #[.int .i64 r146.1.1, .int .i64 r146.1.2.1, .int .i64 r146.1.2.2], .bool r146.2.1]), -⟩ := hf
      exact sg_plain rfl rfl (or_k [(9, .tuple #[.agg #[.int .i64 r146.1.1, .int .i64 r146.1.2.1, .int .i64 r146.1.2.2], .bool r146.2.1])] rfl rfl ⟨f_9, trivial⟩ (by kernel_rfl))
    refine steps_cons (fun own a wx hf hsl hE => ?_) ?_
    · exact sg_plain rfl rfl (or_new [] rfl rfl trivial (by kernel_rfl))
    refine steps_cons (fun own a wx hf hsl hE => ?_) ?_
    · obtain ⟨⟨g150, (f_5 : a.eval (.tmp 5) = .pointer (some ⟨g150, 0, none⟩)), (b_g150 : BlkO own 151 wx g150 30 #[.int .i64 0, .int .i64 0, .int .i64 0])⟩, (f_11 : a.eval (.tmp 11) = .agg #[.int .i64 r146.1.1, .int .i64 r146.1.2.1, .int .i64 r146.1.2.2]), -⟩ := hf
      exact sg_plain rfl rfl (or_store (l := #[.int .i64 r146.1.1, .int .i64 r146.1.2.1, .int .i64 r146.1.2.2]) (lab := 151) (lab2 := 152) ts30 f_5 f_11 b_g150 (by simp) (by kernel_rfl) (mem_of rfl) (by decide) (by kernel_rfl) (fun own' a' w' ha hb => ⟨_, (ha 5).trans f_5, hb⟩))
    refine steps_cons (fun own a wx hf hsl hE => ?_) ?_
    · obtain ⟨(f_12 : a.eval (.tmp 12) = .bool r146.2.1), -⟩ := hf
      exact sg_plain rfl rfl (or_assign f_12)
    exact steps_nil
  intro own153 a153 w153 hd153 hz153 hk153 hf153 hE153
  have e153_3 : a153.eval (.tmp 3) = .pointer (some ⟨g136, 0, none⟩) := (hk153 3 rfl).trans e144_3
  have e153_4 : a153.eval (.tmp 4) = .slice none 0 0 := (hk153 4 rfl).trans e144_4
  obtain ⟨⟨g150, (f_5 : a153.eval (.tmp 5) = .pointer (some ⟨g150, 0, none⟩)), (b_g150 : BlkO own153 152 w153 g150 30 #[.int .i64 r146.1.1, .int .i64 r146.1.2.1, .int .i64 r146.1.2.2])⟩, (f_6 : a153.eval (.tmp 6) = .bool r146.2.1), ⟨⟨A147, cA147⟩, (f_10 : a153.eval (.tmp 10) = .tuple #[.agg #[.int .i64 r146.1.1, .int .i64 r146.1.2.1, .int .i64 r146.1.2.2], .bool r146.2.1]), (b_A147 : RwO own153 148 [] w153 30 R30 A147 cA147 r146.2.2), (b_g136 : BlkO own153 149 w153 g136 26 #[.slice A147 r146.2.2.length cA147])⟩, -⟩ := hf153 [5, 6, 0] rfl
  have e153_5 := f_5
  have e153_6 := f_6
  have hX153 := Evo.step hX144 (fun _ => Nat.le_refl 0) hE153 rfl
  have b153_g136 := b_g136
  have b153_A147 := b_A147
  have b153_g150 := b_g150
  refine fl_block (fun Q154 hn154 hx154 hp154 => ?_)
  refine fl_loop (body := (fun s => heap_Sort_b1 s.1 s.2.1 s.2.2.1 s.2.2.2)) (z := r) (show loopO _ _ = _ from hs) (fun (s : (List (Int × Int × Int)) × (List (Int × Int × Int)) × (Int × Int × Int) × Bool) a wx => match s with | (h187, out191, x195, is196) => ∃ (ox : Own) (A185 : Option Addr) (c186 : Nat) (A189 : Option Addr) (c190 : Nat) (g193 : Nat), a.defers = [] ∧ a.tmps.size = 24 ∧ a.eval (.tmp 3) = .pointer (some ⟨g136, 0, none⟩) ∧ a.eval (.tmp 4) = .slice A189 out191.length c190 ∧ a.eval (.tmp 5) = .pointer (some ⟨g193, 0, none⟩) ∧ a.eval (.tmp 6) = .bool is196 ∧ Evo [] (fun _ => 0) ox w wx ∧ BlkO ox 184 wx g136 26 #[.slice A185 h187.length c186] ∧ RwO ox 188 [] wx 30 R30 A185 c186 h187 ∧ RwO ox 192 [] wx 30 R30 A189 c190 out191 ∧ BlkO ox 194 wx g193 30 #[.int .i64 x195.1, .int .i64 x195.2.1, .int .i64 x195.2.2]) ?_ ?_
  · exact ⟨(rl [(148, 188), (149, 184), (152, 194)] own153), A147, cA147, none, 0, g150, hd153, hz153, e153_3, e153_4, e153_5, e153_6, (Evo.rl_ hX153 (fun _ => Nat.le_refl 0) rfl), (BlkO.rl_ (mm := [(148, 188), (149, 184), (152, 194)]) b153_g136), (RwO.rl_ (mm := [(148, 188), (149, 184), (152, 194)]) b153_A147), RwO.nil_, (BlkO.rl_ (mm := [(148, 188), (149, 184), (152, 194)]) b153_g150)⟩
  · rintro ⟨h187, out191, x195, is196⟩ zz227 a227 w227 ⟨own227, A185, c186, A189, c190, g193, hd228, hz228, e228_3, e228_4, e228_5, e228_6, hE228, b228_g136, b228_A185, b228_A189, b228_g193⟩ hs Q227 hn227 hp227 hz227
    have hs : heap_Sort_b1 h187 out191 x195 is196 = some zz227 := hs
    refine fl_seq (fun Q229 hn229 hp229 => ?_)
    refine rg_plain_seq (n := 24) (rs := []) (own0 := own227) (K := [])
        (bs := [0])
        (ds := [⟨[], [6], [], Fct.val 13 (.bool is196)⟩]) (by kernel_rfl) hz228 hd228 (fun _ h => nomatch h) ?_ ?_
    · refine steps_cons (fun own a wx hf hsl hE => ?_) ?_
      · obtain ⟨s_6, -⟩ := hsl
        exact sg_plain rfl rfl (or_move (s_6.trans e228_6))
      exact steps_nil
    intro own230 a230 w230 hd230 hz230 hk230 hf230 hE230
    have e230_3 : a230.eval (.tmp 3) = .pointer (some ⟨g136, 0, none⟩) := (hk230 3 rfl).trans e228_3
    have e230_4 : a230.eval (.tmp 4) = .slice A189 out191.length c190 := (hk230 4 rfl).trans e228_4
    have e230_5 : a230.eval (.tmp 5) = .pointer (some ⟨g193, 0, none⟩) := (hk230 5 rfl).trans e228_5
    obtain ⟨(f_13 : a230.eval (.tmp 13) = .bool is196), -⟩ := hf230 [0] rfl
    have e230_13 := f_13
    have hX230 := Evo.step hE228 (fun _ => Nat.le_refl 0) hE230 rfl
    have b230_g136 := BlkO.evo (by decide) hE230 b228_g136
    have b230_A185 := RwO.evo rfl hE230 b228_A185
    have b230_A189 := RwO.evo rfl hE230 b228_A189
    have b230_g193 := BlkO.evo (by decide) hE230 b228_g193
    refine fl_cond e230_13 hs (fun c231 hs => ?_) (fun c231 hs => ?_)
    · refine fl_skip ?_
      refine hn229 _ _ ?_
      refine fl_seq (fun Q232 hn232 hp232 => ?_)
      refine fl_block (fun Q233 hn233 hx233 hp233 => ?_)
      obtain ⟨x238, hx238, hs⟩ := obind hs
      refine rg_plain (n := 24) (rs := [Fct.rowAt 192 [] 30 R30 A189 c190 out191]) (own0 := own230) (K := [192])
          (bs := [0, 0, 2, 7, 15])
          (ds := [⟨[], [4], [], Fct.val 18 (.slice A189 out191.length c190)⟩,
          ⟨[], [5], [], Fct.val 19 (.agg #[.int .i64 x195.1, .int .i64 x195.2.1, .int .i64 x195.2.2])⟩,
          ⟨[1], [], [], Fct.row 237 [] 20 30 R30 [x195]⟩,
          ⟨[0, 2, 5], [], [192], Fct.row 239 [] 21 30 R30 x238⟩,
          ⟨[3], [], [], Fct.rel [4, 21] (fun l => ∀ (A240 : Option Addr) (cA240 : Nat), l.getD 1 undef = .slice A240 x238.length cA240 → l.getD 0 undef = .slice A240 x238.length cA240)⟩]) (by kernel_rfl) hz230 hd230 (by simp only [List.forall_mem_cons]; exact ⟨b230_A189, fun _ h => nomatch h⟩) ?_ ?_
      · refine steps_cons (fun own a wx hf hsl hE => ?_) ?_
        · obtain ⟨s_4, -⟩ := hsl
          exact sg_plain rfl rfl (or_move (s_4.trans e230_4))
        refine steps_cons (fun own a wx hf hsl hE => ?_) ?_
        · obtain ⟨s_5, -⟩ := hsl
          exact sg_plain rfl rfl (or_load (l := [.int .i64 x195.1, .int .i64 x195.2.1, .int .i64 x195.2.2]) ta30 (s_5.trans e230_5) (Blk.cellsFrom (BlkO.evo (by decide) hE b230_g193).2 0 rfl) rfl)
        refine steps_cons (fun own a wx hf hsl hE => ?_) ?_
        · obtain ⟨(f_19 : a.eval (.tmp 19) = .agg #[.int .i64 x195.1, .int .i64 x195.2.1, .int .i64 x195.2.2]), -⟩ := hf
          exact sg_plain rfl rfl (or_lit (lab := 237) (e := 30) (cs := #[.int .i64 x195.1, .int .i64 x195.2.1, .int .i64 x195.2.2]) (F := E30) (or_new [(19, .agg #[.int .i64 x195.1, .int .i64 x195.2.1, .int .i64 x195.2.2])] rfl rfl ⟨f_19, trivial⟩ (by kernel_rfl)) rfl rfl (show 1 ≤ maxLen by decide))
        refine steps_cons (fun own a wx hf hsl hE => ?_) ?_
        · obtain ⟨(f_18 : a.eval (.tmp 18) = .slice A189 out191.length c190), ⟨⟨A236, cA236⟩, (f_20 : a.eval (.tmp 20) = .slice A236 [x195].length cA236), (b_A236 : RwO own 237 [] wx 30 R30 A236 cA236 [x195])⟩, (b_A189 : RwO own 192 [] wx 30 R30 A189 c190 out191), -⟩ := hf
          exact sg_plain rfl rfl (or_append (R := R30) (lab := 192) (lab2 := 239) (L := []) (L3 := []) tp22 f_18 b_A189 (by decide) f_20 (RwO.rd b_A236) hx238 (by decide) (by decide) (mem_of rfl) (.inl (Rep.fl_flat _)))
        refine steps_cons (fun own a wx hf hsl hE => ?_) ?_
        · obtain ⟨⟨⟨A240, cA240⟩, (f_21 : a.eval (.tmp 21) = .slice A240 x238.length cA240), (b_A240 : RwO own 239 [] wx 30 R30 A240 cA240 x238)⟩, -⟩ := hf
          exact sg_plain rfl rfl (or_mono (f := Fct.val 4 (.slice A240 x238.length cA240)) (or_assign f_21) (fun own' a' w' v' hp h => fun _ _ h0' => by cases (f_21.symm.trans ((hp.2 21 (by decide)).symm.trans h0')); exact h))
        exact steps_nil
      intro own241 a241 w241 hd241 hz241 hk241 hf241 hE241
      have e241_3 : a241.eval (.tmp 3) = .pointer (some ⟨g136, 0, none⟩) := (hk241 3 rfl).trans e230_3
      have e241_5 : a241.eval (.tmp 5) = .pointer (some ⟨g193, 0, none⟩) := (hk241 5 rfl).trans e230_5
      obtain ⟨⟨⟨A240, cA240⟩, (f_21 : a241.eval (.tmp 21) = .slice A240 x238.length cA240), (b_A240 : RwO own241 239 [] w241 30 R30 A240 cA240 x238)⟩, (q_4 : ∀ (A240 : Option Addr) (cA240 : Nat), a241.eval (.tmp 21) = .slice A240 x238.length cA240 → a241.eval (.tmp 4) = .slice A240 x238.length cA240), -⟩ := hf241 [3, 4] rfl
      have f_4 := q_4 _ _ f_21
      have e241_4 := f_4
      have hX241 := Evo.step hX230 (fun _ => Nat.le_refl 0) hE241 rfl
      have b241_g136 := BlkO.evo (by decide) hE241 b230_g136
      have b241_A185 := RwO.evo rfl hE241 b230_A185
      have b241_g193 := BlkO.evo (by decide) hE241 b230_g193
      have b241_A240 := b_A240
      refine hn233 _ _ ?_
      refine hn232 _ _ ?_
      refine fl_seq (fun Q242 hn242 hp242 => ?_)
      refine rg_plain_seq (n := 24) (rs := []) (own0 := own241) (K := [])
          (bs := [0])
          (ds := [⟨[], [5], [], Fct.val 22 (.agg #[.int .i64 x195.1, .int .i64 x195.2.1, .int .i64 x195.2.2])⟩]) (by kernel_rfl) hz241 hd241 (fun _ h => nomatch h) ?_ ?_
      · refine steps_cons (fun own a wx hf hsl hE => ?_) ?_
        · obtain ⟨s_5, -⟩ := hsl
          exact sg_plain rfl rfl (or_load (l := [.int .i64 x195.1, .int .i64 x195.2.1, .int .i64 x195.2.2]) ta30 (s_5.trans e241_5) (Blk.cellsFrom (BlkO.evo (by decide) hE b241_g193).2 0 rfl) rfl)
        exact steps_nil
      intro own243 a243 w243 hd243 hz243 hk243 hf243 hE243
      have e243_3 : a243.eval (.tmp 3) = .pointer (some ⟨g136, 0, none⟩) := (hk243 3 rfl).trans e241_3
      have e243_4 : a243.eval (.tmp 4) = .slice A240 x238.length cA240 := (hk243 4 rfl).trans e241_4
      obtain ⟨(f_22 : a243.eval (.tmp 22) = .agg #[.int .i64 x195.1, .int .i64 x195.2.1, .int .i64 x195.2.2]), -⟩ := hf243 [0] rfl
      have e243_22 := f_22
      have hX243 := Evo.step hX241 (fun _ => Nat.le_refl 0) hE243 rfl
      have b243_g136 := BlkO.evo (by decide) hE243 b241_g136
      have b243_A185 := RwO.evo rfl hE243 b241_A185
      have b243_A240 := RwO.evo rfl hE243 b241_A240
      refine rg_plain (n := 24) (rs := []) (own0 := own243) (K := [245])
          (bs := [0, 1])
          (ds := [⟨[], [], [], Fct.blk 245 5 (fun g => .pointer (some ⟨g, 0, none⟩)) 30 #[.int .i64 0, .int .i64 0, .int .i64 0]⟩,
          ⟨[0], [22], [245], Fct.blk 246 5 (fun g => .pointer (some ⟨g, 0, none⟩)) 30 #[.int .i64 x195.1, .int .i64 x195.2.1, .int .i64 x195.2.2]⟩]) (by kernel_rfl) hz243 hd243 (fun _ h => nomatch h) ?_ ?_
      · refine steps_cons (fun own a wx hf hsl hE => ?_) ?_
        · exact sg_plain rfl rfl (or_new [] rfl rfl trivial (by kernel_rfl))
        refine steps_cons (fun own a wx hf hsl hE => ?_) ?_
        · obtain ⟨⟨g244, (f_5 : a.eval (.tmp 5) = .pointer (some ⟨g244, 0, none⟩)), (b_g244 : BlkO own 245 wx g244 30 #[.int .i64 0, .int .i64 0, .int .i64 0])⟩, -⟩ := hf
          obtain ⟨s_22, -⟩ := hsl
          exact sg_plain rfl rfl (or_store (l := #[.int .i64 x195.1, .int .i64 x195.2.1, .int .i64 x195.2.2]) (lab := 245) (lab2 := 246) ts30 f_5 (s_22.trans e243_22) b_g244 (by simp) (by kernel_rfl) (mem_of rfl) (by decide) (by kernel_rfl) (fun own' a' w' ha hb => ⟨_, (ha 5).trans f_5, hb⟩))
        exact steps_nil
      intro own247 a247 w247 hd247 hz247 hk247 hf247 hE247
      have e247_3 : a247.eval (.tmp 3) = .pointer (some ⟨g136, 0, none⟩) := (hk247 3 rfl).trans e243_3
      have e247_4 : a247.eval (.tmp 4) = .slice A240 x238.length cA240 := (hk247 4 rfl).trans e243_4
      obtain ⟨⟨g244, (f_5 : a247.eval (.tmp 5) = .pointer (some ⟨g244, 0, none⟩)), (b_g244 : BlkO own247 246 w247 g244 30 #[.int .i64 x195.1, .int .i64 x195.2.1, .int .i64 x195.2.2])⟩, -⟩ := hf247 [1] rfl
      have e247_5 := f_5
      have hX247 := Evo.step hX243 (fun _ => Nat.le_refl 0) hE247 rfl
      have b247_g136 := BlkO.evo (by decide) hE247 b243_g136
      have b247_A185 := RwO.evo rfl hE247 b243_A185
      have b247_A240 := RwO.evo rfl hE247 b243_A240
      have b247_g244 := b_g244
      refine hn242 _ _ ?_
      obtain ⟨r252, hr252, hs⟩ := obind hs
      refine rg_plain (n := 24) (rs := [Fct.at_ 184 g136 26 #[.slice A185 h187.length c186], Fct.rowAt 188 [] 30 R30 A185 c186 h187, Fct.at_ 246 g244 30 #[.int .i64 x195.1, .int .i64 x195.2.1, .int .i64 x195.2.2]]) (own0 := own247) (K := [184, 188, 246])
          (bs := [0, 1, 3, 3, 7, 31])
          (ds := [⟨[6, 7], [3], [184, 188], Fct.mems [254, 255] 15 (fun (x : Option Addr × Nat) => .tuple #[.agg #[.int .i64 r252.1.1, .int .i64 r252.1.2.1, .int .i64 r252.1.2.2], .bool r252.2.1]) (fun (x : Option Addr × Nat) own w => RwO own 254 [] w 30 R30 x.1 x.2 r252.2.2 ∧ BlkO own 255 w g136 26 #[.slice x.1 r252.2.2.length x.2]) (fun hk he h => ⟨RwO.evo (hits_sub hk (by decide)) he h.1, BlkO.evo (not_hit hk (by decide)) he h.2⟩)⟩,
          ⟨[0], [], [], Fct.val 14 (.tuple #[.agg #[.int .i64 r252.1.1, .int .i64 r252.1.2.1, .int .i64 r252.1.2.2], .bool r252.2.1])⟩,
          ⟨[1], [], [], Fct.val 16 (.agg #[.int .i64 r252.1.1, .int .i64 r252.1.2.1, .int .i64 r252.1.2.2])⟩,
          ⟨[1], [], [], Fct.val 17 (.bool r252.2.1)⟩,
          ⟨[2, 8], [5], [246], Fct.at_ 256 g244 30 #[.int .i64 r252.1.1, .int .i64 r252.1.2.1, .int .i64 r252.1.2.2]⟩,
          ⟨[3], [], [], Fct.val 6 (.bool r252.2.1)⟩]) (by kernel_rfl) hz247 hd247 (by simp only [List.forall_mem_cons]; exact ⟨b247_g136, b247_A185, b247_g244, fun _ h => nomatch h⟩) ?_ ?_
      · refine steps_cons (fun own a wx hf hsl hE => ?_) ?_
        · obtain ⟨(b_g136 : BlkO own 184 wx g136 26 #[.slice A185 h187.length c186]), (b_A185 : RwO own 188 [] wx 30 R30 A185 c186 h187), -⟩ := hf
          obtain ⟨s_3, -⟩ := hsl
          exact sg_plain rfl rfl (or_call cf8 (args1 (s_3.trans e247_3)) (heap_Heap_Pop_w _ (forth own (look0 [(184, 1), (188, 2)])) h187 g136 26 A185 c186 (look0_le rfl) (BlkO.forth_ (m := (look0 [(184, 1), (188, 2)])) b_g136) (RwO.forth_ (m := (look0 [(184, 1), (188, 2)])) b_A185) r252 hr252) (post_mems (m := (look0 [(184, 1), (188, 2)])) (m' := (look0 [(1, 255), (2, 254)])) (hm_of rfl) (fun own' w' a' x h1 h => ⟨x, h1, ⟨RwO.back_ h.1 (by decide) (.inl (Rep.fl_flat _)), BlkO.back_ h.2 (by decide)⟩⟩)))
        refine steps_cons (fun own a wx hf hsl hE => ?_) ?_
        · obtain ⟨⟨⟨A253, cA253⟩, (f_15 : a.eval (.tmp 15) = .tuple #[.agg #[.int .i64 r252.1.1, .int .i64 r252.1.2.1, .int .i64 r252.1.2.2], .bool r252.2.1]), (b_A253 : RwO own 254 [] wx 30 R30 A253 cA253 r252.2.2), (b_g136 : BlkO own 255 wx g136 26 #[.slice A253 r252.2.2.length cA253])⟩, -⟩ := hf
          exact sg_plain rfl rfl (or_move f_15)
        refine steps_cons (fun own a wx hf hsl hE => ?_) ?_
        · obtain ⟨(f_14 : a.eval (.tmp 14) = .tuple #[.agg #[.int .i64 r252.1.1, .int .i64 r252.1.2.1, .int .i64 r252.1.2.2], .bool r252.2.1]), -⟩ := hf
          exact sg_plain rfl rfl (or_k [(14, .tuple #[.agg #[.int .i64 r252.1.1, .int .i64 r252.1.2.1, .int .i64 r252.1.2.2], .bool r252.2.1])] rfl rfl ⟨f_14, trivial⟩ (by kernel_rfl))
        refine steps_cons (fun own a wx hf hsl hE => ?_) ?_
        · obtain ⟨(f_14 : a.eval (.tmp 14) = .tuple #[.agg #[.int .i64 r252.1.1, .int .i64 r252.1.2.1, .int .i64 r252.1.2.2], .bool r252.2.1]), -⟩ := hf
          exact sg_plain rfl rfl (or_k [(14, .tuple #[.agg #[.int .i64 r252.1.1, .int .i64 r252.1.2.1, .int .i64 r252.1.2.2], .bool r252.2.1])] rfl rfl ⟨f_14, trivial⟩ (by kernel_rfl))
        refine steps_cons (fun own a wx hf hsl hE => ?_) ?_
        · obtain ⟨(f_16 : a.eval (.tmp 16) = .agg #[.int .i64 r252.1.1, .int .i64 r252.1.2.1, .int .i64 r252.1.2.2]), (b_g244 : BlkO own 246 wx g244 30 #[.int .i64 x195.1, .int .i64 x195.2.1, .int .i64 x195.2.2]), -⟩ := hf
          obtain ⟨s_5, -⟩ := hsl
          exact sg_plain rfl rfl (or_store (l := #[.int .i64 r252.1.1, .int .i64 r252.1.2.1, .int .i64 r252.1.2.2]) (lab := 246) (lab2 := 256) ts30 (s_5.trans e247_5) f_16 b_g244 (by simp) (by kernel_rfl) (mem_of rfl) (by decide) (by kernel_rfl) (fun own' a' w' ha hb => hb))
        refine steps_cons (fun own a wx hf hsl hE => ?_) ?_
        · obtain ⟨(f_17 : a.eval (.tmp 17) = .bool r252.2.1), -⟩ := hf
          exact sg_plain rfl rfl (or_assign f_17)
        exact steps_nil
      intro own257 a257 w257 hd257 hz257 hk257 hf257 hE257
      have e257_3 : a257.eval (.tmp 3) = .pointer (some ⟨g136, 0, none⟩) := (hk257 3 rfl).trans e247_3
      have e257_4 : a257.eval (.tmp 4) = .slice A240 x238.length cA240 := (hk257 4 rfl).trans e247_4
      have e257_5 : a257.eval (.tmp 5) = .pointer (some ⟨g244, 0, none⟩) := (hk257 5 rfl).trans e247_5
      obtain ⟨(f_6 : a257.eval (.tmp 6) = .bool r252.2.1), ⟨⟨A253, cA253⟩, (f_15 : a257.eval (.tmp 15) = .tuple #[.agg #[.int .i64 r252.1.1, .int .i64 r252.1.2.1, .int .i64 r252.1.2.2], .bool r252.2.1]), (b_A253 : RwO own257 254 [] w257 30 R30 A253 cA253 r252.2.2), (b_g136 : BlkO own257 255 w257 g136 26 #[.slice A253 r252.2.2.length cA253])⟩, (b_g244 : BlkO own257 256 w257 g244 30 #[.int .i64 r252.1.1, .int .i64 r252.1.2.1, .int .i64 r252.1.2.2]), -⟩ := hf257 [5, 0, 4] rfl
      have e257_6 := f_6
      have hX257 := Evo.step hX247 (fun _ => Nat.le_refl 0) hE257 rfl
      have b257_A240 := RwO.evo rfl hE257 b247_A240
      have b257_g136 := b_g136
      have b257_g244 := b_g244
      have b257_A253 := b_A253
      exact hn227 _ _ _ hs ⟨(rl [(239, 192), (254, 188), (255, 184), (256, 194)] own257), A253, cA253, A240, cA240, g244, hd257, hz257, e257_3, e257_4, e257_5, e257_6, (Evo.rl_ hX257 (fun _ => Nat.le_refl 0) rfl), (BlkO.rl_ (mm := [(239, 192), (254, 188), (255, 184), (256, 194)]) b257_g136), (RwO.rl_ (mm := [(239, 192), (254, 188), (255, 184), (256, 194)]) b257_A253), (RwO.rl_ (mm := [(239, 192), (254, 188), (255, 184), (256, 194)]) b257_A240), (BlkO.rl_ (mm := [(239, 192), (254, 188), (255, 184), (256, 194)]) b257_g244)⟩
    refine fl_exit ?_
    refine hp229 _ _ _ rfl ?_
    replace hs := hz227 _ hs
    refine hp227 _ _ _ rfl ?_
    refine hx154 _ _ ?_
    refine hn145 _ _ ?_
    refine rg_plain_seq (n := 24) (rs := []) (own0 := own230) (K := [])
        (bs := [0, 1])
        (ds := [⟨[], [4], [], Fct.val 23 (.slice A189 out191.length c190)⟩,
        ⟨[0], [], [], Fct.val 2 (.slice A189 out191.length c190)⟩]) (by kernel_rfl) hz230 hd230 (fun _ h => nomatch h) ?_ ?_
    · refine steps_cons (fun own a wx hf hsl hE => ?_) ?_
      · obtain ⟨s_4, -⟩ := hsl
        exact sg_plain rfl rfl (or_move (s_4.trans e230_4))
      refine steps_cons (fun own a wx hf hsl hE => ?_) ?_
      · obtain ⟨(f_23 : a.eval (.tmp 23) = .slice A189 out191.length c190), -⟩ := hf
        exact sg_plain rfl rfl (or_assign f_23)
      exact steps_nil
    intro own258 a258 w258 hd258 hz258 hk258 hf258 hE258
    obtain ⟨(f_2 : a258.eval (.tmp 2) = .slice A189 out191.length c190), -⟩ := hf258 [1] rfl
    have e258_2 := f_2
    have hX258 := Evo.step hX230 (fun _ => Nat.le_refl 0) hE258 rfl
    have b258_A189 := RwO.evo rfl hE258 b230_A189
    refine fl_ret ?_
    obtain rfl := osome hs
    exact hret _ _ _ _ (.inl rfl) hd258 (results1_ rfl (RVal.tmp_ e258_2)) ⟨(rl [(192, 1)] own258), (A189, c190), rfl, (Evo.rl_ hX258 (fun _ => Nat.le_refl 0) rfl), (RwO.rl_ (mm := [(192, 1)]) b258_A189)⟩

theorem heap_AllNil_w (w : World) (r : List (Int × Int × Int)) (hs : heap_AllNil = some r) :
    Calls Try.prog 17 #[.pointer none] w fun e w' => ∃ (own' : Own) (x : Option Addr × Nat), e = .returned (.slice x.1 r.length x.2) ∧ Evo [] (fun _ => 0) own' w w' ∧ RwO own' 1 [] w' 30 R30 x.1 x.2 r := by
  refine fl_enter (n := 11) rfl rfl rfl (Nat.le_of_ble_eq_true rfl) ?_
  intro a0 Q hd0 hz0 harg hret
  have ha0 := harg 0 _ rfl
  clear harg
  have hE0 : Evo [] (fun _ => 0) (fun _ => 0) w w := Evo.refl _ _ _
  refine rg_plain_seq (n := 11) (rs := []) (own0 := (fun _ => 0)) (K := [])
      (bs := [0])
      (ds := [⟨[], [], [], Fct.val 2 (.slice none 0 0)⟩]) (by kernel_rfl) hz0 hd0 (fun _ h => nomatch h) ?_ ?_
  · refine steps_cons (fun own a wx hf hsl hE => ?_) ?_
    · exact sg_plain rfl rfl (or_assign rfl)
    exact steps_nil
  intro own15 a15 w15 hd15 hz15 hk15 hf15 hE15
  have e15_0 : a15.eval (.tmp 0) = .pointer none := (hk15 0 rfl).trans ha0
  have hX15 := Evo.step hE0 (fun _ => Nat.le_refl 0) hE15 rfl
  refine fl_seq (fun Q16 hn16 hp16 => ?_)
  refine rg_plain_seq (n := 11) (rs := []) (own0 := own15) (K := [])
      (bs := [0, 1])
      (ds := [⟨[], [0], [], Fct.val 3 (.pointer none)⟩,
      ⟨[0], [], [], Fct.val 4 (.bool true)⟩]) (by kernel_rfl) hz15 hd15 (fun _ h => nomatch h) ?_ ?_
  · refine steps_cons (fun own a wx hf hsl hE => ?_) ?_
    · obtain ⟨s_0, -⟩ := hsl
      exact sg_plain rfl rfl (or_move (s_0.trans e15_0))
    refine steps_cons (fun own a wx hf hsl hE => ?_) ?_
    · obtain ⟨(f_3 : a.eval (.tmp 3) = .pointer none), -⟩ := hf
      exact sg_plain rfl rfl (or_k [(3, .pointer none)] rfl rfl ⟨f_3, trivial⟩ (by kernel_rfl))
    exact steps_nil
  intro own17 a17 w17 hd17 hz17 hk17 hf17 hE17
  have e17_0 : a17.eval (.tmp 0) = .pointer none := (hk17 0 rfl).trans e15_0
  obtain ⟨(f_4 : a17.eval (.tmp 4) = .bool true), -⟩ := hf17 [1] rfl
  have e17_4 := f_4
  have hX17 := Evo.step hX15 (fun _ => Nat.le_refl 0) hE17 rfl
  refine fl_t e17_4 ?_
  refine rg_plain_seq (n := 11) (rs := []) (own0 := own17) (K := [])
      (bs := [0])
      (ds := [⟨[], [], [], Fct.val 2 (.slice none 0 0)⟩]) (by kernel_rfl) hz17 hd17 (fun _ h => nomatch h) ?_ ?_
  · refine steps_cons (fun own a wx hf hsl hE => ?_) ?_
    · exact sg_plain rfl rfl (or_assign rfl)
    exact steps_nil
  intro own18 a18 w18 hd18 hz18 hk18 hf18 hE18
  obtain ⟨(f_2 : a18.eval (.tmp 2) = .slice none 0 0), -⟩ := hf18 [0] rfl
  have e18_2 := f_2
  have hX18 := Evo.step hX17 (fun _ => Nat.le_refl 0) hE18 rfl
  refine fl_ret ?_
  refine hp16 _ _ _ rfl ?_
  obtain rfl := osome hs
  exact hret _ _ _ _ (.inl rfl) hd18 (results1_ rfl (RVal.tmp_ e18_2)) ⟨own18, (none, 0), rfl, hX18, RwO.nil_⟩

theorem heap_Heap_All_w (w : World) (h1 : ((List (Int × Int × Int)))) (gh1 : Nat) (th1 : TypeId) (Ah1_0 : Option Addr) (ch1_0 : Nat) (hgh1 : BlkO (fun _ => 0) 0 w gh1 th1 #[.slice Ah1_0 h1.length ch1_0]) (hAh1_0 : RdO (fun _ => 0) [0] w R30 Ah1_0 ch1_0 h1) (r : List (Int × Int × Int)) (hs : heap_Heap_All h1 = some r) :
    Calls Try.prog 17 #[.pointer (some ⟨gh1, 0, none⟩)] w fun e w' => ∃ (own' : Own) (x : Option Addr × Nat), e = .returned (.slice x.1 r.length x.2) ∧ Evo [] (fun _ => 0) own' w w' ∧ RwO own' 1 [] w' 30 R30 x.1 x.2 r := by
  refine fl_enter (n := 11) rfl rfl rfl (Nat.le_of_ble_eq_true rfl) ?_
  intro a0 Q hd0 hz0 harg hret
  have ha0 := harg 0 _ rfl
  clear harg
  have hE0 : Evo [] (fun _ => 0) (fun _ => 0) w w := Evo.refl _ _ _
  refine rg_plain_seq (n := 11) (rs := []) (own0 := (fun _ => 0)) (K := [])
      (bs := [0])
      (ds := [⟨[], [], [], Fct.val 2 (.slice none 0 0)⟩]) (by kernel_rfl) hz0 hd0 (fun _ h => nomatch h) ?_ ?_
  · refine steps_cons (fun own a wx hf hsl hE => ?_) ?_
    · exact sg_plain rfl rfl (or_assign rfl)
    exact steps_nil
  intro own18 a18 w18 hd18 hz18 hk18 hf18 hE18
  have e18_0 : a18.eval (.tmp 0) = .pointer (some ⟨gh1, 0, none⟩) := (hk18 0 rfl).trans ha0
  have hX18 := Evo.step hE0 (fun _ => Nat.le_refl 0) hE18 rfl
  have b18_Ah1_0 := RdO.evo rfl hE18 hAh1_0
  have b18_gh1 := BlkO.evo (by decide) hE18 hgh1
  refine fl_seq (fun Q19 hn19 hp19 => ?_)
  refine rg_plain_seq (n := 11) (rs := []) (own0 := own18) (K := [])
      (bs := [0, 1])
      (ds := [⟨[], [0], [], Fct.val 3 (.pointer (some ⟨gh1, 0, none⟩))⟩,
      ⟨[0], [], [], Fct.val 4 (.bool false)⟩]) (by kernel_rfl) hz18 hd18 (fun _ h => nomatch h) ?_ ?_
  · refine steps_cons (fun own a wx hf hsl hE => ?_) ?_
    · obtain ⟨s_0, -⟩ := hsl
      exact sg_plain rfl rfl (or_move (s_0.trans e18_0))
    refine steps_cons (fun own a wx hf hsl hE => ?_) ?_
    · obtain ⟨(f_3 : a.eval (.tmp 3) = .pointer (some ⟨gh1, 0, none⟩)), -⟩ := hf
      exact sg_plain rfl rfl (or_k [(3, .pointer (some ⟨gh1, 0, none⟩))] rfl rfl ⟨f_3, trivial⟩ (by kernel_rfl))
    exact steps_nil
  intro own20 a20 w20 hd20 hz20 hk20 hf20 hE20
  have e20_0 : a20.eval (.tmp 0) = .pointer (some ⟨gh1, 0, none⟩) := (hk20 0 rfl).trans e18_0
  obtain ⟨(f_4 : a20.eval (.tmp 4) = .bool false), -⟩ := hf20 [1] rfl
  have e20_4 := f_4
  have hX20 := Evo.step hX18 (fun _ => Nat.le_refl 0) hE20 rfl
  have b20_Ah1_0 := RdO.evo rfl hE20 b18_Ah1_0
  have b20_gh1 := BlkO.evo (by decide) hE20 b18_gh1
  refine fl_f e20_4 ?_
  refine fl_skip ?_
  refine hn19 _ _ ?_
  obtain ⟨r21, hr21, hs⟩ := obind hs
  refine rg_plain_seq (n := 11) (rs := []) (own0 := own20) (K := [])
      (bs := [0, 1, 3, 7, 15, 31, 63])
      (ds := [⟨[], [0], [], Fct.val 5 (.pointer (some ⟨gh1, 0, none⟩))⟩,
      ⟨[0], [], [], Fct.val 6 (.pointer (some ⟨gh1, 0, none⟩))⟩,
      ⟨[1], [], [], Fct.val 7 (.pointer (some ⟨gh1, 0, none⟩))⟩,
      ⟨[2], [], [], Fct.val 8 (.pointer (some ⟨gh1, 0, none⟩))⟩,
      ⟨[3], [], [], Fct.val 9 (.slice Ah1_0 h1.length ch1_0)⟩,
      ⟨[4], [], [], Fct.row 23 [] 10 30 R30 r21⟩,
      ⟨[5], [], [], Fct.rel [2, 10] (fun l => ∀ (A22 : Option Addr) (cA22 : Nat), l.getD 1 undef = .slice A22 r21.length cA22 → l.getD 0 undef = .slice A22 r21.length cA22)⟩]) (by kernel_rfl) hz20 hd20 (fun _ h => nomatch h) ?_ ?_
  · refine steps_cons (fun own a wx hf hsl hE => ?_) ?_
    · obtain ⟨s_0, -⟩ := hsl
      exact sg_plain rfl rfl (or_move (s_0.trans e20_0))
    refine steps_cons (fun own a wx hf hsl hE => ?_) ?_
    · obtain ⟨(f_5 : a.eval (.tmp 5) = .pointer (some ⟨gh1, 0, none⟩)), -⟩ := hf
      exact sg_plain rfl rfl (or_k [(5, .pointer (some ⟨gh1, 0, none⟩))] rfl rfl ⟨f_5, trivial⟩ (by kernel_rfl))
    refine steps_cons (fun own a wx hf hsl hE => ?_) ?_
    · obtain ⟨(f_6 : a.eval (.tmp 6) = .pointer (some ⟨gh1, 0, none⟩)), -⟩ := hf
      exact sg_plain rfl rfl (or_field fo26_0 f_6 (by rfl))
    refine steps_cons (fun own a wx hf hsl hE => ?_) ?_
    · obtain ⟨(f_7 : a.eval (.tmp 7) = .pointer (some ⟨gh1, 0, none⟩)), -⟩ := hf
      exact sg_plain rfl rfl (or_field fo24_0 f_7 (by rfl))
    refine steps_cons (fun own a wx hf hsl hE => ?_) ?_
    · obtain ⟨(f_8 : a.eval (.tmp 8) = .pointer (some ⟨gh1, 0, none⟩)), -⟩ := hf
      exact sg_plain rfl rfl (or_load1 to22 f_8 (Blk.at_ (BlkO.evo (by decide) hE b20_gh1).2 0 rfl))
    refine steps_cons (fun own a wx hf hsl hE => ?_) ?_
    · obtain ⟨(f_9 : a.eval (.tmp 9) = .slice Ah1_0 h1.length ch1_0), -⟩ := hf
      exact sg_plain rfl rfl (or_call cf7 (args1 f_9) (heap_Sort_w _ h1 Ah1_0 ch1_0 (RdO.zero (RdO.evo rfl hE b20_Ah1_0)) r21 hr21) (post_row (m' := (look0 [(1, 23)])) (.inl (Rep.fl_flat _)) rfl rfl (fun _ => rfl)))
    refine steps_cons (fun own a wx hf hsl hE => ?_) ?_
    · obtain ⟨⟨⟨A22, cA22⟩, (f_10 : a.eval (.tmp 10) = .slice A22 r21.length cA22), (b_A22 : RwO own 23 [] wx 30 R30 A22 cA22 r21)⟩, -⟩ := hf
      exact sg_plain rfl rfl (or_mono (f := Fct.val 2 (.slice A22 r21.length cA22)) (or_assign f_10) (fun own' a' w' v' hp h => fun _ _ h0' => by cases (f_10.symm.trans ((hp.2 10 (by decide)).symm.trans h0')); exact h))
    exact steps_nil
  intro own24 a24 w24 hd24 hz24 hk24 hf24 hE24
  obtain ⟨⟨⟨A22, cA22⟩, (f_10 : a24.eval (.tmp 10) = .slice A22 r21.length cA22), (b_A22 : RwO own24 23 [] w24 30 R30 A22 cA22 r21)⟩, (q_2 : ∀ (A22 : Option Addr) (cA22 : Nat), a24.eval (.tmp 10) = .slice A22 r21.length cA22 → a24.eval (.tmp 2) = .slice A22 r21.length cA22), -⟩ := hf24 [5, 6] rfl
  have f_2 := q_2 _ _ f_10
  have e24_2 := f_2
  have hX24 := Evo.step hX20 (fun _ => Nat.le_refl 0) hE24 rfl
  have b24_A22 := b_A22
  refine fl_ret ?_
  obtain rfl := osome hs
  exact hret _ _ _ _ (.inl rfl) hd24 (results1_ rfl (RVal.tmp_ e24_2)) ⟨(rl [(23, 1)] own24), (A22, cA22), rfl, (Evo.rl_ hX24 (fun _ => Nat.le_refl 0) rfl), (RwO.rl_ (mm := [(23, 1)]) b24_A22)⟩

end Go.Proofs.Ytoaplhnmmnejnaa
