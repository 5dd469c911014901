/-
  Chapter 03. The walks.
-/
import Derived.Test.YthkmkmkcnljmaaaWp4
import Derived.Test.YthkmkmkcnljmaaaWp5
import Derived.Test.YthkmkmkcnljmaaaSp7
namespace Go.Proofs.Ythkmkmkcnljmaaa
open Go.RowKit
set_option linter.unusedVariables false
theorem slices_Reverse_api_Point_api_Point_w (w : World) (own : Own) (s1 : List (Int × Int)) (As1 : Option Addr) (cs1 : Nat) (pas1 : Int) (pbs1 : Int) (hown : ∀ b, own b ≤ 1) (hs1 : RwO own 1 [] w 32 R32 As1 cs1 s1) (hws1 : 0 ≤ pas1 ∧ pas1 ≤ pbs1 ∧ pbs1 ≤ (s1.length : Int)) (r : List (Int × Int)) (hs : slices_Reverse_api_Point_api_Point s1 pas1 pbs1 = some r) :
    Calls Try.prog 47 #[pieceV As1 cs1 R32.s pas1 pbs1] w fun e w' => ∃ (own' : Own), e = .returned (.tuple #[]) ∧ Evo [1] own own' w w' ∧ RwO own' 1 [] w' 32 R32 As1 cs1 r ∧ r.length = s1.length := by
  refine fl_enter (n := 28) rfl rfl rfl (Nat.le_of_ble_eq_true rfl) ?_
  intro a0 Q hd0 hz0 harg hret
  have ha0 := harg 0 _ rfl
  clear harg
  have hE0 : Evo [1] own own w w := Evo.refl _ _ _
  refine rg_plain_seq (n := 28) (rs := []) (own0 := own) (K := [])
      (bs := [0, 1, 3, 0, 15])
      (ds := [⟨[], [0], [], Fct.val 4 (pieceV As1 cs1 R32.s pas1 pbs1)⟩,
      ⟨[0], [], [], Fct.val 5 (.int .i64 (pbs1 - pas1))⟩,
      ⟨[1], [], [], Fct.val 6 (.int .i64 (sb (pbs1 - pas1) 1))⟩,
      ⟨[], [], [], Fct.val 2 (.int .i64 0)⟩,
      ⟨[2], [], [], Fct.val 3 (.int .i64 (sb (pbs1 - pas1) 1))⟩]) (by kernel_rfl) hz0 hd0 (fun _ h => nomatch h) ?_ ?_
  · refine steps_cons (fun own a wx hf hsl hE => ?_) ?_
    · obtain ⟨s_0, -⟩ := hsl
      exact sg_plain rfl rfl (or_move (s_0.trans ha0))
    refine steps_cons (fun own a wx hf hsl hE => ?_) ?_
    · obtain ⟨(f_4 : a.eval (.tmp 4) = pieceV As1 cs1 R32.s pas1 pbs1), -⟩ := hf
      exact sg_plain rfl rfl (or_lenW (R := R32) tu22 f_4 hws1.1 hws1.2.1 rfl)
    refine steps_cons (fun own a wx hf hsl hE => ?_) ?_
    · obtain ⟨(f_5 : a.eval (.tmp 5) = .int .i64 (pbs1 - pas1)), -⟩ := hf
      exact sg_plain rfl rfl (or_sub f_5 rfl rfl)
    refine steps_cons (fun own a wx hf hsl hE => ?_) ?_
    · exact sg_plain rfl rfl (or_assign rfl)
    refine steps_cons (fun own a wx hf hsl hE => ?_) ?_
    · obtain ⟨(f_6 : a.eval (.tmp 6) = .int .i64 (sb (pbs1 - pas1) 1)), -⟩ := hf
      exact sg_plain rfl rfl (or_assign f_6)
    exact steps_nil
  intro own97 a97 w97 hd97 hz97 hk97 hf97 hE97
  have e97_0 : a97.eval (.tmp 0) = pieceV As1 cs1 R32.s pas1 pbs1 := (hk97 0 rfl).trans ha0
  obtain ⟨(f_2 : a97.eval (.tmp 2) = .int .i64 0), (f_3 : a97.eval (.tmp 3) = .int .i64 (sb (pbs1 - pas1) 1)), -⟩ := hf97 [3, 4] rfl
  have e97_2 := f_2
  have e97_3 := f_3
  have hX97 := Evo.step hE0 hown hE97 rfl
  have b97_As1 := RwO.evo rfl hE97 hs1
  refine fl_block (fun Q98 hn98 hx98 hp98 => ?_)
  refine fl_loop (body := (fun s => slices_Reverse_api_Point_api_Point_b1 s1 pas1 pbs1 s.1 s.2.1 s.2.2)) (z := r) (show loopO _ _ = _ from hs) (fun (s : (List (Int × Int)) × Int × Int) a wx => match s with | (s125, i127, j128) => ∃ (ox : Own), a.defers = [] ∧ a.tmps.size = 28 ∧ a.eval (.tmp 0) = pieceV As1 cs1 R32.s pas1 pbs1 ∧ a.eval (.tmp 2) = .int .i64 i127 ∧ a.eval (.tmp 3) = .int .i64 j128 ∧ Evo [1] own ox w wx ∧ RwO ox 126 [] wx 32 R32 As1 cs1 s125) ?_ ?_
  · exact ⟨(rl [(1, 126)] own97), hd97, hz97, e97_0, e97_2, e97_3, (Evo.rl_ hX97 hown rfl), (RwO.rl_ (mm := [(1, 126)]) b97_As1)⟩
  · rintro ⟨s125, i127, j128⟩ zz155 a155 w155 ⟨own155, hd156, hz156, e156_0, e156_2, e156_3, hE156, b156_As1⟩ hs Q155 hn155 hp155 hz155
    have hs : slices_Reverse_api_Point_api_Point_b1 s1 pas1 pbs1 s125 i127 j128 = some zz155 := hs
    refine fl_seq (fun Q157 hn157 hp157 => ?_)
    refine rg_plain_seq (n := 28) (rs := []) (own0 := own155) (K := [])
        (bs := [0, 0, 3])
        (ds := [⟨[], [2], [], Fct.val 7 (.int .i64 i127)⟩,
        ⟨[], [3], [], Fct.val 8 (.int .i64 j128)⟩,
        ⟨[0, 1], [], [], Fct.val 9 (.bool (decide (i127 < j128)))⟩]) (by kernel_rfl) hz156 hd156 (fun _ h => nomatch h) ?_ ?_
    · refine steps_cons (fun own a wx hf hsl hE => ?_) ?_
      · obtain ⟨s_2, -⟩ := hsl
        exact sg_plain rfl rfl (or_move (s_2.trans e156_2))
      refine steps_cons (fun own a wx hf hsl hE => ?_) ?_
      · obtain ⟨s_3, -⟩ := hsl
        exact sg_plain rfl rfl (or_move (s_3.trans e156_3))
      refine steps_cons (fun own a wx hf hsl hE => ?_) ?_
      · obtain ⟨(f_7 : a.eval (.tmp 7) = .int .i64 i127), (f_8 : a.eval (.tmp 8) = .int .i64 j128), -⟩ := hf
        exact sg_plain rfl rfl (or_lss f_7 f_8 rfl)
      exact steps_nil
    intro own158 a158 w158 hd158 hz158 hk158 hf158 hE158
    have e158_0 : a158.eval (.tmp 0) = pieceV As1 cs1 R32.s pas1 pbs1 := (hk158 0 rfl).trans e156_0
    have e158_2 : a158.eval (.tmp 2) = .int .i64 i127 := (hk158 2 rfl).trans e156_2
    have e158_3 : a158.eval (.tmp 3) = .int .i64 j128 := (hk158 3 rfl).trans e156_3
    obtain ⟨(f_9 : a158.eval (.tmp 9) = .bool (decide (i127 < j128))), -⟩ := hf158 [2] rfl
    have e158_9 := f_9
    have hX158 := Evo.step hE156 hown hE158 rfl
    have b158_As1 := RwO.evo rfl hE158 b156_As1
    refine fl_cond e158_9 hs (fun c159 hs => ?_) (fun c159 hs => ?_)
    · refine fl_skip ?_
      refine hn157 _ _ ?_
      refine fl_seq (fun Q160 hn160 hp160 => ?_)
      refine fl_block (fun Q161 hn161 hx161 hp161 => ?_)
      obtain ⟨q168, hq168, hs⟩ := obind hs
      obtain ⟨x169, hx169, hs⟩ := obind hs
      obtain ⟨q170, hq170, hs⟩ := obind hs
      obtain ⟨x171, hx171, hs⟩ := obind hs
      obtain ⟨q172, hq172, hs⟩ := obind hs
      obtain ⟨x173, hx173, hs⟩ := obind hs
      obtain ⟨l174, hl174, hs⟩ := obind hs
      obtain ⟨q176, hq176, hs⟩ := obind hs
      obtain ⟨x177, hx177, hs⟩ := obind hs
      obtain ⟨l178, hl178, hs⟩ := obind hs
      refine rg_draw g_mixed (n := 28) (rs := [Fct.rowAt 126 [] 32 R32 As1 cs1 s125]) (own0 := own158) (K := [126, 175])
          (bs := [0, 0, 0, 0, 0, 0, 48, 112, 0, 0, 768, 1792, 4083, 8179, 16383, 32767])
          (ds := [⟨[], [0], [], Fct.val 14 (pieceV As1 cs1 R32.s pas1 pbs1)⟩,
          ⟨[], [2], [], Fct.val 15 (.int .i64 i127)⟩,
          ⟨[], [0], [], Fct.val 16 (pieceV As1 cs1 R32.s pas1 pbs1)⟩,
          ⟨[], [3], [], Fct.val 17 (.int .i64 j128)⟩,
          ⟨[], [0], [], Fct.val 18 (pieceV As1 cs1 R32.s pas1 pbs1)⟩,
          ⟨[], [3], [], Fct.val 19 (.int .i64 j128)⟩,
          ⟨[4, 5, 16], [], [], Fct.val 20 (.pointer (some ((adr As1).add ((q168 : Int).toNat * R32.s))))⟩,
          ⟨[6, 16], [], [], Fct.val 21 (.agg #[.int .i64 x169.1, .int .i64 x169.2])⟩,
          ⟨[], [0], [], Fct.val 22 (pieceV As1 cs1 R32.s pas1 pbs1)⟩,
          ⟨[], [2], [], Fct.val 23 (.int .i64 i127)⟩,
          ⟨[8, 9, 16], [], [], Fct.val 24 (.pointer (some ((adr As1).add ((q170 : Int).toNat * R32.s))))⟩,
          ⟨[10, 16], [], [], Fct.val 25 (.agg #[.int .i64 x171.1, .int .i64 x171.2])⟩,
          ⟨[0, 1, 16], [], [], Fct.val 26 (.pointer (some ((adr As1).add ((q172 : Int).toNat * R32.s))))⟩,
          ⟨[12, 7, 16], [], [126], Fct.rowAt 175 [] 32 R32 As1 cs1 l174⟩,
          ⟨[2, 3, 13], [], [], Fct.val 27 (.pointer (some ((adr As1).add ((q176 : Int).toNat * R32.s))))⟩,
          ⟨[14, 11, 13], [], [175], Fct.rowAt 179 [] 32 R32 As1 cs1 l178⟩]) (by kernel_rfl) hz158 hd158 (by simp only [List.forall_mem_cons]; exact ⟨b158_As1, fun _ h => nomatch h⟩) ?_ ?_
      · refine steps_cons (fun own a wx hf hsl hE => ?_) ?_
        · obtain ⟨s_0, -⟩ := hsl
          exact sg_plain rfl rfl (or_move (s_0.trans e158_0))
        refine steps_cons (fun own a wx hf hsl hE => ?_) ?_
        · obtain ⟨s_2, -⟩ := hsl
          exact sg_plain rfl rfl (or_move (s_2.trans e158_2))
        refine steps_cons (fun own a wx hf hsl hE => ?_) ?_
        · obtain ⟨s_0, -⟩ := hsl
          exact sg_plain rfl rfl (or_move (s_0.trans e158_0))
        refine steps_cons (fun own a wx hf hsl hE => ?_) ?_
        · obtain ⟨s_3, -⟩ := hsl
          exact sg_plain rfl rfl (or_move (s_3.trans e158_3))
        refine steps_cons (fun own a wx hf hsl hE => ?_) ?_
        · obtain ⟨s_0, -⟩ := hsl
          exact sg_plain rfl rfl (or_move (s_0.trans e158_0))
        refine steps_cons (fun own a wx hf hsl hE => ?_) ?_
        · obtain ⟨s_3, -⟩ := hsl
          exact sg_plain rfl rfl (or_move (s_3.trans e158_3))
        refine steps_cons (fun own a wx hf hsl hE => ?_) ?_
        · obtain ⟨(f_18 : a.eval (.tmp 18) = pieceV As1 cs1 R32.s pas1 pbs1), (f_19 : a.eval (.tmp 19) = .int .i64 j128), (b_As1 : RwO own 126 [] wx 32 R32 As1 cs1 s125), -⟩ := hf
          exact sg_plain rfl rfl (or_indexW (R := R32) tl22 f_18 f_19 (RdO.some_ (RwO.rd b158_As1) hx169) hws1.1 (win_le hws1 (RwO.lec hs1)) hq168)
        refine steps_cons (fun own a wx hf hsl hE => ?_) ?_
        · obtain ⟨(f_20 : a.eval (.tmp 20) = .pointer (some ((adr As1).add ((q168 : Int).toNat * R32.s)))), (b_As1 : RwO own 126 [] wx 32 R32 As1 cs1 s125), -⟩ := hf
          exact sg_plain rfl rfl (or_load (l := E32.f x169) ta32 f_20 (RdO.cells (F := E32) (RwO.rd b_As1) hx169) rfl)
        refine steps_cons (fun own a wx hf hsl hE => ?_) ?_
        · obtain ⟨s_0, -⟩ := hsl
          exact sg_plain rfl rfl (or_move (s_0.trans e158_0))
        refine steps_cons (fun own a wx hf hsl hE => ?_) ?_
        · obtain ⟨s_2, -⟩ := hsl
          exact sg_plain rfl rfl (or_move (s_2.trans e158_2))
        refine steps_cons (fun own a wx hf hsl hE => ?_) ?_
        · obtain ⟨(f_22 : a.eval (.tmp 22) = pieceV As1 cs1 R32.s pas1 pbs1), (f_23 : a.eval (.tmp 23) = .int .i64 i127), (b_As1 : RwO own 126 [] wx 32 R32 As1 cs1 s125), -⟩ := hf
          exact sg_plain rfl rfl (or_indexW (R := R32) tl22 f_22 f_23 (RdO.some_ (RwO.rd b158_As1) hx171) hws1.1 (win_le hws1 (RwO.lec hs1)) hq170)
        refine steps_cons (fun own a wx hf hsl hE => ?_) ?_
        · obtain ⟨(f_24 : a.eval (.tmp 24) = .pointer (some ((adr As1).add ((q170 : Int).toNat * R32.s)))), (b_As1 : RwO own 126 [] wx 32 R32 As1 cs1 s125), -⟩ := hf
          exact sg_plain rfl rfl (or_load (l := E32.f x171) ta32 f_24 (RdO.cells (F := E32) (RwO.rd b_As1) hx171) rfl)
        refine steps_cons (fun own a wx hf hsl hE => ?_) ?_
        · obtain ⟨(f_14 : a.eval (.tmp 14) = pieceV As1 cs1 R32.s pas1 pbs1), (f_15 : a.eval (.tmp 15) = .int .i64 i127), (b_As1 : RwO own 126 [] wx 32 R32 As1 cs1 s125), -⟩ := hf
          exact sg_plain rfl rfl (or_indexW (R := R32) tl22 f_14 f_15 (RdO.some_ (RwO.rd b158_As1) hx173) hws1.1 (win_le hws1 (RwO.lec hs1)) hq172)
        refine steps_cons (fun own a wx hf hsl hE => ?_) ?_
        · obtain ⟨(f_26 : a.eval (.tmp 26) = .pointer (some ((adr As1).add ((q172 : Int).toNat * R32.s)))), (f_21 : a.eval (.tmp 21) = .agg #[.int .i64 x169.1, .int .i64 x169.2]), (b_As1 : RwO own 126 [] wx 32 R32 As1 cs1 s125), -⟩ := hf
          exact sg_plain rfl rfl (or_storeIx (R := R32) (lab := 126) (lab2 := 175) (cs := [.int .i64 x169.1, .int .i64 x169.2]) (v := x169) ts32 f_26 f_21 rfl (Rep.fl_flat _) (fun _ _ => rfl) b_As1 hl174 (mem_of rfl) (by decide) (fun own' a' w' ha hb => hb))
        refine steps_cons (fun own a wx hf hsl hE => ?_) ?_
        · obtain ⟨(f_16 : a.eval (.tmp 16) = pieceV As1 cs1 R32.s pas1 pbs1), (f_17 : a.eval (.tmp 17) = .int .i64 j128), (b_As1 : RwO own 175 [] wx 32 R32 As1 cs1 l174), -⟩ := hf
          exact sg_plain rfl rfl (or_indexW (R := R32) tl22 f_16 f_17 (RdO.some_ (RwO.rd b158_As1) hx177) hws1.1 (win_le hws1 (RwO.lec hs1)) hq176)
        refine steps_cons (fun own a wx hf hsl hE => ?_) ?_
        · obtain ⟨(f_27 : a.eval (.tmp 27) = .pointer (some ((adr As1).add ((q176 : Int).toNat * R32.s)))), (f_25 : a.eval (.tmp 25) = .agg #[.int .i64 x171.1, .int .i64 x171.2]), (b_As1 : RwO own 175 [] wx 32 R32 As1 cs1 l174), -⟩ := hf
          exact sg_plain rfl rfl (or_storeIx (R := R32) (lab := 175) (lab2 := 179) (cs := [.int .i64 x171.1, .int .i64 x171.2]) (v := x171) ts32 f_27 f_25 rfl (Rep.fl_flat _) (fun _ _ => rfl) b_As1 hl178 (mem_of rfl) (by decide) (fun own' a' w' ha hb => hb))
        exact steps_nil
      intro own180 a180 w180 hd180 hz180 hk180 hf180 hE180
      have e180_0 : a180.eval (.tmp 0) = pieceV As1 cs1 R32.s pas1 pbs1 := (hk180 0 rfl).trans e158_0
      have e180_2 : a180.eval (.tmp 2) = .int .i64 i127 := (hk180 2 rfl).trans e158_2
      have e180_3 : a180.eval (.tmp 3) = .int .i64 j128 := (hk180 3 rfl).trans e158_3
      obtain ⟨(b_As1 : RwO own180 179 [] w180 32 R32 As1 cs1 l178), -⟩ := hf180 [15] rfl
      have hX180 := Evo.step hX158 hown hE180 rfl
      have b180_As1 := b_As1
      refine hn161 _ _ ?_
      refine hn160 _ _ ?_
      refine rg_plain (n := 28) (rs := []) (own0 := own180) (K := [])
          (bs := [0, 1, 0, 4, 3, 31])
          (ds := [⟨[], [2], [], Fct.val 10 (.int .i64 i127)⟩,
          ⟨[0], [], [], Fct.val 11 (.int .i64 (ad i127 1))⟩,
          ⟨[], [3], [], Fct.val 12 (.int .i64 j128)⟩,
          ⟨[2], [], [], Fct.val 13 (.int .i64 (sb j128 1))⟩,
          ⟨[1], [], [], Fct.val 2 (.int .i64 (ad i127 1))⟩,
          ⟨[3], [], [], Fct.val 3 (.int .i64 (sb j128 1))⟩]) (by kernel_rfl) hz180 hd180 (fun _ h => nomatch h) ?_ ?_
      · refine steps_cons (fun own a wx hf hsl hE => ?_) ?_
        · obtain ⟨s_2, -⟩ := hsl
          exact sg_plain rfl rfl (or_move (s_2.trans e180_2))
        refine steps_cons (fun own a wx hf hsl hE => ?_) ?_
        · obtain ⟨(f_10 : a.eval (.tmp 10) = .int .i64 i127), -⟩ := hf
          exact sg_plain rfl rfl (or_add f_10 rfl rfl)
        refine steps_cons (fun own a wx hf hsl hE => ?_) ?_
        · obtain ⟨s_3, -⟩ := hsl
          exact sg_plain rfl rfl (or_move (s_3.trans e180_3))
        refine steps_cons (fun own a wx hf hsl hE => ?_) ?_
        · obtain ⟨(f_12 : a.eval (.tmp 12) = .int .i64 j128), -⟩ := hf
          exact sg_plain rfl rfl (or_sub f_12 rfl rfl)
        refine steps_cons (fun own a wx hf hsl hE => ?_) ?_
        · obtain ⟨(f_11 : a.eval (.tmp 11) = .int .i64 (ad i127 1)), -⟩ := hf
          exact sg_plain rfl rfl (or_assign f_11)
        refine steps_cons (fun own a wx hf hsl hE => ?_) ?_
        · obtain ⟨(f_13 : a.eval (.tmp 13) = .int .i64 (sb j128 1)), -⟩ := hf
          exact sg_plain rfl rfl (or_assign f_13)
        exact steps_nil
      intro own181 a181 w181 hd181 hz181 hk181 hf181 hE181
      have e181_0 : a181.eval (.tmp 0) = pieceV As1 cs1 R32.s pas1 pbs1 := (hk181 0 rfl).trans e180_0
      obtain ⟨(f_2 : a181.eval (.tmp 2) = .int .i64 (ad i127 1)), (f_3 : a181.eval (.tmp 3) = .int .i64 (sb j128 1)), -⟩ := hf181 [4, 5] rfl
      have e181_2 := f_2
      have e181_3 := f_3
      have hX181 := Evo.step hX180 hown hE181 rfl
      have b181_As1 := RwO.evo rfl hE181 b180_As1
      exact hn155 _ _ _ hs ⟨(rl [(179, 126)] own181), hd181, hz181, e181_0, e181_2, e181_3, (Evo.rl_ hX181 hown rfl), (RwO.rl_ (mm := [(179, 126)]) b181_As1)⟩
    refine fl_exit ?_
    refine hp157 _ _ _ rfl ?_
    replace hs := hz155 _ hs
    refine hp155 _ _ _ rfl ?_
    refine hx98 _ _ ?_
    obtain ⟨u182, hu182, hs⟩ := obind hs
    obtain rfl := (osome hs).symm
    exact hret _ _ _ _ (.inr rfl) hd158 (results0_ rfl ) ⟨(rl [(126, 1)] own158), rfl, (Evo.rl_ hX158 hown rfl), (RwO.rl_ (mm := [(126, 1)]) b158_As1), (ckl_len hu182)⟩

theorem ring_Turned_w (w : World) (l1 : List (Int × Int)) (Al1 : Option Addr) (cl1 : Nat) (hl1 : RdO (fun _ => 0) [0] w R32 Al1 cl1 l1) (r : List (Int × Int)) (hs : ring_Turned l1 = some r) :
    Calls Try.prog 21 #[.slice Al1 l1.length cl1] w fun e w' => ∃ (own' : Own) (x : Option Addr × Nat), e = .returned (.slice x.1 r.length x.2) ∧ Evo [] (fun _ => 0) own' w w' ∧ RwO own' 1 [] w' 32 R32 x.1 x.2 r := by
  refine fl_enter (n := 13) rfl rfl rfl (Nat.le_of_ble_eq_true rfl) ?_
  intro a0 Q hd0 hz0 harg hret
  have ha0 := harg 0 _ rfl
  clear harg
  have hE0 : Evo [] (fun _ => 0) (fun _ => 0) w w := Evo.refl _ _ _
  refine rg_plain_seq (n := 13) (rs := []) (own0 := (fun _ => 0)) (K := [])
      (bs := [0])
      (ds := [⟨[], [], [], Fct.val 2 (.slice none 0 0)⟩]) (by kernel_rfl) hz0 hd0 (fun _ h => nomatch h) ?_ ?_
  · refine steps_cons (fun own a wx hf hsl hE => ?_) ?_
    · exact sg_plain rfl rfl (or_assign rfl)
    exact steps_nil
  intro own46 a46 w46 hd46 hz46 hk46 hf46 hE46
  have e46_0 : a46.eval (.tmp 0) = .slice Al1 l1.length cl1 := (hk46 0 rfl).trans ha0
  have hX46 := Evo.step hE0 (fun _ => Nat.le_refl 0) hE46 rfl
  have b46_Al1 := RdO.evo rfl hE46 hl1
  obtain ⟨r47, hr47, hs⟩ := obind hs
  refine rg_plain_seq (n := 13) (rs := []) (own0 := own46) (K := [])
      (bs := [0, 1, 3])
      (ds := [⟨[], [0], [], Fct.val 4 (.slice Al1 l1.length cl1)⟩,
      ⟨[0], [], [], Fct.row 49 [] 5 32 R32 r47⟩,
      ⟨[1], [], [], Fct.rel [3, 5] (fun l => ∀ (A48 : Option Addr) (cA48 : Nat), l.getD 1 undef = .slice A48 r47.length cA48 → l.getD 0 undef = .slice A48 r47.length cA48)⟩]) (by kernel_rfl) hz46 hd46 (fun _ h => nomatch h) ?_ ?_
  · refine steps_cons (fun own a wx hf hsl hE => ?_) ?_
    · obtain ⟨s_0, -⟩ := hsl
      exact sg_plain rfl rfl (or_move (s_0.trans e46_0))
    refine steps_cons (fun own a wx hf hsl hE => ?_) ?_
    · obtain ⟨(f_4 : a.eval (.tmp 4) = .slice Al1 l1.length cl1), -⟩ := hf
      exact sg_plain rfl rfl (or_call cf46 (args1 f_4) (slices_Clone_api_Point_api_Point_w _ l1 Al1 cl1 (RdO.zero (RdO.evo rfl hE b46_Al1)) r47 hr47) (post_row (m' := (look0 [(1, 49)])) (.inl (Rep.fl_flat _)) rfl rfl (fun _ => rfl)))
    refine steps_cons (fun own a wx hf hsl hE => ?_) ?_
    · obtain ⟨⟨⟨A48, cA48⟩, (f_5 : a.eval (.tmp 5) = .slice A48 r47.length cA48), (b_A48 : RwO own 49 [] wx 32 R32 A48 cA48 r47)⟩, -⟩ := hf
      exact sg_plain rfl rfl (or_mono (f := Fct.val 3 (.slice A48 r47.length cA48)) (or_assign f_5) (fun own' a' w' v' hp h => fun _ _ h0' => by cases (f_5.symm.trans ((hp.2 5 (by decide)).symm.trans h0')); exact h))
    exact steps_nil
  intro own50 a50 w50 hd50 hz50 hk50 hf50 hE50
  obtain ⟨⟨⟨A48, cA48⟩, (f_5 : a50.eval (.tmp 5) = .slice A48 r47.length cA48), (b_A48 : RwO own50 49 [] w50 32 R32 A48 cA48 r47)⟩, (q_3 : ∀ (A48 : Option Addr) (cA48 : Nat), a50.eval (.tmp 5) = .slice A48 r47.length cA48 → a50.eval (.tmp 3) = .slice A48 r47.length cA48), -⟩ := hf50 [1, 2] rfl
  have f_3 := q_3 _ _ f_5
  have e50_3 := f_3
  have hX50 := Evo.step hX46 (fun _ => Nat.le_refl 0) hE50 rfl
  have b50_A48 := b_A48
  refine fl_seq (fun Q51 hn51 hp51 => ?_)
  have K66 : ∀ (a66 : Act) (w66 : World) (own66 : Own) (out64 : List (Int × Int)), a66.defers = [] → a66.tmps.size = 13 → a66.eval (.tmp 3) = .slice A48 out64.length cA48 → Evo [] (fun _ => 0) own66 w w66 → RwO own66 65 [] w66 32 R32 A48 cA48 out64 → ring_Turned_k1 out64 = some r → Q51 .normal a66 w66 := by
    intro a66 w66 own66 out64 hd67 hz67 e67_3 hE67 b67_A48 hs
    refine hn51 _ _ ?_
    refine rg_plain_seq (n := 13) (rs := []) (own0 := own66) (K := [])
        (bs := [0, 1])
        (ds := [⟨[], [3], [], Fct.val 12 (.slice A48 out64.length cA48)⟩,
        ⟨[0], [], [], Fct.val 2 (.slice A48 out64.length cA48)⟩]) (by kernel_rfl) hz67 hd67 (fun _ h => nomatch h) ?_ ?_
    · refine steps_cons (fun own a wx hf hsl hE => ?_) ?_
      · obtain ⟨s_3, -⟩ := hsl
        exact sg_plain rfl rfl (or_move (s_3.trans e67_3))
      refine steps_cons (fun own a wx hf hsl hE => ?_) ?_
      · obtain ⟨(f_12 : a.eval (.tmp 12) = .slice A48 out64.length cA48), -⟩ := hf
        exact sg_plain rfl rfl (or_assign f_12)
      exact steps_nil
    intro own68 a68 w68 hd68 hz68 hk68 hf68 hE68
    obtain ⟨(f_2 : a68.eval (.tmp 2) = .slice A48 out64.length cA48), -⟩ := hf68 [1] rfl
    have e68_2 := f_2
    have hX68 := Evo.step hE67 (fun _ => Nat.le_refl 0) hE68 rfl
    have b68_A48 := RwO.evo rfl hE68 b67_A48
    refine fl_ret ?_
    obtain rfl := (osome hs).symm
    exact hret _ _ _ _ (.inl rfl) hd68 (results1_ rfl (RVal.tmp_ e68_2)) ⟨(rl [(65, 1)] own68), (A48, cA48), rfl, (Evo.rl_ hX68 (fun _ => Nat.le_refl 0) rfl), (RwO.rl_ (mm := [(65, 1)]) b68_A48)⟩
  refine rg_plain_seq (n := 13) (rs := []) (own0 := own50) (K := [])
      (bs := [0, 1, 3])
      (ds := [⟨[], [3], [], Fct.val 6 (.slice A48 r47.length cA48)⟩,
      ⟨[0], [], [], Fct.val 7 (.int .i64 (r47.length : Int))⟩,
      ⟨[1], [], [], Fct.val 8 (.bool (decide (1 < (r47.length : Int))))⟩]) (by kernel_rfl) hz50 hd50 (fun _ h => nomatch h) ?_ ?_
  · refine steps_cons (fun own a wx hf hsl hE => ?_) ?_
    · obtain ⟨s_3, -⟩ := hsl
      exact sg_plain rfl rfl (or_move (s_3.trans e50_3))
    refine steps_cons (fun own a wx hf hsl hE => ?_) ?_
    · obtain ⟨(f_6 : a.eval (.tmp 6) = .slice A48 r47.length cA48), -⟩ := hf
      exact sg_plain rfl rfl (or_len tu22 f_6 rfl)
    refine steps_cons (fun own a wx hf hsl hE => ?_) ?_
    · obtain ⟨(f_7 : a.eval (.tmp 7) = .int .i64 (r47.length : Int)), -⟩ := hf
      exact sg_plain rfl rfl (or_gtr f_7 rfl rfl)
    exact steps_nil
  intro own69 a69 w69 hd69 hz69 hk69 hf69 hE69
  have e69_3 : a69.eval (.tmp 3) = .slice A48 r47.length cA48 := (hk69 3 rfl).trans e50_3
  obtain ⟨(f_8 : a69.eval (.tmp 8) = .bool (decide (1 < (r47.length : Int)))), -⟩ := hf69 [2] rfl
  have e69_8 := f_8
  have hX69 := Evo.step hX50 (fun _ => Nat.le_refl 0) hE69 rfl
  have b69_A48 := RwO.evo rfl hE69 b50_A48
  refine fl_cond e69_8 hs (fun c70 hs => ?_) (fun c70 hs => ?_)
  · obtain ⟨x74, hx74, hs⟩ := obind hs
    obtain ⟨n76, hn76, hs⟩ := obind hs
    obtain ⟨r77, hr77, hs⟩ := obind hs
    refine rg_plain (n := 13) (rs := [Fct.rowAt 49 [] 32 R32 A48 cA48 r47]) (own0 := own69) (K := [49])
        (bs := [0, 1, 3])
        (ds := [⟨[], [3], [], Fct.val 9 (.slice A48 r47.length cA48)⟩,
        ⟨[0, 3], [], [], Fct.val 10 (pieceV A48 cA48 R32.s 1 n76)⟩,
        ⟨[1, 3], [], [49], Fct.mems [78] 11 (fun (_ : Unit) => .tuple #[]) (fun (_ : Unit) own w => RwO own 78 [] w 32 R32 A48 cA48 r77 ∧ r77.length = r47.length) (fun hk he h => ⟨RwO.evo (hits_sub hk (by decide)) he h.1, h.2⟩)⟩]) (by kernel_rfl) hz69 hd69 (by simp only [List.forall_mem_cons]; exact ⟨b69_A48, fun _ h => nomatch h⟩) ?_ ?_
    · refine steps_cons (fun own a wx hf hsl hE => ?_) ?_
      · obtain ⟨s_3, -⟩ := hsl
        exact sg_plain rfl rfl (or_move (s_3.trans e69_3))
      refine steps_cons (fun own a wx hf hsl hE => ?_) ?_
      · obtain ⟨(f_9 : a.eval (.tmp 9) = .slice A48 r47.length cA48), (b_A48 : RwO own 49 [] wx 32 R32 A48 cA48 r47), -⟩ := hf
        exact sg_plain rfl rfl (or_pieceW (R := R32) tu22 ts32 f_9 (Bnd.some_ rfl) (Bnd.noneE (osome hn76)) (RwO.rd b_A48) (cut_toE hn76 hx74))
      refine steps_cons (fun own a wx hf hsl hE => ?_) ?_
      · obtain ⟨(f_10 : a.eval (.tmp 10) = pieceV A48 cA48 R32.s 1 n76), (b_A48 : RwO own 49 [] wx 32 R32 A48 cA48 r47), -⟩ := hf
        exact sg_plain rfl rfl (or_call cf47 (args1 f_10) (slices_Reverse_api_Point_api_Point_w _ (forth own (look0 [(49, 1)])) r47 A48 cA48 1 n76 (look0_le rfl) (RwO.forth_ (m := (look0 [(49, 1)])) b_A48) (win_of (cut_toE hn76 hx74)) r77 hr77) (post_mems0 (m := (look0 [(49, 1)])) (m' := (look0 [(1, 78)])) (hm_of rfl) (fun own' w' a' h1 h => ⟨(), h1, ⟨RwO.back_ h.1 (by decide) (.inl (Rep.fl_flat _)), h.2⟩⟩)))
      exact steps_nil
    intro own79 a79 w79 hd79 hz79 hk79 hf79 hE79
    have e79_3 : a79.eval (.tmp 3) = .slice A48 r47.length cA48 := (hk79 3 rfl).trans e69_3
    obtain ⟨⟨_, (f_11 : a79.eval (.tmp 11) = .tuple #[]), (b_A48 : RwO own79 78 [] w79 32 R32 A48 cA48 r77), (b_lenAs1 : r77.length = r47.length)⟩, -⟩ := hf79 [2] rfl
    have hX79 := Evo.step hX69 (fun _ => Nat.le_refl 0) hE79 rfl
    have b79_A48 := b_A48
    have m80_3 : a79.eval (.tmp 3) = .slice A48 r77.length cA48 := e79_3.trans (by rw [b_lenAs1])
    exact (K66 _ _ (rl [(78, 65)] own79) _ hd79 hz79 m80_3 (Evo.rl_ hX79 (fun _ => Nat.le_refl 0) rfl) (RwO.rl_ (mm := [(78, 65)]) b79_A48) hs)
  refine fl_skip ?_
  exact (K66 _ _ (rl [(49, 65)] own69) _ hd69 hz69 e69_3 (Evo.rl_ hX69 (fun _ => Nat.le_refl 0) rfl) (RwO.rl_ (mm := [(49, 65)]) b69_A48) hs)

theorem ring_First_w (w : World) (l1 : List (Int × Int)) (Al1 : Option Addr) (cl1 : Nat) (hl1 : RdO (fun _ => 0) [0] w R32 Al1 cl1 l1) (r : List (Int × Int)) (hs : ring_First l1 = some r) :
    Calls Try.prog 22 #[.slice Al1 l1.length cl1] w fun e w' => ∃ (own' : Own) (x : Option Addr × Nat), e = .returned (.slice x.1 r.length x.2) ∧ Evo [] (fun _ => 0) own' w w' ∧ RwO own' 1 [] w' 32 R32 x.1 x.2 r := by
  refine fl_enter (n := 29) rfl rfl rfl (Nat.le_of_ble_eq_true rfl) ?_
  intro a0 Q hd0 hz0 harg hret
  have ha0 := harg 0 _ rfl
  clear harg
  have hE0 : Evo [] (fun _ => 0) (fun _ => 0) w w := Evo.refl _ _ _
  refine rg_plain_seq (n := 29) (rs := []) (own0 := (fun _ => 0)) (K := [])
      (bs := [0])
      (ds := [⟨[], [], [], Fct.val 2 (.slice none 0 0)⟩]) (by kernel_rfl) hz0 hd0 (fun _ h => nomatch h) ?_ ?_
  · refine steps_cons (fun own a wx hf hsl hE => ?_) ?_
    · exact sg_plain rfl rfl (or_assign rfl)
    exact steps_nil
  intro own245 a245 w245 hd245 hz245 hk245 hf245 hE245
  have e245_0 : a245.eval (.tmp 0) = .slice Al1 l1.length cl1 := (hk245 0 rfl).trans ha0
  have hX245 := Evo.step hE0 (fun _ => Nat.le_refl 0) hE245 rfl
  have b245_Al1 := RdO.evo rfl hE245 hl1
  refine rg_plain_seq (n := 29) (rs := []) (own0 := own245) (K := [])
      (bs := [0])
      (ds := [⟨[], [], [], Fct.val 3 (.int .i64 0)⟩]) (by kernel_rfl) hz245 hd245 (fun _ h => nomatch h) ?_ ?_
  · refine steps_cons (fun own a wx hf hsl hE => ?_) ?_
    · exact sg_plain rfl rfl (or_assign rfl)
    exact steps_nil
  intro own246 a246 w246 hd246 hz246 hk246 hf246 hE246
  have e246_0 : a246.eval (.tmp 0) = .slice Al1 l1.length cl1 := (hk246 0 rfl).trans e245_0
  obtain ⟨(f_3 : a246.eval (.tmp 3) = .int .i64 0), -⟩ := hf246 [0] rfl
  have e246_3 := f_3
  have hX246 := Evo.step hX245 (fun _ => Nat.le_refl 0) hE246 rfl
  have b246_Al1 := RdO.evo rfl hE246 b245_Al1
  refine fl_seq (fun Q247 hn247 hp247 => ?_)
  refine rg_plain_seq (n := 29) (rs := []) (own0 := own246) (K := [])
      (bs := [0, 1, 0])
      (ds := [⟨[], [0], [], Fct.val 6 (.slice Al1 l1.length cl1)⟩,
      ⟨[0], [], [], Fct.val 7 (.int .i64 (l1.length : Int))⟩,
      ⟨[], [], [], Fct.val 8 (.int .i64 0)⟩]) (by kernel_rfl) hz246 hd246 (fun _ h => nomatch h) ?_ ?_
  · refine steps_cons (fun own a wx hf hsl hE => ?_) ?_
    · obtain ⟨s_0, -⟩ := hsl
      exact sg_plain rfl rfl (or_move (s_0.trans e246_0))
    refine steps_cons (fun own a wx hf hsl hE => ?_) ?_
    · obtain ⟨(f_6 : a.eval (.tmp 6) = .slice Al1 l1.length cl1), -⟩ := hf
      exact sg_plain rfl rfl (or_len tu22 f_6 rfl)
    refine steps_cons (fun own a wx hf hsl hE => ?_) ?_
    · exact sg_plain rfl rfl (or_move rfl)
    exact steps_nil
  intro own248 a248 w248 hd248 hz248 hk248 hf248 hE248
  have e248_0 : a248.eval (.tmp 0) = .slice Al1 l1.length cl1 := (hk248 0 rfl).trans e246_0
  have e248_3 : a248.eval (.tmp 3) = .int .i64 0 := (hk248 3 rfl).trans e246_3
  obtain ⟨(f_6 : a248.eval (.tmp 6) = .slice Al1 l1.length cl1), (f_7 : a248.eval (.tmp 7) = .int .i64 (l1.length : Int)), (f_8 : a248.eval (.tmp 8) = .int .i64 0), -⟩ := hf248 [0, 1, 2] rfl
  have e248_6 := f_6
  have e248_7 := f_7
  have e248_8 := f_8
  have hX248 := Evo.step hX246 (fun _ => Nat.le_refl 0) hE248 rfl
  have b248_Al1 := RdO.evo rfl hE248 b246_Al1
  refine fl_block (fun Q249 hn249 hx249 hp249 => ?_)
  refine fl_loop (body := (fun s => ring_First_b1 l1 s.1 s.2)) (z := r) (show loopO _ _ = _ from hs) (fun (s : Int × Int) a wx => match s with | (x357, x358) => ∃ (ox : Own), a.defers = [] ∧ a.tmps.size = 29 ∧ a.eval (.tmp 0) = .slice Al1 l1.length cl1 ∧ a.eval (.tmp 3) = .int .i64 x357 ∧ a.eval (.tmp 6) = .slice Al1 l1.length cl1 ∧ a.eval (.tmp 7) = .int .i64 (l1.length : Int) ∧ a.eval (.tmp 8) = .int .i64 x358 ∧ Evo [] (fun _ => 0) ox w wx ∧ RdO ox [0] wx R32 Al1 cl1 l1) ?_ ?_
  · exact ⟨own248, hd248, hz248, e248_0, e248_3, e248_6, e248_7, e248_8, hX248, b248_Al1⟩
  · rintro ⟨x357, x358⟩ zz413 a413 w413 ⟨own413, hd414, hz414, e414_0, e414_3, e414_6, e414_7, e414_8, hE414, b414_Al1⟩ hs Q413 hn413 hp413 hz413
    have hs : ring_First_b1 l1 x357 x358 = some zz413 := hs
    refine rg_plain_seq (n := 29) (rs := []) (own0 := own413) (K := [])
        (bs := [0])
        (ds := [⟨[], [8, 7], [], Fct.val 9 (.bool (decide (x358 < (l1.length : Int))))⟩]) (by kernel_rfl) hz414 hd414 (fun _ h => nomatch h) ?_ ?_
    · refine steps_cons (fun own a wx hf hsl hE => ?_) ?_
      · obtain ⟨s_8, s_7, -⟩ := hsl
        exact sg_plain rfl rfl (or_lss (s_8.trans e414_8) (s_7.trans e414_7) rfl)
      exact steps_nil
    intro own415 a415 w415 hd415 hz415 hk415 hf415 hE415
    have e415_0 : a415.eval (.tmp 0) = .slice Al1 l1.length cl1 := (hk415 0 rfl).trans e414_0
    have e415_3 : a415.eval (.tmp 3) = .int .i64 x357 := (hk415 3 rfl).trans e414_3
    have e415_6 : a415.eval (.tmp 6) = .slice Al1 l1.length cl1 := (hk415 6 rfl).trans e414_6
    have e415_7 : a415.eval (.tmp 7) = .int .i64 (l1.length : Int) := (hk415 7 rfl).trans e414_7
    have e415_8 : a415.eval (.tmp 8) = .int .i64 x358 := (hk415 8 rfl).trans e414_8
    obtain ⟨(f_9 : a415.eval (.tmp 9) = .bool (decide (x358 < (l1.length : Int)))), -⟩ := hf415 [0] rfl
    have e415_9 := f_9
    have hX415 := Evo.step hE414 (fun _ => Nat.le_refl 0) hE415 rfl
    have b415_Al1 := RdO.evo rfl hE415 b414_Al1
    refine fl_seq (fun Q416 hn416 hp416 => ?_)
    refine fl_cond e415_9 hs (fun c417 hs => ?_) (fun c417 hs => ?_)
    · refine fl_skip ?_
      refine hn416 _ _ ?_
      refine fl_seq (fun Q418 hn418 hp418 => ?_)
      refine fl_block (fun Q443 hn443 hx443 hp443 => ?_)
      have K455 : ∀ (a455 : Act) (w455 : World) (own455 : Own) (x454 : Int), a455.defers = [] → a455.tmps.size = 29 → a455.eval (.tmp 0) = .slice Al1 l1.length cl1 → a455.eval (.tmp 3) = .int .i64 x454 → a455.eval (.tmp 6) = .slice Al1 l1.length cl1 → a455.eval (.tmp 7) = .int .i64 (l1.length : Int) → a455.eval (.tmp 8) = .int .i64 x358 → Evo [] (fun _ => 0) own455 w w455 → RdO own455 [0] w455 R32 Al1 cl1 l1 → ring_First_k2 x358 x454 = some zz413 → (Q443 .normal a455 w455 ∧ Q443 (.exit 1) a455 w455) := by
        intro a455 w455 own455 x454 hd456 hz456 e456_0 e456_3 e456_6 e456_7 e456_8 hE456 b456_Al1 hs
        refine and_both (hn443 _ _) (hx443 _ _) ?_
        refine hn418 _ _ ?_
        refine rg_plain (n := 29) (rs := []) (own0 := own455) (K := [])
            (bs := [0, 1])
            (ds := [⟨[], [8], [], Fct.val 20 (.int .i64 (ad x358 1))⟩,
            ⟨[0], [], [], Fct.val 8 (.int .i64 (ad x358 1))⟩]) (by kernel_rfl) hz456 hd456 (fun _ h => nomatch h) ?_ ?_
        · refine steps_cons (fun own a wx hf hsl hE => ?_) ?_
          · obtain ⟨s_8, -⟩ := hsl
            exact sg_plain rfl rfl (or_add (s_8.trans e456_8) rfl rfl)
          refine steps_cons (fun own a wx hf hsl hE => ?_) ?_
          · obtain ⟨(f_20 : a.eval (.tmp 20) = .int .i64 (ad x358 1)), -⟩ := hf
            exact sg_plain rfl rfl (or_move f_20)
          exact steps_nil
        intro own457 a457 w457 hd457 hz457 hk457 hf457 hE457
        have e457_0 : a457.eval (.tmp 0) = .slice Al1 l1.length cl1 := (hk457 0 rfl).trans e456_0
        have e457_3 : a457.eval (.tmp 3) = .int .i64 x454 := (hk457 3 rfl).trans e456_3
        have e457_6 : a457.eval (.tmp 6) = .slice Al1 l1.length cl1 := (hk457 6 rfl).trans e456_6
        have e457_7 : a457.eval (.tmp 7) = .int .i64 (l1.length : Int) := (hk457 7 rfl).trans e456_7
        obtain ⟨(f_8 : a457.eval (.tmp 8) = .int .i64 (ad x358 1)), -⟩ := hf457 [1] rfl
        have e457_8 := f_8
        have hX457 := Evo.step hE456 (fun _ => Nat.le_refl 0) hE457 rfl
        have b457_Al1 := RdO.evo rfl hE457 b456_Al1
        exact hn413 _ _ _ hs ⟨own457, hd457, hz457, e457_0, e457_3, e457_6, e457_7, e457_8, hX457, b457_Al1⟩
      obtain ⟨x458, hx458, hs⟩ := obind hs
      refine rg_plain_seq (n := 29) (rs := []) (own0 := own415) (K := [460])
          (bs := [0, 0, 2, 0, 15, 31])
          (ds := [⟨[], [8], [], Fct.val 10 (.int .i64 x358)⟩,
          ⟨[], [6, 8], [], Fct.val 11 (.pointer (some ((adr Al1).add ((x358 : Int).toNat * R32.s))))⟩,
          ⟨[1], [], [], Fct.val 12 (.agg #[.int .i64 x458.1, .int .i64 x458.2])⟩,
          ⟨[], [], [], Fct.blk 460 5 (fun g => .pointer (some ⟨g, 0, none⟩)) 32 #[.int .i64 0, .int .i64 0]⟩,
          ⟨[0], [], [], Fct.val 4 (.int .i64 x358)⟩,
          ⟨[3, 2], [], [460], Fct.blk 461 5 (fun g => .pointer (some ⟨g, 0, none⟩)) 32 #[.int .i64 x458.1, .int .i64 x458.2]⟩]) (by kernel_rfl) hz415 hd415 (fun _ h => nomatch h) ?_ ?_
      · refine steps_cons (fun own a wx hf hsl hE => ?_) ?_
        · obtain ⟨s_8, -⟩ := hsl
          exact sg_plain rfl rfl (or_move (s_8.trans e415_8))
        refine steps_cons (fun own a wx hf hsl hE => ?_) ?_
        · obtain ⟨s_6, s_8, -⟩ := hsl
          exact sg_plain rfl rfl (or_index (R := R32) (l := l1) tl22 (s_6.trans e415_6) (s_8.trans e415_8) (RdO.some_ b415_Al1 hx458) hx458)
        refine steps_cons (fun own a wx hf hsl hE => ?_) ?_
        · obtain ⟨(f_11 : a.eval (.tmp 11) = .pointer (some ((adr Al1).add ((x358 : Int).toNat * R32.s)))), -⟩ := hf
          exact sg_plain rfl rfl (or_load (l := E32.f x458) ta32 f_11 (RdO.cells (F := E32) (RdO.evo rfl hE b415_Al1) hx458) rfl)
        refine steps_cons (fun own a wx hf hsl hE => ?_) ?_
        · exact sg_plain rfl rfl (or_new [] rfl rfl trivial (by kernel_rfl))
        refine steps_cons (fun own a wx hf hsl hE => ?_) ?_
        · obtain ⟨(f_10 : a.eval (.tmp 10) = .int .i64 x358), -⟩ := hf
          exact sg_plain rfl rfl (or_assign f_10)
        refine steps_cons (fun own a wx hf hsl hE => ?_) ?_
        · obtain ⟨⟨g459, (f_5 : a.eval (.tmp 5) = .pointer (some ⟨g459, 0, none⟩)), (b_g459 : BlkO own 460 wx g459 32 #[.int .i64 0, .int .i64 0])⟩, (f_12 : a.eval (.tmp 12) = .agg #[.int .i64 x458.1, .int .i64 x458.2]), -⟩ := hf
          exact sg_plain rfl rfl (or_store (l := #[.int .i64 x458.1, .int .i64 x458.2]) (lab := 460) (lab2 := 461) ts32 f_5 f_12 b_g459 (by simp) (by kernel_rfl) (mem_of rfl) (by decide) (by kernel_rfl) (fun own' a' w' ha hb => ⟨_, (ha 5).trans f_5, hb⟩))
        exact steps_nil
      intro own462 a462 w462 hd462 hz462 hk462 hf462 hE462
      have e462_0 : a462.eval (.tmp 0) = .slice Al1 l1.length cl1 := (hk462 0 rfl).trans e415_0
      have e462_3 : a462.eval (.tmp 3) = .int .i64 x357 := (hk462 3 rfl).trans e415_3
      have e462_6 : a462.eval (.tmp 6) = .slice Al1 l1.length cl1 := (hk462 6 rfl).trans e415_6
      have e462_7 : a462.eval (.tmp 7) = .int .i64 (l1.length : Int) := (hk462 7 rfl).trans e415_7
      have e462_8 : a462.eval (.tmp 8) = .int .i64 x358 := (hk462 8 rfl).trans e415_8
      obtain ⟨⟨g459, (f_5 : a462.eval (.tmp 5) = .pointer (some ⟨g459, 0, none⟩)), (b_g459 : BlkO own462 461 w462 g459 32 #[.int .i64 x458.1, .int .i64 x458.2])⟩, (f_4 : a462.eval (.tmp 4) = .int .i64 x358), -⟩ := hf462 [5, 4] rfl
      have e462_5 := f_5
      have e462_4 := f_4
      have hX462 := Evo.step hX415 (fun _ => Nat.le_refl 0) hE462 rfl
      have b462_Al1 := RdO.evo rfl hE462 b415_Al1
      have b462_g459 := b_g459
      obtain ⟨x463, hx463, hs⟩ := obind hs
      obtain ⟨r464, hr464, hs⟩ := obind hs
      refine rg_draw_seq g_mixed (n := 29) (rs := []) (own0 := own462) (K := [])
          (bs := [0, 0, 0, 6, 14, 31])
          (ds := [⟨[], [5], [], Fct.val 13 (.agg #[.int .i64 x458.1, .int .i64 x458.2])⟩,
          ⟨[], [0], [], Fct.val 14 (.slice Al1 l1.length cl1)⟩,
          ⟨[], [3], [], Fct.val 15 (.int .i64 x357)⟩,
          ⟨[1, 2], [], [], Fct.val 16 (.pointer (some ((adr Al1).add ((x357 : Int).toNat * R32.s))))⟩,
          ⟨[3], [], [], Fct.val 17 (.agg #[.int .i64 x463.1, .int .i64 x463.2])⟩,
          ⟨[0, 4], [], [], Fct.val 18 (.bool r464)⟩]) (by kernel_rfl) hz462 hd462 (fun _ h => nomatch h) ?_ ?_
      · refine steps_cons (fun own a wx hf hsl hE => ?_) ?_
        · obtain ⟨s_5, -⟩ := hsl
          exact sg_plain rfl rfl (or_load (l := [.int .i64 x458.1, .int .i64 x458.2]) ta32 (s_5.trans e462_5) (Blk.cellsFrom (BlkO.evo (by decide) hE b462_g459).2 0 rfl) rfl)
        refine steps_cons (fun own a wx hf hsl hE => ?_) ?_
        · obtain ⟨s_0, -⟩ := hsl
          exact sg_plain rfl rfl (or_move (s_0.trans e462_0))
        refine steps_cons (fun own a wx hf hsl hE => ?_) ?_
        · obtain ⟨s_3, -⟩ := hsl
          exact sg_plain rfl rfl (or_move (s_3.trans e462_3))
        refine steps_cons (fun own a wx hf hsl hE => ?_) ?_
        · obtain ⟨(f_14 : a.eval (.tmp 14) = .slice Al1 l1.length cl1), (f_15 : a.eval (.tmp 15) = .int .i64 x357), -⟩ := hf
          exact sg_plain rfl rfl (or_index (R := R32) (l := l1) tl22 f_14 f_15 (RdO.some_ b462_Al1 hx463) hx463)
        refine steps_cons (fun own a wx hf hsl hE => ?_) ?_
        · obtain ⟨(f_16 : a.eval (.tmp 16) = .pointer (some ((adr Al1).add ((x357 : Int).toNat * R32.s)))), -⟩ := hf
          exact sg_plain rfl rfl (or_load (l := E32.f x463) ta32 f_16 (RdO.cells (F := E32) (RdO.evo rfl hE b462_Al1) hx463) rfl)
        refine steps_cons (fun own a wx hf hsl hE => ?_) ?_
        · obtain ⟨(f_13 : a.eval (.tmp 13) = .agg #[.int .i64 x458.1, .int .i64 x458.2]), (f_17 : a.eval (.tmp 17) = .agg #[.int .i64 x463.1, .int .i64 x463.2]), -⟩ := hf
          exact sg_plain rfl rfl (or_call cf48 (args2 f_13 f_17) (exact_Less_w _ x458 x463  r464 hr464) post_val)
        exact steps_nil
      intro own465 a465 w465 hd465 hz465 hk465 hf465 hE465
      have e465_0 : a465.eval (.tmp 0) = .slice Al1 l1.length cl1 := (hk465 0 rfl).trans e462_0
      have e465_3 : a465.eval (.tmp 3) = .int .i64 x357 := (hk465 3 rfl).trans e462_3
      have e465_4 : a465.eval (.tmp 4) = .int .i64 x358 := (hk465 4 rfl).trans e462_4
      have e465_6 : a465.eval (.tmp 6) = .slice Al1 l1.length cl1 := (hk465 6 rfl).trans e462_6
      have e465_7 : a465.eval (.tmp 7) = .int .i64 (l1.length : Int) := (hk465 7 rfl).trans e462_7
      have e465_8 : a465.eval (.tmp 8) = .int .i64 x358 := (hk465 8 rfl).trans e462_8
      obtain ⟨(f_18 : a465.eval (.tmp 18) = .bool r464), -⟩ := hf465 [5] rfl
      have e465_18 := f_18
      have hX465 := Evo.step hX462 (fun _ => Nat.le_refl 0) hE465 rfl
      have b465_Al1 := RdO.evo rfl hE465 b462_Al1
      refine fl_cond e465_18 hs (fun c466 hs => ?_) (fun c466 hs => ?_)
      · refine rg_plain (n := 29) (rs := []) (own0 := own465) (K := [])
            (bs := [0, 1])
            (ds := [⟨[], [4], [], Fct.val 19 (.int .i64 x358)⟩,
            ⟨[0], [], [], Fct.val 3 (.int .i64 x358)⟩]) (by kernel_rfl) hz465 hd465 (fun _ h => nomatch h) ?_ ?_
        · refine steps_cons (fun own a wx hf hsl hE => ?_) ?_
          · obtain ⟨s_4, -⟩ := hsl
            exact sg_plain rfl rfl (or_move (s_4.trans e465_4))
          refine steps_cons (fun own a wx hf hsl hE => ?_) ?_
          · obtain ⟨(f_19 : a.eval (.tmp 19) = .int .i64 x358), -⟩ := hf
            exact sg_plain rfl rfl (or_assign f_19)
          exact steps_nil
        intro own467 a467 w467 hd467 hz467 hk467 hf467 hE467
        have e467_0 : a467.eval (.tmp 0) = .slice Al1 l1.length cl1 := (hk467 0 rfl).trans e465_0
        have e467_6 : a467.eval (.tmp 6) = .slice Al1 l1.length cl1 := (hk467 6 rfl).trans e465_6
        have e467_7 : a467.eval (.tmp 7) = .int .i64 (l1.length : Int) := (hk467 7 rfl).trans e465_7
        have e467_8 : a467.eval (.tmp 8) = .int .i64 x358 := (hk467 8 rfl).trans e465_8
        obtain ⟨(f_3 : a467.eval (.tmp 3) = .int .i64 x358), -⟩ := hf467 [1] rfl
        have e467_3 := f_3
        have hX467 := Evo.step hX465 (fun _ => Nat.le_refl 0) hE467 rfl
        have b467_Al1 := RdO.evo rfl hE467 b465_Al1
        exact (K455 _ _ own467 _ hd467 hz467 e467_0 e467_3 e467_6 e467_7 e467_8 hX467 b467_Al1 hs).1
      refine fl_skip ?_
      exact (K455 _ _ own465 _ hd465 hz465 e465_0 e465_3 e465_6 e465_7 e465_8 hX465 b465_Al1 hs).1
    refine fl_exit ?_
    refine hp416 _ _ _ rfl ?_
    replace hs := hz413 _ hs
    refine hp413 _ _ _ rfl ?_
    refine hx249 _ _ ?_
    refine hn247 _ _ ?_
    obtain ⟨x468, hx468, hs⟩ := obind hs
    obtain ⟨r470, hr470, hs⟩ := obind hs
    obtain ⟨x473, hx473, hs⟩ := obind hs
    obtain ⟨x475, hx475, hs⟩ := obind hs
    refine rg_draw_seq g_mixed (n := 29) (rs := []) (own0 := own415) (K := [472])
        (bs := [0, 0, 3, 7, 0, 0, 48, 127, 255])
        (ds := [⟨[], [0], [], Fct.val 21 (.slice Al1 l1.length cl1)⟩,
        ⟨[], [3], [], Fct.val 22 (.int .i64 x357)⟩,
        ⟨[0, 1], [], [], Fct.view [0] 23 R32 x468⟩,
        ⟨[2], [], [], Fct.row 472 [] 24 32 R32 r470⟩,
        ⟨[], [0], [], Fct.val 25 (.slice Al1 l1.length cl1)⟩,
        ⟨[], [3], [], Fct.val 26 (.int .i64 x357)⟩,
        ⟨[4, 5], [], [], Fct.view [0] 27 R32 x473⟩,
        ⟨[3, 6], [], [472], Fct.row 476 [] 28 32 R32 x475⟩,
        ⟨[7], [], [], Fct.rel [2, 28] (fun l => ∀ (A477 : Option Addr) (cA477 : Nat), l.getD 1 undef = .slice A477 x475.length cA477 → l.getD 0 undef = .slice A477 x475.length cA477)⟩]) (by kernel_rfl) hz415 hd415 (fun _ h => nomatch h) ?_ ?_
    · refine steps_cons (fun own a wx hf hsl hE => ?_) ?_
      · obtain ⟨s_0, -⟩ := hsl
        exact sg_plain rfl rfl (or_move (s_0.trans e415_0))
      refine steps_cons (fun own a wx hf hsl hE => ?_) ?_
      · obtain ⟨s_3, -⟩ := hsl
        exact sg_plain rfl rfl (or_move (s_3.trans e415_3))
      refine steps_cons (fun own a wx hf hsl hE => ?_) ?_
      · obtain ⟨(f_21 : a.eval (.tmp 21) = .slice Al1 l1.length cl1), (f_22 : a.eval (.tmp 22) = .int .i64 x357), -⟩ := hf
        exact sg_plain rfl rfl (or_view (R := R32) (l := l1) (L := [0]) tu22 ts32 f_21 (Bnd.some_ f_22) Bnd.none_ Bnd.none_ (RdO.evo rfl hE b415_Al1) hx468 (.inl rfl) (by simp))
      refine steps_cons (fun own a wx hf hsl hE => ?_) ?_
      · obtain ⟨⟨⟨A469, cA469⟩, (f_23 : a.eval (.tmp 23) = .slice A469 x468.length cA469), (b_A469 : RdO own [0] wx R32 A469 cA469 x468)⟩, -⟩ := hf
        exact sg_plain rfl rfl (or_call cf46 (args1 f_23) (slices_Clone_api_Point_api_Point_w _ x468 A469 cA469 (RdO.zero b_A469) r470 hr470) (post_row (m' := (look0 [(1, 472)])) (.inl (Rep.fl_flat _)) rfl rfl (fun _ => rfl)))
      refine steps_cons (fun own a wx hf hsl hE => ?_) ?_
      · obtain ⟨s_0, -⟩ := hsl
        exact sg_plain rfl rfl (or_move (s_0.trans e415_0))
      refine steps_cons (fun own a wx hf hsl hE => ?_) ?_
      · obtain ⟨s_3, -⟩ := hsl
        exact sg_plain rfl rfl (or_move (s_3.trans e415_3))
      refine steps_cons (fun own a wx hf hsl hE => ?_) ?_
      · obtain ⟨(f_25 : a.eval (.tmp 25) = .slice Al1 l1.length cl1), (f_26 : a.eval (.tmp 26) = .int .i64 x357), -⟩ := hf
        exact sg_plain rfl rfl (or_view (R := R32) (l := l1) (L := [0]) tu22 ts32 f_25 Bnd.none_ (Bnd.some_ f_26) Bnd.none_ (RdO.evo rfl hE b415_Al1) hx473 (.inl rfl) (by simp))
      refine steps_cons (fun own a wx hf hsl hE => ?_) ?_
      · obtain ⟨⟨⟨A471, cA471⟩, (f_24 : a.eval (.tmp 24) = .slice A471 r470.length cA471), (b_A471 : RwO own 472 [] wx 32 R32 A471 cA471 r470)⟩, ⟨⟨A474, cA474⟩, (f_27 : a.eval (.tmp 27) = .slice A474 x473.length cA474), (b_A474 : RdO own [0] wx R32 A474 cA474 x473)⟩, -⟩ := hf
        exact sg_plain rfl rfl (or_append (R := R32) (lab := 472) (lab2 := 476) (L := []) (L3 := []) tp22 f_24 b_A471 (by decide) f_27 b_A474 hx475 (by decide) (by decide) (mem_of rfl) (.inl (Rep.fl_flat _)))
      refine steps_cons (fun own a wx hf hsl hE => ?_) ?_
      · obtain ⟨⟨⟨A477, cA477⟩, (f_28 : a.eval (.tmp 28) = .slice A477 x475.length cA477), (b_A477 : RwO own 476 [] wx 32 R32 A477 cA477 x475)⟩, -⟩ := hf
        exact sg_plain rfl rfl (or_mono (f := Fct.val 2 (.slice A477 x475.length cA477)) (or_assign f_28) (fun own' a' w' v' hp h => fun _ _ h0' => by cases (f_28.symm.trans ((hp.2 28 (by decide)).symm.trans h0')); exact h))
      exact steps_nil
    intro own478 a478 w478 hd478 hz478 hk478 hf478 hE478
    obtain ⟨⟨⟨A477, cA477⟩, (f_28 : a478.eval (.tmp 28) = .slice A477 x475.length cA477), (b_A477 : RwO own478 476 [] w478 32 R32 A477 cA477 x475)⟩, (q_2 : ∀ (A477 : Option Addr) (cA477 : Nat), a478.eval (.tmp 28) = .slice A477 x475.length cA477 → a478.eval (.tmp 2) = .slice A477 x475.length cA477), -⟩ := hf478 [7, 8] rfl
    have f_2 := q_2 _ _ f_28
    have e478_2 := f_2
    have hX478 := Evo.step hX415 (fun _ => Nat.le_refl 0) hE478 rfl
    have b478_A477 := b_A477
    refine fl_ret ?_
    obtain rfl := (osome hs).symm
    exact hret _ _ _ _ (.inl rfl) hd478 (results1_ rfl (RVal.tmp_ e478_2)) ⟨(rl [(476, 1)] own478), (A477, cA477), rfl, (Evo.rl_ hX478 (fun _ => Nat.le_refl 0) rfl), (RwO.rl_ (mm := [(476, 1)]) b478_A477)⟩

end Go.Proofs.Ythkmkmkcnljmaaa
